/-
  Part of the proof: the abstract machine, its soundness, contracts of functions.
-/
import Derived.Test.YthnpngefpbijkaaDoorQ1
set_option linter.all false
/- PRINTED BY A PROGRAM (seat.py): the resolved code of functions. -/
namespace Go.Proofs.Qq.Qqd
open Go.Proofs.Qq
/-- gosem.cut.init -/
def a2 : AFun := ⟨1, [],
 .region [⟨(some 0), none, .call false (.cst (.func 1 [] [])) []⟩]⟩
/-- barrow/barrowlaw12.MessageReads -/
def a3 : AFun := ⟨63, [.tmp 2],
 .seq (.region [⟨(some 2), none, .mv (.cst (.bool false))⟩])
  (.seq (.region [⟨(some 12), none, .call false (.cst (.func 11 [] [])) []⟩,
     ⟨(some 3), none, .mv (.tmp 12)⟩])
   (.seq (.seq (.region [⟨(some 13), none, .mv (.tmp 0)⟩,
       ⟨(some 14), none, .lenS (.tmp 13)⟩,
       ⟨(some 15), none, .bin .gtr (.tmp 14) (.cst (.int .i64 2048))⟩])
     (.cond (.tmp 15)
      (.seq (.region [⟨(some 16), none, .mv (.tmp 3)⟩,
         ⟨(some 2), none, .mv (.tmp 16)⟩])
       (.ret))
      (.skip)))
    (.seq (.region [⟨(some 18), none, .mv (.tmp 0)⟩,
       ⟨(some 19), none, .call false (.cst (.func 12 [] [])) [.tmp 18]⟩,
       ⟨(some 17), none, .mv (.tmp 19)⟩,
       ⟨(some 20), none, .extract (.tmp 17) 0⟩,
       ⟨(some 21), none, .extract (.tmp 17) 1⟩,
       ⟨(some 4), none, .alloc [.int .i64 0, .slice none 0 none, .str []]⟩,
       ⟨none, none, .store 3 (.tmp 4) (.tmp 20)⟩,
       ⟨(some 5), none, .mv (.tmp 21)⟩])
     (.seq (.seq (.region [⟨(some 6), none, .mv (.cst (.int .i64 0))⟩])
       (.block 0 (.loop (.seq (.seq (.region [⟨(some 22), none, .mv (.tmp 6)⟩,
             ⟨(some 23), none, .bin .lss (.tmp 22) (.cst (.int .i64 2))⟩])
           (.cond (.tmp 23)
            (.skip)
            (.exit 0)))
          (.seq (.block 1 (.seq (.region [⟨(some 26), none, .bslice 1 0 [.int .u8 0] []⟩,
               ⟨(some 27), none, .mv (.tmp 0)⟩,
               ⟨(some 28), none, .append 1 1 (.tmp 26) (.tmp 27)⟩,
               ⟨(some 7), none, .mv (.tmp 28)⟩])
             (.seq (.region [⟨(some 30), none, .mv (.tmp 7)⟩,
                ⟨(some 31), none, .call false (.cst (.func 13 [] [])) [.tmp 30]⟩,
                ⟨(some 29), none, .mv (.tmp 31)⟩,
                ⟨(some 32), none, .extract (.tmp 29) 0⟩,
                ⟨(some 33), none, .extract (.tmp 29) 1⟩,
                ⟨(some 8), none, .alloc [.int .i64 0, .slice none 0 none, .str []]⟩,
                ⟨none, none, .store 3 (.tmp 8) (.tmp 32)⟩,
                ⟨(some 9), none, .mv (.tmp 33)⟩])
              (.seq (.region [⟨(some 34), none, .load true 3 (.tmp 8)⟩,
                 ⟨(some 35), none, .load true 3 (.tmp 4)⟩,
                 ⟨(some 36), none, .call false (.cst (.func 14 [] [])) [.tmp 34, .tmp 35]⟩,
                 ⟨(some 10), none, .mv (.tmp 36)⟩])
               (.seq (.seq (.region [⟨(some 11), none, .mv (.cst (.int .i64 0))⟩])
                 (.block 2 (.loop (.seq (.seq (.region [⟨(some 37), none, .mv (.tmp 11)⟩,
                       ⟨(some 38), none, .fieldAddr 1 (.tmp 8)⟩,
                       ⟨(some 39), none, .load false 1 (.tmp 38)⟩,
                       ⟨(some 40), none, .lenS (.tmp 39)⟩,
                       ⟨(some 41), none, .bin .lss (.tmp 37) (.tmp 40)⟩])
                     (.cond (.tmp 41)
                      (.skip)
                      (.exit 2)))
                    (.seq (.block 3 (.region [⟨(some 44), none, .fieldAddr 1 (.tmp 8)⟩,
                        ⟨(some 45), none, .load false 1 (.tmp 44)⟩,
                        ⟨(some 46), none, .mv (.tmp 11)⟩,
                        ⟨(some 47), none, .indexAddr 1 (.tmp 45) (.tmp 46)⟩,
                        ⟨none, none, .store 1 (.tmp 47) (.cst (.int .i64 (-7)))⟩]))
                     (.region [⟨(some 42), none, .mv (.tmp 11)⟩,
                       ⟨(some 43), none, .bin .add (.tmp 42) (.cst (.int .i64 1))⟩,
                       ⟨(some 11), none, .mv (.tmp 43)⟩]))))))
                (.seq (.region [⟨(some 48), none, .mv (.tmp 10)⟩,
                   ⟨(some 49), none, .un .not (.tmp 48)⟩,
                   ⟨(some 50), none, .mv (.tmp 49)⟩,
                   ⟨(some 51), (some (50, false)), .mv (.tmp 9)⟩,
                   ⟨(some 52), (some (50, false)), .mv (.tmp 5)⟩,
                   ⟨(some 53), (some (50, false)), .bin .neq (.tmp 51) (.tmp 52)⟩,
                   ⟨(some 54), none, .pick (.tmp 50) (.cst (.bool true)) (.tmp 53)⟩,
                   ⟨(some 55), none, .mv (.tmp 54)⟩,
                   ⟨(some 56), (some (55, false)), .mv (.tmp 7)⟩,
                   ⟨(some 57), (some (55, false)), .b2s (.tmp 56)⟩,
                   ⟨(some 58), (some (55, false)), .mv (.tmp 0)⟩,
                   ⟨(some 59), (some (55, false)), .b2s (.tmp 58)⟩,
                   ⟨(some 60), (some (55, false)), .bin .neq (.tmp 57) (.tmp 59)⟩,
                   ⟨(some 61), none, .pick (.tmp 55) (.cst (.bool true)) (.tmp 60)⟩])
                 (.cond (.tmp 61)
                  (.seq (.region [⟨(some 2), none, .mv (.cst (.bool false))⟩])
                   (.ret))
                  (.skip))))))))
           (.region [⟨(some 24), none, .mv (.tmp 6)⟩,
             ⟨(some 25), none, .bin .add (.tmp 24) (.cst (.int .i64 1))⟩,
             ⟨(some 6), none, .mv (.tmp 25)⟩]))))))
      (.seq (.region [⟨(some 62), none, .mv (.tmp 3)⟩,
         ⟨(some 2), none, .mv (.tmp 62)⟩])
       (.ret))))))⟩
/-- barrow/barrowlaw12.MessageBack -/
def a4 : AFun := ⟨99, [.tmp 4],
 .seq (.region [⟨(some 2), none, .box (.tmp 0)⟩,
    ⟨(some 4), none, .mv (.cst (.bool false))⟩])
  (.seq (.region [⟨(some 17), none, .call false (.cst (.func 11 [] [])) []⟩,
     ⟨(some 5), none, .mv (.tmp 17)⟩])
   (.seq (.region [⟨(some 18), none, .load true 3 (.tmp 2)⟩,
      ⟨(some 19), none, .call false (.cst (.func 15 [] [])) [.tmp 18]⟩,
      ⟨(some 6), none, .mv (.tmp 19)⟩])
    (.seq (.seq (.region [⟨(some 20), none, .mv (.tmp 6)⟩,
        ⟨(some 21), none, .un .not (.tmp 20)⟩,
        ⟨(some 22), none, .mv (.tmp 21)⟩,
        ⟨(some 23), (some (22, false)), .mv (.tmp 1)⟩,
        ⟨(some 24), (some (22, false)), .lenS (.tmp 23)⟩,
        ⟨(some 25), (some (22, false)), .bin .gtr (.tmp 24) (.cst (.int .i64 2048))⟩,
        ⟨(some 26), none, .pick (.tmp 22) (.cst (.bool true)) (.tmp 25)⟩])
      (.cond (.tmp 26)
       (.seq (.region [⟨(some 27), none, .mv (.tmp 5)⟩,
          ⟨(some 4), none, .mv (.tmp 27)⟩])
        (.ret))
       (.skip)))
     (.seq (.region [⟨(some 29), none, .load true 3 (.tmp 2)⟩,
        ⟨(some 30), none, .call false (.cst (.func 16 [] [])) [.tmp 29]⟩,
        ⟨(some 28), none, .mv (.tmp 30)⟩,
        ⟨(some 31), none, .extract (.tmp 28) 0⟩,
        ⟨(some 32), none, .extract (.tmp 28) 1⟩,
        ⟨(some 7), none, .mv (.tmp 31)⟩,
        ⟨(some 8), none, .mv (.tmp 32)⟩])
      (.seq (.seq (.region [⟨(some 33), none, .mv (.tmp 8)⟩,
          ⟨(some 34), none, .bin .eql (.tmp 33) (.cst (.int .i64 0))⟩,
          ⟨(some 35), none, .load true 3 (.tmp 2)⟩,
          ⟨(some 36), none, .call false (.cst (.func 17 [] [])) [.tmp 35]⟩,
          ⟨(some 37), none, .eq true .bool (.tmp 34) (.tmp 36)⟩])
        (.cond (.tmp 37)
         (.seq (.region [⟨(some 4), none, .mv (.cst (.bool false))⟩])
          (.ret))
         (.skip)))
       (.seq (.seq (.region [⟨(some 38), none, .mv (.tmp 8)⟩,
           ⟨(some 39), none, .bin .eql (.tmp 38) (.cst (.int .i64 0))⟩])
         (.cond (.tmp 39)
          (.seq (.region [⟨(some 41), none, .mv (.tmp 7)⟩,
             ⟨(some 42), none, .call false (.cst (.func 13 [] [])) [.tmp 41]⟩,
             ⟨(some 40), none, .mv (.tmp 42)⟩,
             ⟨(some 43), none, .extract (.tmp 40) 0⟩,
             ⟨(some 44), none, .extract (.tmp 40) 1⟩,
             ⟨(some 9), none, .alloc [.int .i64 0, .slice none 0 none, .str []]⟩,
             ⟨none, none, .store 3 (.tmp 9) (.tmp 43)⟩,
             ⟨(some 10), none, .mv (.tmp 44)⟩])
           (.seq (.region [⟨(some 46), none, .mv (.tmp 7)⟩,
              ⟨(some 47), none, .call false (.cst (.func 18 [] [])) [.tmp 46]⟩,
              ⟨(some 45), none, .mv (.tmp 47)⟩,
              ⟨(some 48), none, .extract (.tmp 45) 0⟩,
              ⟨(some 49), none, .extract (.tmp 45) 1⟩,
              ⟨(some 11), none, .mv (.tmp 48)⟩,
              ⟨(some 12), none, .mv (.tmp 49)⟩])
            (.seq (.region [⟨(some 50), none, .mv (.tmp 10)⟩,
               ⟨(some 51), none, .bin .neq (.tmp 50) (.cst (.int .i64 0))⟩,
               ⟨(some 52), none, .mv (.tmp 51)⟩,
               ⟨(some 53), (some (52, false)), .load true 3 (.tmp 9)⟩,
               ⟨(some 54), (some (52, false)), .load true 3 (.tmp 2)⟩,
               ⟨(some 55), (some (52, false)), .call false (.cst (.func 19 [] [])) [.tmp 53, .tmp 54]⟩,
               ⟨(some 56), (some (52, false)), .un .not (.tmp 55)⟩,
               ⟨(some 57), none, .pick (.tmp 52) (.cst (.bool true)) (.tmp 56)⟩,
               ⟨(some 58), none, .mv (.tmp 57)⟩,
               ⟨(some 59), (some (58, false)), .mv (.tmp 12)⟩,
               ⟨(some 60), (some (58, false)), .bin .neq (.tmp 59) (.cst (.int .i64 0))⟩,
               ⟨(some 61), none, .pick (.tmp 58) (.cst (.bool true)) (.tmp 60)⟩,
               ⟨(some 62), none, .mv (.tmp 61)⟩,
               ⟨(some 63), (some (62, false)), .mv (.tmp 11)⟩,
               ⟨(some 64), (some (62, false)), .lenS (.tmp 63)⟩,
               ⟨(some 65), (some (62, false)), .mv (.tmp 7)⟩,
               ⟨(some 66), (some (62, false)), .lenS (.tmp 65)⟩,
               ⟨(some 67), (some (62, false)), .bin .leq (.tmp 64) (.tmp 66)⟩,
               ⟨(some 68), none, .pick (.tmp 62) (.cst (.bool true)) (.tmp 67)⟩])
             (.cond (.tmp 68)
              (.seq (.region [⟨(some 4), none, .mv (.cst (.bool false))⟩])
               (.ret))
              (.skip)))))
          (.skip)))
        (.seq (.region [⟨(some 70), none, .mv (.tmp 1)⟩,
           ⟨(some 71), none, .call false (.cst (.func 13 [] [])) [.tmp 70]⟩,
           ⟨(some 69), none, .mv (.tmp 71)⟩,
           ⟨(some 72), none, .extract (.tmp 69) 0⟩,
           ⟨(some 73), none, .extract (.tmp 69) 1⟩,
           ⟨(some 13), none, .alloc [.int .i64 0, .slice none 0 none, .str []]⟩,
           ⟨none, none, .store 3 (.tmp 13) (.tmp 72)⟩,
           ⟨(some 14), none, .mv (.tmp 73)⟩])
         (.seq (.seq (.region [⟨(some 74), none, .mv (.tmp 14)⟩,
             ⟨(some 75), none, .bin .neq (.tmp 74) (.cst (.int .i64 0))⟩])
           (.cond (.tmp 75)
            (.seq (.region [⟨(some 76), none, .mv (.tmp 5)⟩,
               ⟨(some 77), none, .mv (.tmp 76)⟩,
               ⟨(some 78), (some (77, true)), .load true 3 (.tmp 13)⟩,
               ⟨(some 79), (some (77, true)), .build [.int .i64 0, .slice none 0 none, .str []] []⟩,
               ⟨(some 80), (some (77, true)), .call false (.cst (.func 19 [] [])) [.tmp 78, .tmp 79]⟩,
               ⟨(some 81), none, .pick (.tmp 77) (.tmp 80) (.cst (.bool false))⟩,
               ⟨(some 4), none, .mv (.tmp 81)⟩])
             (.ret))
            (.skip)))
          (.seq (.region [⟨(some 83), none, .load true 3 (.tmp 13)⟩,
             ⟨(some 84), none, .call false (.cst (.func 16 [] [])) [.tmp 83]⟩,
             ⟨(some 82), none, .mv (.tmp 84)⟩,
             ⟨(some 85), none, .extract (.tmp 82) 0⟩,
             ⟨(some 86), none, .extract (.tmp 82) 1⟩,
             ⟨(some 15), none, .mv (.tmp 85)⟩,
             ⟨(some 16), none, .mv (.tmp 86)⟩])
           (.seq (.region [⟨(some 87), none, .mv (.tmp 5)⟩,
              ⟨(some 88), none, .mv (.tmp 87)⟩,
              ⟨(some 89), (some (88, true)), .mv (.tmp 16)⟩,
              ⟨(some 90), (some (88, true)), .bin .eql (.tmp 89) (.cst (.int .i64 0))⟩,
              ⟨(some 91), none, .pick (.tmp 88) (.tmp 90) (.cst (.bool false))⟩,
              ⟨(some 92), none, .mv (.tmp 91)⟩,
              ⟨(some 93), (some (92, true)), .mv (.tmp 15)⟩,
              ⟨(some 94), (some (92, true)), .b2s (.tmp 93)⟩,
              ⟨(some 95), (some (92, true)), .mv (.tmp 1)⟩,
              ⟨(some 96), (some (92, true)), .b2s (.tmp 95)⟩,
              ⟨(some 97), (some (92, true)), .bin .eql (.tmp 94) (.tmp 96)⟩,
              ⟨(some 98), none, .pick (.tmp 92) (.tmp 97) (.cst (.bool false))⟩,
              ⟨(some 4), none, .mv (.tmp 98)⟩])
            (.ret)))))))))))⟩
/-- barrow/barrowlaw37.LockTells -/
def a5 : AFun := ⟨197, [.tmp 8],
 .seq (.region [⟨(some 5), none, .box (.tmp 1)⟩,
    ⟨(some 8), none, .mv (.cst (.bool false))⟩])
  (.seq (.region [⟨(some 25), none, .call false (.cst (.func 20 [] [])) []⟩,
     ⟨(some 9), none, .mv (.tmp 25)⟩])
   (.seq (.region [⟨(some 26), none, .mv (.tmp 0)⟩,
      ⟨(some 27), none, .call false (.cst (.func 21 [] [])) [.tmp 26]⟩,
      ⟨(some 28), none, .mv (.tmp 27)⟩,
      ⟨(some 29), (some (28, true)), .load true 3 (.tmp 5)⟩,
      ⟨(some 30), (some (28, true)), .bslice 3 1 [.str [], .int .i64 0, .int .i64 0] [(0, 3, (.tmp 29))]⟩,
      ⟨(some 31), (some (28, true)), .call false (.cst (.func 21 [] [])) [.tmp 30]⟩,
      ⟨(some 32), none, .pick (.tmp 28) (.tmp 31) (.cst (.bool false))⟩,
      ⟨(some 10), none, .mv (.tmp 32)⟩])
    (.seq (.seq (.region [⟨(some 11), none, .mv (.cst (.int .i64 0))⟩])
      (.block 0 (.loop (.seq (.seq (.region [⟨(some 33), none, .mv (.tmp 11)⟩,
            ⟨(some 34), none, .mv (.tmp 3)⟩,
            ⟨(some 35), none, .lenS (.tmp 34)⟩,
            ⟨(some 36), none, .bin .lss (.tmp 33) (.tmp 35)⟩,
            ⟨(some 37), none, .mv (.tmp 36)⟩,
            ⟨(some 38), (some (37, true)), .mv (.tmp 11)⟩,
            ⟨(some 39), (some (37, true)), .bin .lss (.tmp 38) (.cst (.int .i64 100))⟩,
            ⟨(some 40), none, .pick (.tmp 37) (.tmp 39) (.cst (.bool false))⟩])
          (.cond (.tmp 40)
           (.skip)
           (.exit 0)))
         (.seq (.block 1 (.region [⟨(some 43), none, .mv (.tmp 10)⟩,
             ⟨(some 44), none, .mv (.tmp 43)⟩,
             ⟨(some 45), (some (44, true)), .mv (.tmp 3)⟩,
             ⟨(some 46), (some (44, true)), .mv (.tmp 11)⟩,
             ⟨(some 47), (some (44, true)), .indexAddr 1 (.tmp 45) (.tmp 46)⟩,
             ⟨(some 48), (some (44, true)), .load false 1 (.tmp 47)⟩,
             ⟨(some 49), (some (44, true)), .lenStr (.tmp 48)⟩,
             ⟨(some 50), (some (44, true)), .bin .leq (.tmp 49) (.cst (.int .i64 100))⟩,
             ⟨(some 51), none, .pick (.tmp 44) (.tmp 50) (.cst (.bool false))⟩,
             ⟨(some 10), none, .mv (.tmp 51)⟩]))
          (.region [⟨(some 41), none, .mv (.tmp 11)⟩,
            ⟨(some 42), none, .bin .add (.tmp 41) (.cst (.int .i64 1))⟩,
            ⟨(some 11), none, .mv (.tmp 42)⟩]))))))
     (.seq (.seq (.region [⟨(some 52), none, .mv (.tmp 10)⟩,
         ⟨(some 53), none, .un .not (.tmp 52)⟩,
         ⟨(some 54), none, .mv (.tmp 53)⟩,
         ⟨(some 55), (some (54, false)), .mv (.tmp 3)⟩,
         ⟨(some 56), (some (54, false)), .lenS (.tmp 55)⟩,
         ⟨(some 57), (some (54, false)), .bin .gtr (.tmp 56) (.cst (.int .i64 60))⟩,
         ⟨(some 58), none, .pick (.tmp 54) (.cst (.bool true)) (.tmp 57)⟩])
       (.cond (.tmp 58)
        (.seq (.region [⟨(some 59), none, .mv (.tmp 9)⟩,
           ⟨(some 8), none, .mv (.tmp 59)⟩])
         (.ret))
        (.skip)))
      (.seq (.region [⟨(some 60), none, .bslice 3 0 [.str [], .int .i64 0, .int .i64 0] []⟩,
         ⟨(some 61), none, .mv (.tmp 0)⟩,
         ⟨(some 62), none, .append 3 32 (.tmp 60) (.tmp 61)⟩,
         ⟨(some 12), none, .mv (.tmp 62)⟩])
       (.seq (.region [⟨(some 64), none, .mv (.tmp 12)⟩,
          ⟨(some 65), none, .fieldAddr 0 (.tmp 5)⟩,
          ⟨(some 66), none, .load false 1 (.tmp 65)⟩,
          ⟨(some 67), none, .fieldAddr 1 (.tmp 5)⟩,
          ⟨(some 68), none, .load false 1 (.tmp 67)⟩,
          ⟨(some 69), none, .fieldAddr 2 (.tmp 5)⟩,
          ⟨(some 70), none, .load false 1 (.tmp 69)⟩,
          ⟨(some 71), none, .call false (.cst (.func 22 [] [])) [.tmp 64, .tmp 66, .tmp 68, .tmp 70]⟩,
          ⟨(some 63), none, .mv (.tmp 71)⟩,
          ⟨(some 72), none, .extract (.tmp 63) 0⟩,
          ⟨(some 73), none, .extract (.tmp 63) 1⟩,
          ⟨(some 13), none, .mv (.tmp 72)⟩,
          ⟨(some 14), none, .mv (.tmp 73)⟩])
        (.seq (.region [⟨(some 75), none, .mv (.tmp 0)⟩,
           ⟨(some 76), none, .fieldAddr 0 (.tmp 5)⟩,
           ⟨(some 77), none, .load false 1 (.tmp 76)⟩,
           ⟨(some 78), none, .fieldAddr 1 (.tmp 5)⟩,
           ⟨(some 79), none, .load false 1 (.tmp 78)⟩,
           ⟨(some 80), none, .fieldAddr 2 (.tmp 5)⟩,
           ⟨(some 81), none, .load false 1 (.tmp 80)⟩,
           ⟨(some 82), none, .call false (.cst (.func 23 [] [])) [.tmp 75, .tmp 77, .tmp 79, .tmp 81]⟩,
           ⟨(some 74), none, .mv (.tmp 82)⟩,
           ⟨(some 83), none, .extract (.tmp 74) 0⟩,
           ⟨(some 84), none, .extract (.tmp 74) 1⟩,
           ⟨(some 15), none, .mv (.tmp 83)⟩,
           ⟨(some 16), none, .mv (.tmp 84)⟩])
         (.seq (.region [⟨(some 86), none, .mv (.tmp 12)⟩,
            ⟨(some 87), none, .fieldAddr 0 (.tmp 5)⟩,
            ⟨(some 88), none, .load false 1 (.tmp 87)⟩,
            ⟨(some 89), none, .fieldAddr 1 (.tmp 5)⟩,
            ⟨(some 90), none, .load false 1 (.tmp 89)⟩,
            ⟨(some 91), none, .mv (.tmp 2)⟩,
            ⟨(some 92), none, .call false (.cst (.func 24 [] [])) [.tmp 86, .tmp 88, .tmp 90, .tmp 91]⟩,
            ⟨(some 85), none, .mv (.tmp 92)⟩,
            ⟨(some 93), none, .extract (.tmp 85) 0⟩,
            ⟨(some 94), none, .extract (.tmp 85) 1⟩,
            ⟨(some 17), none, .mv (.tmp 93)⟩,
            ⟨(some 18), none, .mv (.tmp 94)⟩])
          (.seq (.region [⟨(some 96), none, .mv (.tmp 0)⟩,
             ⟨(some 97), none, .fieldAddr 0 (.tmp 5)⟩,
             ⟨(some 98), none, .load false 1 (.tmp 97)⟩,
             ⟨(some 99), none, .fieldAddr 1 (.tmp 5)⟩,
             ⟨(some 100), none, .load false 1 (.tmp 99)⟩,
             ⟨(some 101), none, .mv (.tmp 2)⟩,
             ⟨(some 102), none, .call false (.cst (.func 25 [] [])) [.tmp 96, .tmp 98, .tmp 100, .tmp 101]⟩,
             ⟨(some 95), none, .mv (.tmp 102)⟩,
             ⟨(some 103), none, .extract (.tmp 95) 0⟩,
             ⟨(some 104), none, .extract (.tmp 95) 1⟩,
             ⟨(some 19), none, .mv (.tmp 103)⟩,
             ⟨(some 20), none, .mv (.tmp 104)⟩])
           (.seq (.region [⟨(some 105), none, .mv (.tmp 12)⟩,
              ⟨(some 106), none, .mv (.tmp 2)⟩,
              ⟨(some 107), none, .call false (.cst (.func 26 [] [])) [.tmp 105, .tmp 106]⟩,
              ⟨(some 21), none, .mv (.tmp 107)⟩])
            (.seq (.region [⟨(some 108), none, .mv (.tmp 13)⟩,
               ⟨(some 109), none, .mv (.tmp 15)⟩,
               ⟨(some 110), none, .call false (.cst (.func 27 [] [])) [.tmp 108, .tmp 109]⟩,
               ⟨(some 111), none, .mv (.tmp 110)⟩,
               ⟨(some 112), (some (111, true)), .mv (.tmp 14)⟩,
               ⟨(some 113), (some (111, true)), .mv (.tmp 16)⟩,
               ⟨(some 114), (some (111, true)), .bin .eql (.tmp 112) (.tmp 113)⟩,
               ⟨(some 115), none, .pick (.tmp 111) (.tmp 114) (.cst (.bool false))⟩,
               ⟨(some 116), none, .mv (.tmp 115)⟩,
               ⟨(some 117), (some (116, true)), .mv (.tmp 17)⟩,
               ⟨(some 118), (some (116, true)), .mv (.tmp 19)⟩,
               ⟨(some 119), (some (116, true)), .bin .eql (.tmp 117) (.tmp 118)⟩,
               ⟨(some 120), none, .pick (.tmp 116) (.tmp 119) (.cst (.bool false))⟩,
               ⟨(some 121), none, .mv (.tmp 120)⟩,
               ⟨(some 122), (some (121, true)), .mv (.tmp 18)⟩,
               ⟨(some 123), (some (121, true)), .mv (.tmp 20)⟩,
               ⟨(some 124), (some (121, true)), .eq false .bool (.tmp 122) (.tmp 123)⟩,
               ⟨(some 125), none, .pick (.tmp 121) (.tmp 124) (.cst (.bool false))⟩,
               ⟨(some 126), none, .mv (.tmp 125)⟩,
               ⟨(some 127), (some (126, true)), .mv (.tmp 21)⟩,
               ⟨(some 128), (some (126, true)), .mv (.tmp 0)⟩,
               ⟨(some 129), (some (126, true)), .mv (.tmp 2)⟩,
               ⟨(some 130), (some (126, true)), .call false (.cst (.func 28 [] [])) [.tmp 128, .tmp 129]⟩,
               ⟨(some 131), (some (126, true)), .call false (.cst (.func 27 [] [])) [.tmp 127, .tmp 130]⟩,
               ⟨(some 132), none, .pick (.tmp 126) (.tmp 131) (.cst (.bool false))⟩,
               ⟨(some 22), none, .mv (.tmp 132)⟩])
             (.seq (.seq (.region [⟨(some 23), none, .mv (.cst (.int .i64 0))⟩])
               (.block 2 (.loop (.seq (.seq (.region [⟨(some 133), none, .mv (.tmp 23)⟩,
                     ⟨(some 134), none, .mv (.tmp 21)⟩,
                     ⟨(some 135), none, .lenS (.tmp 134)⟩,
                     ⟨(some 136), none, .bin .lss (.tmp 133) (.tmp 135)⟩])
                   (.cond (.tmp 136)
                    (.skip)
                    (.exit 2)))
                  (.seq (.block 3 (.region [⟨(some 139), none, .mv (.tmp 21)⟩,
                      ⟨(some 140), none, .mv (.tmp 23)⟩,
                      ⟨(some 141), none, .indexAddr 3 (.tmp 139) (.tmp 140)⟩,
                      ⟨(some 142), none, .fieldAddr 1 (.tmp 141)⟩,
                      ⟨none, none, .store 1 (.tmp 142) (.cst (.int .i64 (-7)))⟩]))
                   (.region [⟨(some 137), none, .mv (.tmp 23)⟩,
                     ⟨(some 138), none, .bin .add (.tmp 137) (.cst (.int .i64 1))⟩,
                     ⟨(some 23), none, .mv (.tmp 138)⟩]))))))
              (.seq (.seq (.region [⟨(some 24), none, .mv (.cst (.int .i64 0))⟩])
                (.block 4 (.loop (.seq (.seq (.region [⟨(some 143), none, .mv (.tmp 24)⟩,
                      ⟨(some 144), none, .mv (.tmp 13)⟩,
                      ⟨(some 145), none, .lenS (.tmp 144)⟩,
                      ⟨(some 146), none, .bin .lss (.tmp 143) (.tmp 145)⟩])
                    (.cond (.tmp 146)
                     (.skip)
                     (.exit 4)))
                   (.seq (.block 5 (.region [⟨(some 149), none, .mv (.tmp 13)⟩,
                       ⟨(some 150), none, .mv (.tmp 24)⟩,
                       ⟨(some 151), none, .indexAddr 3 (.tmp 149) (.tmp 150)⟩,
                       ⟨(some 152), none, .fieldAddr 1 (.tmp 151)⟩,
                       ⟨none, none, .store 1 (.tmp 152) (.cst (.int .i64 (-7)))⟩]))
                    (.region [⟨(some 147), none, .mv (.tmp 24)⟩,
                      ⟨(some 148), none, .bin .add (.tmp 147) (.cst (.int .i64 1))⟩,
                      ⟨(some 24), none, .mv (.tmp 148)⟩]))))))
               (.seq (.dregion [⟨(some 153), none, .mv (.tmp 9)⟩,
                  ⟨(some 154), none, .mv (.tmp 153)⟩,
                  ⟨(some 155), (some (154, true)), .mv (.tmp 22)⟩,
                  ⟨(some 156), none, .pick (.tmp 154) (.tmp 155) (.cst (.bool false))⟩,
                  ⟨(some 157), none, .mv (.tmp 156)⟩,
                  ⟨(some 158), (some (157, true)), .mv (.tmp 12)⟩,
                  ⟨(some 159), (some (157, true)), .call false (.cst (.func 29 [] [])) [.tmp 158]⟩,
                  ⟨(some 160), (some (157, true)), .mv (.tmp 0)⟩,
                  ⟨(some 161), (some (157, true)), .call false (.cst (.func 30 [] [])) [.tmp 160]⟩,
                  ⟨(some 162), (some (157, true)), .eq false .bool (.tmp 159) (.tmp 161)⟩,
                  ⟨(some 163), none, .pick (.tmp 157) (.tmp 162) (.cst (.bool false))⟩,
                  ⟨(some 164), none, .mv (.tmp 163)⟩,
                  ⟨(some 165), (some (164, true)), .mv (.tmp 12)⟩,
                  ⟨(some 166), (some (164, true)), .fieldAddr 0 (.tmp 5)⟩,
                  ⟨(some 167), (some (164, true)), .load false 1 (.tmp 166)⟩,
                  ⟨(some 168), (some (164, true)), .mv (.tmp 2)⟩,
                  ⟨(some 169), (some (164, true)), .call true (.cst (.func 32 [] [])) [.tmp 165, .tmp 167, .tmp 168]⟩,
                  ⟨(some 170), (some (164, true)), .mv (.tmp 0)⟩,
                  ⟨(some 171), (some (164, true)), .fieldAddr 0 (.tmp 5)⟩,
                  ⟨(some 172), (some (164, true)), .load false 1 (.tmp 171)⟩,
                  ⟨(some 173), (some (164, true)), .mv (.tmp 2)⟩,
                  ⟨(some 174), (some (164, true)), .call false (.cst (.func 33 [] [])) [.tmp 170, .tmp 172, .tmp 173]⟩,
                  ⟨(some 175), (some (164, true)), .call false (.cst (.func 31 [] [])) [.tmp 169, .tmp 174]⟩,
                  ⟨(some 176), none, .pick (.tmp 164) (.tmp 175) (.cst (.bool false))⟩,
                  ⟨(some 177), none, .mv (.tmp 176)⟩,
                  ⟨(some 178), (some (177, true)), .mv (.tmp 12)⟩,
                  ⟨(some 179), (some (177, true)), .mv (.tmp 3)⟩,
                  ⟨(some 180), (some (177, true)), .fieldAddr 1 (.tmp 5)⟩,
                  ⟨(some 181), (some (177, true)), .load false 1 (.tmp 180)⟩,
                  ⟨(some 182), (some (177, true)), .mv (.tmp 2)⟩,
                  ⟨(some 183), (some (177, true)), .call true (.cst (.func 35 [] [])) [.tmp 178, .tmp 179, .tmp 181, .tmp 182]⟩,
                  ⟨(some 184), (some (177, true)), .mv (.tmp 0)⟩,
                  ⟨(some 185), (some (177, true)), .mv (.tmp 3)⟩,
                  ⟨(some 186), (some (177, true)), .fieldAddr 1 (.tmp 5)⟩,
                  ⟨(some 187), (some (177, true)), .load false 1 (.tmp 186)⟩,
                  ⟨(some 188), (some (177, true)), .mv (.tmp 2)⟩,
                  ⟨(some 189), (some (177, true)), .call false (.cst (.func 36 [] [])) [.tmp 184, .tmp 185, .tmp 187, .tmp 188]⟩,
                  ⟨(some 190), (some (177, true)), .call false (.cst (.func 34 [] [])) [.tmp 183, .tmp 189]⟩,
                  ⟨(some 191), none, .pick (.tmp 177) (.tmp 190) (.cst (.bool false))⟩,
                  ⟨(some 192), none, .mv (.tmp 191)⟩,
                  ⟨(some 193), (some (192, true)), .mv (.tmp 12)⟩,
                  ⟨(some 194), (some (192, true)), .mv (.tmp 0)⟩,
                  ⟨(some 195), (some (192, true)), .call false (.cst (.func 27 [] [])) [.tmp 193, .tmp 194]⟩,
                  ⟨(some 196), none, .pick (.tmp 192) (.tmp 195) (.cst (.bool false))⟩,
                  ⟨(some 8), none, .mv (.tmp 196)⟩] [])
                (.ret)))))))))))))))⟩
/-- barrow/barrowlaw37.LockHolds -/
def a6 : AFun := ⟨178, [.tmp 10],
 .seq (.region [⟨(some 10), none, .mv (.cst (.bool false))⟩])
  (.seq (.region [⟨(some 23), none, .call false (.cst (.func 20 [] [])) []⟩,
     ⟨(some 11), none, .mv (.tmp 23)⟩])
   (.seq (.region [⟨(some 24), none, .mv (.tmp 0)⟩,
      ⟨(some 25), none, .call false (.cst (.func 21 [] [])) [.tmp 24]⟩,
      ⟨(some 12), none, .mv (.tmp 25)⟩])
    (.seq (.seq (.region [⟨(some 26), none, .mv (.tmp 12)⟩,
        ⟨(some 27), none, .un .not (.tmp 26)⟩,
        ⟨(some 28), none, .mv (.tmp 27)⟩,
        ⟨(some 29), (some (28, false)), .mv (.tmp 0)⟩,
        ⟨(some 30), (some (28, false)), .call false (.cst (.func 29 [] [])) [.tmp 29]⟩,
        ⟨(some 31), (some (28, false)), .un .not (.tmp 30)⟩,
        ⟨(some 32), none, .pick (.tmp 28) (.cst (.bool true)) (.tmp 31)⟩,
        ⟨(some 33), none, .mv (.tmp 32)⟩,
        ⟨(some 34), (some (33, false)), .mv (.tmp 1)⟩,
        ⟨(some 35), (some (33, false)), .lenStr (.tmp 34)⟩,
        ⟨(some 36), (some (33, false)), .bin .gtr (.tmp 35) (.cst (.int .i64 100))⟩,
        ⟨(some 37), none, .pick (.tmp 33) (.cst (.bool true)) (.tmp 36)⟩])
      (.cond (.tmp 37)
       (.seq (.region [⟨(some 38), none, .mv (.tmp 11)⟩,
          ⟨(some 10), none, .mv (.tmp 38)⟩])
        (.ret))
       (.skip)))
     (.seq (.region [⟨(some 40), none, .mv (.tmp 0)⟩,
        ⟨(some 41), none, .mv (.tmp 1)⟩,
        ⟨(some 42), none, .mv (.tmp 2)⟩,
        ⟨(some 43), none, .mv (.tmp 3)⟩,
        ⟨(some 44), none, .call false (.cst (.func 22 [] [])) [.tmp 40, .tmp 41, .tmp 42, .tmp 43]⟩,
        ⟨(some 39), none, .mv (.tmp 44)⟩,
        ⟨(some 45), none, .extract (.tmp 39) 0⟩,
        ⟨(some 46), none, .extract (.tmp 39) 1⟩,
        ⟨(some 13), none, .mv (.tmp 45)⟩,
        ⟨(some 14), none, .mv (.tmp 46)⟩])
      (.seq (.seq (.region [⟨(some 47), none, .mv (.tmp 14)⟩,
          ⟨(some 48), none, .bin .neq (.tmp 47) (.cst (.int .i64 0))⟩])
        (.cond (.tmp 48)
         (.seq (.region [⟨(some 49), none, .mv (.tmp 11)⟩,
            ⟨(some 50), none, .mv (.tmp 49)⟩,
            ⟨(some 51), (some (50, true)), .mv (.tmp 13)⟩,
            ⟨(some 52), (some (50, true)), .lenS (.tmp 51)⟩,
            ⟨(some 53), (some (50, true)), .bin .eql (.tmp 52) (.cst (.int .i64 0))⟩,
            ⟨(some 54), none, .pick (.tmp 50) (.tmp 53) (.cst (.bool false))⟩,
            ⟨(some 55), none, .mv (.tmp 54)⟩,
            ⟨(some 56), (some (55, true)), .mv (.tmp 14)⟩,
            ⟨(some 57), (some (55, true)), .bin .eql (.tmp 56) (.cst (.int .i64 4))⟩,
            ⟨(some 58), (some (55, true)), .mv (.tmp 57)⟩,
            ⟨(some 59), (some (58, true)), .mv (.tmp 0)⟩,
            ⟨(some 60), (some (58, true)), .lenS (.tmp 59)⟩,
            ⟨(some 61), (some (58, true)), .bin .eql (.tmp 60) (.cst (.int .i64 200))⟩,
            ⟨(some 62), (some (55, true)), .pick (.tmp 58) (.tmp 61) (.cst (.bool false))⟩,
            ⟨(some 63), (some (55, true)), .mv (.tmp 62)⟩,
            ⟨(some 64), (some (63, false)), .mv (.tmp 14)⟩,
            ⟨(some 65), (some (63, false)), .bin .eql (.tmp 64) (.cst (.int .i64 1))⟩,
            ⟨(some 66), (some (63, false)), .mv (.tmp 65)⟩,
            ⟨(some 67), (some (66, true)), .mv (.tmp 2)⟩,
            ⟨(some 68), (some (66, true)), .bin .lss (.tmp 67) (.cst (.int .i64 1))⟩,
            ⟨(some 69), (some (66, true)), .mv (.tmp 68)⟩,
            ⟨(some 70), (some (69, false)), .mv (.tmp 1)⟩,
            ⟨(some 71), (some (69, false)), .call false (.cst (.func 37 [] [])) [.tmp 70]⟩,
            ⟨(some 72), (some (69, false)), .un .not (.tmp 71)⟩,
            ⟨(some 73), (some (66, true)), .pick (.tmp 69) (.cst (.bool true)) (.tmp 72)⟩,
            ⟨(some 74), (some (63, false)), .pick (.tmp 66) (.tmp 73) (.cst (.bool false))⟩,
            ⟨(some 75), (some (55, true)), .pick (.tmp 63) (.cst (.bool true)) (.tmp 74)⟩,
            ⟨(some 76), none, .pick (.tmp 55) (.tmp 75) (.cst (.bool false))⟩,
            ⟨(some 10), none, .mv (.tmp 76)⟩])
          (.ret))
         (.skip)))
       (.seq (.region [⟨(some 78), none, .mv (.tmp 13)⟩,
          ⟨(some 79), none, .mv (.tmp 1)⟩,
          ⟨(some 80), none, .mv (.tmp 2)⟩,
          ⟨(some 81), none, .mv (.tmp 4)⟩,
          ⟨(some 82), none, .call false (.cst (.func 24 [] [])) [.tmp 78, .tmp 79, .tmp 80, .tmp 81]⟩,
          ⟨(some 77), none, .mv (.tmp 82)⟩,
          ⟨(some 83), none, .extract (.tmp 77) 0⟩,
          ⟨(some 84), none, .extract (.tmp 77) 1⟩,
          ⟨(some 15), none, .mv (.tmp 83)⟩,
          ⟨(some 16), none, .mv (.tmp 84)⟩])
        (.seq (.region [⟨(some 86), none, .mv (.tmp 0)⟩,
           ⟨(some 87), none, .mv (.tmp 1)⟩,
           ⟨(some 88), none, .mv (.tmp 2)⟩,
           ⟨(some 89), none, .mv (.tmp 4)⟩,
           ⟨(some 90), none, .call false (.cst (.func 24 [] [])) [.tmp 86, .tmp 87, .tmp 88, .tmp 89]⟩,
           ⟨(some 85), none, .mv (.tmp 90)⟩,
           ⟨(some 91), none, .extract (.tmp 85) 0⟩,
           ⟨(some 92), none, .extract (.tmp 85) 1⟩,
           ⟨(some 17), none, .mv (.tmp 91)⟩,
           ⟨(some 18), none, .mv (.tmp 92)⟩])
         (.seq (.region [⟨(some 93), none, .mv (.tmp 3)⟩,
            ⟨(some 94), none, .mv (.tmp 17)⟩,
            ⟨(some 95), none, .minmax true (.tmp 93) [.tmp 94]⟩,
            ⟨(some 19), none, .mv (.tmp 95)⟩])
          (.seq (.seq (.region [⟨(some 96), none, .mv (.tmp 18)⟩,
              ⟨(some 97), none, .un .not (.tmp 96)⟩])
            (.cond (.tmp 97)
             (.region [⟨(some 98), none, .mv (.tmp 3)⟩,
               ⟨(some 19), none, .mv (.tmp 98)⟩])
             (.skip)))
           (.seq (.seq (.region [⟨(some 99), none, .mv (.tmp 13)⟩,
               ⟨(some 100), none, .call false (.cst (.func 29 [] [])) [.tmp 99]⟩,
               ⟨(some 101), none, .un .not (.tmp 100)⟩,
               ⟨(some 102), none, .mv (.tmp 101)⟩,
               ⟨(some 103), (some (102, false)), .mv (.tmp 3)⟩,
               ⟨(some 104), (some (102, false)), .mv (.tmp 4)⟩,
               ⟨(some 105), (some (102, false)), .bin .gtr (.tmp 103) (.tmp 104)⟩,
               ⟨(some 106), (some (102, false)), .mv (.tmp 105)⟩,
               ⟨(some 107), (some (106, true)), .mv (.tmp 16)⟩,
               ⟨(some 108), (some (106, true)), .un .not (.tmp 107)⟩,
               ⟨(some 109), (some (106, true)), .mv (.tmp 108)⟩,
               ⟨(some 110), (some (109, false)), .mv (.tmp 15)⟩,
               ⟨(some 111), (some (109, false)), .mv (.tmp 19)⟩,
               ⟨(some 112), (some (109, false)), .bin .neq (.tmp 110) (.tmp 111)⟩,
               ⟨(some 113), (some (106, true)), .pick (.tmp 109) (.cst (.bool true)) (.tmp 112)⟩,
               ⟨(some 114), (some (102, false)), .pick (.tmp 106) (.tmp 113) (.cst (.bool false))⟩,
               ⟨(some 115), none, .pick (.tmp 102) (.cst (.bool true)) (.tmp 114)⟩,
               ⟨(some 116), none, .mv (.tmp 115)⟩,
               ⟨(some 117), (some (116, false)), .mv (.tmp 3)⟩,
               ⟨(some 118), (some (116, false)), .mv (.tmp 4)⟩,
               ⟨(some 119), (some (116, false)), .bin .leq (.tmp 117) (.tmp 118)⟩,
               ⟨(some 120), (some (116, false)), .mv (.tmp 119)⟩,
               ⟨(some 121), (some (120, true)), .mv (.tmp 16)⟩,
               ⟨(some 122), (some (120, true)), .mv (.tmp 18)⟩,
               ⟨(some 123), (some (120, true)), .eq true .bool (.tmp 121) (.tmp 122)⟩,
               ⟨(some 124), (some (120, true)), .mv (.tmp 123)⟩,
               ⟨(some 125), (some (124, false)), .mv (.tmp 15)⟩,
               ⟨(some 126), (some (124, false)), .mv (.tmp 17)⟩,
               ⟨(some 127), (some (124, false)), .bin .neq (.tmp 125) (.tmp 126)⟩,
               ⟨(some 128), (some (120, true)), .pick (.tmp 124) (.cst (.bool true)) (.tmp 127)⟩,
               ⟨(some 129), (some (116, false)), .pick (.tmp 120) (.tmp 128) (.cst (.bool false))⟩,
               ⟨(some 130), none, .pick (.tmp 116) (.cst (.bool true)) (.tmp 129)⟩])
             (.cond (.tmp 130)
              (.seq (.region [⟨(some 10), none, .mv (.cst (.bool false))⟩])
               (.ret))
              (.skip)))
            (.seq (.region [⟨(some 131), none, .mv (.tmp 13)⟩,
               ⟨(some 132), none, .mv (.tmp 4)⟩,
               ⟨(some 133), none, .call false (.cst (.func 26 [] [])) [.tmp 131, .tmp 132]⟩,
               ⟨(some 20), none, .mv (.tmp 133)⟩])
             (.seq (.region [⟨(some 135), none, .mv (.tmp 20)⟩,
                ⟨(some 136), none, .mv (.tmp 1)⟩,
                ⟨(some 137), none, .mv (.tmp 2)⟩,
                ⟨(some 138), none, .mv (.tmp 4)⟩,
                ⟨(some 139), none, .call false (.cst (.func 24 [] [])) [.tmp 135, .tmp 136, .tmp 137, .tmp 138]⟩,
                ⟨(some 134), none, .mv (.tmp 139)⟩,
                ⟨(some 140), none, .extract (.tmp 134) 0⟩,
                ⟨(some 141), none, .extract (.tmp 134) 1⟩,
                ⟨(some 21), none, .mv (.tmp 140)⟩,
                ⟨(some 22), none, .mv (.tmp 141)⟩])
              (.seq (.region [⟨(some 142), none, .mv (.tmp 11)⟩,
                 ⟨(some 143), none, .mv (.tmp 142)⟩,
                 ⟨(some 144), (some (143, true)), .mv (.tmp 20)⟩,
                 ⟨(some 145), (some (143, true)), .call false (.cst (.func 29 [] [])) [.tmp 144]⟩,
                 ⟨(some 146), none, .pick (.tmp 143) (.tmp 145) (.cst (.bool false))⟩,
                 ⟨(some 147), none, .mv (.tmp 146)⟩,
                 ⟨(some 148), (some (147, true)), .mv (.tmp 21)⟩,
                 ⟨(some 149), (some (147, true)), .mv (.tmp 15)⟩,
                 ⟨(some 150), (some (147, true)), .bin .eql (.tmp 148) (.tmp 149)⟩,
                 ⟨(some 151), none, .pick (.tmp 147) (.tmp 150) (.cst (.bool false))⟩,
                 ⟨(some 152), none, .mv (.tmp 151)⟩,
                 ⟨(some 153), (some (152, true)), .mv (.tmp 22)⟩,
                 ⟨(some 154), (some (152, true)), .mv (.tmp 16)⟩,
                 ⟨(some 155), (some (152, true)), .eq false .bool (.tmp 153) (.tmp 154)⟩,
                 ⟨(some 156), none, .pick (.tmp 152) (.tmp 155) (.cst (.bool false))⟩,
                 ⟨(some 157), none, .mv (.tmp 156)⟩,
                 ⟨(some 158), (some (157, true)), .mv (.tmp 20)⟩,
                 ⟨(some 159), (some (157, true)), .mv (.tmp 4)⟩,
                 ⟨(some 160), (some (157, true)), .call false (.cst (.func 26 [] [])) [.tmp 158, .tmp 159]⟩,
                 ⟨(some 161), (some (157, true)), .lenS (.tmp 160)⟩,
                 ⟨(some 162), (some (157, true)), .mv (.tmp 20)⟩,
                 ⟨(some 163), (some (157, true)), .lenS (.tmp 162)⟩,
                 ⟨(some 164), (some (157, true)), .bin .eql (.tmp 161) (.tmp 163)⟩,
                 ⟨(some 165), none, .pick (.tmp 157) (.tmp 164) (.cst (.bool false))⟩,
                 ⟨(some 166), none, .mv (.tmp 165)⟩,
                 ⟨(some 167), (some (166, true)), .mv (.tmp 13)⟩,
                 ⟨(some 168), (some (166, true)), .mv (.tmp 1)⟩,
                 ⟨(some 169), (some (166, true)), .bslice 1 1 [.str []] [(0, 1, (.tmp 168))]⟩,
                 ⟨(some 170), (some (166, true)), .mv (.tmp 2)⟩,
                 ⟨(some 171), (some (166, true)), .mv (.tmp 4)⟩,
                 ⟨(some 172), (some (166, true)), .call false (.cst (.func 35 [] [])) [.tmp 167, .tmp 169, .tmp 170, .tmp 171]⟩,
                 ⟨(some 173), (some (166, true)), .lenS (.tmp 172)⟩,
                 ⟨(some 174), (some (166, true)), .bin .eql (.tmp 173) (.cst (.int .i64 0))⟩,
                 ⟨(some 175), (some (166, true)), .mv (.tmp 16)⟩,
                 ⟨(some 176), (some (166, true)), .eq false .bool (.tmp 174) (.tmp 175)⟩,
                 ⟨(some 177), none, .pick (.tmp 166) (.tmp 176) (.cst (.bool false))⟩,
                 ⟨(some 10), none, .mv (.tmp 177)⟩])
               (.ret))))))))))))))⟩
/-- barrow/barrowlaw37.LockJoins -/
def a7 : AFun := ⟨61, [.tmp 10],
 .seq (.region [⟨(some 10), none, .mv (.cst (.bool false))⟩])
  (.seq (.region [⟨(some 17), none, .call false (.cst (.func 20 [] [])) []⟩,
     ⟨(some 11), none, .mv (.tmp 17)⟩])
   (.seq (.region [⟨(some 18), none, .mv (.tmp 0)⟩,
      ⟨(some 19), none, .call false (.cst (.func 21 [] [])) [.tmp 18]⟩,
      ⟨(some 20), none, .mv (.tmp 19)⟩,
      ⟨(some 21), (some (20, true)), .mv (.tmp 1)⟩,
      ⟨(some 22), (some (20, true)), .call false (.cst (.func 21 [] [])) [.tmp 21]⟩,
      ⟨(some 23), none, .pick (.tmp 20) (.tmp 22) (.cst (.bool false))⟩,
      ⟨(some 12), none, .mv (.tmp 23)⟩])
    (.seq (.seq (.region [⟨(some 24), none, .mv (.tmp 12)⟩,
        ⟨(some 25), none, .un .not (.tmp 24)⟩])
      (.cond (.tmp 25)
       (.seq (.region [⟨(some 26), none, .mv (.tmp 11)⟩,
          ⟨(some 10), none, .mv (.tmp 26)⟩])
        (.ret))
       (.skip)))
     (.seq (.region [⟨(some 28), none, .mv (.tmp 0)⟩,
        ⟨(some 29), none, .mv (.tmp 1)⟩,
        ⟨(some 30), none, .call false (.cst (.func 38 [] [])) [.tmp 28, .tmp 29]⟩,
        ⟨(some 27), none, .mv (.tmp 30)⟩,
        ⟨(some 31), none, .extract (.tmp 27) 0⟩,
        ⟨(some 32), none, .extract (.tmp 27) 1⟩,
        ⟨(some 13), none, .mv (.tmp 31)⟩,
        ⟨(some 14), none, .mv (.tmp 32)⟩])
      (.seq (.region [⟨(some 34), none, .mv (.tmp 0)⟩,
         ⟨(some 35), none, .mv (.tmp 1)⟩,
         ⟨(some 36), none, .call false (.cst (.func 39 [] [])) [.tmp 34, .tmp 35]⟩,
         ⟨(some 33), none, .mv (.tmp 36)⟩,
         ⟨(some 37), none, .extract (.tmp 33) 0⟩,
         ⟨(some 38), none, .extract (.tmp 33) 1⟩,
         ⟨(some 15), none, .mv (.tmp 37)⟩,
         ⟨(some 16), none, .mv (.tmp 38)⟩])
       (.seq (.region [⟨(some 39), none, .mv (.tmp 11)⟩,
          ⟨(some 40), none, .mv (.tmp 39)⟩,
          ⟨(some 41), (some (40, true)), .mv (.tmp 13)⟩,
          ⟨(some 42), (some (40, true)), .mv (.tmp 15)⟩,
          ⟨(some 43), (some (40, true)), .call false (.cst (.func 27 [] [])) [.tmp 41, .tmp 42]⟩,
          ⟨(some 44), none, .pick (.tmp 40) (.tmp 43) (.cst (.bool false))⟩,
          ⟨(some 45), none, .mv (.tmp 44)⟩,
          ⟨(some 46), (some (45, true)), .mv (.tmp 14)⟩,
          ⟨(some 47), (some (45, true)), .mv (.tmp 16)⟩,
          ⟨(some 48), (some (45, true)), .bin .eql (.tmp 46) (.tmp 47)⟩,
          ⟨(some 49), none, .pick (.tmp 45) (.tmp 48) (.cst (.bool false))⟩,
          ⟨(some 50), none, .mv (.tmp 49)⟩,
          ⟨(some 51), (some (50, true)), .mv (.tmp 2)⟩,
          ⟨(some 52), (some (50, true)), .mv (.tmp 3)⟩,
          ⟨(some 53), (some (50, true)), .mv (.tmp 4)⟩,
          ⟨(some 54), (some (50, true)), .call false (.cst (.func 40 [] [])) [.tmp 51, .tmp 52, .tmp 53]⟩,
          ⟨(some 55), (some (50, true)), .mv (.tmp 2)⟩,
          ⟨(some 56), (some (50, true)), .mv (.tmp 3)⟩,
          ⟨(some 57), (some (50, true)), .mv (.tmp 4)⟩,
          ⟨(some 58), (some (50, true)), .call false (.cst (.func 41 [] [])) [.tmp 55, .tmp 56, .tmp 57]⟩,
          ⟨(some 59), (some (50, true)), .bin .eql (.tmp 54) (.tmp 58)⟩,
          ⟨(some 60), none, .pick (.tmp 50) (.tmp 59) (.cst (.bool false))⟩,
          ⟨(some 10), none, .mv (.tmp 60)⟩])
        (.ret)))))))⟩
/-- barrow/barrowlaw37.LockBoth -/
def a8 : AFun := ⟨141, [.tmp 10],
 .seq (.region [⟨(some 10), none, .mv (.cst (.bool false))⟩])
  (.seq (.region [⟨(some 18), none, .call false (.cst (.func 20 [] [])) []⟩,
     ⟨(some 11), none, .mv (.tmp 18)⟩])
   (.seq (.region [⟨(some 19), none, .mv (.tmp 0)⟩,
      ⟨(some 20), none, .call false (.cst (.func 21 [] [])) [.tmp 19]⟩,
      ⟨(some 21), none, .mv (.tmp 20)⟩,
      ⟨(some 22), (some (21, true)), .mv (.tmp 1)⟩,
      ⟨(some 23), (some (21, true)), .call false (.cst (.func 21 [] [])) [.tmp 22]⟩,
      ⟨(some 24), none, .pick (.tmp 21) (.tmp 23) (.cst (.bool false))⟩,
      ⟨(some 12), none, .mv (.tmp 24)⟩])
    (.seq (.seq (.region [⟨(some 25), none, .mv (.tmp 12)⟩,
        ⟨(some 26), none, .un .not (.tmp 25)⟩])
      (.cond (.tmp 26)
       (.seq (.region [⟨(some 27), none, .mv (.tmp 11)⟩,
          ⟨(some 10), none, .mv (.tmp 27)⟩])
        (.ret))
       (.skip)))
     (.seq (.region [⟨(some 29), none, .mv (.tmp 0)⟩,
        ⟨(some 30), none, .mv (.tmp 1)⟩,
        ⟨(some 31), none, .call false (.cst (.func 38 [] [])) [.tmp 29, .tmp 30]⟩,
        ⟨(some 28), none, .mv (.tmp 31)⟩,
        ⟨(some 32), none, .extract (.tmp 28) 0⟩,
        ⟨(some 33), none, .extract (.tmp 28) 1⟩,
        ⟨(some 13), none, .mv (.tmp 32)⟩,
        ⟨(some 14), none, .mv (.tmp 33)⟩])
      (.seq (.region [⟨(some 35), none, .mv (.tmp 1)⟩,
         ⟨(some 36), none, .mv (.tmp 0)⟩,
         ⟨(some 37), none, .call false (.cst (.func 38 [] [])) [.tmp 35, .tmp 36]⟩,
         ⟨(some 34), none, .mv (.tmp 37)⟩,
         ⟨(some 38), none, .extract (.tmp 34) 0⟩,
         ⟨(some 39), none, .extract (.tmp 34) 1⟩,
         ⟨(some 15), none, .mv (.tmp 38)⟩,
         ⟨(some 16), none, .mv (.tmp 39)⟩])
       (.seq (.seq (.region [⟨(some 40), none, .mv (.tmp 14)⟩,
           ⟨(some 41), none, .bin .eql (.tmp 40) (.cst (.int .i64 0))⟩,
           ⟨(some 42), none, .mv (.tmp 41)⟩,
           ⟨(some 43), (some (42, true)), .mv (.tmp 16)⟩,
           ⟨(some 44), (some (42, true)), .bin .eql (.tmp 43) (.cst (.int .i64 0))⟩,
           ⟨(some 45), none, .pick (.tmp 42) (.tmp 44) (.cst (.bool false))⟩,
           ⟨(some 46), none, .mv (.tmp 45)⟩,
           ⟨(some 47), (some (46, true)), .mv (.tmp 13)⟩,
           ⟨(some 48), (some (46, true)), .mv (.tmp 15)⟩,
           ⟨(some 49), (some (46, true)), .call false (.cst (.func 27 [] [])) [.tmp 47, .tmp 48]⟩,
           ⟨(some 50), (some (46, true)), .un .not (.tmp 49)⟩,
           ⟨(some 51), (some (46, true)), .mv (.tmp 50)⟩,
           ⟨(some 52), (some (51, false)), .mv (.tmp 13)⟩,
           ⟨(some 53), (some (51, false)), .call false (.cst (.func 29 [] [])) [.tmp 52]⟩,
           ⟨(some 54), (some (51, false)), .un .not (.tmp 53)⟩,
           ⟨(some 55), (some (46, true)), .pick (.tmp 51) (.cst (.bool true)) (.tmp 54)⟩,
           ⟨(some 56), (some (46, true)), .mv (.tmp 55)⟩,
           ⟨(some 57), (some (56, false)), .mv (.tmp 13)⟩,
           ⟨(some 58), (some (56, false)), .lenS (.tmp 57)⟩,
           ⟨(some 59), (some (56, false)), .mv (.tmp 0)⟩,
           ⟨(some 60), (some (56, false)), .lenS (.tmp 59)⟩,
           ⟨(some 61), (some (56, false)), .bin .lss (.tmp 58) (.tmp 60)⟩,
           ⟨(some 62), (some (46, true)), .pick (.tmp 56) (.cst (.bool true)) (.tmp 61)⟩,
           ⟨(some 63), (some (46, true)), .mv (.tmp 62)⟩,
           ⟨(some 64), (some (63, false)), .mv (.tmp 13)⟩,
           ⟨(some 65), (some (63, false)), .lenS (.tmp 64)⟩,
           ⟨(some 66), (some (63, false)), .mv (.tmp 0)⟩,
           ⟨(some 67), (some (63, false)), .lenS (.tmp 66)⟩,
           ⟨(some 68), (some (63, false)), .mv (.tmp 1)⟩,
           ⟨(some 69), (some (63, false)), .lenS (.tmp 68)⟩,
           ⟨(some 70), (some (63, false)), .bin .add (.tmp 67) (.tmp 69)⟩,
           ⟨(some 71), (some (63, false)), .bin .gtr (.tmp 65) (.tmp 70)⟩,
           ⟨(some 72), (some (46, true)), .pick (.tmp 63) (.cst (.bool true)) (.tmp 71)⟩,
           ⟨(some 73), none, .pick (.tmp 46) (.tmp 72) (.cst (.bool false))⟩])
         (.cond (.tmp 73)
          (.seq (.region [⟨(some 10), none, .mv (.cst (.bool false))⟩])
           (.ret))
          (.skip)))
        (.seq (.seq (.region [⟨(some 74), none, .mv (.tmp 2)⟩,
            ⟨(some 75), none, .bin .lss (.tmp 74) (.cst (.int .i64 (-1099511627776)))⟩,
            ⟨(some 76), none, .mv (.tmp 75)⟩,
            ⟨(some 77), (some (76, false)), .mv (.tmp 2)⟩,
            ⟨(some 78), (some (76, false)), .bin .gtr (.tmp 77) (.cst (.int .i64 1099511627776))⟩,
            ⟨(some 79), none, .pick (.tmp 76) (.cst (.bool true)) (.tmp 78)⟩,
            ⟨(some 80), none, .mv (.tmp 79)⟩,
            ⟨(some 81), (some (80, false)), .mv (.tmp 4)⟩,
            ⟨(some 82), (some (80, false)), .bin .lss (.tmp 81) (.cst (.int .i64 (-1099511627776)))⟩,
            ⟨(some 83), none, .pick (.tmp 80) (.cst (.bool true)) (.tmp 82)⟩,
            ⟨(some 84), none, .mv (.tmp 83)⟩,
            ⟨(some 85), (some (84, false)), .mv (.tmp 4)⟩,
            ⟨(some 86), (some (84, false)), .bin .gtr (.tmp 85) (.cst (.int .i64 1099511627776))⟩,
            ⟨(some 87), none, .pick (.tmp 84) (.cst (.bool true)) (.tmp 86)⟩,
            ⟨(some 88), none, .mv (.tmp 87)⟩,
            ⟨(some 89), (some (88, false)), .mv (.tmp 3)⟩,
            ⟨(some 90), (some (88, false)), .bin .lss (.tmp 89) (.cst (.int .i64 1))⟩,
            ⟨(some 91), none, .pick (.tmp 88) (.cst (.bool true)) (.tmp 90)⟩,
            ⟨(some 92), none, .mv (.tmp 91)⟩,
            ⟨(some 93), (some (92, false)), .mv (.tmp 3)⟩,
            ⟨(some 94), (some (92, false)), .bin .gtr (.tmp 93) (.cst (.int .i64 1073741824))⟩,
            ⟨(some 95), none, .pick (.tmp 92) (.cst (.bool true)) (.tmp 94)⟩])
          (.cond (.tmp 95)
           (.seq (.region [⟨(some 96), none, .mv (.tmp 11)⟩,
              ⟨(some 10), none, .mv (.tmp 96)⟩])
            (.ret))
           (.skip)))
         (.seq (.region [⟨(some 97), none, .mv (.tmp 2)⟩,
            ⟨(some 98), none, .mv (.tmp 3)⟩,
            ⟨(some 99), none, .mv (.tmp 4)⟩,
            ⟨(some 100), none, .call false (.cst (.func 40 [] [])) [.tmp 97, .tmp 98, .tmp 99]⟩,
            ⟨(some 17), none, .mv (.tmp 100)⟩])
          (.seq (.region [⟨(some 101), none, .mv (.tmp 11)⟩,
             ⟨(some 102), none, .mv (.tmp 101)⟩,
             ⟨(some 103), (some (102, true)), .mv (.tmp 17)⟩,
             ⟨(some 104), (some (102, true)), .mv (.tmp 2)⟩,
             ⟨(some 105), (some (102, true)), .bin .gtr (.tmp 103) (.tmp 104)⟩,
             ⟨(some 106), none, .pick (.tmp 102) (.tmp 105) (.cst (.bool false))⟩,
             ⟨(some 107), none, .mv (.tmp 106)⟩,
             ⟨(some 108), (some (107, true)), .mv (.tmp 17)⟩,
             ⟨(some 109), (some (107, true)), .mv (.tmp 2)⟩,
             ⟨(some 110), (some (107, true)), .mv (.tmp 3)⟩,
             ⟨(some 111), (some (107, true)), .bin .add (.tmp 109) (.tmp 110)⟩,
             ⟨(some 112), (some (107, true)), .bin .leq (.tmp 108) (.tmp 111)⟩,
             ⟨(some 113), none, .pick (.tmp 107) (.tmp 112) (.cst (.bool false))⟩,
             ⟨(some 114), none, .mv (.tmp 113)⟩,
             ⟨(some 115), (some (114, true)), .mv (.tmp 17)⟩,
             ⟨(some 116), (some (114, true)), .mv (.tmp 4)⟩,
             ⟨(some 117), (some (114, true)), .bin .sub (.tmp 115) (.tmp 116)⟩,
             ⟨(some 118), (some (114, true)), .mv (.tmp 3)⟩,
             ⟨(some 119), (some (114, true)), .bin .rem (.tmp 117) (.tmp 118)⟩,
             ⟨(some 120), (some (114, true)), .bin .eql (.tmp 119) (.cst (.int .i64 0))⟩,
             ⟨(some 121), none, .pick (.tmp 114) (.tmp 120) (.cst (.bool false))⟩,
             ⟨(some 122), none, .mv (.tmp 121)⟩,
             ⟨(some 123), (some (122, true)), .mv (.tmp 17)⟩,
             ⟨(some 124), (some (122, true)), .mv (.tmp 3)⟩,
             ⟨(some 125), (some (122, true)), .mv (.tmp 4)⟩,
             ⟨(some 126), (some (122, true)), .call false (.cst (.func 40 [] [])) [.tmp 123, .tmp 124, .tmp 125]⟩,
             ⟨(some 127), (some (122, true)), .mv (.tmp 17)⟩,
             ⟨(some 128), (some (122, true)), .mv (.tmp 3)⟩,
             ⟨(some 129), (some (122, true)), .bin .add (.tmp 127) (.tmp 128)⟩,
             ⟨(some 130), (some (122, true)), .bin .eql (.tmp 126) (.tmp 129)⟩,
             ⟨(some 131), none, .pick (.tmp 122) (.tmp 130) (.cst (.bool false))⟩,
             ⟨(some 132), none, .mv (.tmp 131)⟩,
             ⟨(some 133), (some (132, true)), .mv (.tmp 17)⟩,
             ⟨(some 134), (some (132, true)), .bin .sub (.tmp 133) (.cst (.int .i64 1))⟩,
             ⟨(some 135), (some (132, true)), .mv (.tmp 3)⟩,
             ⟨(some 136), (some (132, true)), .mv (.tmp 4)⟩,
             ⟨(some 137), (some (132, true)), .call false (.cst (.func 40 [] [])) [.tmp 134, .tmp 135, .tmp 136]⟩,
             ⟨(some 138), (some (132, true)), .mv (.tmp 17)⟩,
             ⟨(some 139), (some (132, true)), .bin .eql (.tmp 137) (.tmp 138)⟩,
             ⟨(some 140), none, .pick (.tmp 132) (.tmp 139) (.cst (.bool false))⟩,
             ⟨(some 10), none, .mv (.tmp 140)⟩])
           (.ret))))))))))⟩
/-- barrow/barrowlaw25.ViewFollows -/
def a9 : AFun := ⟨87, [.tmp 8],
 .seq (.region [⟨(some 4), none, .box (.tmp 0)⟩,
    ⟨(some 8), none, .mv (.cst (.bool false))⟩])
  (.seq (.region [⟨(some 14), none, .call false (.cst (.func 42 [] [])) []⟩,
     ⟨(some 9), none, .mv (.tmp 14)⟩])
   (.seq (.region [⟨(some 15), none, .load true 4 (.tmp 4)⟩,
      ⟨(some 16), none, .call false (.cst (.func 43 [] [])) [.tmp 15]⟩,
      ⟨(some 17), none, .mv (.tmp 16)⟩,
      ⟨(some 18), (some (17, true)), .mv (.tmp 1)⟩,
      ⟨(some 19), (some (17, true)), .call false (.cst (.func 44 [] [])) [.tmp 18]⟩,
      ⟨(some 20), none, .pick (.tmp 17) (.tmp 19) (.cst (.bool false))⟩,
      ⟨(some 21), none, .mv (.tmp 20)⟩,
      ⟨(some 22), (some (21, true)), .mv (.tmp 2)⟩,
      ⟨(some 23), (some (21, true)), .call false (.cst (.func 44 [] [])) [.tmp 22]⟩,
      ⟨(some 24), none, .pick (.tmp 21) (.tmp 23) (.cst (.bool false))⟩,
      ⟨(some 10), none, .mv (.tmp 24)⟩])
    (.seq (.seq (.region [⟨(some 25), none, .mv (.tmp 10)⟩,
        ⟨(some 26), none, .un .not (.tmp 25)⟩,
        ⟨(some 27), none, .mv (.tmp 26)⟩,
        ⟨(some 28), (some (27, false)), .mv (.tmp 1)⟩,
        ⟨(some 29), (some (27, false)), .lenS (.tmp 28)⟩,
        ⟨(some 30), (some (27, false)), .bin .gtr (.tmp 29) (.cst (.int .i64 40))⟩,
        ⟨(some 31), none, .pick (.tmp 27) (.cst (.bool true)) (.tmp 30)⟩,
        ⟨(some 32), none, .mv (.tmp 31)⟩,
        ⟨(some 33), (some (32, false)), .mv (.tmp 2)⟩,
        ⟨(some 34), (some (32, false)), .lenS (.tmp 33)⟩,
        ⟨(some 35), (some (32, false)), .bin .gtr (.tmp 34) (.cst (.int .i64 40))⟩,
        ⟨(some 36), none, .pick (.tmp 32) (.cst (.bool true)) (.tmp 35)⟩,
        ⟨(some 37), none, .mv (.tmp 36)⟩,
        ⟨(some 38), (some (37, false)), .mv (.tmp 1)⟩,
        ⟨(some 39), (some (37, false)), .call false (.cst (.func 45 [] [])) [.tmp 38]⟩,
        ⟨(some 40), (some (37, false)), .un .not (.tmp 39)⟩,
        ⟨(some 41), none, .pick (.tmp 37) (.cst (.bool true)) (.tmp 40)⟩,
        ⟨(some 42), none, .mv (.tmp 41)⟩,
        ⟨(some 43), (some (42, false)), .mv (.tmp 2)⟩,
        ⟨(some 44), (some (42, false)), .call false (.cst (.func 45 [] [])) [.tmp 43]⟩,
        ⟨(some 45), (some (42, false)), .un .not (.tmp 44)⟩,
        ⟨(some 46), none, .pick (.tmp 42) (.cst (.bool true)) (.tmp 45)⟩])
      (.cond (.tmp 46)
       (.seq (.region [⟨(some 47), none, .mv (.tmp 9)⟩,
          ⟨(some 8), none, .mv (.tmp 47)⟩])
        (.ret))
       (.skip)))
     (.seq (.dregion [⟨(some 48), none, .load true 4 (.tmp 4)⟩,
        ⟨(some 49), none, .mv (.tmp 3)⟩,
        ⟨(some 50), none, .mv (.tmp 1)⟩,
        ⟨(some 51), none, .call true (.cst (.func 47 [] [])) [.tmp 49, .tmp 50]⟩,
        ⟨(some 52), none, .call true (.cst (.func 46 [] [])) [.tmp 48, .tmp 51]⟩,
        ⟨(some 11), none, .alloc [.int .i64 0, .slice none 0 none, .slice none 0 none, .bool false]⟩,
        ⟨none, none, .store 4 (.tmp 11) (.tmp 52)⟩] [])
      (.seq (.region [⟨(some 53), none, .mv (.tmp 3)⟩,
         ⟨(some 54), none, .mv (.tmp 1)⟩,
         ⟨(some 55), none, .build [.int .i64 0, .slice none 0 none, .slice none 0 none, .bool false] [(0, 1, (.tmp 53)), (1, 1, (.tmp 54)), (3, 1, (.cst (.bool true)))]⟩,
         ⟨(some 12), none, .alloc [.int .i64 0, .slice none 0 none, .slice none 0 none, .bool false]⟩,
         ⟨none, none, .store 4 (.tmp 12) (.tmp 55)⟩])
       (.seq (.seq (.region [⟨(some 56), none, .load true 4 (.tmp 11)⟩,
           ⟨(some 57), none, .load true 4 (.tmp 12)⟩,
           ⟨(some 58), none, .call false (.cst (.func 48 [] [])) [.tmp 56, .tmp 57]⟩,
           ⟨(some 59), none, .un .not (.tmp 58)⟩])
         (.cond (.tmp 59)
          (.seq (.region [⟨(some 8), none, .mv (.cst (.bool false))⟩])
           (.ret))
          (.skip)))
        (.seq (.dregion [⟨(some 60), none, .load true 4 (.tmp 11)⟩,
           ⟨(some 61), none, .mv (.tmp 1)⟩,
           ⟨(some 62), none, .mv (.tmp 2)⟩,
           ⟨(some 63), none, .call true (.cst (.func 49 [] [])) [.tmp 61, .tmp 62]⟩,
           ⟨(some 64), none, .call true (.cst (.func 46 [] [])) [.tmp 60, .tmp 63]⟩,
           ⟨(some 13), none, .alloc [.int .i64 0, .slice none 0 none, .slice none 0 none, .bool false]⟩,
           ⟨none, none, .store 4 (.tmp 13) (.tmp 64)⟩] [])
         (.seq (.region [⟨(some 65), none, .mv (.tmp 2)⟩,
            ⟨(some 66), none, .fieldAddr 1 (.tmp 12)⟩,
            ⟨none, none, .store 1 (.tmp 66) (.tmp 65)⟩])
          (.seq (.region [⟨(some 67), none, .mv (.tmp 9)⟩,
             ⟨(some 68), none, .mv (.tmp 67)⟩,
             ⟨(some 69), (some (68, true)), .load true 4 (.tmp 13)⟩,
             ⟨(some 70), (some (68, true)), .load true 4 (.tmp 12)⟩,
             ⟨(some 71), (some (68, true)), .call false (.cst (.func 48 [] [])) [.tmp 69, .tmp 70]⟩,
             ⟨(some 72), none, .pick (.tmp 68) (.tmp 71) (.cst (.bool false))⟩,
             ⟨(some 73), none, .mv (.tmp 72)⟩,
             ⟨(some 74), (some (73, true)), .mv (.tmp 1)⟩,
             ⟨(some 75), (some (73, true)), .mv (.tmp 1)⟩,
             ⟨(some 76), (some (73, true)), .call false (.cst (.func 49 [] [])) [.tmp 74, .tmp 75]⟩,
             ⟨(some 77), (some (73, true)), .lenS (.tmp 76)⟩,
             ⟨(some 78), (some (73, true)), .bin .eql (.tmp 77) (.cst (.int .i64 0))⟩,
             ⟨(some 79), none, .pick (.tmp 73) (.tmp 78) (.cst (.bool false))⟩,
             ⟨(some 80), none, .mv (.tmp 79)⟩,
             ⟨(some 81), (some (80, true)), .mv (.tmp 2)⟩,
             ⟨(some 82), (some (80, true)), .mv (.tmp 2)⟩,
             ⟨(some 83), (some (80, true)), .call false (.cst (.func 49 [] [])) [.tmp 81, .tmp 82]⟩,
             ⟨(some 84), (some (80, true)), .lenS (.tmp 83)⟩,
             ⟨(some 85), (some (80, true)), .bin .eql (.tmp 84) (.cst (.int .i64 0))⟩,
             ⟨(some 86), none, .pick (.tmp 80) (.tmp 85) (.cst (.bool false))⟩,
             ⟨(some 8), none, .mv (.tmp 86)⟩])
           (.ret))))))))))⟩
/-- barrow/barrowlaw25.ViewStays -/
def a10 : AFun := ⟨105, [.tmp 2],
 .seq (.region [⟨(some 2), none, .mv (.cst (.bool false))⟩])
  (.seq (.region [⟨(some 11), none, .call false (.cst (.func 42 [] [])) []⟩,
     ⟨(some 3), none, .mv (.tmp 11)⟩])
   (.seq (.seq (.region [⟨(some 12), none, .mv (.tmp 0)⟩,
       ⟨(some 13), none, .lenS (.tmp 12)⟩,
       ⟨(some 14), none, .bin .gtr (.tmp 13) (.cst (.int .i64 60))⟩])
     (.cond (.tmp 14)
      (.seq (.region [⟨(some 15), none, .mv (.tmp 3)⟩,
         ⟨(some 2), none, .mv (.tmp 15)⟩])
       (.ret))
      (.skip)))
    (.seq (.region [⟨(some 16), none, .build [.int .i64 0, .slice none 0 none, .slice none 0 none, .bool false] []⟩,
       ⟨(some 4), none, .alloc [.int .i64 0, .slice none 0 none, .slice none 0 none, .bool false]⟩,
       ⟨none, none, .store 4 (.tmp 4) (.tmp 16)⟩])
     (.seq (.region [⟨(some 17), none, .build [.int .i64 0, .slice none 0 none, .slice none 0 none, .bool false] []⟩,
        ⟨(some 5), none, .alloc [.int .i64 0, .slice none 0 none, .slice none 0 none, .bool false]⟩,
        ⟨none, none, .store 4 (.tmp 5) (.tmp 17)⟩])
      (.seq (.seq (.region [⟨(some 6), none, .mv (.cst (.int .i64 0))⟩])
        (.block 0 (.loop (.seq (.seq (.region [⟨(some 18), none, .mv (.tmp 6)⟩,
              ⟨(some 19), none, .mv (.tmp 0)⟩,
              ⟨(some 20), none, .lenS (.tmp 19)⟩,
              ⟨(some 21), none, .bin .lss (.tmp 18) (.tmp 20)⟩])
            (.cond (.tmp 21)
             (.skip)
             (.exit 0)))
           (.seq (.block 1 (.seq (.seq (.region [⟨(some 24), none, .mv (.tmp 0)⟩,
                 ⟨(some 25), none, .mv (.tmp 6)⟩,
                 ⟨(some 26), none, .indexAddr 3 (.tmp 24) (.tmp 25)⟩,
                 ⟨(some 27), none, .fieldAddr 1 (.tmp 26)⟩,
                 ⟨(some 28), none, .load false 1 (.tmp 27)⟩,
                 ⟨(some 29), none, .lenS (.tmp 28)⟩,
                 ⟨(some 30), none, .bin .gtr (.tmp 29) (.cst (.int .i64 30))⟩,
                 ⟨(some 31), none, .mv (.tmp 30)⟩,
                 ⟨(some 32), (some (31, false)), .mv (.tmp 0)⟩,
                 ⟨(some 33), (some (31, false)), .mv (.tmp 6)⟩,
                 ⟨(some 34), (some (31, false)), .indexAddr 3 (.tmp 32) (.tmp 33)⟩,
                 ⟨(some 35), (some (31, false)), .fieldAddr 2 (.tmp 34)⟩,
                 ⟨(some 36), (some (31, false)), .load false 1 (.tmp 35)⟩,
                 ⟨(some 37), (some (31, false)), .lenStr (.tmp 36)⟩,
                 ⟨(some 38), (some (31, false)), .bin .gtr (.tmp 37) (.cst (.int .i64 100))⟩,
                 ⟨(some 39), none, .pick (.tmp 31) (.cst (.bool true)) (.tmp 38)⟩,
                 ⟨(some 40), none, .mv (.tmp 39)⟩,
                 ⟨(some 41), (some (40, false)), .mv (.tmp 0)⟩,
                 ⟨(some 42), (some (40, false)), .mv (.tmp 6)⟩,
                 ⟨(some 43), (some (40, false)), .indexAddr 3 (.tmp 41) (.tmp 42)⟩,
                 ⟨(some 44), (some (40, false)), .fieldAddr 0 (.tmp 43)⟩,
                 ⟨(some 45), (some (40, false)), .load false 1 (.tmp 44)⟩,
                 ⟨(some 46), (some (40, false)), .bin .eql (.tmp 45) (.cst (.int .i64 4))⟩,
                 ⟨(some 47), (some (40, false)), .mv (.tmp 46)⟩,
                 ⟨(some 48), (some (47, true)), .mv (.tmp 0)⟩,
                 ⟨(some 49), (some (47, true)), .mv (.tmp 6)⟩,
                 ⟨(some 50), (some (47, true)), .indexAddr 3 (.tmp 48) (.tmp 49)⟩,
                 ⟨(some 51), (some (47, true)), .fieldAddr 1 (.tmp 50)⟩,
                 ⟨(some 52), (some (47, true)), .load false 1 (.tmp 51)⟩,
                 ⟨(some 53), (some (47, true)), .lenS (.tmp 52)⟩,
                 ⟨(some 54), (some (47, true)), .bin .gtr (.tmp 53) (.cst (.int .i64 0))⟩,
                 ⟨(some 55), (some (40, false)), .pick (.tmp 47) (.tmp 54) (.cst (.bool false))⟩,
                 ⟨(some 56), (some (40, false)), .mv (.tmp 55)⟩,
                 ⟨(some 57), (some (56, true)), .mv (.tmp 0)⟩,
                 ⟨(some 58), (some (56, true)), .mv (.tmp 6)⟩,
                 ⟨(some 59), (some (56, true)), .indexAddr 3 (.tmp 57) (.tmp 58)⟩,
                 ⟨(some 60), (some (56, true)), .fieldAddr 1 (.tmp 59)⟩,
                 ⟨(some 61), (some (56, true)), .load false 1 (.tmp 60)⟩,
                 ⟨(some 62), (some (56, true)), .indexAddr 1 (.tmp 61) (.cst (.int .i64 0))⟩,
                 ⟨(some 63), (some (56, true)), .load false 1 (.tmp 62)⟩,
                 ⟨(some 64), (some (56, true)), .bin .lss (.tmp 63) (.cst (.int .i64 1))⟩,
                 ⟨(some 65), (some (40, false)), .pick (.tmp 56) (.tmp 64) (.cst (.bool false))⟩,
                 ⟨(some 66), none, .pick (.tmp 40) (.cst (.bool true)) (.tmp 65)⟩])
               (.cond (.tmp 66)
                (.seq (.region [⟨(some 67), none, .mv (.tmp 3)⟩,
                   ⟨(some 2), none, .mv (.tmp 67)⟩])
                 (.ret))
                (.skip)))
              (.seq (.dregion [⟨(some 68), none, .load true 4 (.tmp 4)⟩,
                 ⟨(some 69), none, .mv (.tmp 0)⟩,
                 ⟨(some 70), none, .mv (.tmp 6)⟩,
                 ⟨(some 71), none, .indexAddr 3 (.tmp 69) (.tmp 70)⟩,
                 ⟨(some 72), none, .load true 3 (.tmp 71)⟩,
                 ⟨(some 73), none, .call false (.cst (.func 50 [] [])) [.tmp 68, .tmp 72]⟩,
                 ⟨none, none, .store 4 (.tmp 4) (.tmp 73)⟩] [])
               (.seq (.region [⟨(some 75), none, .mv (.tmp 0)⟩,
                  ⟨(some 76), none, .mv (.tmp 6)⟩,
                  ⟨(some 77), none, .indexAddr 3 (.tmp 75) (.tmp 76)⟩,
                  ⟨(some 78), none, .load true 3 (.tmp 77)⟩,
                  ⟨(some 79), none, .call false (.cst (.func 16 [] [])) [.tmp 78]⟩,
                  ⟨(some 74), none, .mv (.tmp 79)⟩,
                  ⟨(some 80), none, .extract (.tmp 74) 0⟩,
                  ⟨(some 81), none, .extract (.tmp 74) 1⟩,
                  ⟨(some 7), none, .mv (.tmp 80)⟩,
                  ⟨(some 8), none, .mv (.tmp 81)⟩])
                (.seq (.seq (.region [⟨(some 82), none, .mv (.tmp 8)⟩,
                    ⟨(some 83), none, .bin .eql (.tmp 82) (.cst (.int .i64 0))⟩])
                  (.cond (.tmp 83)
                   (.seq (.region [⟨(some 85), none, .mv (.tmp 7)⟩,
                      ⟨(some 86), none, .call false (.cst (.func 13 [] [])) [.tmp 85]⟩,
                      ⟨(some 84), none, .mv (.tmp 86)⟩,
                      ⟨(some 87), none, .extract (.tmp 84) 0⟩,
                      ⟨(some 88), none, .extract (.tmp 84) 1⟩,
                      ⟨(some 9), none, .alloc [.int .i64 0, .slice none 0 none, .str []]⟩,
                      ⟨none, none, .store 3 (.tmp 9) (.tmp 87)⟩,
                      ⟨(some 10), none, .mv (.tmp 88)⟩])
                    (.seq (.seq (.region [⟨(some 89), none, .mv (.tmp 10)⟩,
                        ⟨(some 90), none, .bin .neq (.tmp 89) (.cst (.int .i64 0))⟩])
                      (.cond (.tmp 90)
                       (.seq (.region [⟨(some 2), none, .mv (.cst (.bool false))⟩])
                        (.ret))
                       (.skip)))
                     (.region [⟨(some 91), none, .load true 4 (.tmp 5)⟩,
                       ⟨(some 92), none, .load true 3 (.tmp 9)⟩,
                       ⟨(some 93), none, .call false (.cst (.func 50 [] [])) [.tmp 91, .tmp 92]⟩,
                       ⟨none, none, .store 4 (.tmp 5) (.tmp 93)⟩])))
                   (.skip)))
                 (.seq (.region [⟨(some 94), none, .fieldAddr 1 (.tmp 4)⟩,
                    ⟨(some 95), none, .load false 1 (.tmp 94)⟩,
                    ⟨(some 96), none, .call false (.cst (.func 45 [] [])) [.tmp 95]⟩,
                    ⟨(some 97), none, .un .not (.tmp 96)⟩,
                    ⟨(some 98), none, .mv (.tmp 97)⟩,
                    ⟨(some 99), (some (98, false)), .load true 4 (.tmp 5)⟩,
                    ⟨(some 100), (some (98, false)), .load true 4 (.tmp 4)⟩,
                    ⟨(some 101), (some (98, false)), .call false (.cst (.func 48 [] [])) [.tmp 99, .tmp 100]⟩,
                    ⟨(some 102), (some (98, false)), .un .not (.tmp 101)⟩,
                    ⟨(some 103), none, .pick (.tmp 98) (.cst (.bool true)) (.tmp 102)⟩])
                  (.cond (.tmp 103)
                   (.seq (.region [⟨(some 2), none, .mv (.cst (.bool false))⟩])
                    (.ret))
                   (.skip))))))))
            (.region [⟨(some 22), none, .mv (.tmp 6)⟩,
              ⟨(some 23), none, .bin .add (.tmp 22) (.cst (.int .i64 1))⟩,
              ⟨(some 6), none, .mv (.tmp 23)⟩]))))))
       (.seq (.region [⟨(some 104), none, .mv (.tmp 3)⟩,
          ⟨(some 2), none, .mv (.tmp 104)⟩])
        (.ret)))))))⟩
/-- barrow/barrowlaw12.small -/
def a11 : AFun := ⟨61, [.tmp 0],
 .seq (.region [⟨(some 0), none, .mv (.cst (.bool false))⟩])
  (.seq (.region [⟨(some 10), none, .bslice 1 3 [.int .i64 0] [(0, 1, (.cst (.int .i64 7))), (1, 1, (.cst (.int .i64 2))), (2, 1, (.cst (.int .i64 (-1))))]⟩,
     ⟨(some 11), none, .build [.int .i64 0, .slice none 0 none, .str []] [(0, 1, (.cst (.int .i64 6))), (1, 1, (.tmp 10))]⟩,
     ⟨(some 12), none, .call false (.cst (.func 16 [] [])) [.tmp 11]⟩,
     ⟨(some 9), none, .mv (.tmp 12)⟩,
     ⟨(some 13), none, .extract (.tmp 9) 0⟩,
     ⟨(some 14), none, .extract (.tmp 9) 1⟩,
     ⟨(some 1), none, .mv (.tmp 13)⟩,
     ⟨(some 2), none, .mv (.tmp 14)⟩])
   (.seq (.region [⟨(some 16), none, .bslice 1 1 [.int .u8 0] [(0, 1, (.cst (.int .u8 3)))]⟩,
      ⟨(some 17), none, .call false (.cst (.func 13 [] [])) [.tmp 16]⟩,
      ⟨(some 15), none, .mv (.tmp 17)⟩,
      ⟨(some 18), none, .extract (.tmp 15) 0⟩,
      ⟨(some 19), none, .extract (.tmp 15) 1⟩,
      ⟨(some 3), none, .alloc [.int .i64 0, .slice none 0 none, .str []]⟩,
      ⟨none, none, .store 3 (.tmp 3) (.tmp 18)⟩,
      ⟨(some 4), none, .mv (.tmp 19)⟩])
    (.seq (.region [⟨(some 21), none, .bslice 1 2 [.int .u8 0] [(0, 1, (.cst (.int .u8 3))), (1, 1, (.cst (.int .u8 97)))]⟩,
       ⟨(some 22), none, .call false (.cst (.func 13 [] [])) [.tmp 21]⟩,
       ⟨(some 20), none, .mv (.tmp 22)⟩,
       ⟨(some 23), none, .extract (.tmp 20) 0⟩,
       ⟨(some 24), none, .extract (.tmp 20) 1⟩,
       ⟨(some 5), none, .alloc [.int .i64 0, .slice none 0 none, .str []]⟩,
       ⟨none, none, .store 3 (.tmp 5) (.tmp 23)⟩,
       ⟨(some 6), none, .mv (.tmp 24)⟩])
     (.seq (.region [⟨(some 26), none, .call false (.cst (.func 51 [] [])) [.cst (.int .i64 4)]⟩,
        ⟨(some 25), none, .mv (.tmp 26)⟩,
        ⟨(some 27), none, .extract (.tmp 25) 0⟩,
        ⟨(some 28), none, .extract (.tmp 25) 1⟩,
        ⟨(some 7), none, .mv (.tmp 27)⟩,
        ⟨(some 8), none, .mv (.tmp 28)⟩])
      (.seq (.region [⟨(some 29), none, .mv (.tmp 2)⟩,
         ⟨(some 30), none, .bin .eql (.tmp 29) (.cst (.int .i64 0))⟩,
         ⟨(some 31), none, .mv (.tmp 30)⟩,
         ⟨(some 32), (some (31, true)), .mv (.tmp 1)⟩,
         ⟨(some 33), (some (31, true)), .b2s (.tmp 32)⟩,
         ⟨(some 34), (some (31, true)), .bin .eql (.tmp 33) (.cst (.str [6, 14, 4, 1]))⟩,
         ⟨(some 35), none, .pick (.tmp 31) (.tmp 34) (.cst (.bool false))⟩,
         ⟨(some 36), none, .mv (.tmp 35)⟩,
         ⟨(some 37), (some (36, true)), .mv (.tmp 4)⟩,
         ⟨(some 38), (some (36, true)), .bin .eql (.tmp 37) (.cst (.int .i64 0))⟩,
         ⟨(some 39), none, .pick (.tmp 36) (.tmp 38) (.cst (.bool false))⟩,
         ⟨(some 40), none, .mv (.tmp 39)⟩,
         ⟨(some 41), (some (40, true)), .fieldAddr 0 (.tmp 3)⟩,
         ⟨(some 42), (some (40, true)), .load false 1 (.tmp 41)⟩,
         ⟨(some 43), (some (40, true)), .bin .eql (.tmp 42) (.cst (.int .i64 3))⟩,
         ⟨(some 44), none, .pick (.tmp 40) (.tmp 43) (.cst (.bool false))⟩,
         ⟨(some 45), none, .mv (.tmp 44)⟩,
         ⟨(some 46), (some (45, true)), .mv (.tmp 6)⟩,
         ⟨(some 47), (some (45, true)), .bin .eql (.tmp 46) (.cst (.int .i64 2))⟩,
         ⟨(some 48), none, .pick (.tmp 45) (.tmp 47) (.cst (.bool false))⟩,
         ⟨(some 49), none, .mv (.tmp 48)⟩,
         ⟨(some 50), (some (49, true)), .mv (.tmp 7)⟩,
         ⟨(some 51), (some (49, true)), .bin .eql (.tmp 50) (.cst (.int .i64 10))⟩,
         ⟨(some 52), none, .pick (.tmp 49) (.tmp 51) (.cst (.bool false))⟩,
         ⟨(some 53), none, .mv (.tmp 52)⟩,
         ⟨(some 54), (some (53, true)), .mv (.tmp 8)⟩,
         ⟨(some 55), none, .pick (.tmp 53) (.tmp 54) (.cst (.bool false))⟩,
         ⟨(some 56), none, .mv (.tmp 55)⟩,
         ⟨(some 57), (some (56, true)), .load true 3 (.tmp 3)⟩,
         ⟨(some 58), (some (56, true)), .build [.int .i64 0, .slice none 0 none, .str []] [(0, 1, (.cst (.int .i64 3)))]⟩,
         ⟨(some 59), (some (56, true)), .call false (.cst (.func 19 [] [])) [.tmp 57, .tmp 58]⟩,
         ⟨(some 60), none, .pick (.tmp 56) (.tmp 59) (.cst (.bool false))⟩,
         ⟨(some 0), none, .mv (.tmp 60)⟩])
       (.ret))))))⟩
/-- barrow/barrowref12.Decode -/
def a12 : AFun := ⟨61, [.cell 2 true 3, .tmp 3],
 .seq (.region [⟨(some 2), none, .alloc [.int .i64 0, .slice none 0 none, .str []]⟩,
    ⟨(some 3), none, .mv (.cst (.int .i64 0))⟩])
  (.seq (.seq (.region [⟨(some 13), none, .mv (.tmp 0)⟩,
      ⟨(some 14), none, .lenS (.tmp 13)⟩,
      ⟨(some 15), none, .bin .eql (.tmp 14) (.cst (.int .i64 0))⟩])
    (.cond (.tmp 15)
     (.seq (.region [⟨(some 16), none, .build [.int .i64 0, .slice none 0 none, .str []] []⟩,
        ⟨none, none, .store 3 (.tmp 2) (.tmp 16)⟩,
        ⟨(some 3), none, .mv (.cst (.int .i64 2))⟩])
      (.ret))
     (.skip)))
   (.seq (.region [⟨(some 17), none, .mv (.tmp 0)⟩,
      ⟨(some 18), none, .indexAddr 1 (.tmp 17) (.cst (.int .i64 0))⟩,
      ⟨(some 19), none, .load false 1 (.tmp 18)⟩,
      ⟨(some 20), none, .convInt .i64 (.tmp 19)⟩,
      ⟨(some 21), none, .build [.int .i64 0, .slice none 0 none, .str []] [(0, 1, (.tmp 20))]⟩,
      ⟨(some 4), none, .alloc [.int .i64 0, .slice none 0 none, .str []]⟩,
      ⟨none, none, .store 3 (.tmp 4) (.tmp 21)⟩])
    (.seq (.region [⟨(some 23), none, .fieldAddr 0 (.tmp 4)⟩,
       ⟨(some 24), none, .load false 1 (.tmp 23)⟩,
       ⟨(some 25), none, .call false (.cst (.func 52 [] [])) [.tmp 24]⟩,
       ⟨(some 22), none, .mv (.tmp 25)⟩,
       ⟨(some 26), none, .extract (.tmp 22) 0⟩,
       ⟨(some 27), none, .extract (.tmp 22) 1⟩,
       ⟨(some 5), none, .mv (.tmp 26)⟩,
       ⟨(some 6), none, .mv (.tmp 27)⟩])
     (.seq (.region [⟨(some 7), none, .mv (.cst (.int .i64 1))⟩])
      (.seq (.seq (.region [⟨(some 8), none, .mv (.cst (.int .i64 0))⟩])
        (.block 0 (.loop (.seq (.seq (.region [⟨(some 28), none, .mv (.tmp 8)⟩,
              ⟨(some 29), none, .mv (.tmp 5)⟩,
              ⟨(some 30), none, .bin .lss (.tmp 28) (.tmp 29)⟩])
            (.cond (.tmp 30)
             (.skip)
             (.exit 0)))
           (.seq (.block 1 (.seq (.region [⟨(some 34), none, .mv (.tmp 0)⟩,
                ⟨(some 35), none, .mv (.tmp 7)⟩,
                ⟨(some 36), none, .call false (.cst (.func 53 [] [])) [.tmp 34, .tmp 35]⟩,
                ⟨(some 33), none, .mv (.tmp 36)⟩,
                ⟨(some 37), none, .extract (.tmp 33) 0⟩,
                ⟨(some 38), none, .extract (.tmp 33) 1⟩,
                ⟨(some 39), none, .extract (.tmp 33) 2⟩,
                ⟨(some 9), none, .mv (.tmp 37)⟩,
                ⟨(some 10), none, .mv (.tmp 38)⟩,
                ⟨(some 11), none, .mv (.tmp 39)⟩])
              (.seq (.seq (.region [⟨(some 40), none, .mv (.tmp 11)⟩,
                  ⟨(some 41), none, .bin .neq (.tmp 40) (.cst (.int .i64 0))⟩])
                (.cond (.tmp 41)
                 (.seq (.region [⟨(some 42), none, .build [.int .i64 0, .slice none 0 none, .str []] []⟩,
                    ⟨none, none, .store 3 (.tmp 2) (.tmp 42)⟩,
                    ⟨(some 3), none, .mv (.cst (.int .i64 2))⟩])
                  (.ret))
                 (.skip)))
               (.seq (.region [⟨(some 43), none, .fieldAddr 1 (.tmp 4)⟩,
                  ⟨(some 44), none, .load false 1 (.tmp 43)⟩,
                  ⟨(some 45), none, .mv (.tmp 9)⟩,
                  ⟨(some 46), none, .bslice 1 1 [.int .i64 0] [(0, 1, (.tmp 45))]⟩,
                  ⟨(some 47), none, .append 1 8 (.tmp 44) (.tmp 46)⟩,
                  ⟨(some 48), none, .fieldAddr 1 (.tmp 4)⟩,
                  ⟨none, none, .store 1 (.tmp 48) (.tmp 47)⟩])
                (.region [⟨(some 49), none, .mv (.tmp 10)⟩,
                  ⟨(some 7), none, .mv (.tmp 49)⟩])))))
            (.region [⟨(some 31), none, .mv (.tmp 8)⟩,
              ⟨(some 32), none, .bin .add (.tmp 31) (.cst (.int .i64 1))⟩,
              ⟨(some 8), none, .mv (.tmp 32)⟩]))))))
       (.seq (.region [⟨(some 50), none, .mv (.tmp 0)⟩,
          ⟨(some 51), none, .mv (.tmp 7)⟩,
          ⟨(some 52), none, .slice 1 (.tmp 50) (some (.tmp 51)) none none⟩,
          ⟨(some 53), none, .b2s (.tmp 52)⟩,
          ⟨(some 54), none, .fieldAddr 2 (.tmp 4)⟩,
          ⟨none, none, .store 1 (.tmp 54) (.tmp 53)⟩])
        (.seq (.region [⟨(some 55), none, .load true 3 (.tmp 4)⟩,
           ⟨(some 56), none, .call false (.cst (.func 54 [] [])) [.tmp 55]⟩,
           ⟨(some 12), none, .mv (.tmp 56)⟩])
         (.seq (.seq (.region [⟨(some 57), none, .mv (.tmp 12)⟩,
             ⟨(some 58), none, .un .not (.tmp 57)⟩])
           (.cond (.tmp 58)
            (.seq (.region [⟨(some 59), none, .build [.int .i64 0, .slice none 0 none, .str []] []⟩,
               ⟨none, none, .store 3 (.tmp 2) (.tmp 59)⟩,
               ⟨(some 3), none, .mv (.cst (.int .i64 2))⟩])
             (.ret))
            (.skip)))
          (.seq (.region [⟨(some 60), none, .load true 3 (.tmp 4)⟩,
             ⟨none, none, .store 3 (.tmp 2) (.tmp 60)⟩,
             ⟨(some 3), none, .mv (.cst (.int .i64 0))⟩])
           (.ret))))))))))⟩
/-- barrow/message.Decode -/
def a13 : AFun := ⟨57, [.cell 2 true 3, .tmp 3],
 .seq (.region [⟨(some 2), none, .alloc [.int .i64 0, .slice none 0 none, .str []]⟩,
    ⟨(some 3), none, .mv (.cst (.int .i64 0))⟩])
  (.seq (.seq (.region [⟨(some 11), none, .mv (.tmp 0)⟩,
      ⟨(some 12), none, .lenS (.tmp 11)⟩,
      ⟨(some 13), none, .bin .eql (.tmp 12) (.cst (.int .i64 0))⟩])
    (.cond (.tmp 13)
     (.seq (.region [⟨(some 14), none, .build [.int .i64 0, .slice none 0 none, .str []] []⟩,
        ⟨none, none, .store 3 (.tmp 2) (.tmp 14)⟩,
        ⟨(some 3), none, .mv (.cst (.int .i64 2))⟩])
      (.ret))
     (.skip)))
   (.seq (.region [⟨(some 15), none, .mv (.tmp 0)⟩,
      ⟨(some 16), none, .indexAddr 1 (.tmp 15) (.cst (.int .i64 0))⟩,
      ⟨(some 17), none, .load false 1 (.tmp 16)⟩,
      ⟨(some 18), none, .convInt .i64 (.tmp 17)⟩,
      ⟨(some 19), none, .build [.int .i64 0, .slice none 0 none, .str []] [(0, 1, (.tmp 18))]⟩,
      ⟨(some 4), none, .alloc [.int .i64 0, .slice none 0 none, .str []]⟩,
      ⟨none, none, .store 3 (.tmp 4) (.tmp 19)⟩])
    (.seq (.region [⟨(some 21), none, .fieldAddr 0 (.tmp 4)⟩,
       ⟨(some 22), none, .load false 1 (.tmp 21)⟩,
       ⟨(some 23), none, .call false (.cst (.func 51 [] [])) [.tmp 22]⟩,
       ⟨(some 20), none, .mv (.tmp 23)⟩,
       ⟨(some 24), none, .extract (.tmp 20) 0⟩,
       ⟨(some 25), none, .extract (.tmp 20) 1⟩,
       ⟨(some 5), none, .mv (.tmp 24)⟩,
       ⟨(some 6), none, .mv (.tmp 25)⟩])
     (.seq (.region [⟨(some 7), none, .mv (.cst (.int .i64 1))⟩])
      (.seq (.seq (.region [⟨(some 26), none, .mv (.tmp 5)⟩,
          ⟨(some 27), none, .mv (.cst (.int .i64 0))⟩])
        (rangeCode 0 1 27 26 28 46 (.seq (.region [⟨(some 30), none, .mv (.tmp 0)⟩,
                              ⟨(some 31), none, .mv (.tmp 7)⟩,
                              ⟨(some 32), none, .call false (.cst (.func 55 [] [])) [.tmp 30, .tmp 31]⟩,
                              ⟨(some 29), none, .mv (.tmp 32)⟩,
                              ⟨(some 33), none, .extract (.tmp 29) 0⟩,
                              ⟨(some 34), none, .extract (.tmp 29) 1⟩,
                              ⟨(some 35), none, .extract (.tmp 29) 2⟩,
                              ⟨(some 8), none, .mv (.tmp 33)⟩,
                              ⟨(some 9), none, .mv (.tmp 34)⟩,
                              ⟨(some 10), none, .mv (.tmp 35)⟩])
                            (.seq (.seq (.region [⟨(some 36), none, .mv (.tmp 10)⟩,
                                ⟨(some 37), none, .bin .neq (.tmp 36) (.cst (.int .i64 0))⟩])
                              (.cond (.tmp 37)
                               (.seq (.region [⟨(some 38), none, .build [.int .i64 0, .slice none 0 none, .str []] []⟩,
                                  ⟨none, none, .store 3 (.tmp 2) (.tmp 38)⟩,
                                  ⟨(some 3), none, .mv (.cst (.int .i64 2))⟩])
                                (.ret))
                               (.skip)))
                             (.region [⟨(some 39), none, .fieldAddr 1 (.tmp 4)⟩,
                               ⟨(some 40), none, .load false 1 (.tmp 39)⟩,
                               ⟨(some 41), none, .mv (.tmp 8)⟩,
                               ⟨(some 42), none, .bslice 1 1 [.int .i64 0] [(0, 1, (.tmp 41))]⟩,
                               ⟨(some 43), none, .append 1 8 (.tmp 40) (.tmp 42)⟩,
                               ⟨(some 44), none, .mv (.tmp 9)⟩,
                               ⟨(some 45), none, .fieldAddr 1 (.tmp 4)⟩,
                               ⟨none, none, .store 1 (.tmp 45) (.tmp 43)⟩,
                               ⟨(some 7), none, .mv (.tmp 44)⟩])))))
       (.seq (.region [⟨(some 47), none, .mv (.tmp 0)⟩,
          ⟨(some 48), none, .mv (.tmp 7)⟩,
          ⟨(some 49), none, .slice 1 (.tmp 47) (some (.tmp 48)) none none⟩,
          ⟨(some 50), none, .b2s (.tmp 49)⟩,
          ⟨(some 51), none, .fieldAddr 2 (.tmp 4)⟩,
          ⟨none, none, .store 1 (.tmp 51) (.tmp 50)⟩])
        (.seq (.seq (.region [⟨(some 52), none, .load true 3 (.tmp 4)⟩,
            ⟨(some 53), none, .call false (.cst (.func 17 [] [])) [.tmp 52]⟩,
            ⟨(some 54), none, .un .not (.tmp 53)⟩])
          (.cond (.tmp 54)
           (.seq (.region [⟨(some 55), none, .build [.int .i64 0, .slice none 0 none, .str []] []⟩,
              ⟨none, none, .store 3 (.tmp 2) (.tmp 55)⟩,
              ⟨(some 3), none, .mv (.cst (.int .i64 2))⟩])
            (.ret))
           (.skip)))
         (.seq (.region [⟨(some 56), none, .load true 3 (.tmp 4)⟩,
            ⟨none, none, .store 3 (.tmp 2) (.tmp 56)⟩,
            ⟨(some 3), none, .mv (.cst (.int .i64 0))⟩])
          (.ret)))))))))⟩
/-- barrow/barrowref12.Same -/
def a14 : AFun := ⟨45, [.tmp 4],
 .seq (.region [⟨(some 2), none, .box (.tmp 0)⟩,
    ⟨(some 3), none, .box (.tmp 1)⟩,
    ⟨(some 4), none, .mv (.cst (.bool false))⟩])
  (.seq (.seq (.region [⟨(some 6), none, .fieldAddr 0 (.tmp 2)⟩,
      ⟨(some 7), none, .load false 1 (.tmp 6)⟩,
      ⟨(some 8), none, .fieldAddr 0 (.tmp 3)⟩,
      ⟨(some 9), none, .load false 1 (.tmp 8)⟩,
      ⟨(some 10), none, .bin .neq (.tmp 7) (.tmp 9)⟩,
      ⟨(some 11), none, .mv (.tmp 10)⟩,
      ⟨(some 12), (some (11, false)), .fieldAddr 2 (.tmp 2)⟩,
      ⟨(some 13), (some (11, false)), .load false 1 (.tmp 12)⟩,
      ⟨(some 14), (some (11, false)), .fieldAddr 2 (.tmp 3)⟩,
      ⟨(some 15), (some (11, false)), .load false 1 (.tmp 14)⟩,
      ⟨(some 16), (some (11, false)), .bin .neq (.tmp 13) (.tmp 15)⟩,
      ⟨(some 17), none, .pick (.tmp 11) (.cst (.bool true)) (.tmp 16)⟩,
      ⟨(some 18), none, .mv (.tmp 17)⟩,
      ⟨(some 19), (some (18, false)), .fieldAddr 1 (.tmp 2)⟩,
      ⟨(some 20), (some (18, false)), .load false 1 (.tmp 19)⟩,
      ⟨(some 21), (some (18, false)), .lenS (.tmp 20)⟩,
      ⟨(some 22), (some (18, false)), .fieldAddr 1 (.tmp 3)⟩,
      ⟨(some 23), (some (18, false)), .load false 1 (.tmp 22)⟩,
      ⟨(some 24), (some (18, false)), .lenS (.tmp 23)⟩,
      ⟨(some 25), (some (18, false)), .bin .neq (.tmp 21) (.tmp 24)⟩,
      ⟨(some 26), none, .pick (.tmp 18) (.cst (.bool true)) (.tmp 25)⟩])
    (.cond (.tmp 26)
     (.seq (.region [⟨(some 4), none, .mv (.cst (.bool false))⟩])
      (.ret))
     (.skip)))
   (.seq (.seq (.region [⟨(some 5), none, .mv (.cst (.int .i64 0))⟩])
     (.block 0 (.loop (.seq (.seq (.region [⟨(some 27), none, .mv (.tmp 5)⟩,
           ⟨(some 28), none, .fieldAddr 1 (.tmp 2)⟩,
           ⟨(some 29), none, .load false 1 (.tmp 28)⟩,
           ⟨(some 30), none, .lenS (.tmp 29)⟩,
           ⟨(some 31), none, .bin .lss (.tmp 27) (.tmp 30)⟩])
         (.cond (.tmp 31)
          (.skip)
          (.exit 0)))
        (.seq (.block 1 (.seq (.dregion [⟨(some 34), none, .fieldAddr 1 (.tmp 2)⟩,
             ⟨(some 35), none, .load false 1 (.tmp 34)⟩,
             ⟨(some 36), none, .mv (.tmp 5)⟩,
             ⟨(some 37), none, .indexAddr 1 (.tmp 35) (.tmp 36)⟩,
             ⟨(some 38), none, .load false 1 (.tmp 37)⟩,
             ⟨(some 39), none, .fieldAddr 1 (.tmp 3)⟩,
             ⟨(some 40), none, .load false 1 (.tmp 39)⟩,
             ⟨(some 41), none, .mv (.tmp 5)⟩,
             ⟨(some 42), none, .indexAddr 1 (.tmp 40) (.tmp 41)⟩,
             ⟨(some 43), none, .load false 1 (.tmp 42)⟩,
             ⟨(some 44), none, .bin .neq (.tmp 38) (.tmp 43)⟩] [])
           (.cond (.tmp 44)
            (.seq (.region [⟨(some 4), none, .mv (.cst (.bool false))⟩])
             (.ret))
            (.skip))))
         (.region [⟨(some 32), none, .mv (.tmp 5)⟩,
           ⟨(some 33), none, .bin .add (.tmp 32) (.cst (.int .i64 1))⟩,
           ⟨(some 5), none, .mv (.tmp 33)⟩]))))))
    (.seq (.region [⟨(some 4), none, .mv (.cst (.bool true))⟩])
     (.ret))))⟩
/-- barrow/barrowlaw12.few -/
def a15 : AFun := ⟨13, [.tmp 2],
 .seq (.region [⟨(some 1), none, .box (.tmp 0)⟩,
    ⟨(some 2), none, .mv (.cst (.bool false))⟩])
  (.seq (.region [⟨(some 3), none, .fieldAddr 1 (.tmp 1)⟩,
     ⟨(some 4), none, .load false 1 (.tmp 3)⟩,
     ⟨(some 5), none, .lenS (.tmp 4)⟩,
     ⟨(some 6), none, .bin .leq (.tmp 5) (.cst (.int .i64 100))⟩,
     ⟨(some 7), none, .mv (.tmp 6)⟩,
     ⟨(some 8), (some (7, true)), .fieldAddr 2 (.tmp 1)⟩,
     ⟨(some 9), (some (7, true)), .load false 1 (.tmp 8)⟩,
     ⟨(some 10), (some (7, true)), .lenStr (.tmp 9)⟩,
     ⟨(some 11), (some (7, true)), .bin .leq (.tmp 10) (.cst (.int .i64 1024))⟩,
     ⟨(some 12), none, .pick (.tmp 7) (.tmp 11) (.cst (.bool false))⟩,
     ⟨(some 2), none, .mv (.tmp 12)⟩])
   (.ret))⟩
/-- barrow/message.Encode -/
def a16 : AFun := ⟨29, [.tmp 2, .tmp 3],
 .seq (.region [⟨(some 1), none, .box (.tmp 0)⟩,
    ⟨(some 2), none, .mv (.cst (.slice none 0 none))⟩,
    ⟨(some 3), none, .mv (.cst (.int .i64 0))⟩])
  (.seq (.seq (.region [⟨(some 7), none, .load true 3 (.tmp 1)⟩,
      ⟨(some 8), none, .call false (.cst (.func 17 [] [])) [.tmp 7]⟩,
      ⟨(some 9), none, .un .not (.tmp 8)⟩])
    (.cond (.tmp 9)
     (.seq (.region [⟨(some 2), none, .mv (.cst (.slice none 0 none))⟩,
        ⟨(some 3), none, .mv (.cst (.int .i64 1))⟩])
      (.ret))
     (.skip)))
   (.seq (.region [⟨(some 10), none, .fieldAddr 0 (.tmp 1)⟩,
      ⟨(some 11), none, .load false 1 (.tmp 10)⟩,
      ⟨(some 12), none, .convInt .u8 (.tmp 11)⟩,
      ⟨(some 13), none, .bslice 1 1 [.int .u8 0] [(0, 1, (.tmp 12))]⟩,
      ⟨(some 4), none, .mv (.tmp 13)⟩])
    (.seq (.seq (.region [⟨(some 14), none, .fieldAddr 1 (.tmp 1)⟩,
        ⟨(some 15), none, .load false 1 (.tmp 14)⟩,
        ⟨(some 16), none, .lenS (.tmp 15)⟩,
        ⟨(some 17), none, .mv (.cst (.int .i64 0))⟩])
      (rangeCode 0 1 17 16 18 24 (.seq (.region [⟨(some 19), none, .indexAddr 1 (.tmp 15) (.tmp 17)⟩,
                    ⟨(some 20), none, .load false 1 (.tmp 19)⟩,
                    ⟨(some 6), none, .mv (.tmp 20)⟩])
                  (.region [⟨(some 21), none, .mv (.tmp 4)⟩,
                    ⟨(some 22), none, .mv (.tmp 6)⟩,
                    ⟨(some 23), none, .call false (.cst (.func 56 [] [])) [.tmp 21, .tmp 22]⟩,
                    ⟨(some 4), none, .mv (.tmp 23)⟩]))))
     (.seq (.region [⟨(some 25), none, .mv (.tmp 4)⟩,
        ⟨(some 26), none, .fieldAddr 2 (.tmp 1)⟩,
        ⟨(some 27), none, .load false 1 (.tmp 26)⟩,
        ⟨(some 28), none, .append 1 1 (.tmp 25) (.tmp 27)⟩,
        ⟨(some 2), none, .mv (.tmp 28)⟩,
        ⟨(some 3), none, .mv (.cst (.int .i64 0))⟩])
      (.ret)))))⟩
/-- barrow/message.Right -/
def a17 : AFun := ⟨33, [.tmp 2],
 .seq (.region [⟨(some 1), none, .box (.tmp 0)⟩,
    ⟨(some 2), none, .mv (.cst (.bool false))⟩])
  (.seq (.region [⟨(some 6), none, .fieldAddr 0 (.tmp 1)⟩,
     ⟨(some 7), none, .load false 1 (.tmp 6)⟩,
     ⟨(some 8), none, .call false (.cst (.func 51 [] [])) [.tmp 7]⟩,
     ⟨(some 5), none, .mv (.tmp 8)⟩,
     ⟨(some 9), none, .extract (.tmp 5) 0⟩,
     ⟨(some 10), none, .extract (.tmp 5) 1⟩,
     ⟨(some 3), none, .mv (.tmp 9)⟩,
     ⟨(some 4), none, .mv (.tmp 10)⟩])
   (.seq (.seq (.region [⟨(some 11), none, .mv (.tmp 4)⟩,
       ⟨(some 12), none, .un .not (.tmp 11)⟩,
       ⟨(some 13), none, .mv (.tmp 12)⟩,
       ⟨(some 14), (some (13, false)), .fieldAddr 1 (.tmp 1)⟩,
       ⟨(some 15), (some (13, false)), .load false 1 (.tmp 14)⟩,
       ⟨(some 16), (some (13, false)), .lenS (.tmp 15)⟩,
       ⟨(some 17), (some (13, false)), .mv (.tmp 3)⟩,
       ⟨(some 18), (some (13, false)), .bin .neq (.tmp 16) (.tmp 17)⟩,
       ⟨(some 19), none, .pick (.tmp 13) (.cst (.bool true)) (.tmp 18)⟩])
     (.cond (.tmp 19)
      (.seq (.region [⟨(some 2), none, .mv (.cst (.bool false))⟩])
       (.ret))
      (.skip)))
    (.seq (.region [⟨(some 20), none, .fieldAddr 2 (.tmp 1)⟩,
       ⟨(some 21), none, .load false 1 (.tmp 20)⟩,
       ⟨(some 22), none, .bin .eql (.tmp 21) (.cst (.str []))⟩,
       ⟨(some 23), none, .mv (.tmp 22)⟩,
       ⟨(some 24), (some (23, false)), .fieldAddr 0 (.tmp 1)⟩,
       ⟨(some 25), (some (23, false)), .load false 1 (.tmp 24)⟩,
       ⟨(some 26), (some (23, false)), .bin .eql (.tmp 25) (.cst (.int .i64 4))⟩,
       ⟨(some 27), (some (23, false)), .mv (.tmp 26)⟩,
       ⟨(some 28), (some (27, true)), .fieldAddr 2 (.tmp 1)⟩,
       ⟨(some 29), (some (27, true)), .load false 1 (.tmp 28)⟩,
       ⟨(some 30), (some (27, true)), .call false (.cst (.func 37 [] [])) [.tmp 29]⟩,
       ⟨(some 31), (some (23, false)), .pick (.tmp 27) (.tmp 30) (.cst (.bool false))⟩,
       ⟨(some 32), none, .pick (.tmp 23) (.cst (.bool true)) (.tmp 31)⟩,
       ⟨(some 2), none, .mv (.tmp 32)⟩])
     (.ret))))⟩
/-- barrow/frame.Wrap -/
def a18 : AFun := ⟨12, [.tmp 2, .tmp 3],
 .seq (.region [⟨(some 2), none, .mv (.cst (.slice none 0 none))⟩,
    ⟨(some 3), none, .mv (.cst (.int .i64 0))⟩])
  (.seq (.seq (.region [⟨(some 4), none, .mv (.tmp 0)⟩,
      ⟨(some 5), none, .lenS (.tmp 4)⟩,
      ⟨(some 6), none, .bin .gtr (.tmp 5) (.cst (.int .i64 4096))⟩])
    (.cond (.tmp 6)
     (.seq (.region [⟨(some 2), none, .mv (.cst (.slice none 0 none))⟩,
        ⟨(some 3), none, .mv (.cst (.int .i64 3))⟩])
      (.ret))
     (.skip)))
   (.seq (.region [⟨(some 7), none, .mv (.tmp 0)⟩,
      ⟨(some 8), none, .lenS (.tmp 7)⟩,
      ⟨(some 9), none, .call false (.cst (.func 57 [] [])) [.cst (.slice none 0 none), .tmp 8]⟩,
      ⟨(some 10), none, .mv (.tmp 0)⟩,
      ⟨(some 11), none, .append 1 1 (.tmp 9) (.tmp 10)⟩,
      ⟨(some 2), none, .mv (.tmp 11)⟩,
      ⟨(some 3), none, .mv (.cst (.int .i64 0))⟩])
    (.ret)))⟩
/-- barrow/message.Same -/
def a19 : AFun := ⟨24, [.tmp 4],
 .seq (.region [⟨(some 2), none, .box (.tmp 0)⟩,
    ⟨(some 3), none, .box (.tmp 1)⟩,
    ⟨(some 4), none, .mv (.cst (.bool false))⟩])
  (.seq (.region [⟨(some 5), none, .fieldAddr 0 (.tmp 2)⟩,
     ⟨(some 6), none, .load false 1 (.tmp 5)⟩,
     ⟨(some 7), none, .fieldAddr 0 (.tmp 3)⟩,
     ⟨(some 8), none, .load false 1 (.tmp 7)⟩,
     ⟨(some 9), none, .bin .eql (.tmp 6) (.tmp 8)⟩,
     ⟨(some 10), none, .mv (.tmp 9)⟩,
     ⟨(some 11), (some (10, true)), .fieldAddr 2 (.tmp 2)⟩,
     ⟨(some 12), (some (10, true)), .load false 1 (.tmp 11)⟩,
     ⟨(some 13), (some (10, true)), .fieldAddr 2 (.tmp 3)⟩,
     ⟨(some 14), (some (10, true)), .load false 1 (.tmp 13)⟩,
     ⟨(some 15), (some (10, true)), .bin .eql (.tmp 12) (.tmp 14)⟩,
     ⟨(some 16), none, .pick (.tmp 10) (.tmp 15) (.cst (.bool false))⟩,
     ⟨(some 17), none, .mv (.tmp 16)⟩,
     ⟨(some 18), (some (17, true)), .fieldAddr 1 (.tmp 2)⟩,
     ⟨(some 19), (some (17, true)), .load false 1 (.tmp 18)⟩,
     ⟨(some 20), (some (17, true)), .fieldAddr 1 (.tmp 3)⟩,
     ⟨(some 21), (some (17, true)), .load false 1 (.tmp 20)⟩,
     ⟨(some 22), (some (17, true)), .call false (.cst (.func 58 [] [])) [.tmp 19, .tmp 21]⟩,
     ⟨(some 23), none, .pick (.tmp 17) (.tmp 22) (.cst (.bool false))⟩,
     ⟨(some 4), none, .mv (.tmp 23)⟩])
   (.ret))⟩
/-- barrow/barrowlaw37.small -/
def a20 : AFun := ⟨94, [.tmp 0],
 .seq (.region [⟨(some 0), none, .mv (.cst (.bool false))⟩])
  (.seq (.region [⟨(some 12), none, .call false (.cst (.func 22 [] [])) [.cst (.slice none 0 none), .cst (.str [98]), .cst (.int .i64 2), .cst (.int .i64 10)]⟩,
     ⟨(some 11), none, .mv (.tmp 12)⟩,
     ⟨(some 13), none, .extract (.tmp 11) 0⟩,
     ⟨(some 14), none, .extract (.tmp 11) 1⟩,
     ⟨(some 1), none, .mv (.tmp 13)⟩,
     ⟨(some 2), none, .mv (.tmp 14)⟩])
   (.seq (.region [⟨(some 16), none, .mv (.tmp 1)⟩,
      ⟨(some 17), none, .call false (.cst (.func 22 [] [])) [.tmp 16, .cst (.str [97]), .cst (.int .i64 3), .cst (.int .i64 5)]⟩,
      ⟨(some 15), none, .mv (.tmp 17)⟩,
      ⟨(some 18), none, .extract (.tmp 15) 0⟩,
      ⟨(some 19), none, .extract (.tmp 15) 1⟩,
      ⟨(some 3), none, .mv (.tmp 18)⟩,
      ⟨(some 4), none, .mv (.tmp 19)⟩])
    (.seq (.region [⟨(some 21), none, .mv (.tmp 3)⟩,
       ⟨(some 22), none, .call false (.cst (.func 22 [] [])) [.tmp 21, .cst (.str [98]), .cst (.int .i64 2), .cst (.int .i64 7)]⟩,
       ⟨(some 20), none, .mv (.tmp 22)⟩,
       ⟨(some 23), none, .extract (.tmp 20) 0⟩,
       ⟨(some 24), none, .extract (.tmp 20) 1⟩,
       ⟨(some 5), none, .mv (.tmp 23)⟩,
       ⟨(some 6), none, .mv (.tmp 24)⟩])
     (.seq (.region [⟨(some 26), none, .mv (.tmp 5)⟩,
        ⟨(some 27), none, .call false (.cst (.func 24 [] [])) [.tmp 26, .cst (.str [98]), .cst (.int .i64 2), .cst (.int .i64 9)]⟩,
        ⟨(some 25), none, .mv (.tmp 27)⟩,
        ⟨(some 28), none, .extract (.tmp 25) 0⟩,
        ⟨(some 29), none, .extract (.tmp 25) 1⟩,
        ⟨(some 7), none, .mv (.tmp 28)⟩,
        ⟨(some 8), none, .mv (.tmp 29)⟩])
      (.seq (.region [⟨(some 31), none, .mv (.tmp 5)⟩,
         ⟨(some 32), none, .call false (.cst (.func 24 [] [])) [.tmp 31, .cst (.str [98]), .cst (.int .i64 2), .cst (.int .i64 10)]⟩,
         ⟨(some 30), none, .mv (.tmp 32)⟩,
         ⟨(some 33), none, .extract (.tmp 30) 0⟩,
         ⟨(some 34), none, .extract (.tmp 30) 1⟩,
         ⟨(some 9), none, .mv (.tmp 33)⟩,
         ⟨(some 10), none, .mv (.tmp 34)⟩])
       (.seq (.region [⟨(some 35), none, .mv (.tmp 2)⟩,
          ⟨(some 36), none, .bin .eql (.tmp 35) (.cst (.int .i64 0))⟩,
          ⟨(some 37), none, .mv (.tmp 36)⟩,
          ⟨(some 38), (some (37, true)), .mv (.tmp 4)⟩,
          ⟨(some 39), (some (37, true)), .bin .eql (.tmp 38) (.cst (.int .i64 0))⟩,
          ⟨(some 40), none, .pick (.tmp 37) (.tmp 39) (.cst (.bool false))⟩,
          ⟨(some 41), none, .mv (.tmp 40)⟩,
          ⟨(some 42), (some (41, true)), .mv (.tmp 6)⟩,
          ⟨(some 43), (some (41, true)), .bin .eql (.tmp 42) (.cst (.int .i64 0))⟩,
          ⟨(some 44), none, .pick (.tmp 41) (.tmp 43) (.cst (.bool false))⟩,
          ⟨(some 45), none, .mv (.tmp 44)⟩,
          ⟨(some 46), (some (45, true)), .mv (.tmp 5)⟩,
          ⟨(some 47), (some (45, true)), .build [.str [], .int .i64 0, .int .i64 0] [(0, 1, (.cst (.str [97]))), (1, 1, (.cst (.int .i64 3))), (2, 1, (.cst (.int .i64 5)))]⟩,
          ⟨(some 48), (some (45, true)), .build [.str [], .int .i64 0, .int .i64 0] [(0, 1, (.cst (.str [98]))), (1, 1, (.cst (.int .i64 2))), (2, 1, (.cst (.int .i64 10)))]⟩,
          ⟨(some 49), (some (45, true)), .bslice 3 2 [.str [], .int .i64 0, .int .i64 0] [(0, 3, (.tmp 47)), (3, 3, (.tmp 48))]⟩,
          ⟨(some 50), (some (45, true)), .call false (.cst (.func 27 [] [])) [.tmp 46, .tmp 49]⟩,
          ⟨(some 51), none, .pick (.tmp 45) (.tmp 50) (.cst (.bool false))⟩,
          ⟨(some 52), none, .mv (.tmp 51)⟩,
          ⟨(some 53), (some (52, true)), .mv (.tmp 7)⟩,
          ⟨(some 54), (some (52, true)), .bin .eql (.tmp 53) (.cst (.int .i64 10))⟩,
          ⟨(some 55), none, .pick (.tmp 52) (.tmp 54) (.cst (.bool false))⟩,
          ⟨(some 56), none, .mv (.tmp 55)⟩,
          ⟨(some 57), (some (56, true)), .mv (.tmp 8)⟩,
          ⟨(some 58), none, .pick (.tmp 56) (.tmp 57) (.cst (.bool false))⟩,
          ⟨(some 59), none, .mv (.tmp 58)⟩,
          ⟨(some 60), (some (59, true)), .mv (.tmp 10)⟩,
          ⟨(some 61), (some (59, true)), .un .not (.tmp 60)⟩,
          ⟨(some 62), none, .pick (.tmp 59) (.tmp 61) (.cst (.bool false))⟩,
          ⟨(some 63), none, .mv (.tmp 62)⟩,
          ⟨(some 64), (some (63, true)), .call false (.cst (.func 40 [] [])) [.cst (.int .i64 10), .cst (.int .i64 7), .cst (.int .i64 2)]⟩,
          ⟨(some 65), (some (63, true)), .bin .eql (.tmp 64) (.cst (.int .i64 16))⟩,
          ⟨(some 66), none, .pick (.tmp 63) (.tmp 65) (.cst (.bool false))⟩,
          ⟨(some 67), none, .mv (.tmp 66)⟩,
          ⟨(some 68), (some (67, true)), .call false (.cst (.func 40 [] [])) [.cst (.int .i64 16), .cst (.int .i64 7), .cst (.int .i64 2)]⟩,
          ⟨(some 69), (some (67, true)), .bin .eql (.tmp 68) (.cst (.int .i64 23))⟩,
          ⟨(some 70), none, .pick (.tmp 67) (.tmp 69) (.cst (.bool false))⟩,
          ⟨(some 71), none, .mv (.tmp 70)⟩,
          ⟨(some 72), (some (71, true)), .mv (.tmp 5)⟩,
          ⟨(some 73), (some (71, true)), .call false (.cst (.func 26 [] [])) [.tmp 72, .cst (.int .i64 5)]⟩,
          ⟨(some 74), (some (71, true)), .lenS (.tmp 73)⟩,
          ⟨(some 75), (some (71, true)), .bin .eql (.tmp 74) (.cst (.int .i64 1))⟩,
          ⟨(some 76), none, .pick (.tmp 71) (.tmp 75) (.cst (.bool false))⟩,
          ⟨(some 77), none, .mv (.tmp 76)⟩,
          ⟨(some 78), (some (77, true)), .mv (.tmp 5)⟩,
          ⟨(some 79), (some (77, true)), .call false (.cst (.func 32 [] [])) [.tmp 78, .cst (.str [97]), .cst (.int .i64 4)]⟩,
          ⟨(some 80), (some (77, true)), .bslice 1 1 [.int .i64 0] [(0, 1, (.cst (.int .i64 3)))]⟩,
          ⟨(some 81), (some (77, true)), .call false (.cst (.func 31 [] [])) [.tmp 79, .tmp 80]⟩,
          ⟨(some 82), none, .pick (.tmp 77) (.tmp 81) (.cst (.bool false))⟩,
          ⟨(some 83), none, .mv (.tmp 82)⟩,
          ⟨(some 84), (some (83, true)), .mv (.tmp 5)⟩,
          ⟨(some 85), (some (83, true)), .bslice 1 3 [.str []] [(0, 1, (.cst (.str [97]))), (1, 1, (.cst (.str [98]))), (2, 1, (.cst (.str [99])))]⟩,
          ⟨(some 86), (some (83, true)), .call false (.cst (.func 35 [] [])) [.tmp 84, .tmp 85, .cst (.int .i64 2), .cst (.int .i64 9)]⟩,
          ⟨(some 87), (some (83, true)), .bslice 1 2 [.str []] [(0, 1, (.cst (.str [97]))), (1, 1, (.cst (.str [99])))]⟩,
          ⟨(some 88), (some (83, true)), .call false (.cst (.func 34 [] [])) [.tmp 86, .tmp 87]⟩,
          ⟨(some 89), none, .pick (.tmp 83) (.tmp 88) (.cst (.bool false))⟩,
          ⟨(some 90), none, .mv (.tmp 89)⟩,
          ⟨(some 91), (some (90, true)), .mv (.tmp 5)⟩,
          ⟨(some 92), (some (90, true)), .call false (.cst (.func 29 [] [])) [.tmp 91]⟩,
          ⟨(some 93), none, .pick (.tmp 90) (.tmp 92) (.cst (.bool false))⟩,
          ⟨(some 0), none, .mv (.tmp 93)⟩])
        (.ret)))))))⟩
/-- barrow/barrowlaw37.few -/
def a21 : AFun := ⟨24, [.tmp 2],
 .seq (.region [⟨(some 2), none, .mv (.cst (.bool false))⟩])
  (.seq (.seq (.region [⟨(some 3), none, .mv (.cst (.int .i64 0))⟩])
    (.block 0 (.loop (.seq (.seq (.region [⟨(some 4), none, .mv (.tmp 3)⟩,
          ⟨(some 5), none, .mv (.tmp 0)⟩,
          ⟨(some 6), none, .lenS (.tmp 5)⟩,
          ⟨(some 7), none, .bin .lss (.tmp 4) (.tmp 6)⟩,
          ⟨(some 8), none, .mv (.tmp 7)⟩,
          ⟨(some 9), (some (8, true)), .mv (.tmp 3)⟩,
          ⟨(some 10), (some (8, true)), .bin .lss (.tmp 9) (.cst (.int .i64 300))⟩,
          ⟨(some 11), none, .pick (.tmp 8) (.tmp 10) (.cst (.bool false))⟩])
        (.cond (.tmp 11)
         (.skip)
         (.exit 0)))
       (.seq (.block 1 (.seq (.region [⟨(some 14), none, .mv (.tmp 0)⟩,
            ⟨(some 15), none, .mv (.tmp 3)⟩,
            ⟨(some 16), none, .indexAddr 3 (.tmp 14) (.tmp 15)⟩,
            ⟨(some 17), none, .fieldAddr 0 (.tmp 16)⟩,
            ⟨(some 18), none, .load false 1 (.tmp 17)⟩,
            ⟨(some 19), none, .lenStr (.tmp 18)⟩,
            ⟨(some 20), none, .bin .gtr (.tmp 19) (.cst (.int .i64 100))⟩])
          (.cond (.tmp 20)
           (.seq (.region [⟨(some 2), none, .mv (.cst (.bool false))⟩])
            (.ret))
           (.skip))))
        (.region [⟨(some 12), none, .mv (.tmp 3)⟩,
          ⟨(some 13), none, .bin .add (.tmp 12) (.cst (.int .i64 1))⟩,
          ⟨(some 3), none, .mv (.tmp 13)⟩]))))))
   (.seq (.region [⟨(some 21), none, .mv (.tmp 0)⟩,
      ⟨(some 22), none, .lenS (.tmp 21)⟩,
      ⟨(some 23), none, .bin .leq (.tmp 22) (.cst (.int .i64 250))⟩,
      ⟨(some 2), none, .mv (.tmp 23)⟩])
    (.ret)))⟩
/-- barrow/lock.Add -/
def a22 : AFun := ⟨61, [.tmp 8, .tmp 9],
 .seq (.region [⟨(some 8), none, .mv (.cst (.slice none 0 none))⟩,
    ⟨(some 9), none, .mv (.cst (.int .i64 0))⟩])
  (.seq (.seq (.region [⟨(some 14), none, .mv (.tmp 0)⟩,
      ⟨(some 15), none, .call false (.cst (.func 29 [] [])) [.tmp 14]⟩,
      ⟨(some 16), none, .un .not (.tmp 15)⟩,
      ⟨(some 17), none, .mv (.tmp 16)⟩,
      ⟨(some 18), (some (17, false)), .mv (.tmp 1)⟩,
      ⟨(some 19), (some (17, false)), .call false (.cst (.func 37 [] [])) [.tmp 18]⟩,
      ⟨(some 20), (some (17, false)), .un .not (.tmp 19)⟩,
      ⟨(some 21), none, .pick (.tmp 17) (.cst (.bool true)) (.tmp 20)⟩,
      ⟨(some 22), none, .mv (.tmp 21)⟩,
      ⟨(some 23), (some (22, false)), .mv (.tmp 2)⟩,
      ⟨(some 24), (some (22, false)), .bin .lss (.tmp 23) (.cst (.int .i64 1))⟩,
      ⟨(some 25), none, .pick (.tmp 22) (.cst (.bool true)) (.tmp 24)⟩])
    (.cond (.tmp 25)
     (.seq (.region [⟨(some 8), none, .mv (.cst (.slice none 0 none))⟩,
        ⟨(some 9), none, .mv (.cst (.int .i64 1))⟩])
      (.ret))
     (.skip)))
   (.seq (.region [⟨(some 26), none, .mv (.tmp 0)⟩,
      ⟨(some 27), none, .call false (.cst (.func 59 [] [])) [.tmp 26]⟩,
      ⟨(some 10), none, .mv (.tmp 27)⟩])
    (.seq (.region [⟨(some 28), none, .mv (.tmp 1)⟩,
       ⟨(some 29), none, .mv (.tmp 2)⟩,
       ⟨(some 30), none, .mv (.tmp 3)⟩,
       ⟨(some 31), none, .build [.str [], .int .i64 0, .int .i64 0] [(0, 1, (.tmp 28)), (1, 1, (.tmp 29)), (2, 1, (.tmp 30))]⟩,
       ⟨(some 11), none, .alloc [.str [], .int .i64 0, .int .i64 0]⟩,
       ⟨none, none, .store 3 (.tmp 11) (.tmp 31)⟩])
     (.seq (.region [⟨(some 33), none, .mv (.tmp 10)⟩,
        ⟨(some 34), none, .load true 3 (.tmp 11)⟩,
        ⟨(some 35), none, .call false (.cst (.func 60 [] [])) [.tmp 33, .tmp 34, .cst (.func 61 [] [])]⟩,
        ⟨(some 32), none, .mv (.tmp 35)⟩,
        ⟨(some 36), none, .extract (.tmp 32) 0⟩,
        ⟨(some 37), none, .extract (.tmp 32) 1⟩,
        ⟨(some 12), none, .mv (.tmp 36)⟩,
        ⟨(some 13), none, .mv (.tmp 37)⟩])
      (.seq (.block 0 (.seq (.region [⟨(some 39), none, .mv (.tmp 13)⟩,
           ⟨(some 38), none, .mv (.tmp 39)⟩])
         (.cond (.tmp 38)
          (.seq (.region [⟨(some 40), none, .mv (.tmp 10)⟩,
             ⟨(some 41), none, .mv (.tmp 12)⟩,
             ⟨(some 42), none, .mv (.tmp 10)⟩,
             ⟨(some 43), none, .mv (.tmp 12)⟩,
             ⟨(some 44), none, .indexAddr 3 (.tmp 42) (.tmp 43)⟩,
             ⟨(some 45), none, .fieldAddr 2 (.tmp 44)⟩,
             ⟨(some 46), none, .load false 1 (.tmp 45)⟩,
             ⟨(some 47), none, .mv (.tmp 3)⟩,
             ⟨(some 48), none, .minmax true (.tmp 46) [.tmp 47]⟩,
             ⟨(some 49), none, .indexAddr 3 (.tmp 40) (.tmp 41)⟩,
             ⟨(some 50), none, .fieldAddr 2 (.tmp 49)⟩,
             ⟨none, none, .store 1 (.tmp 50) (.tmp 48)⟩])
           (.seq (.region [⟨(some 51), none, .mv (.tmp 10)⟩,
              ⟨(some 8), none, .mv (.tmp 51)⟩,
              ⟨(some 9), none, .mv (.cst (.int .i64 0))⟩])
            (.ret)))
          (.seq (.region [⟨(some 53), none, .mv (.tmp 10)⟩,
             ⟨(some 54), none, .lenS (.tmp 53)⟩,
             ⟨(some 55), none, .bin .geq (.tmp 54) (.cst (.int .i64 200))⟩,
             ⟨(some 52), none, .mv (.tmp 55)⟩])
           (.cond (.tmp 52)
            (.seq (.region [⟨(some 8), none, .mv (.cst (.slice none 0 none))⟩,
               ⟨(some 9), none, .mv (.cst (.int .i64 4))⟩])
             (.ret))
            (.skip))))))
       (.seq (.region [⟨(some 56), none, .mv (.tmp 10)⟩,
          ⟨(some 57), none, .mv (.tmp 12)⟩,
          ⟨(some 58), none, .load true 3 (.tmp 11)⟩,
          ⟨(some 59), none, .bslice 3 1 [.str [], .int .i64 0, .int .i64 0] [(0, 3, (.tmp 58))]⟩,
          ⟨(some 60), none, .call false (.cst (.func 62 [] [])) [.tmp 56, .tmp 57, .tmp 59]⟩,
          ⟨(some 8), none, .mv (.tmp 60)⟩,
          ⟨(some 9), none, .mv (.cst (.int .i64 0))⟩])
        (.ret)))))))⟩
end Go.Proofs.Qq.Qqd

