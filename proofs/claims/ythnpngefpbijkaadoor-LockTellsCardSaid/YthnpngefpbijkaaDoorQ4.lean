/-
  Part of the proof: the abstract machine, its soundness, contracts of functions.
-/
import Derived.Test.YthnpngefpbijkaaDoorQ1
import Derived.Test.YthnpngefpbijkaaDoorQ3
set_option linter.all false
/- PRINTED BY A PROGRAM (seat.py): the resolved code of functions. -/
namespace Go.Proofs.Qq.Qqd
open Go.Proofs.Qq
/-- barrow/barrowref37.Add -/
def a23 : AFun := ⟨88, [.tmp 8, .tmp 9],
 .seq (.region [⟨(some 8), none, .mv (.cst (.slice none 0 none))⟩,
    ⟨(some 9), none, .mv (.cst (.int .i64 0))⟩])
  (.seq (.region [⟨(some 15), none, .mv (.tmp 0)⟩,
     ⟨(some 16), none, .call false (.cst (.func 30 [] [])) [.tmp 15]⟩,
     ⟨(some 10), none, .mv (.tmp 16)⟩])
   (.seq (.region [⟨(some 17), none, .mv (.tmp 1)⟩,
      ⟨(some 18), none, .call false (.cst (.func 63 [] [])) [.tmp 17]⟩,
      ⟨(some 11), none, .mv (.tmp 18)⟩])
    (.seq (.seq (.region [⟨(some 19), none, .mv (.tmp 10)⟩,
        ⟨(some 20), none, .un .not (.tmp 19)⟩,
        ⟨(some 21), none, .mv (.tmp 20)⟩,
        ⟨(some 22), (some (21, false)), .mv (.tmp 11)⟩,
        ⟨(some 23), (some (21, false)), .un .not (.tmp 22)⟩,
        ⟨(some 24), none, .pick (.tmp 21) (.cst (.bool true)) (.tmp 23)⟩,
        ⟨(some 25), none, .mv (.tmp 24)⟩,
        ⟨(some 26), (some (25, false)), .mv (.tmp 2)⟩,
        ⟨(some 27), (some (25, false)), .bin .lss (.tmp 26) (.cst (.int .i64 1))⟩,
        ⟨(some 28), none, .pick (.tmp 25) (.cst (.bool true)) (.tmp 27)⟩])
      (.cond (.tmp 28)
       (.seq (.region [⟨(some 8), none, .mv (.cst (.slice none 0 none))⟩,
          ⟨(some 9), none, .mv (.cst (.int .i64 1))⟩])
        (.ret))
       (.skip)))
     (.seq (.region [⟨(some 29), none, .mv (.tmp 1)⟩,
        ⟨(some 30), none, .mv (.tmp 2)⟩,
        ⟨(some 31), none, .mv (.tmp 3)⟩,
        ⟨(some 32), none, .build [.str [], .int .i64 0, .int .i64 0] [(0, 1, (.tmp 29)), (1, 1, (.tmp 30)), (2, 1, (.tmp 31))]⟩,
        ⟨(some 12), none, .alloc [.str [], .int .i64 0, .int .i64 0]⟩,
        ⟨none, none, .store 3 (.tmp 12) (.tmp 32)⟩])
      (.seq (.region [⟨(some 13), none, .mv (.cst (.int .i64 0))⟩])
       (.seq (.block 0 (.loop (.seq (.seq (.dregion [⟨(some 33), none, .mv (.tmp 13)⟩,
              ⟨(some 34), none, .mv (.tmp 0)⟩,
              ⟨(some 35), none, .lenS (.tmp 34)⟩,
              ⟨(some 36), none, .bin .lss (.tmp 33) (.tmp 35)⟩,
              ⟨(some 37), none, .mv (.tmp 36)⟩,
              ⟨(some 38), (some (37, true)), .mv (.tmp 0)⟩,
              ⟨(some 39), (some (37, true)), .mv (.tmp 13)⟩,
              ⟨(some 40), (some (37, true)), .indexAddr 3 (.tmp 38) (.tmp 39)⟩,
              ⟨(some 41), (some (37, true)), .load true 3 (.tmp 40)⟩,
              ⟨(some 42), (some (37, true)), .load true 3 (.tmp 12)⟩,
              ⟨(some 43), (some (37, true)), .call false (.cst (.func 64 [] [])) [.tmp 41, .tmp 42]⟩,
              ⟨(some 44), none, .pick (.tmp 37) (.tmp 43) (.cst (.bool false))⟩] [])
            (.cond (.tmp 44)
             (.skip)
             (.exit 0)))
           (.block 1 (.region [⟨(some 45), none, .mv (.tmp 13)⟩,
              ⟨(some 46), none, .bin .add (.tmp 45) (.cst (.int .i64 1))⟩,
              ⟨(some 13), none, .mv (.tmp 46)⟩])))))
        (.seq (.region [⟨(some 47), none, .mv (.tmp 0)⟩,
           ⟨(some 48), none, .call false (.cst (.func 65 [] [])) [.tmp 47]⟩,
           ⟨(some 14), none, .mv (.tmp 48)⟩])
         (.seq (.seq (.dregion [⟨(some 49), none, .mv (.tmp 13)⟩,
             ⟨(some 50), none, .mv (.tmp 0)⟩,
             ⟨(some 51), none, .lenS (.tmp 50)⟩,
             ⟨(some 52), none, .bin .lss (.tmp 49) (.tmp 51)⟩,
             ⟨(some 53), none, .mv (.tmp 52)⟩,
             ⟨(some 54), (some (53, true)), .load true 3 (.tmp 12)⟩,
             ⟨(some 55), (some (53, true)), .mv (.tmp 0)⟩,
             ⟨(some 56), (some (53, true)), .mv (.tmp 13)⟩,
             ⟨(some 57), (some (53, true)), .indexAddr 3 (.tmp 55) (.tmp 56)⟩,
             ⟨(some 58), (some (53, true)), .load true 3 (.tmp 57)⟩,
             ⟨(some 59), (some (53, true)), .call false (.cst (.func 64 [] [])) [.tmp 54, .tmp 58]⟩,
             ⟨(some 60), (some (53, true)), .un .not (.tmp 59)⟩,
             ⟨(some 61), none, .pick (.tmp 53) (.tmp 60) (.cst (.bool false))⟩] [])
           (.cond (.tmp 61)
            (.seq (.region [⟨(some 62), none, .mv (.tmp 14)⟩,
               ⟨(some 63), none, .mv (.tmp 13)⟩,
               ⟨(some 64), none, .mv (.tmp 0)⟩,
               ⟨(some 65), none, .mv (.tmp 13)⟩,
               ⟨(some 66), none, .indexAddr 3 (.tmp 64) (.tmp 65)⟩,
               ⟨(some 67), none, .fieldAddr 2 (.tmp 66)⟩,
               ⟨(some 68), none, .load false 1 (.tmp 67)⟩,
               ⟨(some 69), none, .mv (.tmp 3)⟩,
               ⟨(some 70), none, .minmax true (.tmp 68) [.tmp 69]⟩,
               ⟨(some 71), none, .indexAddr 3 (.tmp 62) (.tmp 63)⟩,
               ⟨(some 72), none, .fieldAddr 2 (.tmp 71)⟩,
               ⟨none, none, .store 1 (.tmp 72) (.tmp 70)⟩])
             (.seq (.region [⟨(some 73), none, .mv (.tmp 14)⟩,
                ⟨(some 8), none, .mv (.tmp 73)⟩,
                ⟨(some 9), none, .mv (.cst (.int .i64 0))⟩])
              (.ret)))
            (.skip)))
          (.seq (.seq (.region [⟨(some 74), none, .mv (.tmp 0)⟩,
              ⟨(some 75), none, .lenS (.tmp 74)⟩,
              ⟨(some 76), none, .bin .geq (.tmp 75) (.cst (.int .i64 200))⟩])
            (.cond (.tmp 76)
             (.seq (.region [⟨(some 8), none, .mv (.cst (.slice none 0 none))⟩,
                ⟨(some 9), none, .mv (.cst (.int .i64 4))⟩])
              (.ret))
             (.skip)))
           (.seq (.dregion [⟨(some 77), none, .mv (.tmp 0)⟩,
              ⟨(some 78), none, .mv (.tmp 13)⟩,
              ⟨(some 79), none, .slice 3 (.tmp 77) none (some (.tmp 78)) none⟩,
              ⟨(some 80), none, .call true (.cst (.func 65 [] [])) [.tmp 79]⟩,
              ⟨(some 81), none, .load true 3 (.tmp 12)⟩,
              ⟨(some 82), none, .bslice 3 1 [.str [], .int .i64 0, .int .i64 0] [(0, 3, (.tmp 81))]⟩,
              ⟨(some 83), none, .append 3 32 (.tmp 80) (.tmp 82)⟩,
              ⟨(some 84), none, .mv (.tmp 0)⟩,
              ⟨(some 85), none, .mv (.tmp 13)⟩,
              ⟨(some 86), none, .slice 3 (.tmp 84) (some (.tmp 85)) none none⟩,
              ⟨(some 87), none, .append 3 32 (.tmp 83) (.tmp 86)⟩,
              ⟨(some 8), none, .mv (.tmp 87)⟩,
              ⟨(some 9), none, .mv (.cst (.int .i64 0))⟩] [])
            (.ret)))))))))))⟩
/-- barrow/lock.Until -/
def a24 : AFun := ⟨30, [.tmp 8, .tmp 9],
 .seq (.region [⟨(some 5), none, .box (.tmp 1)⟩,
    ⟨(some 6), none, .box (.tmp 2)⟩,
    ⟨(some 8), none, .mv (.cst (.int .i64 0))⟩,
    ⟨(some 9), none, .mv (.cst (.bool false))⟩])
  (.seq (.region [⟨(some 11), none, .mv (.tmp 0)⟩,
     ⟨(some 12), none, .mkfn 67 [] [.tmp 5, .tmp 6]⟩,
     ⟨(some 13), none, .call false (.cst (.func 66 [] [])) [.tmp 11, .tmp 12]⟩,
     ⟨(some 10), none, .mv (.tmp 13)⟩])
   (.seq (.seq (.region [⟨(some 14), none, .mv (.tmp 10)⟩,
       ⟨(some 15), none, .bin .lss (.tmp 14) (.cst (.int .i64 0))⟩,
       ⟨(some 16), none, .mv (.tmp 15)⟩,
       ⟨(some 17), (some (16, false)), .mv (.tmp 0)⟩,
       ⟨(some 18), (some (16, false)), .mv (.tmp 10)⟩,
       ⟨(some 19), (some (16, false)), .indexAddr 3 (.tmp 17) (.tmp 18)⟩,
       ⟨(some 20), (some (16, false)), .fieldAddr 2 (.tmp 19)⟩,
       ⟨(some 21), (some (16, false)), .load false 1 (.tmp 20)⟩,
       ⟨(some 22), (some (16, false)), .mv (.tmp 3)⟩,
       ⟨(some 23), (some (16, false)), .bin .leq (.tmp 21) (.tmp 22)⟩,
       ⟨(some 24), none, .pick (.tmp 16) (.cst (.bool true)) (.tmp 23)⟩])
     (.cond (.tmp 24)
      (.seq (.region [⟨(some 8), none, .mv (.cst (.int .i64 0))⟩,
         ⟨(some 9), none, .mv (.cst (.bool false))⟩])
       (.ret))
      (.skip)))
    (.seq (.region [⟨(some 25), none, .mv (.tmp 0)⟩,
       ⟨(some 26), none, .mv (.tmp 10)⟩,
       ⟨(some 27), none, .indexAddr 3 (.tmp 25) (.tmp 26)⟩,
       ⟨(some 28), none, .fieldAddr 2 (.tmp 27)⟩,
       ⟨(some 29), none, .load false 1 (.tmp 28)⟩,
       ⟨(some 8), none, .mv (.tmp 29)⟩,
       ⟨(some 9), none, .mv (.cst (.bool true))⟩])
     (.ret))))⟩
/-- barrow/barrowref37.Until -/
def a25 : AFun := ⟨45, [.tmp 8, .tmp 9],
 .seq (.region [⟨(some 8), none, .mv (.cst (.int .i64 0))⟩,
    ⟨(some 9), none, .mv (.cst (.bool false))⟩])
  (.seq (.seq (.region [⟨(some 10), none, .mv (.cst (.int .i64 0))⟩])
    (.block 0 (.loop (.seq (.seq (.region [⟨(some 11), none, .mv (.tmp 10)⟩,
          ⟨(some 12), none, .mv (.tmp 0)⟩,
          ⟨(some 13), none, .lenS (.tmp 12)⟩,
          ⟨(some 14), none, .bin .lss (.tmp 11) (.tmp 13)⟩])
        (.cond (.tmp 14)
         (.skip)
         (.exit 0)))
       (.seq (.block 1 (.seq (.region [⟨(some 17), none, .mv (.tmp 0)⟩,
            ⟨(some 18), none, .mv (.tmp 10)⟩,
            ⟨(some 19), none, .indexAddr 3 (.tmp 17) (.tmp 18)⟩,
            ⟨(some 20), none, .fieldAddr 0 (.tmp 19)⟩,
            ⟨(some 21), none, .load false 1 (.tmp 20)⟩,
            ⟨(some 22), none, .mv (.tmp 1)⟩,
            ⟨(some 23), none, .bin .eql (.tmp 21) (.tmp 22)⟩,
            ⟨(some 24), none, .mv (.tmp 23)⟩,
            ⟨(some 25), (some (24, true)), .mv (.tmp 0)⟩,
            ⟨(some 26), (some (24, true)), .mv (.tmp 10)⟩,
            ⟨(some 27), (some (24, true)), .indexAddr 3 (.tmp 25) (.tmp 26)⟩,
            ⟨(some 28), (some (24, true)), .fieldAddr 1 (.tmp 27)⟩,
            ⟨(some 29), (some (24, true)), .load false 1 (.tmp 28)⟩,
            ⟨(some 30), (some (24, true)), .mv (.tmp 2)⟩,
            ⟨(some 31), (some (24, true)), .bin .eql (.tmp 29) (.tmp 30)⟩,
            ⟨(some 32), none, .pick (.tmp 24) (.tmp 31) (.cst (.bool false))⟩])
          (.cond (.tmp 32)
           (.seq (.seq (.region [⟨(some 33), none, .mv (.tmp 0)⟩,
               ⟨(some 34), none, .mv (.tmp 10)⟩,
               ⟨(some 35), none, .indexAddr 3 (.tmp 33) (.tmp 34)⟩,
               ⟨(some 36), none, .fieldAddr 2 (.tmp 35)⟩,
               ⟨(some 37), none, .load false 1 (.tmp 36)⟩,
               ⟨(some 38), none, .mv (.tmp 3)⟩,
               ⟨(some 39), none, .bin .gtr (.tmp 37) (.tmp 38)⟩])
             (.cond (.tmp 39)
              (.seq (.region [⟨(some 40), none, .mv (.tmp 0)⟩,
                 ⟨(some 41), none, .mv (.tmp 10)⟩,
                 ⟨(some 42), none, .indexAddr 3 (.tmp 40) (.tmp 41)⟩,
                 ⟨(some 43), none, .fieldAddr 2 (.tmp 42)⟩,
                 ⟨(some 44), none, .load false 1 (.tmp 43)⟩,
                 ⟨(some 8), none, .mv (.tmp 44)⟩,
                 ⟨(some 9), none, .mv (.cst (.bool true))⟩])
               (.ret))
              (.skip)))
            (.seq (.region [⟨(some 8), none, .mv (.cst (.int .i64 0))⟩,
               ⟨(some 9), none, .mv (.cst (.bool false))⟩])
             (.ret)))
           (.skip))))
        (.region [⟨(some 15), none, .mv (.tmp 10)⟩,
          ⟨(some 16), none, .bin .add (.tmp 15) (.cst (.int .i64 1))⟩,
          ⟨(some 10), none, .mv (.tmp 16)⟩]))))))
   (.seq (.region [⟨(some 8), none, .mv (.cst (.int .i64 0))⟩,
      ⟨(some 9), none, .mv (.cst (.bool false))⟩])
    (.ret)))⟩
/-- barrow/lock.Clean -/
def a26 : AFun := ⟨9, [.tmp 4],
 .seq (.region [⟨(some 3), none, .box (.tmp 1)⟩,
    ⟨(some 4), none, .mv (.cst (.slice none 0 none))⟩])
  (.seq (.region [⟨(some 5), none, .mv (.tmp 0)⟩,
     ⟨(some 6), none, .call false (.cst (.func 59 [] [])) [.tmp 5]⟩,
     ⟨(some 7), none, .mkfn 69 [] [.tmp 3]⟩,
     ⟨(some 8), none, .call false (.cst (.func 68 [] [])) [.tmp 6, .tmp 7]⟩,
     ⟨(some 4), none, .mv (.tmp 8)⟩])
   (.ret))⟩
/-- barrow/barrowref37.Same -/
def a27 : AFun := ⟨26, [.tmp 4],
 .seq (.region [⟨(some 4), none, .mv (.cst (.bool false))⟩])
  (.seq (.seq (.region [⟨(some 6), none, .mv (.tmp 0)⟩,
      ⟨(some 7), none, .lenS (.tmp 6)⟩,
      ⟨(some 8), none, .mv (.tmp 1)⟩,
      ⟨(some 9), none, .lenS (.tmp 8)⟩,
      ⟨(some 10), none, .bin .neq (.tmp 7) (.tmp 9)⟩])
    (.cond (.tmp 10)
     (.seq (.region [⟨(some 4), none, .mv (.cst (.bool false))⟩])
      (.ret))
     (.skip)))
   (.seq (.seq (.region [⟨(some 5), none, .mv (.cst (.int .i64 0))⟩])
     (.block 0 (.loop (.seq (.seq (.region [⟨(some 11), none, .mv (.tmp 5)⟩,
           ⟨(some 12), none, .mv (.tmp 0)⟩,
           ⟨(some 13), none, .lenS (.tmp 12)⟩,
           ⟨(some 14), none, .bin .lss (.tmp 11) (.tmp 13)⟩])
         (.cond (.tmp 14)
          (.skip)
          (.exit 0)))
        (.seq (.block 1 (.seq (.dregion [⟨(some 17), none, .mv (.tmp 0)⟩,
             ⟨(some 18), none, .mv (.tmp 5)⟩,
             ⟨(some 19), none, .indexAddr 3 (.tmp 17) (.tmp 18)⟩,
             ⟨(some 20), none, .load true 3 (.tmp 19)⟩,
             ⟨(some 21), none, .mv (.tmp 1)⟩,
             ⟨(some 22), none, .mv (.tmp 5)⟩,
             ⟨(some 23), none, .indexAddr 3 (.tmp 21) (.tmp 22)⟩,
             ⟨(some 24), none, .load true 3 (.tmp 23)⟩,
             ⟨(some 25), none, .eq true (.agg [.str, .int, .int]) (.tmp 20) (.tmp 24)⟩] [])
           (.cond (.tmp 25)
            (.seq (.region [⟨(some 4), none, .mv (.cst (.bool false))⟩])
             (.ret))
            (.skip))))
         (.region [⟨(some 15), none, .mv (.tmp 5)⟩,
           ⟨(some 16), none, .bin .add (.tmp 15) (.cst (.int .i64 1))⟩,
           ⟨(some 5), none, .mv (.tmp 16)⟩]))))))
    (.seq (.region [⟨(some 4), none, .mv (.cst (.bool true))⟩])
     (.ret))))⟩
/-- barrow/barrowref37.Clean -/
def a28 : AFun := ⟨28, [.tmp 4],
 .seq (.region [⟨(some 4), none, .mv (.cst (.slice none 0 none))⟩])
  (.seq (.region [⟨(some 5), none, .mv (.cst (.slice none 0 none))⟩])
   (.seq (.seq (.region [⟨(some 6), none, .mv (.cst (.int .i64 0))⟩])
     (.block 0 (.loop (.seq (.seq (.region [⟨(some 7), none, .mv (.tmp 6)⟩,
           ⟨(some 8), none, .mv (.tmp 0)⟩,
           ⟨(some 9), none, .lenS (.tmp 8)⟩,
           ⟨(some 10), none, .bin .lss (.tmp 7) (.tmp 9)⟩])
         (.cond (.tmp 10)
          (.skip)
          (.exit 0)))
        (.seq (.block 1 (.seq (.region [⟨(some 13), none, .mv (.tmp 0)⟩,
             ⟨(some 14), none, .mv (.tmp 6)⟩,
             ⟨(some 15), none, .indexAddr 3 (.tmp 13) (.tmp 14)⟩,
             ⟨(some 16), none, .fieldAddr 2 (.tmp 15)⟩,
             ⟨(some 17), none, .load false 1 (.tmp 16)⟩,
             ⟨(some 18), none, .mv (.tmp 1)⟩,
             ⟨(some 19), none, .bin .gtr (.tmp 17) (.tmp 18)⟩])
           (.cond (.tmp 19)
            (.region [⟨(some 20), none, .mv (.tmp 5)⟩,
              ⟨(some 21), none, .mv (.tmp 0)⟩,
              ⟨(some 22), none, .mv (.tmp 6)⟩,
              ⟨(some 23), none, .indexAddr 3 (.tmp 21) (.tmp 22)⟩,
              ⟨(some 24), none, .load true 3 (.tmp 23)⟩,
              ⟨(some 25), none, .bslice 3 1 [.str [], .int .i64 0, .int .i64 0] [(0, 3, (.tmp 24))]⟩,
              ⟨(some 26), none, .append 3 32 (.tmp 20) (.tmp 25)⟩,
              ⟨(some 5), none, .mv (.tmp 26)⟩])
            (.skip))))
         (.region [⟨(some 11), none, .mv (.tmp 6)⟩,
           ⟨(some 12), none, .bin .add (.tmp 11) (.cst (.int .i64 1))⟩,
           ⟨(some 6), none, .mv (.tmp 12)⟩]))))))
    (.seq (.region [⟨(some 27), none, .mv (.tmp 5)⟩,
       ⟨(some 4), none, .mv (.tmp 27)⟩])
     (.ret))))⟩
/-- barrow/lock.Right -/
def a29 : AFun := ⟨39, [.tmp 2],
 .seq (.region [⟨(some 2), none, .mv (.cst (.bool false))⟩])
  (.seq (.seq (.region [⟨(some 5), none, .mv (.tmp 0)⟩,
      ⟨(some 6), none, .lenS (.tmp 5)⟩,
      ⟨(some 7), none, .mv (.cst (.int .i64 0))⟩])
    (rangeCode 0 1 7 6 8 35 (.seq (.region [⟨(some 9), none, .mv (.tmp 7)⟩,
          ⟨(some 10), none, .indexAddr 3 (.tmp 5) (.tmp 7)⟩,
          ⟨(some 11), none, .load true 3 (.tmp 10)⟩,
          ⟨(some 4), none, .alloc [.str [], .int .i64 0, .int .i64 0]⟩,
          ⟨(some 3), none, .mv (.tmp 9)⟩,
          ⟨none, none, .store 3 (.tmp 4) (.tmp 11)⟩])
        (.seq (.dregion [⟨(some 12), none, .fieldAddr 0 (.tmp 4)⟩,
           ⟨(some 13), none, .load false 1 (.tmp 12)⟩,
           ⟨(some 14), none, .call false (.cst (.func 37 [] [])) [.tmp 13]⟩,
           ⟨(some 15), none, .un .not (.tmp 14)⟩,
           ⟨(some 16), none, .mv (.tmp 15)⟩,
           ⟨(some 17), (some (16, false)), .fieldAddr 1 (.tmp 4)⟩,
           ⟨(some 18), (some (16, false)), .load false 1 (.tmp 17)⟩,
           ⟨(some 19), (some (16, false)), .bin .lss (.tmp 18) (.cst (.int .i64 1))⟩,
           ⟨(some 20), none, .pick (.tmp 16) (.cst (.bool true)) (.tmp 19)⟩,
           ⟨(some 21), none, .mv (.tmp 20)⟩,
           ⟨(some 22), (some (21, false)), .mv (.tmp 3)⟩,
           ⟨(some 23), (some (21, false)), .bin .gtr (.tmp 22) (.cst (.int .i64 0))⟩,
           ⟨(some 24), (some (21, false)), .mv (.tmp 23)⟩,
           ⟨(some 25), (some (24, true)), .mv (.tmp 0)⟩,
           ⟨(some 26), (some (24, true)), .mv (.tmp 3)⟩,
           ⟨(some 27), (some (24, true)), .bin .sub (.tmp 26) (.cst (.int .i64 1))⟩,
           ⟨(some 28), (some (24, true)), .indexAddr 3 (.tmp 25) (.tmp 27)⟩,
           ⟨(some 29), (some (24, true)), .load true 3 (.tmp 28)⟩,
           ⟨(some 30), (some (24, true)), .load true 3 (.tmp 4)⟩,
           ⟨(some 31), (some (24, true)), .call false (.cst (.func 61 [] [])) [.tmp 29, .tmp 30]⟩,
           ⟨(some 32), (some (24, true)), .bin .geq (.tmp 31) (.cst (.int .i64 0))⟩,
           ⟨(some 33), (some (21, false)), .pick (.tmp 24) (.tmp 32) (.cst (.bool false))⟩,
           ⟨(some 34), none, .pick (.tmp 21) (.cst (.bool true)) (.tmp 33)⟩] [])
         (.cond (.tmp 34)
          (.seq (.region [⟨(some 2), none, .mv (.cst (.bool false))⟩])
           (.ret))
          (.skip))))))
   (.seq (.region [⟨(some 36), none, .mv (.tmp 0)⟩,
      ⟨(some 37), none, .lenS (.tmp 36)⟩,
      ⟨(some 38), none, .bin .leq (.tmp 37) (.cst (.int .i64 200))⟩,
      ⟨(some 2), none, .mv (.tmp 38)⟩])
    (.ret)))⟩
/-- barrow/barrowref37.Right -/
def a30 : AFun := ⟨47, [.tmp 2],
 .seq (.region [⟨(some 2), none, .mv (.cst (.bool false))⟩])
  (.seq (.seq (.region [⟨(some 3), none, .mv (.cst (.int .i64 0))⟩])
    (.block 0 (.loop (.seq (.seq (.region [⟨(some 5), none, .mv (.tmp 3)⟩,
          ⟨(some 6), none, .mv (.tmp 0)⟩,
          ⟨(some 7), none, .lenS (.tmp 6)⟩,
          ⟨(some 8), none, .bin .lss (.tmp 5) (.tmp 7)⟩])
        (.cond (.tmp 8)
         (.skip)
         (.exit 0)))
       (.seq (.block 1 (.seq (.region [⟨(some 11), none, .mv (.tmp 0)⟩,
            ⟨(some 12), none, .mv (.tmp 3)⟩,
            ⟨(some 13), none, .indexAddr 3 (.tmp 11) (.tmp 12)⟩,
            ⟨(some 14), none, .fieldAddr 0 (.tmp 13)⟩,
            ⟨(some 15), none, .load false 1 (.tmp 14)⟩,
            ⟨(some 16), none, .call false (.cst (.func 63 [] [])) [.tmp 15]⟩,
            ⟨(some 4), none, .mv (.tmp 16)⟩])
          (.seq (.dregion [⟨(some 17), none, .mv (.tmp 4)⟩,
             ⟨(some 18), none, .un .not (.tmp 17)⟩,
             ⟨(some 19), none, .mv (.tmp 18)⟩,
             ⟨(some 20), (some (19, false)), .mv (.tmp 0)⟩,
             ⟨(some 21), (some (19, false)), .mv (.tmp 3)⟩,
             ⟨(some 22), (some (19, false)), .indexAddr 3 (.tmp 20) (.tmp 21)⟩,
             ⟨(some 23), (some (19, false)), .fieldAddr 1 (.tmp 22)⟩,
             ⟨(some 24), (some (19, false)), .load false 1 (.tmp 23)⟩,
             ⟨(some 25), (some (19, false)), .bin .lss (.tmp 24) (.cst (.int .i64 1))⟩,
             ⟨(some 26), none, .pick (.tmp 19) (.cst (.bool true)) (.tmp 25)⟩,
             ⟨(some 27), none, .mv (.tmp 26)⟩,
             ⟨(some 28), (some (27, false)), .mv (.tmp 3)⟩,
             ⟨(some 29), (some (27, false)), .bin .gtr (.tmp 28) (.cst (.int .i64 0))⟩,
             ⟨(some 30), (some (27, false)), .mv (.tmp 29)⟩,
             ⟨(some 31), (some (30, true)), .mv (.tmp 0)⟩,
             ⟨(some 32), (some (30, true)), .mv (.tmp 3)⟩,
             ⟨(some 33), (some (30, true)), .bin .sub (.tmp 32) (.cst (.int .i64 1))⟩,
             ⟨(some 34), (some (30, true)), .indexAddr 3 (.tmp 31) (.tmp 33)⟩,
             ⟨(some 35), (some (30, true)), .load true 3 (.tmp 34)⟩,
             ⟨(some 36), (some (30, true)), .mv (.tmp 0)⟩,
             ⟨(some 37), (some (30, true)), .mv (.tmp 3)⟩,
             ⟨(some 38), (some (30, true)), .indexAddr 3 (.tmp 36) (.tmp 37)⟩,
             ⟨(some 39), (some (30, true)), .load true 3 (.tmp 38)⟩,
             ⟨(some 40), (some (30, true)), .call false (.cst (.func 64 [] [])) [.tmp 35, .tmp 39]⟩,
             ⟨(some 41), (some (30, true)), .un .not (.tmp 40)⟩,
             ⟨(some 42), (some (27, false)), .pick (.tmp 30) (.tmp 41) (.cst (.bool false))⟩,
             ⟨(some 43), none, .pick (.tmp 27) (.cst (.bool true)) (.tmp 42)⟩] [])
           (.cond (.tmp 43)
            (.seq (.region [⟨(some 2), none, .mv (.cst (.bool false))⟩])
             (.ret))
            (.skip)))))
        (.region [⟨(some 9), none, .mv (.tmp 3)⟩,
          ⟨(some 10), none, .bin .add (.tmp 9) (.cst (.int .i64 1))⟩,
          ⟨(some 3), none, .mv (.tmp 10)⟩]))))))
   (.seq (.region [⟨(some 44), none, .mv (.tmp 0)⟩,
      ⟨(some 45), none, .lenS (.tmp 44)⟩,
      ⟨(some 46), none, .bin .leq (.tmp 45) (.cst (.int .i64 200))⟩,
      ⟨(some 2), none, .mv (.tmp 46)⟩])
    (.ret)))⟩
/-- barrow/barrowref02.Same -/
def a31 : AFun := ⟨26, [.tmp 4],
 .seq (.region [⟨(some 4), none, .mv (.cst (.bool false))⟩])
  (.seq (.seq (.region [⟨(some 6), none, .mv (.tmp 0)⟩,
      ⟨(some 7), none, .lenS (.tmp 6)⟩,
      ⟨(some 8), none, .mv (.tmp 1)⟩,
      ⟨(some 9), none, .lenS (.tmp 8)⟩,
      ⟨(some 10), none, .bin .neq (.tmp 7) (.tmp 9)⟩])
    (.cond (.tmp 10)
     (.seq (.region [⟨(some 4), none, .mv (.cst (.bool false))⟩])
      (.ret))
     (.skip)))
   (.seq (.seq (.region [⟨(some 5), none, .mv (.cst (.int .i64 0))⟩])
     (.block 0 (.loop (.seq (.seq (.region [⟨(some 11), none, .mv (.tmp 5)⟩,
           ⟨(some 12), none, .mv (.tmp 0)⟩,
           ⟨(some 13), none, .lenS (.tmp 12)⟩,
           ⟨(some 14), none, .bin .lss (.tmp 11) (.tmp 13)⟩])
         (.cond (.tmp 14)
          (.skip)
          (.exit 0)))
        (.seq (.block 1 (.seq (.dregion [⟨(some 17), none, .mv (.tmp 0)⟩,
             ⟨(some 18), none, .mv (.tmp 5)⟩,
             ⟨(some 19), none, .indexAddr 1 (.tmp 17) (.tmp 18)⟩,
             ⟨(some 20), none, .load false 1 (.tmp 19)⟩,
             ⟨(some 21), none, .mv (.tmp 1)⟩,
             ⟨(some 22), none, .mv (.tmp 5)⟩,
             ⟨(some 23), none, .indexAddr 1 (.tmp 21) (.tmp 22)⟩,
             ⟨(some 24), none, .load false 1 (.tmp 23)⟩,
             ⟨(some 25), none, .bin .neq (.tmp 20) (.tmp 24)⟩] [])
           (.cond (.tmp 25)
            (.seq (.region [⟨(some 4), none, .mv (.cst (.bool false))⟩])
             (.ret))
            (.skip))))
         (.region [⟨(some 15), none, .mv (.tmp 5)⟩,
           ⟨(some 16), none, .bin .add (.tmp 15) (.cst (.int .i64 1))⟩,
           ⟨(some 5), none, .mv (.tmp 16)⟩]))))))
    (.seq (.region [⟨(some 4), none, .mv (.cst (.bool true))⟩])
     (.ret))))⟩
/-- barrow/lock.Of -/
def a32 : AFun := ⟨33, [.tmp 6],
 .seq (.region [⟨(some 6), none, .mv (.cst (.slice none 0 none))⟩])
  (.seq (.region [⟨(some 7), none, .mv (.cst (.slice none 0 none))⟩])
   (.seq (.seq (.region [⟨(some 10), none, .mv (.tmp 0)⟩,
       ⟨(some 11), none, .lenS (.tmp 10)⟩,
       ⟨(some 12), none, .mv (.cst (.int .i64 0))⟩])
     (rangeCode 0 1 12 11 13 31 (.seq (.region [⟨(some 14), none, .indexAddr 3 (.tmp 10) (.tmp 12)⟩,
               ⟨(some 15), none, .load true 3 (.tmp 14)⟩,
               ⟨(some 9), none, .alloc [.str [], .int .i64 0, .int .i64 0]⟩,
               ⟨none, none, .store 3 (.tmp 9) (.tmp 15)⟩])
             (.seq (.region [⟨(some 16), none, .fieldAddr 0 (.tmp 9)⟩,
                ⟨(some 17), none, .load false 1 (.tmp 16)⟩,
                ⟨(some 18), none, .mv (.tmp 1)⟩,
                ⟨(some 19), none, .bin .eql (.tmp 17) (.tmp 18)⟩,
                ⟨(some 20), none, .mv (.tmp 19)⟩,
                ⟨(some 21), (some (20, true)), .fieldAddr 2 (.tmp 9)⟩,
                ⟨(some 22), (some (20, true)), .load false 1 (.tmp 21)⟩,
                ⟨(some 23), (some (20, true)), .mv (.tmp 2)⟩,
                ⟨(some 24), (some (20, true)), .bin .gtr (.tmp 22) (.tmp 23)⟩,
                ⟨(some 25), none, .pick (.tmp 20) (.tmp 24) (.cst (.bool false))⟩])
              (.cond (.tmp 25)
               (.region [⟨(some 26), none, .mv (.tmp 7)⟩,
                 ⟨(some 27), none, .fieldAddr 1 (.tmp 9)⟩,
                 ⟨(some 28), none, .load false 1 (.tmp 27)⟩,
                 ⟨(some 29), none, .bslice 1 1 [.int .i64 0] [(0, 1, (.tmp 28))]⟩,
                 ⟨(some 30), none, .append 1 8 (.tmp 26) (.tmp 29)⟩,
                 ⟨(some 7), none, .mv (.tmp 30)⟩])
               (.skip))))))
    (.seq (.region [⟨(some 32), none, .mv (.tmp 7)⟩,
       ⟨(some 6), none, .mv (.tmp 32)⟩])
     (.ret))))⟩
/-- barrow/barrowref37.Of -/
def a33 : AFun := ⟨40, [.tmp 6],
 .seq (.region [⟨(some 6), none, .mv (.cst (.slice none 0 none))⟩])
  (.seq (.region [⟨(some 7), none, .mv (.cst (.slice none 0 none))⟩])
   (.seq (.seq (.region [⟨(some 8), none, .mv (.cst (.int .i64 0))⟩])
     (.block 0 (.loop (.seq (.seq (.region [⟨(some 9), none, .mv (.tmp 8)⟩,
           ⟨(some 10), none, .mv (.tmp 0)⟩,
           ⟨(some 11), none, .lenS (.tmp 10)⟩,
           ⟨(some 12), none, .bin .lss (.tmp 9) (.tmp 11)⟩])
         (.cond (.tmp 12)
          (.skip)
          (.exit 0)))
        (.seq (.block 1 (.seq (.region [⟨(some 15), none, .mv (.tmp 0)⟩,
             ⟨(some 16), none, .mv (.tmp 8)⟩,
             ⟨(some 17), none, .indexAddr 3 (.tmp 15) (.tmp 16)⟩,
             ⟨(some 18), none, .fieldAddr 0 (.tmp 17)⟩,
             ⟨(some 19), none, .load false 1 (.tmp 18)⟩,
             ⟨(some 20), none, .mv (.tmp 1)⟩,
             ⟨(some 21), none, .bin .eql (.tmp 19) (.tmp 20)⟩,
             ⟨(some 22), none, .mv (.tmp 21)⟩,
             ⟨(some 23), (some (22, true)), .mv (.tmp 0)⟩,
             ⟨(some 24), (some (22, true)), .mv (.tmp 8)⟩,
             ⟨(some 25), (some (22, true)), .indexAddr 3 (.tmp 23) (.tmp 24)⟩,
             ⟨(some 26), (some (22, true)), .fieldAddr 2 (.tmp 25)⟩,
             ⟨(some 27), (some (22, true)), .load false 1 (.tmp 26)⟩,
             ⟨(some 28), (some (22, true)), .mv (.tmp 2)⟩,
             ⟨(some 29), (some (22, true)), .bin .gtr (.tmp 27) (.tmp 28)⟩,
             ⟨(some 30), none, .pick (.tmp 22) (.tmp 29) (.cst (.bool false))⟩])
           (.cond (.tmp 30)
            (.region [⟨(some 31), none, .mv (.tmp 7)⟩,
              ⟨(some 32), none, .mv (.tmp 0)⟩,
              ⟨(some 33), none, .mv (.tmp 8)⟩,
              ⟨(some 34), none, .indexAddr 3 (.tmp 32) (.tmp 33)⟩,
              ⟨(some 35), none, .fieldAddr 1 (.tmp 34)⟩,
              ⟨(some 36), none, .load false 1 (.tmp 35)⟩,
              ⟨(some 37), none, .bslice 1 1 [.int .i64 0] [(0, 1, (.tmp 36))]⟩,
              ⟨(some 38), none, .append 1 8 (.tmp 31) (.tmp 37)⟩,
              ⟨(some 7), none, .mv (.tmp 38)⟩])
            (.skip))))
         (.region [⟨(some 13), none, .mv (.tmp 8)⟩,
           ⟨(some 14), none, .bin .add (.tmp 13) (.cst (.int .i64 1))⟩,
           ⟨(some 8), none, .mv (.tmp 14)⟩]))))))
    (.seq (.region [⟨(some 39), none, .mv (.tmp 7)⟩,
       ⟨(some 6), none, .mv (.tmp 39)⟩])
     (.ret))))⟩
/-- barrow/barrowref37.SameTexts -/
def a34 : AFun := ⟨26, [.tmp 4],
 .seq (.region [⟨(some 4), none, .mv (.cst (.bool false))⟩])
  (.seq (.seq (.region [⟨(some 6), none, .mv (.tmp 0)⟩,
      ⟨(some 7), none, .lenS (.tmp 6)⟩,
      ⟨(some 8), none, .mv (.tmp 1)⟩,
      ⟨(some 9), none, .lenS (.tmp 8)⟩,
      ⟨(some 10), none, .bin .neq (.tmp 7) (.tmp 9)⟩])
    (.cond (.tmp 10)
     (.seq (.region [⟨(some 4), none, .mv (.cst (.bool false))⟩])
      (.ret))
     (.skip)))
   (.seq (.seq (.region [⟨(some 5), none, .mv (.cst (.int .i64 0))⟩])
     (.block 0 (.loop (.seq (.seq (.region [⟨(some 11), none, .mv (.tmp 5)⟩,
           ⟨(some 12), none, .mv (.tmp 0)⟩,
           ⟨(some 13), none, .lenS (.tmp 12)⟩,
           ⟨(some 14), none, .bin .lss (.tmp 11) (.tmp 13)⟩])
         (.cond (.tmp 14)
          (.skip)
          (.exit 0)))
        (.seq (.block 1 (.seq (.dregion [⟨(some 17), none, .mv (.tmp 0)⟩,
             ⟨(some 18), none, .mv (.tmp 5)⟩,
             ⟨(some 19), none, .indexAddr 1 (.tmp 17) (.tmp 18)⟩,
             ⟨(some 20), none, .load false 1 (.tmp 19)⟩,
             ⟨(some 21), none, .mv (.tmp 1)⟩,
             ⟨(some 22), none, .mv (.tmp 5)⟩,
             ⟨(some 23), none, .indexAddr 1 (.tmp 21) (.tmp 22)⟩,
             ⟨(some 24), none, .load false 1 (.tmp 23)⟩,
             ⟨(some 25), none, .bin .neq (.tmp 20) (.tmp 24)⟩] [])
           (.cond (.tmp 25)
            (.seq (.region [⟨(some 4), none, .mv (.cst (.bool false))⟩])
             (.ret))
            (.skip))))
         (.region [⟨(some 15), none, .mv (.tmp 5)⟩,
           ⟨(some 16), none, .bin .add (.tmp 15) (.cst (.int .i64 1))⟩,
           ⟨(some 5), none, .mv (.tmp 16)⟩]))))))
    (.seq (.region [⟨(some 4), none, .mv (.cst (.bool true))⟩])
     (.ret))))⟩
/-- barrow/lock.Free -/
def a35 : AFun := ⟨13, [.tmp 8],
 .seq (.region [⟨(some 4), none, .box (.tmp 0)⟩,
    ⟨(some 6), none, .box (.tmp 2)⟩,
    ⟨(some 7), none, .box (.tmp 3)⟩,
    ⟨(some 8), none, .mv (.cst (.slice none 0 none))⟩])
  (.seq (.region [⟨(some 9), none, .mv (.tmp 1)⟩,
     ⟨(some 10), none, .call false (.cst (.func 71 [] [])) [.tmp 9]⟩,
     ⟨(some 11), none, .mkfn 72 [] [.tmp 4, .tmp 6, .tmp 7]⟩,
     ⟨(some 12), none, .call false (.cst (.func 70 [] [])) [.tmp 10, .tmp 11]⟩,
     ⟨(some 8), none, .mv (.tmp 12)⟩])
   (.ret))⟩
/-- barrow/barrowref37.Free -/
def a36 : AFun := ⟨40, [.tmp 8],
 .seq (.region [⟨(some 8), none, .mv (.cst (.slice none 0 none))⟩])
  (.seq (.region [⟨(some 9), none, .mv (.cst (.slice none 0 none))⟩])
   (.seq (.seq (.region [⟨(some 10), none, .mv (.cst (.int .i64 0))⟩])
     (.block 0 (.loop (.seq (.seq (.region [⟨(some 13), none, .mv (.tmp 10)⟩,
           ⟨(some 14), none, .mv (.tmp 1)⟩,
           ⟨(some 15), none, .lenS (.tmp 14)⟩,
           ⟨(some 16), none, .bin .lss (.tmp 13) (.tmp 15)⟩])
         (.cond (.tmp 16)
          (.skip)
          (.exit 0)))
        (.seq (.block 1 (.seq (.region [⟨(some 20), none, .mv (.tmp 0)⟩,
             ⟨(some 21), none, .mv (.tmp 1)⟩,
             ⟨(some 22), none, .mv (.tmp 10)⟩,
             ⟨(some 23), none, .indexAddr 1 (.tmp 21) (.tmp 22)⟩,
             ⟨(some 24), none, .load false 1 (.tmp 23)⟩,
             ⟨(some 25), none, .mv (.tmp 2)⟩,
             ⟨(some 26), none, .mv (.tmp 3)⟩,
             ⟨(some 27), none, .call false (.cst (.func 25 [] [])) [.tmp 20, .tmp 24, .tmp 25, .tmp 26]⟩,
             ⟨(some 19), none, .mv (.tmp 27)⟩,
             ⟨(some 28), none, .extract (.tmp 19) 0⟩,
             ⟨(some 29), none, .extract (.tmp 19) 1⟩,
             ⟨(some 11), none, .mv (.tmp 28)⟩,
             ⟨(some 12), none, .mv (.tmp 29)⟩])
           (.seq (.region [⟨(some 30), none, .mv (.tmp 12)⟩,
              ⟨(some 31), none, .un .not (.tmp 30)⟩])
            (.cond (.tmp 31)
             (.region [⟨(some 32), none, .mv (.tmp 9)⟩,
               ⟨(some 33), none, .mv (.tmp 1)⟩,
               ⟨(some 34), none, .mv (.tmp 10)⟩,
               ⟨(some 35), none, .indexAddr 1 (.tmp 33) (.tmp 34)⟩,
               ⟨(some 36), none, .load false 1 (.tmp 35)⟩,
               ⟨(some 37), none, .bslice 1 1 [.str []] [(0, 1, (.tmp 36))]⟩,
               ⟨(some 38), none, .append 1 16 (.tmp 32) (.tmp 37)⟩,
               ⟨(some 9), none, .mv (.tmp 38)⟩])
             (.skip)))))
         (.region [⟨(some 17), none, .mv (.tmp 10)⟩,
           ⟨(some 18), none, .bin .add (.tmp 17) (.cst (.int .i64 1))⟩,
           ⟨(some 10), none, .mv (.tmp 18)⟩]))))))
    (.seq (.region [⟨(some 39), none, .mv (.tmp 9)⟩,
       ⟨(some 8), none, .mv (.tmp 39)⟩])
     (.ret))))⟩
/-- barrow/command.Name -/
def a37 : AFun := ⟨15, [.tmp 2],
 .seq (.region [⟨(some 2), none, .mv (.cst (.bool false))⟩])
  (.seq (.region [⟨(some 3), none, .mv (.tmp 0)⟩,
     ⟨(some 4), none, .bin .neq (.tmp 3) (.cst (.str []))⟩,
     ⟨(some 5), none, .mv (.tmp 4)⟩,
     ⟨(some 6), (some (5, true)), .mv (.tmp 0)⟩,
     ⟨(some 7), (some (5, true)), .lenStr (.tmp 6)⟩,
     ⟨(some 8), (some (5, true)), .bin .leq (.tmp 7) (.cst (.int .i64 24))⟩,
     ⟨(some 9), none, .pick (.tmp 5) (.tmp 8) (.cst (.bool false))⟩,
     ⟨(some 10), none, .mv (.tmp 9)⟩,
     ⟨(some 11), (some (10, true)), .mv (.tmp 0)⟩,
     ⟨(some 12), (some (10, true)), .call false (.cst (.func 73 [] [])) [.tmp 11, .cst (.str [97, 98, 99, 100, 101, 102, 103, 104, 105, 106, 107, 108, 109, 110, 111, 112, 113, 114, 115, 116, 117, 118, 119, 120, 121, 122, 65, 66, 67, 68, 69, 70, 71, 72, 73, 74, 75, 76, 77, 78, 79, 80, 81, 82, 83, 84, 85, 86, 87, 88, 89, 90, 48, 49, 50, 51, 52, 53, 54, 55, 56, 57, 45])]⟩,
     ⟨(some 13), (some (10, true)), .bin .eql (.tmp 12) (.cst (.str []))⟩,
     ⟨(some 14), none, .pick (.tmp 10) (.tmp 13) (.cst (.bool false))⟩,
     ⟨(some 2), none, .mv (.tmp 14)⟩])
   (.ret))⟩
/-- barrow/lock.Join -/
def a38 : AFun := ⟨44, [.tmp 4, .tmp 5],
 .seq (.region [⟨(some 4), none, .mv (.cst (.slice none 0 none))⟩,
    ⟨(some 5), none, .mv (.cst (.int .i64 0))⟩])
  (.seq (.seq (.region [⟨(some 11), none, .mv (.tmp 0)⟩,
      ⟨(some 12), none, .call false (.cst (.func 29 [] [])) [.tmp 11]⟩,
      ⟨(some 13), none, .un .not (.tmp 12)⟩,
      ⟨(some 14), none, .mv (.tmp 13)⟩,
      ⟨(some 15), (some (14, false)), .mv (.tmp 1)⟩,
      ⟨(some 16), (some (14, false)), .call false (.cst (.func 29 [] [])) [.tmp 15]⟩,
      ⟨(some 17), (some (14, false)), .un .not (.tmp 16)⟩,
      ⟨(some 18), none, .pick (.tmp 14) (.cst (.bool true)) (.tmp 17)⟩])
    (.cond (.tmp 18)
     (.seq (.region [⟨(some 4), none, .mv (.cst (.slice none 0 none))⟩,
        ⟨(some 5), none, .mv (.cst (.int .i64 1))⟩])
      (.ret))
     (.skip)))
   (.seq (.region [⟨(some 19), none, .mv (.tmp 0)⟩,
      ⟨(some 20), none, .call false (.cst (.func 59 [] [])) [.tmp 19]⟩,
      ⟨(some 6), none, .mv (.tmp 20)⟩])
    (.seq (.seq (.region [⟨(some 21), none, .mv (.tmp 1)⟩,
        ⟨(some 22), none, .lenS (.tmp 21)⟩,
        ⟨(some 23), none, .mv (.cst (.int .i64 0))⟩])
      (rangeCode 0 1 23 22 24 42 (.seq (.region [⟨(some 25), none, .indexAddr 3 (.tmp 21) (.tmp 23)⟩,
                          ⟨(some 26), none, .load true 3 (.tmp 25)⟩,
                          ⟨(some 8), none, .alloc [.str [], .int .i64 0, .int .i64 0]⟩,
                          ⟨none, none, .store 3 (.tmp 8) (.tmp 26)⟩])
                        (.seq (.region [⟨(some 28), none, .mv (.tmp 6)⟩,
                           ⟨(some 29), none, .fieldAddr 0 (.tmp 8)⟩,
                           ⟨(some 30), none, .load false 1 (.tmp 29)⟩,
                           ⟨(some 31), none, .fieldAddr 1 (.tmp 8)⟩,
                           ⟨(some 32), none, .load false 1 (.tmp 31)⟩,
                           ⟨(some 33), none, .fieldAddr 2 (.tmp 8)⟩,
                           ⟨(some 34), none, .load false 1 (.tmp 33)⟩,
                           ⟨(some 35), none, .call false (.cst (.func 22 [] [])) [.tmp 28, .tmp 30, .tmp 32, .tmp 34]⟩,
                           ⟨(some 27), none, .mv (.tmp 35)⟩,
                           ⟨(some 36), none, .extract (.tmp 27) 0⟩,
                           ⟨(some 37), none, .extract (.tmp 27) 1⟩,
                           ⟨(some 9), none, .mv (.tmp 36)⟩,
                           ⟨(some 10), none, .mv (.tmp 37)⟩])
                         (.seq (.seq (.region [⟨(some 38), none, .mv (.tmp 10)⟩,
                             ⟨(some 39), none, .bin .neq (.tmp 38) (.cst (.int .i64 0))⟩])
                           (.cond (.tmp 39)
                            (.seq (.region [⟨(some 40), none, .mv (.tmp 10)⟩,
                               ⟨(some 4), none, .mv (.cst (.slice none 0 none))⟩,
                               ⟨(some 5), none, .mv (.tmp 40)⟩])
                             (.ret))
                            (.skip)))
                          (.region [⟨(some 41), none, .mv (.tmp 9)⟩,
                            ⟨(some 6), none, .mv (.tmp 41)⟩]))))))
     (.seq (.region [⟨(some 43), none, .mv (.tmp 6)⟩,
        ⟨(some 4), none, .mv (.tmp 43)⟩,
        ⟨(some 5), none, .mv (.cst (.int .i64 0))⟩])
      (.ret)))))⟩
/-- barrow/barrowref37.Join -/
def a39 : AFun := ⟨55, [.tmp 4, .tmp 5],
 .seq (.region [⟨(some 4), none, .mv (.cst (.slice none 0 none))⟩,
    ⟨(some 5), none, .mv (.cst (.int .i64 0))⟩])
  (.seq (.region [⟨(some 12), none, .mv (.tmp 0)⟩,
     ⟨(some 13), none, .call false (.cst (.func 30 [] [])) [.tmp 12]⟩,
     ⟨(some 6), none, .mv (.tmp 13)⟩])
   (.seq (.region [⟨(some 14), none, .mv (.tmp 1)⟩,
      ⟨(some 15), none, .call false (.cst (.func 30 [] [])) [.tmp 14]⟩,
      ⟨(some 7), none, .mv (.tmp 15)⟩])
    (.seq (.seq (.region [⟨(some 16), none, .mv (.tmp 6)⟩,
        ⟨(some 17), none, .un .not (.tmp 16)⟩,
        ⟨(some 18), none, .mv (.tmp 17)⟩,
        ⟨(some 19), (some (18, false)), .mv (.tmp 7)⟩,
        ⟨(some 20), (some (18, false)), .un .not (.tmp 19)⟩,
        ⟨(some 21), none, .pick (.tmp 18) (.cst (.bool true)) (.tmp 20)⟩])
      (.cond (.tmp 21)
       (.seq (.region [⟨(some 4), none, .mv (.cst (.slice none 0 none))⟩,
          ⟨(some 5), none, .mv (.cst (.int .i64 1))⟩])
        (.ret))
       (.skip)))
     (.seq (.region [⟨(some 22), none, .mv (.tmp 0)⟩,
        ⟨(some 23), none, .call false (.cst (.func 65 [] [])) [.tmp 22]⟩,
        ⟨(some 8), none, .mv (.tmp 23)⟩])
      (.seq (.seq (.region [⟨(some 9), none, .mv (.cst (.int .i64 0))⟩])
        (.block 0 (.loop (.seq (.seq (.region [⟨(some 24), none, .mv (.tmp 9)⟩,
              ⟨(some 25), none, .mv (.tmp 1)⟩,
              ⟨(some 26), none, .lenS (.tmp 25)⟩,
              ⟨(some 27), none, .bin .lss (.tmp 24) (.tmp 26)⟩])
            (.cond (.tmp 27)
             (.skip)
             (.exit 0)))
           (.seq (.block 1 (.seq (.dregion [⟨(some 31), none, .mv (.tmp 8)⟩,
                ⟨(some 32), none, .mv (.tmp 1)⟩,
                ⟨(some 33), none, .mv (.tmp 9)⟩,
                ⟨(some 34), none, .indexAddr 3 (.tmp 32) (.tmp 33)⟩,
                ⟨(some 35), none, .fieldAddr 0 (.tmp 34)⟩,
                ⟨(some 36), none, .load false 1 (.tmp 35)⟩,
                ⟨(some 37), none, .mv (.tmp 1)⟩,
                ⟨(some 38), none, .mv (.tmp 9)⟩,
                ⟨(some 39), none, .indexAddr 3 (.tmp 37) (.tmp 38)⟩,
                ⟨(some 40), none, .fieldAddr 1 (.tmp 39)⟩,
                ⟨(some 41), none, .load false 1 (.tmp 40)⟩,
                ⟨(some 42), none, .mv (.tmp 1)⟩,
                ⟨(some 43), none, .mv (.tmp 9)⟩,
                ⟨(some 44), none, .indexAddr 3 (.tmp 42) (.tmp 43)⟩,
                ⟨(some 45), none, .fieldAddr 2 (.tmp 44)⟩,
                ⟨(some 46), none, .load false 1 (.tmp 45)⟩,
                ⟨(some 47), none, .call false (.cst (.func 23 [] [])) [.tmp 31, .tmp 36, .tmp 41, .tmp 46]⟩,
                ⟨(some 30), none, .mv (.tmp 47)⟩,
                ⟨(some 48), none, .extract (.tmp 30) 0⟩,
                ⟨(some 49), none, .extract (.tmp 30) 1⟩,
                ⟨(some 10), none, .mv (.tmp 48)⟩,
                ⟨(some 11), none, .mv (.tmp 49)⟩] [])
              (.seq (.seq (.region [⟨(some 50), none, .mv (.tmp 11)⟩,
                  ⟨(some 51), none, .bin .neq (.tmp 50) (.cst (.int .i64 0))⟩])
                (.cond (.tmp 51)
                 (.seq (.region [⟨(some 52), none, .mv (.tmp 11)⟩,
                    ⟨(some 4), none, .mv (.cst (.slice none 0 none))⟩,
                    ⟨(some 5), none, .mv (.tmp 52)⟩])
                  (.ret))
                 (.skip)))
               (.region [⟨(some 53), none, .mv (.tmp 10)⟩,
                 ⟨(some 8), none, .mv (.tmp 53)⟩]))))
            (.region [⟨(some 28), none, .mv (.tmp 9)⟩,
              ⟨(some 29), none, .bin .add (.tmp 28) (.cst (.int .i64 1))⟩,
              ⟨(some 9), none, .mv (.tmp 29)⟩]))))))
       (.seq (.region [⟨(some 54), none, .mv (.tmp 8)⟩,
          ⟨(some 4), none, .mv (.tmp 54)⟩,
          ⟨(some 5), none, .mv (.cst (.int .i64 0))⟩])
        (.ret)))))))⟩
/-- barrow/lock.Turn -/
def a40 : AFun := ⟨37, [.tmp 6],
 .seq (.region [⟨(some 6), none, .mv (.cst (.int .i64 0))⟩])
  (.seq (.seq (.region [⟨(some 8), none, .mv (.tmp 0)⟩,
      ⟨(some 9), none, .call false (.cst (.func 74 [] [])) [.tmp 8, .cst (.int .i64 (-1125899906842624)), .cst (.int .i64 1125899906842624)]⟩,
      ⟨(some 10), none, .un .not (.tmp 9)⟩,
      ⟨(some 11), none, .mv (.tmp 10)⟩,
      ⟨(some 12), (some (11, false)), .mv (.tmp 2)⟩,
      ⟨(some 13), (some (11, false)), .call false (.cst (.func 74 [] [])) [.tmp 12, .cst (.int .i64 (-1125899906842624)), .cst (.int .i64 1125899906842624)]⟩,
      ⟨(some 14), (some (11, false)), .un .not (.tmp 13)⟩,
      ⟨(some 15), none, .pick (.tmp 11) (.cst (.bool true)) (.tmp 14)⟩,
      ⟨(some 16), none, .mv (.tmp 15)⟩,
      ⟨(some 17), (some (16, false)), .mv (.tmp 1)⟩,
      ⟨(some 18), (some (16, false)), .call false (.cst (.func 74 [] [])) [.tmp 17, .cst (.int .i64 1), .cst (.int .i64 1125899906842624)]⟩,
      ⟨(some 19), (some (16, false)), .un .not (.tmp 18)⟩,
      ⟨(some 20), none, .pick (.tmp 16) (.cst (.bool true)) (.tmp 19)⟩])
    (.cond (.tmp 20)
     (.seq (.region [⟨(some 21), none, .mv (.tmp 0)⟩,
        ⟨(some 6), none, .mv (.tmp 21)⟩])
      (.ret))
     (.skip)))
   (.seq (.region [⟨(some 22), none, .mv (.tmp 0)⟩,
      ⟨(some 23), none, .mv (.tmp 2)⟩,
      ⟨(some 24), none, .bin .sub (.tmp 22) (.tmp 23)⟩,
      ⟨(some 25), none, .mv (.tmp 1)⟩,
      ⟨(some 26), none, .bin .rem (.tmp 24) (.tmp 25)⟩,
      ⟨(some 7), none, .mv (.tmp 26)⟩])
    (.seq (.seq (.region [⟨(some 27), none, .mv (.tmp 7)⟩,
        ⟨(some 28), none, .bin .lss (.tmp 27) (.cst (.int .i64 0))⟩])
      (.cond (.tmp 28)
       (.region [⟨(some 29), none, .mv (.tmp 7)⟩,
         ⟨(some 30), none, .mv (.tmp 1)⟩,
         ⟨(some 31), none, .bin .add (.tmp 29) (.tmp 30)⟩,
         ⟨(some 7), none, .mv (.tmp 31)⟩])
       (.skip)))
     (.seq (.region [⟨(some 32), none, .mv (.tmp 0)⟩,
        ⟨(some 33), none, .mv (.tmp 1)⟩,
        ⟨(some 34), none, .bin .add (.tmp 32) (.tmp 33)⟩,
        ⟨(some 35), none, .mv (.tmp 7)⟩,
        ⟨(some 36), none, .bin .sub (.tmp 34) (.tmp 35)⟩,
        ⟨(some 6), none, .mv (.tmp 36)⟩])
      (.ret)))))⟩
/-- barrow/barrowref37.Turn -/
def a41 : AFun := ⟨46, [.tmp 6],
 .seq (.region [⟨(some 6), none, .mv (.cst (.int .i64 0))⟩])
  (.seq (.seq (.region [⟨(some 8), none, .mv (.tmp 0)⟩,
      ⟨(some 9), none, .bin .lss (.tmp 8) (.cst (.int .i64 (-1125899906842624)))⟩,
      ⟨(some 10), none, .mv (.tmp 9)⟩,
      ⟨(some 11), (some (10, false)), .mv (.tmp 0)⟩,
      ⟨(some 12), (some (10, false)), .bin .gtr (.tmp 11) (.cst (.int .i64 1125899906842624))⟩,
      ⟨(some 13), none, .pick (.tmp 10) (.cst (.bool true)) (.tmp 12)⟩,
      ⟨(some 14), none, .mv (.tmp 13)⟩,
      ⟨(some 15), (some (14, false)), .mv (.tmp 2)⟩,
      ⟨(some 16), (some (14, false)), .bin .lss (.tmp 15) (.cst (.int .i64 (-1125899906842624)))⟩,
      ⟨(some 17), none, .pick (.tmp 14) (.cst (.bool true)) (.tmp 16)⟩,
      ⟨(some 18), none, .mv (.tmp 17)⟩,
      ⟨(some 19), (some (18, false)), .mv (.tmp 2)⟩,
      ⟨(some 20), (some (18, false)), .bin .gtr (.tmp 19) (.cst (.int .i64 1125899906842624))⟩,
      ⟨(some 21), none, .pick (.tmp 18) (.cst (.bool true)) (.tmp 20)⟩,
      ⟨(some 22), none, .mv (.tmp 21)⟩,
      ⟨(some 23), (some (22, false)), .mv (.tmp 1)⟩,
      ⟨(some 24), (some (22, false)), .bin .lss (.tmp 23) (.cst (.int .i64 1))⟩,
      ⟨(some 25), none, .pick (.tmp 22) (.cst (.bool true)) (.tmp 24)⟩,
      ⟨(some 26), none, .mv (.tmp 25)⟩,
      ⟨(some 27), (some (26, false)), .mv (.tmp 1)⟩,
      ⟨(some 28), (some (26, false)), .bin .gtr (.tmp 27) (.cst (.int .i64 1125899906842624))⟩,
      ⟨(some 29), none, .pick (.tmp 26) (.cst (.bool true)) (.tmp 28)⟩])
    (.cond (.tmp 29)
     (.seq (.region [⟨(some 30), none, .mv (.tmp 0)⟩,
        ⟨(some 6), none, .mv (.tmp 30)⟩])
      (.ret))
     (.skip)))
   (.seq (.region [⟨(some 31), none, .mv (.tmp 0)⟩,
      ⟨(some 32), none, .mv (.tmp 2)⟩,
      ⟨(some 33), none, .bin .sub (.tmp 31) (.tmp 32)⟩,
      ⟨(some 34), none, .mv (.tmp 1)⟩,
      ⟨(some 35), none, .bin .rem (.tmp 33) (.tmp 34)⟩,
      ⟨(some 7), none, .mv (.tmp 35)⟩])
    (.seq (.seq (.region [⟨(some 36), none, .mv (.tmp 7)⟩,
        ⟨(some 37), none, .bin .lss (.tmp 36) (.cst (.int .i64 0))⟩])
      (.cond (.tmp 37)
       (.region [⟨(some 38), none, .mv (.tmp 7)⟩,
         ⟨(some 39), none, .mv (.tmp 1)⟩,
         ⟨(some 40), none, .bin .add (.tmp 38) (.tmp 39)⟩,
         ⟨(some 7), none, .mv (.tmp 40)⟩])
       (.skip)))
     (.seq (.region [⟨(some 41), none, .mv (.tmp 0)⟩,
        ⟨(some 42), none, .mv (.tmp 7)⟩,
        ⟨(some 43), none, .bin .sub (.tmp 41) (.tmp 42)⟩,
        ⟨(some 44), none, .mv (.tmp 1)⟩,
        ⟨(some 45), none, .bin .add (.tmp 43) (.tmp 44)⟩,
        ⟨(some 6), none, .mv (.tmp 45)⟩])
      (.ret)))))⟩
/-- barrow/barrowlaw25.small -/
def a42 : AFun := ⟨97, [.tmp 0],
 .seq (.region [⟨(some 0), none, .mv (.cst (.bool false))⟩])
  (.seq (.region [⟨(some 7), none, .build (repCells [.int .i64 0] 10) [(0, 1, (.cst (.int .i64 1))), (1, 1, (.cst (.int .i64 1))), (3, 1, (.cst (.int .i64 10))), (4, 1, (.cst (.int .i64 20)))]⟩,
     ⟨(some 8), none, .build [.int .i64 0, .int .i64 0, .int .i64 0, .int .i64 0, .int .i64 0, .int .i64 0, .int .i64 0, .int .i64 0, .int .i64 0, .int .i64 0, .str [], .slice none 0 none, .slice none 0 none, .int .i64 0, .int .i64 0, .int .i64 0, .int .i64 0, .int .i64 0, .int .i64 0, .int .i64 0, .int .i64 0, .int .i64 0] [(0, 10, (.tmp 7)), (10, 1, (.cst (.str [97])))]⟩,
     ⟨(some 1), none, .alloc [.int .i64 0, .int .i64 0, .int .i64 0, .int .i64 0, .int .i64 0, .int .i64 0, .int .i64 0, .int .i64 0, .int .i64 0, .int .i64 0, .str [], .slice none 0 none, .slice none 0 none, .int .i64 0, .int .i64 0, .int .i64 0, .int .i64 0, .int .i64 0, .int .i64 0, .int .i64 0, .int .i64 0, .int .i64 0]⟩,
     ⟨none, none, .store 22 (.tmp 1) (.tmp 8)⟩])
   (.seq (.region [⟨(some 9), none, .load true 22 (.tmp 1)⟩,
      ⟨(some 10), none, .call false (.cst (.func 75 [] [])) [.tmp 9]⟩,
      ⟨(some 2), none, .alloc [.int .i64 0, .str [], .int .i64 0, .int .i64 0, .int .i64 0, .int .i64 0, .int .i64 0, .int .i64 0, .int .i64 0, .int .i64 0, .int .i64 0]⟩,
      ⟨none, none, .store 11 (.tmp 2) (.tmp 10)⟩])
    (.seq (.region [⟨(some 11), none, .load true 11 (.tmp 2)⟩,
       ⟨(some 3), none, .alloc [.int .i64 0, .str [], .int .i64 0, .int .i64 0, .int .i64 0, .int .i64 0, .int .i64 0, .int .i64 0, .int .i64 0, .int .i64 0, .int .i64 0]⟩,
       ⟨none, none, .store 11 (.tmp 3) (.tmp 11)⟩])
     (.seq (.region [⟨(some 12), none, .fieldAddr 2 (.tmp 3)⟩,
        ⟨(some 13), none, .indexAddrA 9 1 (.tmp 12) (.cst (.int .i64 2))⟩,
        ⟨none, none, .store 1 (.tmp 13) (.cst (.int .i64 7))⟩])
      (.seq (.region [⟨(some 14), none, .load true 11 (.tmp 2)⟩,
         ⟨(some 15), none, .bslice 11 1 [.int .i64 0, .str [], .int .i64 0, .int .i64 0, .int .i64 0, .int .i64 0, .int .i64 0, .int .i64 0, .int .i64 0, .int .i64 0, .int .i64 0] [(0, 11, (.tmp 14))]⟩,
         ⟨(some 16), none, .load true 11 (.tmp 3)⟩,
         ⟨(some 17), none, .bslice 11 1 [.int .i64 0, .str [], .int .i64 0, .int .i64 0, .int .i64 0, .int .i64 0, .int .i64 0, .int .i64 0, .int .i64 0, .int .i64 0, .int .i64 0] [(0, 11, (.tmp 16))]⟩,
         ⟨(some 18), none, .call false (.cst (.func 49 [] [])) [.tmp 15, .tmp 17]⟩,
         ⟨(some 4), none, .mv (.tmp 18)⟩])
       (.seq (.region [⟨(some 19), none, .build [.int .i64 0, .slice none 0 none, .slice none 0 none, .bool false] []⟩,
          ⟨(some 20), none, .load true 11 (.tmp 2)⟩,
          ⟨(some 21), none, .bslice 11 1 [.int .i64 0, .str [], .int .i64 0, .int .i64 0, .int .i64 0, .int .i64 0, .int .i64 0, .int .i64 0, .int .i64 0, .int .i64 0, .int .i64 0] [(0, 11, (.tmp 20))]⟩,
          ⟨(some 22), none, .call false (.cst (.func 47 [] [])) [.cst (.int .i64 1), .tmp 21]⟩,
          ⟨(some 23), none, .call false (.cst (.func 46 [] [])) [.tmp 19, .tmp 22]⟩,
          ⟨(some 5), none, .alloc [.int .i64 0, .slice none 0 none, .slice none 0 none, .bool false]⟩,
          ⟨none, none, .store 4 (.tmp 5) (.tmp 23)⟩])
        (.seq (.region [⟨(some 24), none, .load true 4 (.tmp 5)⟩,
           ⟨(some 25), none, .mv (.tmp 4)⟩,
           ⟨(some 26), none, .call false (.cst (.func 46 [] [])) [.tmp 24, .tmp 25]⟩,
           ⟨(some 6), none, .alloc [.int .i64 0, .slice none 0 none, .slice none 0 none, .bool false]⟩,
           ⟨none, none, .store 4 (.tmp 6) (.tmp 26)⟩])
         (.seq (.dregion [⟨(some 27), none, .fieldAddr 2 (.tmp 2)⟩,
            ⟨(some 28), none, .indexAddrA 9 1 (.tmp 27) (.cst (.int .i64 2))⟩,
            ⟨(some 29), none, .load false 1 (.tmp 28)⟩,
            ⟨(some 30), none, .bin .eql (.tmp 29) (.cst (.int .i64 10))⟩,
            ⟨(some 31), none, .mv (.tmp 30)⟩,
            ⟨(some 32), (some (31, true)), .fieldAddr 1 (.tmp 2)⟩,
            ⟨(some 33), (some (31, true)), .load false 1 (.tmp 32)⟩,
            ⟨(some 34), (some (31, true)), .bin .eql (.tmp 33) (.cst (.str [97]))⟩,
            ⟨(some 35), none, .pick (.tmp 31) (.tmp 34) (.cst (.bool false))⟩,
            ⟨(some 36), none, .mv (.tmp 35)⟩,
            ⟨(some 37), (some (36, true)), .mv (.tmp 4)⟩,
            ⟨(some 38), (some (36, true)), .lenS (.tmp 37)⟩,
            ⟨(some 39), (some (36, true)), .bin .eql (.tmp 38) (.cst (.int .i64 1))⟩,
            ⟨(some 40), none, .pick (.tmp 36) (.tmp 39) (.cst (.bool false))⟩,
            ⟨(some 41), none, .mv (.tmp 40)⟩,
            ⟨(some 42), (some (41, true)), .mv (.tmp 4)⟩,
            ⟨(some 43), (some (41, true)), .indexAddr 3 (.tmp 42) (.cst (.int .i64 0))⟩,
            ⟨(some 44), (some (41, true)), .load true 3 (.tmp 43)⟩,
            ⟨(some 45), (some (41, true)), .bslice 1 3 [.int .i64 0] [(0, 1, (.cst (.int .i64 1))), (1, 1, (.cst (.int .i64 2))), (2, 1, (.cst (.int .i64 7)))]⟩,
            ⟨(some 46), (some (41, true)), .build [.int .i64 0, .slice none 0 none, .str []] [(0, 1, (.cst (.int .i64 6))), (1, 1, (.tmp 45))]⟩,
            ⟨(some 47), (some (41, true)), .call false (.cst (.func 14 [] [])) [.tmp 44, .tmp 46]⟩,
            ⟨(some 48), none, .pick (.tmp 41) (.tmp 47) (.cst (.bool false))⟩,
            ⟨(some 49), none, .mv (.tmp 48)⟩,
            ⟨(some 50), (some (49, true)), .fieldAddr 0 (.tmp 5)⟩,
            ⟨(some 51), (some (49, true)), .load false 1 (.tmp 50)⟩,
            ⟨(some 52), (some (49, true)), .bin .eql (.tmp 51) (.cst (.int .i64 1))⟩,
            ⟨(some 53), none, .pick (.tmp 49) (.tmp 52) (.cst (.bool false))⟩,
            ⟨(some 54), none, .mv (.tmp 53)⟩,
            ⟨(some 55), (some (54, true)), .fieldAddr 3 (.tmp 5)⟩,
            ⟨(some 56), (some (54, true)), .load false 1 (.tmp 55)⟩,
            ⟨(some 57), none, .pick (.tmp 54) (.tmp 56) (.cst (.bool false))⟩,
            ⟨(some 58), none, .mv (.tmp 57)⟩,
            ⟨(some 59), (some (58, true)), .fieldAddr 1 (.tmp 5)⟩,
            ⟨(some 60), (some (58, true)), .load false 1 (.tmp 59)⟩,
            ⟨(some 61), (some (58, true)), .lenS (.tmp 60)⟩,
            ⟨(some 62), (some (58, true)), .bin .eql (.tmp 61) (.cst (.int .i64 1))⟩,
            ⟨(some 63), none, .pick (.tmp 58) (.tmp 62) (.cst (.bool false))⟩,
            ⟨(some 64), none, .mv (.tmp 63)⟩,
            ⟨(some 65), (some (64, true)), .fieldAddr 1 (.tmp 5)⟩,
            ⟨(some 66), (some (64, true)), .load false 1 (.tmp 65)⟩,
            ⟨(some 67), (some (64, true)), .indexAddr 11 (.tmp 66) (.cst (.int .i64 0))⟩,
            ⟨(some 68), (some (64, true)), .load true 11 (.tmp 67)⟩,
            ⟨(some 69), (some (64, true)), .load true 11 (.tmp 2)⟩,
            ⟨(some 70), (some (64, true)), .eq false (.agg [.int, .str, .int, .int, .int, .int, .int, .int, .int, .int, .int]) (.tmp 68) (.tmp 69)⟩,
            ⟨(some 71), none, .pick (.tmp 64) (.tmp 70) (.cst (.bool false))⟩,
            ⟨(some 72), none, .mv (.tmp 71)⟩,
            ⟨(some 73), (some (72, true)), .fieldAddr 1 (.tmp 6)⟩,
            ⟨(some 74), (some (72, true)), .load false 1 (.tmp 73)⟩,
            ⟨(some 75), (some (72, true)), .lenS (.tmp 74)⟩,
            ⟨(some 76), (some (72, true)), .bin .eql (.tmp 75) (.cst (.int .i64 1))⟩,
            ⟨(some 77), none, .pick (.tmp 72) (.tmp 76) (.cst (.bool false))⟩,
            ⟨(some 78), none, .mv (.tmp 77)⟩,
            ⟨(some 79), (some (78, true)), .fieldAddr 1 (.tmp 6)⟩,
            ⟨(some 80), (some (78, true)), .load false 1 (.tmp 79)⟩,
            ⟨(some 81), (some (78, true)), .indexAddr 11 (.tmp 80) (.cst (.int .i64 0))⟩,
            ⟨(some 82), (some (78, true)), .load true 11 (.tmp 81)⟩,
            ⟨(some 83), (some (78, true)), .load true 11 (.tmp 3)⟩,
            ⟨(some 84), (some (78, true)), .eq false (.agg [.int, .str, .int, .int, .int, .int, .int, .int, .int, .int, .int]) (.tmp 82) (.tmp 83)⟩,
            ⟨(some 85), none, .pick (.tmp 78) (.tmp 84) (.cst (.bool false))⟩,
            ⟨(some 86), none, .mv (.tmp 85)⟩,
            ⟨(some 87), (some (86, true)), .fieldAddr 1 (.tmp 6)⟩,
            ⟨(some 88), (some (86, true)), .load false 1 (.tmp 87)⟩,
            ⟨(some 89), (some (86, true)), .call false (.cst (.func 45 [] [])) [.tmp 88]⟩,
            ⟨(some 90), none, .pick (.tmp 86) (.tmp 89) (.cst (.bool false))⟩,
            ⟨(some 91), none, .mv (.tmp 90)⟩,
            ⟨(some 92), (some (91, true)), .load true 4 (.tmp 5)⟩,
            ⟨(some 93), (some (91, true)), .load true 4 (.tmp 5)⟩,
            ⟨(some 94), (some (91, true)), .call true (.cst (.func 76 [] [])) [.tmp 93]⟩,
            ⟨(some 95), (some (91, true)), .call false (.cst (.func 48 [] [])) [.tmp 92, .tmp 94]⟩,
            ⟨(some 96), none, .pick (.tmp 91) (.tmp 95) (.cst (.bool false))⟩,
            ⟨(some 0), none, .mv (.tmp 96)⟩] [])
          (.ret)))))))))⟩
/-- barrow/barrowlaw25.few -/
def a43 : AFun := ⟨13, [.tmp 2],
 .seq (.region [⟨(some 1), none, .box (.tmp 0)⟩,
    ⟨(some 2), none, .mv (.cst (.bool false))⟩])
  (.seq (.region [⟨(some 3), none, .fieldAddr 1 (.tmp 1)⟩,
     ⟨(some 4), none, .load false 1 (.tmp 3)⟩,
     ⟨(some 5), none, .lenS (.tmp 4)⟩,
     ⟨(some 6), none, .bin .leq (.tmp 5) (.cst (.int .i64 40))⟩,
     ⟨(some 7), none, .mv (.tmp 6)⟩,
     ⟨(some 8), (some (7, true)), .fieldAddr 2 (.tmp 1)⟩,
     ⟨(some 9), (some (7, true)), .load false 1 (.tmp 8)⟩,
     ⟨(some 10), (some (7, true)), .lenS (.tmp 9)⟩,
     ⟨(some 11), (some (7, true)), .bin .leq (.tmp 10) (.cst (.int .i64 60))⟩,
     ⟨(some 12), none, .pick (.tmp 7) (.tmp 11) (.cst (.bool false))⟩,
     ⟨(some 2), none, .mv (.tmp 12)⟩])
   (.ret))⟩
/-- barrow/barrowlaw25.named -/
def a44 : AFun := ⟨25, [.tmp 2],
 .seq (.region [⟨(some 2), none, .mv (.cst (.bool false))⟩])
  (.seq (.seq (.region [⟨(some 3), none, .mv (.cst (.int .i64 0))⟩])
    (.block 0 (.loop (.seq (.seq (.region [⟨(some 4), none, .mv (.tmp 3)⟩,
          ⟨(some 5), none, .mv (.tmp 0)⟩,
          ⟨(some 6), none, .lenS (.tmp 5)⟩,
          ⟨(some 7), none, .bin .lss (.tmp 4) (.tmp 6)⟩])
        (.cond (.tmp 7)
         (.skip)
         (.exit 0)))
       (.seq (.block 1 (.seq (.region [⟨(some 10), none, .mv (.tmp 0)⟩,
            ⟨(some 11), none, .mv (.tmp 3)⟩,
            ⟨(some 12), none, .indexAddr 11 (.tmp 10) (.tmp 11)⟩,
            ⟨(some 13), none, .fieldAddr 1 (.tmp 12)⟩,
            ⟨(some 14), none, .load false 1 (.tmp 13)⟩,
            ⟨(some 15), none, .bin .neq (.tmp 14) (.cst (.str []))⟩,
            ⟨(some 16), none, .mv (.tmp 15)⟩,
            ⟨(some 17), (some (16, true)), .mv (.tmp 0)⟩,
            ⟨(some 18), (some (16, true)), .mv (.tmp 3)⟩,
            ⟨(some 19), (some (16, true)), .indexAddr 11 (.tmp 17) (.tmp 18)⟩,
            ⟨(some 20), (some (16, true)), .fieldAddr 1 (.tmp 19)⟩,
            ⟨(some 21), (some (16, true)), .load false 1 (.tmp 20)⟩,
            ⟨(some 22), (some (16, true)), .call false (.cst (.func 37 [] [])) [.tmp 21]⟩,
            ⟨(some 23), (some (16, true)), .un .not (.tmp 22)⟩,
            ⟨(some 24), none, .pick (.tmp 16) (.tmp 23) (.cst (.bool false))⟩])
          (.cond (.tmp 24)
           (.seq (.region [⟨(some 2), none, .mv (.cst (.bool false))⟩])
            (.ret))
           (.skip))))
        (.region [⟨(some 8), none, .mv (.tmp 3)⟩,
          ⟨(some 9), none, .bin .add (.tmp 8) (.cst (.int .i64 1))⟩,
          ⟨(some 3), none, .mv (.tmp 9)⟩]))))))
   (.seq (.region [⟨(some 2), none, .mv (.cst (.bool true))⟩])
    (.ret)))⟩
/-- barrow/view.Right -/
def a45 : AFun := ⟨19, [.tmp 2],
 .seq (.region [⟨(some 2), none, .mv (.cst (.bool false))⟩])
  (.seq (.region [⟨(some 3), none, .mv (.cst (.int .i64 0))⟩])
   (.seq (.seq (.region [⟨(some 6), none, .mv (.tmp 0)⟩,
       ⟨(some 7), none, .lenS (.tmp 6)⟩,
       ⟨(some 8), none, .mv (.cst (.int .i64 0))⟩])
     (rangeCode 0 1 8 7 9 18 (.seq (.region [⟨(some 10), none, .indexAddr 11 (.tmp 6) (.tmp 8)⟩,
           ⟨(some 11), none, .load true 11 (.tmp 10)⟩,
           ⟨(some 5), none, .alloc [.int .i64 0, .str [], .int .i64 0, .int .i64 0, .int .i64 0, .int .i64 0, .int .i64 0, .int .i64 0, .int .i64 0, .int .i64 0, .int .i64 0]⟩,
           ⟨none, none, .store 11 (.tmp 5) (.tmp 11)⟩])
         (.seq (.seq (.region [⟨(some 12), none, .fieldAddr 0 (.tmp 5)⟩,
             ⟨(some 13), none, .load false 1 (.tmp 12)⟩,
             ⟨(some 14), none, .mv (.tmp 3)⟩,
             ⟨(some 15), none, .bin .leq (.tmp 13) (.tmp 14)⟩])
           (.cond (.tmp 15)
            (.seq (.region [⟨(some 2), none, .mv (.cst (.bool false))⟩])
             (.ret))
            (.skip)))
          (.region [⟨(some 16), none, .fieldAddr 0 (.tmp 5)⟩,
            ⟨(some 17), none, .load false 1 (.tmp 16)⟩,
            ⟨(some 3), none, .mv (.tmp 17)⟩])))))
    (.seq (.region [⟨(some 2), none, .mv (.cst (.bool true))⟩])
     (.ret))))⟩
/-- barrow/view.FoldAll -/
def a46 : AFun := ⟨20, [.cell 4 true 4],
 .seq (.region [⟨(some 2), none, .box (.tmp 0)⟩,
    ⟨(some 4), none, .alloc [.int .i64 0, .slice none 0 none, .slice none 0 none, .bool false]⟩])
  (.seq (.region [⟨(some 7), none, .load true 4 (.tmp 2)⟩,
     ⟨(some 8), none, .call false (.cst (.func 76 [] [])) [.tmp 7]⟩,
     ⟨none, none, .store 4 (.tmp 2) (.tmp 8)⟩])
   (.seq (.seq (.region [⟨(some 9), none, .mv (.tmp 1)⟩,
       ⟨(some 10), none, .lenS (.tmp 9)⟩,
       ⟨(some 11), none, .mv (.cst (.int .i64 0))⟩])
     (rangeCode 0 1 11 10 12 18 (.seq (.region [⟨(some 13), none, .indexAddr 3 (.tmp 9) (.tmp 11)⟩,
              ⟨(some 14), none, .load true 3 (.tmp 13)⟩,
              ⟨(some 6), none, .alloc [.int .i64 0, .slice none 0 none, .str []]⟩,
              ⟨none, none, .store 3 (.tmp 6) (.tmp 14)⟩])
            (.region [⟨(some 15), none, .load true 4 (.tmp 2)⟩,
              ⟨(some 16), none, .load true 3 (.tmp 6)⟩,
              ⟨(some 17), none, .call false (.cst (.func 50 [] [])) [.tmp 15, .tmp 16]⟩,
              ⟨none, none, .store 4 (.tmp 2) (.tmp 17)⟩]))))
    (.seq (.region [⟨(some 19), none, .load true 4 (.tmp 2)⟩,
       ⟨none, none, .store 4 (.tmp 4) (.tmp 19)⟩])
     (.ret))))⟩
/-- barrow/view.Full -/
def a47 : AFun := ⟨29, [.tmp 4],
 .seq (.region [⟨(some 4), none, .mv (.cst (.slice none 0 none))⟩])
  (.seq (.region [⟨(some 8), none, .build [.int .i64 0, .slice none 0 none, .str []] [(0, 1, (.cst (.int .i64 3)))]⟩,
     ⟨(some 9), none, .mv (.tmp 0)⟩,
     ⟨(some 10), none, .bslice 1 1 [.int .i64 0] [(0, 1, (.tmp 9))]⟩,
     ⟨(some 11), none, .build [.int .i64 0, .slice none 0 none, .str []] [(0, 1, (.cst (.int .i64 2))), (1, 1, (.tmp 10))]⟩,
     ⟨(some 12), none, .bslice 3 2 [.int .i64 0, .slice none 0 none, .str []] [(0, 3, (.tmp 8)), (3, 3, (.tmp 11))]⟩,
     ⟨(some 5), none, .mv (.tmp 12)⟩])
   (.seq (.seq (.region [⟨(some 13), none, .mv (.tmp 1)⟩,
       ⟨(some 14), none, .lenS (.tmp 13)⟩,
       ⟨(some 15), none, .mv (.cst (.int .i64 0))⟩])
     (rangeCode 0 1 15 14 16 24 (.seq (.region [⟨(some 17), none, .indexAddr 11 (.tmp 13) (.tmp 15)⟩,
                  ⟨(some 18), none, .load true 11 (.tmp 17)⟩,
                  ⟨(some 7), none, .alloc [.int .i64 0, .str [], .int .i64 0, .int .i64 0, .int .i64 0, .int .i64 0, .int .i64 0, .int .i64 0, .int .i64 0, .int .i64 0, .int .i64 0]⟩,
                  ⟨none, none, .store 11 (.tmp 7) (.tmp 18)⟩])
                (.region [⟨(some 19), none, .mv (.tmp 5)⟩,
                  ⟨(some 20), none, .load true 11 (.tmp 7)⟩,
                  ⟨(some 21), none, .call false (.cst (.func 77 [] [])) [.tmp 20]⟩,
                  ⟨(some 22), none, .bslice 3 1 [.int .i64 0, .slice none 0 none, .str []] [(0, 3, (.tmp 21))]⟩,
                  ⟨(some 23), none, .append 3 48 (.tmp 19) (.tmp 22)⟩,
                  ⟨(some 5), none, .mv (.tmp 23)⟩]))))
    (.seq (.region [⟨(some 25), none, .mv (.tmp 5)⟩,
       ⟨(some 26), none, .build [.int .i64 0, .slice none 0 none, .str []] [(0, 1, (.cst (.int .i64 10)))]⟩,
       ⟨(some 27), none, .bslice 3 1 [.int .i64 0, .slice none 0 none, .str []] [(0, 3, (.tmp 26))]⟩,
       ⟨(some 28), none, .append 3 48 (.tmp 25) (.tmp 27)⟩,
       ⟨(some 4), none, .mv (.tmp 28)⟩])
     (.ret))))⟩
/-- barrow/view.Same -/
def a48 : AFun := ⟨31, [.tmp 4],
 .seq (.region [⟨(some 2), none, .box (.tmp 0)⟩,
    ⟨(some 3), none, .box (.tmp 1)⟩,
    ⟨(some 4), none, .mv (.cst (.bool false))⟩])
  (.seq (.region [⟨(some 5), none, .fieldAddr 0 (.tmp 2)⟩,
     ⟨(some 6), none, .load false 1 (.tmp 5)⟩,
     ⟨(some 7), none, .fieldAddr 0 (.tmp 3)⟩,
     ⟨(some 8), none, .load false 1 (.tmp 7)⟩,
     ⟨(some 9), none, .bin .eql (.tmp 6) (.tmp 8)⟩,
     ⟨(some 10), none, .mv (.tmp 9)⟩,
     ⟨(some 11), (some (10, true)), .fieldAddr 3 (.tmp 2)⟩,
     ⟨(some 12), (some (10, true)), .load false 1 (.tmp 11)⟩,
     ⟨(some 13), (some (10, true)), .fieldAddr 3 (.tmp 3)⟩,
     ⟨(some 14), (some (10, true)), .load false 1 (.tmp 13)⟩,
     ⟨(some 15), (some (10, true)), .eq false .bool (.tmp 12) (.tmp 14)⟩,
     ⟨(some 16), none, .pick (.tmp 10) (.tmp 15) (.cst (.bool false))⟩,
     ⟨(some 17), none, .mv (.tmp 16)⟩,
     ⟨(some 18), (some (17, true)), .fieldAddr 1 (.tmp 2)⟩,
     ⟨(some 19), (some (17, true)), .load false 1 (.tmp 18)⟩,
     ⟨(some 20), (some (17, true)), .fieldAddr 1 (.tmp 3)⟩,
     ⟨(some 21), (some (17, true)), .load false 1 (.tmp 20)⟩,
     ⟨(some 22), (some (17, true)), .call false (.cst (.func 78 [] [])) [.tmp 19, .tmp 21]⟩,
     ⟨(some 23), none, .pick (.tmp 17) (.tmp 22) (.cst (.bool false))⟩,
     ⟨(some 24), none, .mv (.tmp 23)⟩,
     ⟨(some 25), (some (24, true)), .fieldAddr 2 (.tmp 2)⟩,
     ⟨(some 26), (some (24, true)), .load false 1 (.tmp 25)⟩,
     ⟨(some 27), (some (24, true)), .fieldAddr 2 (.tmp 3)⟩,
     ⟨(some 28), (some (24, true)), .load false 1 (.tmp 27)⟩,
     ⟨(some 29), (some (24, true)), .call false (.cst (.func 79 [] [])) [.tmp 26, .tmp 28]⟩,
     ⟨(some 30), none, .pick (.tmp 24) (.tmp 29) (.cst (.bool false))⟩,
     ⟨(some 4), none, .mv (.tmp 30)⟩])
   (.ret))⟩
/-- barrow/view.Updates -/
def a49 : AFun := ⟨67, [.tmp 4],
 .seq (.region [⟨(some 4), none, .mv (.cst (.slice none 0 none))⟩])
  (.seq (.region [⟨(some 5), none, .mv (.cst (.slice none 0 none))⟩])
   (.seq (.seq (.region [⟨(some 11), none, .mv (.tmp 0)⟩,
       ⟨(some 12), none, .lenS (.tmp 11)⟩,
       ⟨(some 13), none, .mv (.cst (.int .i64 0))⟩])
     (rangeCode 0 1 13 12 14 29 (.seq (.region [⟨(some 15), none, .indexAddr 11 (.tmp 11) (.tmp 13)⟩,
                ⟨(some 16), none, .load true 11 (.tmp 15)⟩,
                ⟨(some 7), none, .alloc [.int .i64 0, .str [], .int .i64 0, .int .i64 0, .int .i64 0, .int .i64 0, .int .i64 0, .int .i64 0, .int .i64 0, .int .i64 0, .int .i64 0]⟩,
                ⟨none, none, .store 11 (.tmp 7) (.tmp 16)⟩])
              (.seq (.region [⟨(some 17), none, .mv (.tmp 1)⟩,
                 ⟨(some 18), none, .fieldAddr 0 (.tmp 7)⟩,
                 ⟨(some 19), none, .load false 1 (.tmp 18)⟩,
                 ⟨(some 20), none, .call false (.cst (.func 80 [] [])) [.tmp 17, .tmp 19]⟩,
                 ⟨(some 21), none, .bin .lss (.tmp 20) (.cst (.int .i64 0))⟩])
               (.cond (.tmp 21)
                (.region [⟨(some 22), none, .mv (.tmp 5)⟩,
                  ⟨(some 23), none, .fieldAddr 0 (.tmp 7)⟩,
                  ⟨(some 24), none, .load false 1 (.tmp 23)⟩,
                  ⟨(some 25), none, .bslice 1 1 [.int .i64 0] [(0, 1, (.tmp 24))]⟩,
                  ⟨(some 26), none, .build [.int .i64 0, .slice none 0 none, .str []] [(0, 1, (.cst (.int .i64 5))), (1, 1, (.tmp 25))]⟩,
                  ⟨(some 27), none, .bslice 3 1 [.int .i64 0, .slice none 0 none, .str []] [(0, 3, (.tmp 26))]⟩,
                  ⟨(some 28), none, .append 3 48 (.tmp 22) (.tmp 27)⟩,
                  ⟨(some 5), none, .mv (.tmp 28)⟩])
                (.skip))))))
    (.seq (.seq (.region [⟨(some 30), none, .mv (.tmp 1)⟩,
        ⟨(some 31), none, .lenS (.tmp 30)⟩,
        ⟨(some 32), none, .mv (.cst (.int .i64 0))⟩])
      (rangeCode 2 3 32 31 33 65 (.seq (.region [⟨(some 34), none, .indexAddr 11 (.tmp 30) (.tmp 32)⟩,
                                   ⟨(some 35), none, .load true 11 (.tmp 34)⟩,
                                   ⟨(some 9), none, .alloc [.int .i64 0, .str [], .int .i64 0, .int .i64 0, .int .i64 0, .int .i64 0, .int .i64 0, .int .i64 0, .int .i64 0, .int .i64 0, .int .i64 0]⟩,
                                   ⟨none, none, .store 11 (.tmp 9) (.tmp 35)⟩])
                                 (.seq (.region [⟨(some 36), none, .mv (.tmp 0)⟩,
                                    ⟨(some 37), none, .fieldAddr 0 (.tmp 9)⟩,
                                    ⟨(some 38), none, .load false 1 (.tmp 37)⟩,
                                    ⟨(some 39), none, .call false (.cst (.func 80 [] [])) [.tmp 36, .tmp 38]⟩,
                                    ⟨(some 10), none, .mv (.tmp 39)⟩])
                                  (.seq (.seq (.dregion [⟨(some 40), none, .mv (.tmp 10)⟩,
                                      ⟨(some 41), none, .bin .lss (.tmp 40) (.cst (.int .i64 0))⟩,
                                      ⟨(some 42), none, .mv (.tmp 41)⟩,
                                      ⟨(some 43), (some (42, false)), .mv (.tmp 0)⟩,
                                      ⟨(some 44), (some (42, false)), .mv (.tmp 10)⟩,
                                      ⟨(some 45), (some (42, false)), .indexAddr 11 (.tmp 43) (.tmp 44)⟩,
                                      ⟨(some 46), (some (42, false)), .fieldAddr 1 (.tmp 45)⟩,
                                      ⟨(some 47), (some (42, false)), .load false 1 (.tmp 46)⟩,
                                      ⟨(some 48), (some (42, false)), .fieldAddr 1 (.tmp 9)⟩,
                                      ⟨(some 49), (some (42, false)), .load false 1 (.tmp 48)⟩,
                                      ⟨(some 50), (some (42, false)), .bin .neq (.tmp 47) (.tmp 49)⟩,
                                      ⟨(some 51), none, .pick (.tmp 42) (.cst (.bool true)) (.tmp 50)⟩] [])
                                    (.cond (.tmp 51)
                                     (.seq (.region [⟨(some 52), none, .mv (.tmp 5)⟩,
                                        ⟨(some 53), none, .load true 11 (.tmp 9)⟩,
                                        ⟨(some 54), none, .call false (.cst (.func 77 [] [])) [.tmp 53]⟩,
                                        ⟨(some 55), none, .bslice 3 1 [.int .i64 0, .slice none 0 none, .str []] [(0, 3, (.tmp 54))]⟩,
                                        ⟨(some 56), none, .append 3 48 (.tmp 52) (.tmp 55)⟩,
                                        ⟨(some 5), none, .mv (.tmp 56)⟩])
                                      (.exit 3))
                                     (.skip)))
                                   (.dregion [⟨(some 57), none, .mv (.tmp 5)⟩,
                                     ⟨(some 58), none, .mv (.tmp 0)⟩,
                                     ⟨(some 59), none, .mv (.tmp 10)⟩,
                                     ⟨(some 60), none, .indexAddr 11 (.tmp 58) (.tmp 59)⟩,
                                     ⟨(some 61), none, .load true 11 (.tmp 60)⟩,
                                     ⟨(some 62), none, .load true 11 (.tmp 9)⟩,
                                     ⟨(some 63), none, .call false (.cst (.func 81 [] [])) [.tmp 61, .tmp 62]⟩,
                                     ⟨(some 64), none, .append 3 48 (.tmp 57) (.tmp 63)⟩,
                                     ⟨(some 5), none, .mv (.tmp 64)⟩] []))))))
     (.seq (.region [⟨(some 66), none, .mv (.tmp 5)⟩,
        ⟨(some 4), none, .mv (.tmp 66)⟩])
      (.ret)))))⟩
/-- barrow/view.Fold -/
def a50 : AFun := ⟨98, [.cell 4 true 4],
 .seq (.region [⟨(some 2), none, .box (.tmp 0)⟩,
    ⟨(some 3), none, .box (.tmp 1)⟩,
    ⟨(some 4), none, .alloc [.int .i64 0, .slice none 0 none, .slice none 0 none, .bool false]⟩])
  (.seq (.region [⟨(some 6), none, .load true 4 (.tmp 2)⟩,
     ⟨(some 7), none, .call false (.cst (.func 76 [] [])) [.tmp 6]⟩,
     ⟨none, none, .store 4 (.tmp 2) (.tmp 7)⟩])
   (.seq (.seq (.region [⟨(some 8), none, .load true 3 (.tmp 3)⟩,
       ⟨(some 9), none, .call false (.cst (.func 17 [] [])) [.tmp 8]⟩,
       ⟨(some 10), none, .un .not (.tmp 9)⟩])
     (.cond (.tmp 10)
      (.seq (.region [⟨(some 11), none, .load true 4 (.tmp 2)⟩,
         ⟨none, none, .store 4 (.tmp 4) (.tmp 11)⟩])
       (.ret))
      (.skip)))
    (.seq (.seq (.region [⟨(some 12), none, .fieldAddr 0 (.tmp 3)⟩,
        ⟨(some 13), none, .load false 1 (.tmp 12)⟩])
      (.block 0 (.seq (.region [⟨(some 15), none, .bin .eql (.tmp 13) (.cst (.int .i64 2))⟩,
          ⟨(some 14), none, .mv (.tmp 15)⟩])
        (.cond (.tmp 14)
         (.region [⟨(some 16), none, .fieldAddr 1 (.tmp 3)⟩,
           ⟨(some 17), none, .load false 1 (.tmp 16)⟩,
           ⟨(some 18), none, .indexAddr 1 (.tmp 17) (.cst (.int .i64 0))⟩,
           ⟨(some 19), none, .load false 1 (.tmp 18)⟩,
           ⟨(some 20), none, .fieldAddr 0 (.tmp 2)⟩,
           ⟨none, none, .store 1 (.tmp 20) (.tmp 19)⟩])
         (.seq (.region [⟨(some 22), none, .bin .eql (.tmp 13) (.cst (.int .i64 3))⟩,
            ⟨(some 21), none, .mv (.tmp 22)⟩])
          (.cond (.tmp 21)
           (.seq (.region [⟨(some 23), none, .build [.int .i64 0, .slice none 0 none, .slice none 0 none, .bool false] []⟩,
              ⟨none, none, .store 4 (.tmp 4) (.tmp 23)⟩])
            (.ret))
           (.seq (.region [⟨(some 25), none, .bin .eql (.tmp 13) (.cst (.int .i64 4))⟩,
              ⟨(some 24), none, .mv (.tmp 25)⟩])
            (.cond (.tmp 24)
             (.region [⟨(some 26), none, .fieldAddr 1 (.tmp 2)⟩,
               ⟨(some 27), none, .load false 1 (.tmp 26)⟩,
               ⟨(some 28), none, .load true 3 (.tmp 3)⟩,
               ⟨(some 29), none, .call false (.cst (.func 82 [] [])) [.tmp 27, .tmp 28]⟩,
               ⟨(some 30), none, .fieldAddr 1 (.tmp 2)⟩,
               ⟨none, none, .store 1 (.tmp 30) (.tmp 29)⟩])
             (.seq (.region [⟨(some 32), none, .bin .eql (.tmp 13) (.cst (.int .i64 5))⟩,
                ⟨(some 31), none, .mv (.tmp 32)⟩])
              (.cond (.tmp 31)
               (.seq (.dregion [⟨(some 33), none, .fieldAddr 1 (.tmp 2)⟩,
                  ⟨(some 34), none, .load false 1 (.tmp 33)⟩,
                  ⟨(some 35), none, .fieldAddr 1 (.tmp 3)⟩,
                  ⟨(some 36), none, .load false 1 (.tmp 35)⟩,
                  ⟨(some 37), none, .indexAddr 1 (.tmp 36) (.cst (.int .i64 0))⟩,
                  ⟨(some 38), none, .load false 1 (.tmp 37)⟩,
                  ⟨(some 39), none, .call false (.cst (.func 80 [] [])) [.tmp 34, .tmp 38]⟩,
                  ⟨(some 5), none, .mv (.tmp 39)⟩] [])
                (.seq (.region [⟨(some 40), none, .mv (.tmp 5)⟩,
                   ⟨(some 41), none, .bin .geq (.tmp 40) (.cst (.int .i64 0))⟩])
                 (.cond (.tmp 41)
                  (.region [⟨(some 42), none, .fieldAddr 1 (.tmp 2)⟩,
                    ⟨(some 43), none, .load false 1 (.tmp 42)⟩,
                    ⟨(some 44), none, .mv (.tmp 5)⟩,
                    ⟨(some 45), none, .mv (.tmp 5)⟩,
                    ⟨(some 46), none, .bin .add (.tmp 45) (.cst (.int .i64 1))⟩,
                    ⟨(some 47), none, .call false (.cst (.func 83 [] [])) [.tmp 43, .tmp 44, .tmp 46]⟩,
                    ⟨(some 48), none, .fieldAddr 1 (.tmp 2)⟩,
                    ⟨none, none, .store 1 (.tmp 48) (.tmp 47)⟩])
                  (.skip))))
               (.seq (.region [⟨(some 50), none, .bin .eql (.tmp 13) (.cst (.int .i64 6))⟩,
                  ⟨(some 49), none, .mv (.tmp 50)⟩])
                (.cond (.tmp 49)
                 (.dregion [⟨(some 51), none, .fieldAddr 1 (.tmp 2)⟩,
                   ⟨(some 52), none, .load false 1 (.tmp 51)⟩,
                   ⟨(some 53), none, .fieldAddr 1 (.tmp 3)⟩,
                   ⟨(some 54), none, .load false 1 (.tmp 53)⟩,
                   ⟨(some 55), none, .indexAddr 1 (.tmp 54) (.cst (.int .i64 0))⟩,
                   ⟨(some 56), none, .load false 1 (.tmp 55)⟩,
                   ⟨(some 57), none, .fieldAddr 1 (.tmp 3)⟩,
                   ⟨(some 58), none, .load false 1 (.tmp 57)⟩,
                   ⟨(some 59), none, .indexAddr 1 (.tmp 58) (.cst (.int .i64 1))⟩,
                   ⟨(some 60), none, .load false 1 (.tmp 59)⟩,
                   ⟨(some 61), none, .fieldAddr 1 (.tmp 3)⟩,
                   ⟨(some 62), none, .load false 1 (.tmp 61)⟩,
                   ⟨(some 63), none, .indexAddr 1 (.tmp 62) (.cst (.int .i64 2))⟩,
                   ⟨(some 64), none, .load false 1 (.tmp 63)⟩,
                   ⟨(some 65), none, .call false (.cst (.func 84 [] [])) [.tmp 52, .tmp 56, .tmp 60, .tmp 64]⟩] [])
                 (.seq (.region [⟨(some 67), none, .bin .eql (.tmp 13) (.cst (.int .i64 7))⟩,
                    ⟨(some 66), none, .mv (.tmp 67)⟩])
                  (.cond (.tmp 66)
                   (.dregion [⟨(some 68), none, .fieldAddr 2 (.tmp 2)⟩,
                     ⟨(some 69), none, .load false 1 (.tmp 68)⟩,
                     ⟨(some 70), none, .fieldAddr 1 (.tmp 3)⟩,
                     ⟨(some 71), none, .load false 1 (.tmp 70)⟩,
                     ⟨(some 72), none, .indexAddr 1 (.tmp 71) (.cst (.int .i64 0))⟩,
                     ⟨(some 73), none, .load false 1 (.tmp 72)⟩,
                     ⟨(some 74), none, .fieldAddr 1 (.tmp 3)⟩,
                     ⟨(some 75), none, .load false 1 (.tmp 74)⟩,
                     ⟨(some 76), none, .indexAddr 1 (.tmp 75) (.cst (.int .i64 1))⟩,
                     ⟨(some 77), none, .load false 1 (.tmp 76)⟩,
                     ⟨(some 78), none, .fieldAddr 1 (.tmp 3)⟩,
                     ⟨(some 79), none, .load false 1 (.tmp 78)⟩,
                     ⟨(some 80), none, .indexAddr 1 (.tmp 79) (.cst (.int .i64 2))⟩,
                     ⟨(some 81), none, .load false 1 (.tmp 80)⟩,
                     ⟨(some 82), none, .fieldAddr 1 (.tmp 3)⟩,
                     ⟨(some 83), none, .load false 1 (.tmp 82)⟩,
                     ⟨(some 84), none, .indexAddr 1 (.tmp 83) (.cst (.int .i64 3))⟩,
                     ⟨(some 85), none, .load false 1 (.tmp 84)⟩,
                     ⟨(some 86), none, .fieldAddr 1 (.tmp 3)⟩,
                     ⟨(some 87), none, .load false 1 (.tmp 86)⟩,
                     ⟨(some 88), none, .indexAddr 1 (.tmp 87) (.cst (.int .i64 4))⟩,
                     ⟨(some 89), none, .load false 1 (.tmp 88)⟩,
                     ⟨(some 90), none, .build [.int .i64 0, .int .i64 0, .int .i64 0, .int .i64 0, .int .i64 0] [(0, 1, (.tmp 73)), (1, 1, (.tmp 77)), (2, 1, (.tmp 81)), (3, 1, (.tmp 85)), (4, 1, (.tmp 89))]⟩,
                     ⟨(some 91), none, .bslice 5 1 [.int .i64 0, .int .i64 0, .int .i64 0, .int .i64 0, .int .i64 0] [(0, 5, (.tmp 90))]⟩,
                     ⟨(some 92), none, .append 5 40 (.tmp 69) (.tmp 91)⟩,
                     ⟨(some 93), none, .fieldAddr 2 (.tmp 2)⟩,
                     ⟨none, none, .store 1 (.tmp 93) (.tmp 92)⟩] [])
                   (.seq (.region [⟨(some 95), none, .bin .eql (.tmp 13) (.cst (.int .i64 10))⟩,
                      ⟨(some 94), none, .mv (.tmp 95)⟩])
                    (.cond (.tmp 94)
                     (.region [⟨(some 96), none, .fieldAddr 3 (.tmp 2)⟩,
                       ⟨none, none, .store 1 (.tmp 96) (.cst (.bool true))⟩])
                     (.skip)))))))))))))))))
     (.seq (.region [⟨(some 97), none, .load true 4 (.tmp 2)⟩,
        ⟨none, none, .store 4 (.tmp 4) (.tmp 97)⟩])
      (.ret)))))⟩
/-- barrow/message.Size -/
def a51 : AFun := ⟨15, [.tmp 2, .tmp 3],
 .seq (.region [⟨(some 2), none, .mv (.cst (.int .i64 0))⟩,
    ⟨(some 3), none, .mv (.cst (.bool false))⟩])
  (.seq (.region [⟨(some 5), none, .call false (.cst (.func 85 [] [])) []⟩,
     ⟨(some 4), none, .alloc (repCells [.int .i64 0] 11)⟩,
     ⟨none, none, .store 11 (.tmp 4) (.tmp 5)⟩])
   (.seq (.seq (.region [⟨(some 6), none, .mv (.tmp 0)⟩,
       ⟨(some 7), none, .bin .leq (.tmp 6) (.cst (.int .i64 0))⟩,
       ⟨(some 8), none, .mv (.tmp 7)⟩,
       ⟨(some 9), (some (8, false)), .mv (.tmp 0)⟩,
       ⟨(some 10), (some (8, false)), .bin .geq (.tmp 9) (.cst (.int .i64 11))⟩,
       ⟨(some 11), none, .pick (.tmp 8) (.cst (.bool true)) (.tmp 10)⟩])
     (.cond (.tmp 11)
      (.seq (.region [⟨(some 2), none, .mv (.cst (.int .i64 0))⟩,
         ⟨(some 3), none, .mv (.cst (.bool false))⟩])
       (.ret))
      (.skip)))
    (.seq (.region [⟨(some 12), none, .mv (.tmp 0)⟩,
       ⟨(some 13), none, .indexAddrA 11 1 (.tmp 4) (.tmp 12)⟩,
       ⟨(some 14), none, .load false 1 (.tmp 13)⟩,
       ⟨(some 2), none, .mv (.tmp 14)⟩,
       ⟨(some 3), none, .mv (.cst (.bool true))⟩])
     (.ret))))⟩
/-- barrow/barrowref12.Size -/
def a52 : AFun := ⟨21, [.tmp 2, .tmp 3],
 .seq (.region [⟨(some 2), none, .mv (.cst (.int .i64 0))⟩,
    ⟨(some 3), none, .mv (.cst (.bool false))⟩])
  (.seq (.seq (.region [⟨(some 4), none, .mv (.tmp 0)⟩])
    (.block 0 (.seq (.seq (.region [⟨(some 6), none, .bin .eql (.tmp 4) (.cst (.int .i64 3))⟩,
         ⟨(some 5), none, .mv (.tmp 6)⟩])
       (.cond (.tmp 5)
        (.skip)
        (.region [⟨(some 7), none, .bin .eql (.tmp 4) (.cst (.int .i64 10))⟩,
          ⟨(some 5), none, .mv (.tmp 7)⟩])))
      (.cond (.tmp 5)
       (.seq (.region [⟨(some 2), none, .mv (.cst (.int .i64 0))⟩,
          ⟨(some 3), none, .mv (.cst (.bool true))⟩])
        (.ret))
       (.seq (.seq (.region [⟨(some 9), none, .bin .eql (.tmp 4) (.cst (.int .i64 2))⟩,
           ⟨(some 8), none, .mv (.tmp 9)⟩])
         (.cond (.tmp 8)
          (.skip)
          (.region [⟨(some 10), none, .bin .eql (.tmp 4) (.cst (.int .i64 5))⟩,
            ⟨(some 8), none, .mv (.tmp 10)⟩])))
        (.cond (.tmp 8)
         (.seq (.region [⟨(some 2), none, .mv (.cst (.int .i64 1))⟩,
            ⟨(some 3), none, .mv (.cst (.bool true))⟩])
          (.ret))
         (.seq (.seq (.region [⟨(some 12), none, .bin .eql (.tmp 4) (.cst (.int .i64 1))⟩,
             ⟨(some 11), none, .mv (.tmp 12)⟩])
           (.cond (.tmp 11)
            (.skip)
            (.region [⟨(some 13), none, .bin .eql (.tmp 4) (.cst (.int .i64 9))⟩,
              ⟨(some 11), none, .mv (.tmp 13)⟩])))
          (.cond (.tmp 11)
           (.seq (.region [⟨(some 2), none, .mv (.cst (.int .i64 2))⟩,
              ⟨(some 3), none, .mv (.cst (.bool true))⟩])
            (.ret))
           (.seq (.seq (.region [⟨(some 15), none, .bin .eql (.tmp 4) (.cst (.int .i64 6))⟩,
               ⟨(some 14), none, .mv (.tmp 15)⟩])
             (.cond (.tmp 14)
              (.skip)
              (.region [⟨(some 16), none, .bin .eql (.tmp 4) (.cst (.int .i64 8))⟩,
                ⟨(some 14), none, .mv (.tmp 16)⟩])))
            (.cond (.tmp 14)
             (.seq (.region [⟨(some 2), none, .mv (.cst (.int .i64 3))⟩,
                ⟨(some 3), none, .mv (.cst (.bool true))⟩])
              (.ret))
             (.seq (.region [⟨(some 18), none, .bin .eql (.tmp 4) (.cst (.int .i64 7))⟩,
                ⟨(some 17), none, .mv (.tmp 18)⟩])
              (.cond (.tmp 17)
               (.seq (.region [⟨(some 2), none, .mv (.cst (.int .i64 5))⟩,
                  ⟨(some 3), none, .mv (.cst (.bool true))⟩])
                (.ret))
               (.seq (.region [⟨(some 20), none, .bin .eql (.tmp 4) (.cst (.int .i64 4))⟩,
                  ⟨(some 19), none, .mv (.tmp 20)⟩])
                (.cond (.tmp 19)
                 (.seq (.region [⟨(some 2), none, .mv (.cst (.int .i64 10))⟩,
                    ⟨(some 3), none, .mv (.cst (.bool true))⟩])
                  (.ret))
                 (.skip)))))))))))))))
   (.seq (.region [⟨(some 2), none, .mv (.cst (.int .i64 0))⟩,
      ⟨(some 3), none, .mv (.cst (.bool false))⟩])
    (.ret)))⟩
/-- barrow/barrowref03.ReadInt -/
def a53 : AFun := ⟨33, [.tmp 4, .tmp 5, .tmp 6],
 .seq (.region [⟨(some 4), none, .mv (.cst (.int .i64 0))⟩,
    ⟨(some 5), none, .mv (.cst (.int .i64 0))⟩,
    ⟨(some 6), none, .mv (.cst (.int .i64 0))⟩])
  (.seq (.region [⟨(some 11), none, .mv (.tmp 0)⟩,
     ⟨(some 12), none, .mv (.tmp 1)⟩,
     ⟨(some 13), none, .call false (.cst (.func 86 [] [])) [.tmp 11, .tmp 12]⟩,
     ⟨(some 10), none, .mv (.tmp 13)⟩,
     ⟨(some 14), none, .extract (.tmp 10) 0⟩,
     ⟨(some 15), none, .extract (.tmp 10) 1⟩,
     ⟨(some 16), none, .extract (.tmp 10) 2⟩,
     ⟨(some 7), none, .mv (.tmp 14)⟩,
     ⟨(some 8), none, .mv (.tmp 15)⟩,
     ⟨(some 9), none, .mv (.tmp 16)⟩])
   (.seq (.seq (.region [⟨(some 17), none, .mv (.tmp 9)⟩,
       ⟨(some 18), none, .un .not (.tmp 17)⟩])
     (.cond (.tmp 18)
      (.seq (.region [⟨(some 19), none, .mv (.tmp 1)⟩,
         ⟨(some 4), none, .mv (.cst (.int .i64 0))⟩,
         ⟨(some 5), none, .mv (.tmp 19)⟩,
         ⟨(some 6), none, .mv (.cst (.int .i64 2))⟩])
       (.ret))
      (.skip)))
    (.seq (.seq (.region [⟨(some 20), none, .mv (.tmp 7)⟩,
        ⟨(some 21), none, .bin .rem (.tmp 20) (.cst (.int .u64 2))⟩,
        ⟨(some 22), none, .bin .eql (.tmp 21) (.cst (.int .u64 1))⟩])
      (.cond (.tmp 22)
       (.seq (.region [⟨(some 23), none, .mv (.tmp 7)⟩,
          ⟨(some 24), none, .bin .quo (.tmp 23) (.cst (.int .u64 2))⟩,
          ⟨(some 25), none, .convInt .i64 (.tmp 24)⟩,
          ⟨(some 26), none, .un .neg (.tmp 25)⟩,
          ⟨(some 27), none, .bin .sub (.tmp 26) (.cst (.int .i64 1))⟩,
          ⟨(some 28), none, .mv (.tmp 8)⟩,
          ⟨(some 4), none, .mv (.tmp 27)⟩,
          ⟨(some 5), none, .mv (.tmp 28)⟩,
          ⟨(some 6), none, .mv (.cst (.int .i64 0))⟩])
        (.ret))
       (.skip)))
     (.seq (.region [⟨(some 29), none, .mv (.tmp 7)⟩,
        ⟨(some 30), none, .bin .quo (.tmp 29) (.cst (.int .u64 2))⟩,
        ⟨(some 31), none, .convInt .i64 (.tmp 30)⟩,
        ⟨(some 32), none, .mv (.tmp 8)⟩,
        ⟨(some 4), none, .mv (.tmp 31)⟩,
        ⟨(some 5), none, .mv (.tmp 32)⟩,
        ⟨(some 6), none, .mv (.cst (.int .i64 0))⟩])
      (.ret)))))⟩
/-- barrow/barrowref12.Right -/
def a54 : AFun := ⟨36, [.tmp 2],
 .seq (.region [⟨(some 1), none, .box (.tmp 0)⟩,
    ⟨(some 2), none, .mv (.cst (.bool false))⟩])
  (.seq (.region [⟨(some 7), none, .fieldAddr 0 (.tmp 1)⟩,
     ⟨(some 8), none, .load false 1 (.tmp 7)⟩,
     ⟨(some 9), none, .call false (.cst (.func 52 [] [])) [.tmp 8]⟩,
     ⟨(some 6), none, .mv (.tmp 9)⟩,
     ⟨(some 10), none, .extract (.tmp 6) 0⟩,
     ⟨(some 11), none, .extract (.tmp 6) 1⟩,
     ⟨(some 3), none, .mv (.tmp 10)⟩,
     ⟨(some 4), none, .mv (.tmp 11)⟩])
   (.seq (.region [⟨(some 12), none, .fieldAddr 2 (.tmp 1)⟩,
      ⟨(some 13), none, .load false 1 (.tmp 12)⟩,
      ⟨(some 14), none, .call false (.cst (.func 63 [] [])) [.tmp 13]⟩,
      ⟨(some 5), none, .mv (.tmp 14)⟩])
    (.seq (.region [⟨(some 15), none, .mv (.tmp 4)⟩,
       ⟨(some 16), none, .mv (.tmp 15)⟩,
       ⟨(some 17), (some (16, true)), .fieldAddr 1 (.tmp 1)⟩,
       ⟨(some 18), (some (16, true)), .load false 1 (.tmp 17)⟩,
       ⟨(some 19), (some (16, true)), .lenS (.tmp 18)⟩,
       ⟨(some 20), (some (16, true)), .mv (.tmp 3)⟩,
       ⟨(some 21), (some (16, true)), .bin .eql (.tmp 19) (.tmp 20)⟩,
       ⟨(some 22), none, .pick (.tmp 16) (.tmp 21) (.cst (.bool false))⟩,
       ⟨(some 23), none, .mv (.tmp 22)⟩,
       ⟨(some 24), (some (23, true)), .fieldAddr 2 (.tmp 1)⟩,
       ⟨(some 25), (some (23, true)), .load false 1 (.tmp 24)⟩,
       ⟨(some 26), (some (23, true)), .bin .eql (.tmp 25) (.cst (.str []))⟩,
       ⟨(some 27), (some (23, true)), .mv (.tmp 26)⟩,
       ⟨(some 28), (some (27, false)), .fieldAddr 0 (.tmp 1)⟩,
       ⟨(some 29), (some (27, false)), .load false 1 (.tmp 28)⟩,
       ⟨(some 30), (some (27, false)), .bin .eql (.tmp 29) (.cst (.int .i64 4))⟩,
       ⟨(some 31), (some (27, false)), .mv (.tmp 30)⟩,
       ⟨(some 32), (some (31, true)), .mv (.tmp 5)⟩,
       ⟨(some 33), (some (27, false)), .pick (.tmp 31) (.tmp 32) (.cst (.bool false))⟩,
       ⟨(some 34), (some (23, true)), .pick (.tmp 27) (.cst (.bool true)) (.tmp 33)⟩,
       ⟨(some 35), none, .pick (.tmp 23) (.tmp 34) (.cst (.bool false))⟩,
       ⟨(some 2), none, .mv (.tmp 35)⟩])
     (.ret))))⟩
/-- barrow/pack.ReadInt -/
def a55 : AFun := ⟨21, [.tmp 4, .tmp 5, .tmp 6],
 .seq (.region [⟨(some 4), none, .mv (.cst (.int .i64 0))⟩,
    ⟨(some 5), none, .mv (.cst (.int .i64 0))⟩,
    ⟨(some 6), none, .mv (.cst (.int .i64 0))⟩])
  (.seq (.region [⟨(some 11), none, .mv (.tmp 0)⟩,
     ⟨(some 12), none, .mv (.tmp 1)⟩,
     ⟨(some 13), none, .call false (.cst (.func 87 [] [])) [.tmp 11, .tmp 12]⟩,
     ⟨(some 10), none, .mv (.tmp 13)⟩,
     ⟨(some 14), none, .extract (.tmp 10) 0⟩,
     ⟨(some 15), none, .extract (.tmp 10) 1⟩,
     ⟨(some 16), none, .extract (.tmp 10) 2⟩,
     ⟨(some 7), none, .mv (.tmp 14)⟩,
     ⟨(some 8), none, .mv (.tmp 15)⟩,
     ⟨(some 9), none, .mv (.tmp 16)⟩])
   (.seq (.region [⟨(some 17), none, .mv (.tmp 7)⟩,
      ⟨(some 18), none, .call false (.cst (.func 88 [] [])) [.tmp 17]⟩,
      ⟨(some 19), none, .mv (.tmp 8)⟩,
      ⟨(some 20), none, .mv (.tmp 9)⟩,
      ⟨(some 4), none, .mv (.tmp 18)⟩,
      ⟨(some 5), none, .mv (.tmp 19)⟩,
      ⟨(some 6), none, .mv (.tmp 20)⟩])
    (.ret)))⟩
/-- barrow/pack.Int -/
def a56 : AFun := ⟨10, [.tmp 4],
 .seq (.region [⟨(some 4), none, .mv (.cst (.slice none 0 none))⟩])
  (.seq (.region [⟨(some 5), none, .mv (.tmp 0)⟩,
     ⟨(some 6), none, .call false (.cst (.func 90 [] [])) [.tmp 5]⟩,
     ⟨(some 7), none, .mv (.tmp 1)⟩,
     ⟨(some 8), none, .call false (.cst (.func 91 [] [])) [.tmp 7]⟩,
     ⟨(some 9), none, .call false (.cst (.func 89 [] [])) [.tmp 6, .tmp 8]⟩,
     ⟨(some 4), none, .mv (.tmp 9)⟩])
   (.ret))⟩
/-- barrow/pack.Uint -/
def a57 : AFun := ⟨11, [.tmp 4],
 .seq (.region [⟨(some 4), none, .mv (.cst (.slice none 0 none))⟩])
  (.seq (.region [⟨(some 5), none, .mv (.tmp 0)⟩,
     ⟨(some 6), none, .call false (.cst (.func 90 [] [])) [.tmp 5]⟩,
     ⟨(some 7), none, .mv (.tmp 1)⟩,
     ⟨(some 8), none, .minmax true (.tmp 7) [.cst (.int .i64 0)]⟩,
     ⟨(some 9), none, .convInt .u64 (.tmp 8)⟩,
     ⟨(some 10), none, .call false (.cst (.func 89 [] [])) [.tmp 6, .tmp 9]⟩,
     ⟨(some 4), none, .mv (.tmp 10)⟩])
   (.ret))⟩
/-- slices.Equal[[]int,int] -/
def a58 : AFun := ⟨26, [.tmp 4],
 .seq (.region [⟨(some 4), none, .mv (.cst (.bool false))⟩])
  (.seq (.seq (.region [⟨(some 6), none, .mv (.tmp 0)⟩,
      ⟨(some 7), none, .lenS (.tmp 6)⟩,
      ⟨(some 8), none, .mv (.tmp 1)⟩,
      ⟨(some 9), none, .lenS (.tmp 8)⟩,
      ⟨(some 10), none, .bin .neq (.tmp 7) (.tmp 9)⟩])
    (.cond (.tmp 10)
     (.seq (.region [⟨(some 4), none, .mv (.cst (.bool false))⟩])
      (.ret))
     (.skip)))
   (.seq (.seq (.region [⟨(some 11), none, .mv (.tmp 0)⟩,
       ⟨(some 12), none, .lenS (.tmp 11)⟩,
       ⟨(some 13), none, .mv (.cst (.int .i64 0))⟩])
     (rangeCode 0 1 13 12 14 25 (.seq (.region [⟨(some 15), none, .mv (.tmp 13)⟩,
                ⟨(some 5), none, .mv (.tmp 15)⟩])
              (.seq (.dregion [⟨(some 16), none, .mv (.tmp 0)⟩,
                 ⟨(some 17), none, .mv (.tmp 5)⟩,
                 ⟨(some 18), none, .indexAddr 1 (.tmp 16) (.tmp 17)⟩,
                 ⟨(some 19), none, .load false 1 (.tmp 18)⟩,
                 ⟨(some 20), none, .mv (.tmp 1)⟩,
                 ⟨(some 21), none, .mv (.tmp 5)⟩,
                 ⟨(some 22), none, .indexAddr 1 (.tmp 20) (.tmp 21)⟩,
                 ⟨(some 23), none, .load false 1 (.tmp 22)⟩,
                 ⟨(some 24), none, .bin .neq (.tmp 19) (.tmp 23)⟩] [])
               (.cond (.tmp 24)
                (.seq (.region [⟨(some 4), none, .mv (.cst (.bool false))⟩])
                 (.ret))
                (.skip))))))
    (.seq (.region [⟨(some 4), none, .mv (.cst (.bool true))⟩])
     (.ret))))⟩
/-- slices.Clone[[]barrow/api.Lock,barrow/api.Lock] -/
def a59 : AFun := ⟨8, [.tmp 2],
 .seq (.region [⟨(some 2), none, .mv (.cst (.slice none 0 none))⟩])
  (.seq (.seq (.region [⟨(some 3), none, .mv (.tmp 0)⟩,
      ⟨(some 4), none, .eq false .slc (.tmp 3) (.cst (.slice none 0 none))⟩])
    (.cond (.tmp 4)
     (.seq (.region [⟨(some 2), none, .mv (.cst (.slice none 0 none))⟩])
      (.ret))
     (.skip)))
   (.seq (.region [⟨(some 5), none, .bslice 3 0 [.str [], .int .i64 0, .int .i64 0] []⟩,
      ⟨(some 6), none, .mv (.tmp 0)⟩,
      ⟨(some 7), none, .append 3 32 (.tmp 5) (.tmp 6)⟩,
      ⟨(some 2), none, .mv (.tmp 7)⟩])
    (.ret)))⟩
/-- slices.BinarySearchFunc[[]barrow/api.Lock,barrow/api.Lock,barrow/api.Lock] -/
def a60 : AFun := ⟨49, [.tmp 6, .tmp 7],
 .seq (.region [⟨(some 4), none, .box (.tmp 1)⟩,
    ⟨(some 6), none, .mv (.cst (.int .i64 0))⟩,
    ⟨(some 7), none, .mv (.cst (.bool false))⟩])
  (.seq (.region [⟨(some 12), none, .mv (.tmp 0)⟩,
     ⟨(some 13), none, .lenS (.tmp 12)⟩,
     ⟨(some 8), none, .mv (.tmp 13)⟩])
   (.seq (.region [⟨(some 14), none, .mv (.tmp 8)⟩,
      ⟨(some 9), none, .mv (.cst (.int .i64 0))⟩,
      ⟨(some 10), none, .mv (.tmp 14)⟩])
    (.seq (.block 0 (.loop (.seq (.seq (.region [⟨(some 15), none, .mv (.tmp 9)⟩,
           ⟨(some 16), none, .mv (.tmp 10)⟩,
           ⟨(some 17), none, .bin .lss (.tmp 15) (.tmp 16)⟩])
         (.cond (.tmp 17)
          (.skip)
          (.exit 0)))
        (.block 1 (.seq (.region [⟨(some 18), none, .mv (.tmp 9)⟩,
            ⟨(some 19), none, .mv (.tmp 10)⟩,
            ⟨(some 20), none, .bin .add (.tmp 18) (.tmp 19)⟩,
            ⟨(some 21), none, .convInt .u64 (.tmp 20)⟩,
            ⟨(some 22), none, .bin .shr (.tmp 21) (.cst (.int .u64 1))⟩,
            ⟨(some 23), none, .convInt .i64 (.tmp 22)⟩,
            ⟨(some 11), none, .mv (.tmp 23)⟩])
          (.seq (.dregion [⟨(some 24), none, .mv (.tmp 2)⟩,
             ⟨(some 25), none, .mv (.tmp 0)⟩,
             ⟨(some 26), none, .mv (.tmp 11)⟩,
             ⟨(some 27), none, .indexAddr 3 (.tmp 25) (.tmp 26)⟩,
             ⟨(some 28), none, .load true 3 (.tmp 27)⟩,
             ⟨(some 29), none, .load true 3 (.tmp 4)⟩,
             ⟨(some 30), none, .call false (.tmp 24) [.tmp 28, .tmp 29]⟩,
             ⟨(some 31), none, .bin .lss (.tmp 30) (.cst (.int .i64 0))⟩] [])
           (.cond (.tmp 31)
            (.region [⟨(some 32), none, .mv (.tmp 11)⟩,
              ⟨(some 33), none, .bin .add (.tmp 32) (.cst (.int .i64 1))⟩,
              ⟨(some 9), none, .mv (.tmp 33)⟩])
            (.region [⟨(some 34), none, .mv (.tmp 11)⟩,
              ⟨(some 10), none, .mv (.tmp 34)⟩]))))))))
     (.seq (.dregion [⟨(some 35), none, .mv (.tmp 9)⟩,
        ⟨(some 36), none, .mv (.tmp 9)⟩,
        ⟨(some 37), none, .mv (.tmp 8)⟩,
        ⟨(some 38), none, .bin .lss (.tmp 36) (.tmp 37)⟩,
        ⟨(some 39), none, .mv (.tmp 38)⟩,
        ⟨(some 40), (some (39, true)), .mv (.tmp 2)⟩,
        ⟨(some 41), (some (39, true)), .mv (.tmp 0)⟩,
        ⟨(some 42), (some (39, true)), .mv (.tmp 9)⟩,
        ⟨(some 43), (some (39, true)), .indexAddr 3 (.tmp 41) (.tmp 42)⟩,
        ⟨(some 44), (some (39, true)), .load true 3 (.tmp 43)⟩,
        ⟨(some 45), (some (39, true)), .load true 3 (.tmp 4)⟩,
        ⟨(some 46), (some (39, true)), .call false (.tmp 40) [.tmp 44, .tmp 45]⟩,
        ⟨(some 47), (some (39, true)), .bin .eql (.tmp 46) (.cst (.int .i64 0))⟩,
        ⟨(some 48), none, .pick (.tmp 39) (.tmp 47) (.cst (.bool false))⟩,
        ⟨(some 6), none, .mv (.tmp 35)⟩,
        ⟨(some 7), none, .mv (.tmp 48)⟩] [])
      (.ret)))))⟩
/-- barrow/lock.order -/
def a61 : AFun := ⟨17, [.tmp 4],
 .seq (.region [⟨(some 2), none, .box (.tmp 0)⟩,
    ⟨(some 3), none, .box (.tmp 1)⟩,
    ⟨(some 4), none, .mv (.cst (.int .i64 0))⟩])
  (.seq (.dregion [⟨(some 5), none, .fieldAddr 0 (.tmp 2)⟩,
     ⟨(some 6), none, .load false 1 (.tmp 5)⟩,
     ⟨(some 7), none, .fieldAddr 0 (.tmp 3)⟩,
     ⟨(some 8), none, .load false 1 (.tmp 7)⟩,
     ⟨(some 9), none, .call true (.cst (.func 93 [] [])) [.tmp 6, .tmp 8]⟩,
     ⟨(some 10), none, .fieldAddr 1 (.tmp 2)⟩,
     ⟨(some 11), none, .load false 1 (.tmp 10)⟩,
     ⟨(some 12), none, .fieldAddr 1 (.tmp 3)⟩,
     ⟨(some 13), none, .load false 1 (.tmp 12)⟩,
     ⟨(some 14), none, .call false (.cst (.func 94 [] [])) [.tmp 11, .tmp 13]⟩,
     ⟨(some 15), none, .bslice 1 2 [.int .i64 0] [(0, 1, (.tmp 9)), (1, 1, (.tmp 14))]⟩,
     ⟨(some 16), none, .call false (.cst (.func 92 [] [])) [.tmp 15]⟩,
     ⟨(some 4), none, .mv (.tmp 16)⟩] [])
   (.ret))⟩
/-- barrow/barrowref11.Name -/
def a63 : AFun := ⟨48, [.tmp 2],
 .seq (.region [⟨(some 2), none, .mv (.cst (.bool false))⟩])
  (.seq (.seq (.region [⟨(some 3), none, .mv (.cst (.int .i64 0))⟩])
    (.block 0 (.loop (.seq (.seq (.region [⟨(some 5), none, .mv (.tmp 3)⟩,
          ⟨(some 6), none, .mv (.tmp 0)⟩,
          ⟨(some 7), none, .lenStr (.tmp 6)⟩,
          ⟨(some 8), none, .bin .lss (.tmp 5) (.tmp 7)⟩])
        (.cond (.tmp 8)
         (.skip)
         (.exit 0)))
       (.seq (.block 1 (.seq (.region [⟨(some 11), none, .mv (.tmp 0)⟩,
            ⟨(some 12), none, .mv (.tmp 3)⟩,
            ⟨(some 13), none, .indexS (.tmp 11) (.tmp 12)⟩,
            ⟨(some 4), none, .mv (.tmp 13)⟩])
          (.seq (.region [⟨(some 14), none, .mv (.tmp 4)⟩,
             ⟨(some 15), none, .bin .neq (.tmp 14) (.cst (.int .u8 45))⟩,
             ⟨(some 16), none, .mv (.tmp 15)⟩,
             ⟨(some 17), (some (16, true)), .mv (.tmp 4)⟩,
             ⟨(some 18), (some (16, true)), .bin .lss (.tmp 17) (.cst (.int .u8 48))⟩,
             ⟨(some 19), (some (16, true)), .mv (.tmp 18)⟩,
             ⟨(some 20), (some (19, false)), .mv (.tmp 4)⟩,
             ⟨(some 21), (some (19, false)), .bin .gtr (.tmp 20) (.cst (.int .u8 57))⟩,
             ⟨(some 22), (some (16, true)), .pick (.tmp 19) (.cst (.bool true)) (.tmp 21)⟩,
             ⟨(some 23), none, .pick (.tmp 16) (.tmp 22) (.cst (.bool false))⟩,
             ⟨(some 24), none, .mv (.tmp 23)⟩,
             ⟨(some 25), (some (24, true)), .mv (.tmp 4)⟩,
             ⟨(some 26), (some (24, true)), .bin .lss (.tmp 25) (.cst (.int .u8 65))⟩,
             ⟨(some 27), (some (24, true)), .mv (.tmp 26)⟩,
             ⟨(some 28), (some (27, false)), .mv (.tmp 4)⟩,
             ⟨(some 29), (some (27, false)), .bin .gtr (.tmp 28) (.cst (.int .u8 90))⟩,
             ⟨(some 30), (some (24, true)), .pick (.tmp 27) (.cst (.bool true)) (.tmp 29)⟩,
             ⟨(some 31), none, .pick (.tmp 24) (.tmp 30) (.cst (.bool false))⟩,
             ⟨(some 32), none, .mv (.tmp 31)⟩,
             ⟨(some 33), (some (32, true)), .mv (.tmp 4)⟩,
             ⟨(some 34), (some (32, true)), .bin .lss (.tmp 33) (.cst (.int .u8 97))⟩,
             ⟨(some 35), (some (32, true)), .mv (.tmp 34)⟩,
             ⟨(some 36), (some (35, false)), .mv (.tmp 4)⟩,
             ⟨(some 37), (some (35, false)), .bin .gtr (.tmp 36) (.cst (.int .u8 122))⟩,
             ⟨(some 38), (some (32, true)), .pick (.tmp 35) (.cst (.bool true)) (.tmp 37)⟩,
             ⟨(some 39), none, .pick (.tmp 32) (.tmp 38) (.cst (.bool false))⟩])
           (.cond (.tmp 39)
            (.seq (.region [⟨(some 2), none, .mv (.cst (.bool false))⟩])
             (.ret))
            (.skip)))))
        (.region [⟨(some 9), none, .mv (.tmp 3)⟩,
          ⟨(some 10), none, .bin .add (.tmp 9) (.cst (.int .i64 1))⟩,
          ⟨(some 3), none, .mv (.tmp 10)⟩]))))))
   (.seq (.region [⟨(some 40), none, .mv (.tmp 0)⟩,
      ⟨(some 41), none, .lenStr (.tmp 40)⟩,
      ⟨(some 42), none, .bin .geq (.tmp 41) (.cst (.int .i64 1))⟩,
      ⟨(some 43), none, .mv (.tmp 42)⟩,
      ⟨(some 44), (some (43, true)), .mv (.tmp 0)⟩,
      ⟨(some 45), (some (43, true)), .lenStr (.tmp 44)⟩,
      ⟨(some 46), (some (43, true)), .bin .leq (.tmp 45) (.cst (.int .i64 24))⟩,
      ⟨(some 47), none, .pick (.tmp 43) (.tmp 46) (.cst (.bool false))⟩,
      ⟨(some 2), none, .mv (.tmp 47)⟩])
    (.ret)))⟩
/-- barrow/barrowref37.ahead -/
def a64 : AFun := ⟨24, [.tmp 4],
 .seq (.region [⟨(some 2), none, .box (.tmp 0)⟩,
    ⟨(some 3), none, .box (.tmp 1)⟩,
    ⟨(some 4), none, .mv (.cst (.bool false))⟩])
  (.seq (.region [⟨(some 5), none, .fieldAddr 0 (.tmp 2)⟩,
     ⟨(some 6), none, .load false 1 (.tmp 5)⟩,
     ⟨(some 7), none, .fieldAddr 0 (.tmp 3)⟩,
     ⟨(some 8), none, .load false 1 (.tmp 7)⟩,
     ⟨(some 9), none, .bin .lss (.tmp 6) (.tmp 8)⟩,
     ⟨(some 10), none, .mv (.tmp 9)⟩,
     ⟨(some 11), (some (10, false)), .fieldAddr 0 (.tmp 2)⟩,
     ⟨(some 12), (some (10, false)), .load false 1 (.tmp 11)⟩,
     ⟨(some 13), (some (10, false)), .fieldAddr 0 (.tmp 3)⟩,
     ⟨(some 14), (some (10, false)), .load false 1 (.tmp 13)⟩,
     ⟨(some 15), (some (10, false)), .bin .eql (.tmp 12) (.tmp 14)⟩,
     ⟨(some 16), (some (10, false)), .mv (.tmp 15)⟩,
     ⟨(some 17), (some (16, true)), .fieldAddr 1 (.tmp 2)⟩,
     ⟨(some 18), (some (16, true)), .load false 1 (.tmp 17)⟩,
     ⟨(some 19), (some (16, true)), .fieldAddr 1 (.tmp 3)⟩,
     ⟨(some 20), (some (16, true)), .load false 1 (.tmp 19)⟩,
     ⟨(some 21), (some (16, true)), .bin .lss (.tmp 18) (.tmp 20)⟩,
     ⟨(some 22), (some (10, false)), .pick (.tmp 16) (.tmp 21) (.cst (.bool false))⟩,
     ⟨(some 23), none, .pick (.tmp 10) (.cst (.bool true)) (.tmp 22)⟩,
     ⟨(some 4), none, .mv (.tmp 23)⟩])
   (.ret))⟩
/-- barrow/barrowref37.Copy -/
def a65 : AFun := ⟨6, [.tmp 2],
 .seq (.region [⟨(some 2), none, .mv (.cst (.slice none 0 none))⟩])
  (.seq (.region [⟨(some 3), none, .bslice 3 0 [.str [], .int .i64 0, .int .i64 0] []⟩,
     ⟨(some 4), none, .mv (.tmp 0)⟩,
     ⟨(some 5), none, .append 3 32 (.tmp 3) (.tmp 4)⟩,
     ⟨(some 2), none, .mv (.tmp 5)⟩])
   (.ret))⟩
/-- slices.IndexFunc[[]barrow/api.Lock,barrow/api.Lock] -/
def a66 : AFun := ⟨19, [.tmp 4],
 .seq (.region [⟨(some 4), none, .mv (.cst (.int .i64 0))⟩])
  (.seq (.seq (.region [⟨(some 6), none, .mv (.tmp 0)⟩,
      ⟨(some 7), none, .lenS (.tmp 6)⟩,
      ⟨(some 8), none, .mv (.cst (.int .i64 0))⟩])
    (rangeCode 0 1 8 7 9 18 (.seq (.region [⟨(some 10), none, .mv (.tmp 8)⟩,
           ⟨(some 5), none, .mv (.tmp 10)⟩])
         (.seq (.region [⟨(some 11), none, .mv (.tmp 1)⟩,
            ⟨(some 12), none, .mv (.tmp 0)⟩,
            ⟨(some 13), none, .mv (.tmp 5)⟩,
            ⟨(some 14), none, .indexAddr 3 (.tmp 12) (.tmp 13)⟩,
            ⟨(some 15), none, .load true 3 (.tmp 14)⟩,
            ⟨(some 16), none, .call false (.tmp 11) [.tmp 15]⟩])
          (.cond (.tmp 16)
           (.seq (.region [⟨(some 17), none, .mv (.tmp 5)⟩,
              ⟨(some 4), none, .mv (.tmp 17)⟩])
            (.ret))
           (.skip))))))
   (.seq (.region [⟨(some 4), none, .mv (.cst (.int .i64 (-1)))⟩])
    (.ret)))⟩
/-- barrow/lock.Until$1 -/
def a67 : AFun := ⟨15, [.tmp 4],
 .seq (.region [⟨(some 3), none, .box (.tmp 0)⟩,
    ⟨(some 4), none, .mv (.cst (.bool false))⟩])
  (.seq (.region [⟨(some 5), none, .fieldAddr 0 (.tmp 3)⟩,
     ⟨(some 6), none, .load false 1 (.tmp 5)⟩,
     ⟨(some 7), none, .load false 1 (.tmp 1)⟩,
     ⟨(some 8), none, .bin .eql (.tmp 6) (.tmp 7)⟩,
     ⟨(some 9), none, .mv (.tmp 8)⟩,
     ⟨(some 10), (some (9, true)), .fieldAddr 1 (.tmp 3)⟩,
     ⟨(some 11), (some (9, true)), .load false 1 (.tmp 10)⟩,
     ⟨(some 12), (some (9, true)), .load false 1 (.tmp 2)⟩,
     ⟨(some 13), (some (9, true)), .bin .eql (.tmp 11) (.tmp 12)⟩,
     ⟨(some 14), none, .pick (.tmp 9) (.tmp 13) (.cst (.bool false))⟩,
     ⟨(some 4), none, .mv (.tmp 14)⟩])
   (.ret))⟩
/-- slices.DeleteFunc[[]barrow/api.Lock,barrow/api.Lock] -/
def a68 : AFun := ⟨42, [.tmp 4],
 .seq (.region [⟨(some 4), none, .mv (.cst (.slice none 0 none))⟩])
  (.seq (.region [⟨(some 8), none, .mv (.tmp 0)⟩,
     ⟨(some 9), none, .mv (.tmp 1)⟩,
     ⟨(some 10), none, .call false (.cst (.func 66 [] [])) [.tmp 8, .tmp 9]⟩,
     ⟨(some 5), none, .mv (.tmp 10)⟩])
   (.seq (.seq (.region [⟨(some 11), none, .mv (.tmp 5)⟩,
       ⟨(some 12), none, .bin .eql (.tmp 11) (.cst (.int .i64 (-1)))⟩])
     (.cond (.tmp 12)
      (.seq (.region [⟨(some 13), none, .mv (.tmp 0)⟩,
         ⟨(some 4), none, .mv (.tmp 13)⟩])
       (.ret))
      (.skip)))
    (.seq (.seq (.region [⟨(some 14), none, .mv (.tmp 5)⟩,
        ⟨(some 15), none, .bin .add (.tmp 14) (.cst (.int .i64 1))⟩,
        ⟨(some 6), none, .mv (.tmp 15)⟩])
      (.block 0 (.loop (.seq (.seq (.region [⟨(some 16), none, .mv (.tmp 6)⟩,
            ⟨(some 17), none, .mv (.tmp 0)⟩,
            ⟨(some 18), none, .lenS (.tmp 17)⟩,
            ⟨(some 19), none, .bin .lss (.tmp 16) (.tmp 18)⟩])
          (.cond (.tmp 19)
           (.skip)
           (.exit 0)))
         (.seq (.block 1 (.seq (.region [⟨(some 22), none, .mv (.tmp 0)⟩,
              ⟨(some 23), none, .mv (.tmp 6)⟩,
              ⟨(some 24), none, .indexAddr 3 (.tmp 22) (.tmp 23)⟩,
              ⟨(some 25), none, .load true 3 (.tmp 24)⟩,
              ⟨(some 7), none, .alloc [.str [], .int .i64 0, .int .i64 0]⟩,
              ⟨none, none, .store 3 (.tmp 7) (.tmp 25)⟩])
            (.seq (.region [⟨(some 26), none, .mv (.tmp 1)⟩,
               ⟨(some 27), none, .load true 3 (.tmp 7)⟩,
               ⟨(some 28), none, .call false (.tmp 26) [.tmp 27]⟩,
               ⟨(some 29), none, .un .not (.tmp 28)⟩])
             (.cond (.tmp 29)
              (.seq (.region [⟨(some 30), none, .mv (.tmp 0)⟩,
                 ⟨(some 31), none, .mv (.tmp 5)⟩,
                 ⟨(some 32), none, .load true 3 (.tmp 7)⟩,
                 ⟨(some 33), none, .indexAddr 3 (.tmp 30) (.tmp 31)⟩,
                 ⟨none, none, .store 3 (.tmp 33) (.tmp 32)⟩])
               (.region [⟨(some 34), none, .mv (.tmp 5)⟩,
                 ⟨(some 35), none, .bin .add (.tmp 34) (.cst (.int .i64 1))⟩,
                 ⟨(some 5), none, .mv (.tmp 35)⟩]))
              (.skip)))))
          (.region [⟨(some 20), none, .mv (.tmp 6)⟩,
            ⟨(some 21), none, .bin .add (.tmp 20) (.cst (.int .i64 1))⟩,
            ⟨(some 6), none, .mv (.tmp 21)⟩]))))))
     (.seq (.region [⟨(some 36), none, .mv (.tmp 0)⟩,
        ⟨(some 37), none, .mv (.tmp 5)⟩,
        ⟨(some 38), none, .slice 3 (.tmp 36) (some (.tmp 37)) none none⟩,
        ⟨none, none, .clear [.str [], .int .i64 0, .int .i64 0] (.tmp 38)⟩])
      (.seq (.region [⟨(some 39), none, .mv (.tmp 0)⟩,
         ⟨(some 40), none, .mv (.tmp 5)⟩,
         ⟨(some 41), none, .slice 3 (.tmp 39) none (some (.tmp 40)) none⟩,
         ⟨(some 4), none, .mv (.tmp 41)⟩])
       (.ret))))))⟩
/-- barrow/lock.Clean$1 -/
def a69 : AFun := ⟨8, [.tmp 3],
 .seq (.region [⟨(some 2), none, .box (.tmp 0)⟩,
    ⟨(some 3), none, .mv (.cst (.bool false))⟩])
  (.seq (.region [⟨(some 4), none, .fieldAddr 2 (.tmp 2)⟩,
     ⟨(some 5), none, .load false 1 (.tmp 4)⟩,
     ⟨(some 6), none, .load false 1 (.tmp 1)⟩,
     ⟨(some 7), none, .bin .leq (.tmp 5) (.tmp 6)⟩,
     ⟨(some 3), none, .mv (.tmp 7)⟩])
   (.ret))⟩
end Go.Proofs.Qq.Qqd

/- PRINTED BY A PROGRAM (seat.py): the resolved code of functions. -/
namespace Go.Proofs.Qq.Qqd
open Go.Proofs.Qq
/-- slices.DeleteFunc[[]string,string] -/
def a70 : AFun := ⟨42, [.tmp 4],
 .seq (.region [⟨(some 4), none, .mv (.cst (.slice none 0 none))⟩])
  (.seq (.region [⟨(some 8), none, .mv (.tmp 0)⟩,
     ⟨(some 9), none, .mv (.tmp 1)⟩,
     ⟨(some 10), none, .call false (.cst (.func 97 [] [])) [.tmp 8, .tmp 9]⟩,
     ⟨(some 5), none, .mv (.tmp 10)⟩])
   (.seq (.seq (.region [⟨(some 11), none, .mv (.tmp 5)⟩,
       ⟨(some 12), none, .bin .eql (.tmp 11) (.cst (.int .i64 (-1)))⟩])
     (.cond (.tmp 12)
      (.seq (.region [⟨(some 13), none, .mv (.tmp 0)⟩,
         ⟨(some 4), none, .mv (.tmp 13)⟩])
       (.ret))
      (.skip)))
    (.seq (.seq (.region [⟨(some 14), none, .mv (.tmp 5)⟩,
        ⟨(some 15), none, .bin .add (.tmp 14) (.cst (.int .i64 1))⟩,
        ⟨(some 6), none, .mv (.tmp 15)⟩])
      (.block 0 (.loop (.seq (.seq (.region [⟨(some 16), none, .mv (.tmp 6)⟩,
            ⟨(some 17), none, .mv (.tmp 0)⟩,
            ⟨(some 18), none, .lenS (.tmp 17)⟩,
            ⟨(some 19), none, .bin .lss (.tmp 16) (.tmp 18)⟩])
          (.cond (.tmp 19)
           (.skip)
           (.exit 0)))
         (.seq (.block 1 (.seq (.region [⟨(some 22), none, .mv (.tmp 0)⟩,
              ⟨(some 23), none, .mv (.tmp 6)⟩,
              ⟨(some 24), none, .indexAddr 1 (.tmp 22) (.tmp 23)⟩,
              ⟨(some 25), none, .load false 1 (.tmp 24)⟩,
              ⟨(some 7), none, .mv (.tmp 25)⟩])
            (.seq (.region [⟨(some 26), none, .mv (.tmp 1)⟩,
               ⟨(some 27), none, .mv (.tmp 7)⟩,
               ⟨(some 28), none, .call false (.tmp 26) [.tmp 27]⟩,
               ⟨(some 29), none, .un .not (.tmp 28)⟩])
             (.cond (.tmp 29)
              (.seq (.region [⟨(some 30), none, .mv (.tmp 0)⟩,
                 ⟨(some 31), none, .mv (.tmp 5)⟩,
                 ⟨(some 32), none, .mv (.tmp 7)⟩,
                 ⟨(some 33), none, .indexAddr 1 (.tmp 30) (.tmp 31)⟩,
                 ⟨none, none, .store 1 (.tmp 33) (.tmp 32)⟩])
               (.region [⟨(some 34), none, .mv (.tmp 5)⟩,
                 ⟨(some 35), none, .bin .add (.tmp 34) (.cst (.int .i64 1))⟩,
                 ⟨(some 5), none, .mv (.tmp 35)⟩]))
              (.skip)))))
          (.region [⟨(some 20), none, .mv (.tmp 6)⟩,
            ⟨(some 21), none, .bin .add (.tmp 20) (.cst (.int .i64 1))⟩,
            ⟨(some 6), none, .mv (.tmp 21)⟩]))))))
     (.seq (.region [⟨(some 36), none, .mv (.tmp 0)⟩,
        ⟨(some 37), none, .mv (.tmp 5)⟩,
        ⟨(some 38), none, .slice 1 (.tmp 36) (some (.tmp 37)) none none⟩,
        ⟨none, none, .clear [.str []] (.tmp 38)⟩])
      (.seq (.region [⟨(some 39), none, .mv (.tmp 0)⟩,
         ⟨(some 40), none, .mv (.tmp 5)⟩,
         ⟨(some 41), none, .slice 1 (.tmp 39) none (some (.tmp 40)) none⟩,
         ⟨(some 4), none, .mv (.tmp 41)⟩])
       (.ret))))))⟩
/-- slices.Clone[[]string,string] -/
def a71 : AFun := ⟨8, [.tmp 2],
 .seq (.region [⟨(some 2), none, .mv (.cst (.slice none 0 none))⟩])
  (.seq (.seq (.region [⟨(some 3), none, .mv (.tmp 0)⟩,
      ⟨(some 4), none, .eq false .slc (.tmp 3) (.cst (.slice none 0 none))⟩])
    (.cond (.tmp 4)
     (.seq (.region [⟨(some 2), none, .mv (.cst (.slice none 0 none))⟩])
      (.ret))
     (.skip)))
   (.seq (.region [⟨(some 5), none, .bslice 1 0 [.str []] []⟩,
      ⟨(some 6), none, .mv (.tmp 0)⟩,
      ⟨(some 7), none, .append 1 16 (.tmp 5) (.tmp 6)⟩,
      ⟨(some 2), none, .mv (.tmp 7)⟩])
    (.ret)))⟩
/-- barrow/lock.Free$1 -/
def a72 : AFun := ⟨17, [.tmp 5],
 .seq (.region [⟨(some 5), none, .mv (.cst (.bool false))⟩])
  (.seq (.region [⟨(some 9), none, .load false 1 (.tmp 1)⟩,
     ⟨(some 10), none, .mv (.tmp 0)⟩,
     ⟨(some 11), none, .load false 1 (.tmp 2)⟩,
     ⟨(some 12), none, .load false 1 (.tmp 3)⟩,
     ⟨(some 13), none, .call false (.cst (.func 24 [] [])) [.tmp 9, .tmp 10, .tmp 11, .tmp 12]⟩,
     ⟨(some 8), none, .mv (.tmp 13)⟩,
     ⟨(some 14), none, .extract (.tmp 8) 0⟩,
     ⟨(some 15), none, .extract (.tmp 8) 1⟩,
     ⟨(some 6), none, .mv (.tmp 14)⟩,
     ⟨(some 7), none, .mv (.tmp 15)⟩])
   (.seq (.region [⟨(some 16), none, .mv (.tmp 7)⟩,
      ⟨(some 5), none, .mv (.tmp 16)⟩])
    (.ret)))⟩
/-- strings.Trim -/
def a73 : AFun := ⟨43, [.tmp 4],
 .seq (.region [⟨(some 4), none, .mv (.cst (.str []))⟩])
  (.seq (.seq (.region [⟨(some 7), none, .mv (.tmp 0)⟩,
      ⟨(some 8), none, .bin .eql (.tmp 7) (.cst (.str []))⟩,
      ⟨(some 9), none, .mv (.tmp 8)⟩,
      ⟨(some 10), (some (9, false)), .mv (.tmp 1)⟩,
      ⟨(some 11), (some (9, false)), .bin .eql (.tmp 10) (.cst (.str []))⟩,
      ⟨(some 12), none, .pick (.tmp 9) (.cst (.bool true)) (.tmp 11)⟩])
    (.cond (.tmp 12)
     (.seq (.region [⟨(some 13), none, .mv (.tmp 0)⟩,
        ⟨(some 4), none, .mv (.tmp 13)⟩])
      (.ret))
     (.skip)))
   (.seq (.seq (.region [⟨(some 14), none, .mv (.tmp 1)⟩,
       ⟨(some 15), none, .lenStr (.tmp 14)⟩,
       ⟨(some 16), none, .bin .eql (.tmp 15) (.cst (.int .i64 1))⟩,
       ⟨(some 17), none, .mv (.tmp 16)⟩,
       ⟨(some 18), (some (17, true)), .mv (.tmp 1)⟩,
       ⟨(some 19), (some (17, true)), .indexS (.tmp 18) (.cst (.int .i64 0))⟩,
       ⟨(some 20), (some (17, true)), .bin .lss (.tmp 19) (.cst (.int .u8 128))⟩,
       ⟨(some 21), none, .pick (.tmp 17) (.tmp 20) (.cst (.bool false))⟩])
     (.cond (.tmp 21)
      (.seq (.dregion [⟨(some 22), none, .mv (.tmp 0)⟩,
         ⟨(some 23), none, .mv (.tmp 1)⟩,
         ⟨(some 24), none, .indexS (.tmp 23) (.cst (.int .i64 0))⟩,
         ⟨(some 25), none, .call false (.cst (.func 99 [] [])) [.tmp 22, .tmp 24]⟩,
         ⟨(some 26), none, .mv (.tmp 1)⟩,
         ⟨(some 27), none, .indexS (.tmp 26) (.cst (.int .i64 0))⟩,
         ⟨(some 28), none, .call false (.cst (.func 98 [] [])) [.tmp 25, .tmp 27]⟩,
         ⟨(some 4), none, .mv (.tmp 28)⟩] [])
       (.ret))
      (.skip)))
    (.seq (.seq (.region [⟨(some 30), none, .mv (.tmp 1)⟩,
        ⟨(some 31), none, .call false (.cst (.func 100 [] [])) [.tmp 30]⟩,
        ⟨(some 29), none, .mv (.tmp 31)⟩,
        ⟨(some 32), none, .extract (.tmp 29) 0⟩,
        ⟨(some 33), none, .extract (.tmp 29) 1⟩,
        ⟨(some 5), none, .alloc (repCells [.bool false] 256)⟩,
        ⟨none, none, .store 256 (.tmp 5) (.tmp 32)⟩,
        ⟨(some 6), none, .mv (.tmp 33)⟩])
      (.seq (.region [⟨(some 34), none, .mv (.tmp 6)⟩])
       (.cond (.tmp 34)
        (.seq (.region [⟨(some 35), none, .mv (.tmp 0)⟩,
           ⟨(some 36), none, .call false (.cst (.func 102 [] [])) [.tmp 35, .tmp 5]⟩,
           ⟨(some 37), none, .call false (.cst (.func 101 [] [])) [.tmp 36, .tmp 5]⟩,
           ⟨(some 4), none, .mv (.tmp 37)⟩])
         (.ret))
        (.skip))))
     (.seq (.region [⟨(some 38), none, .mv (.tmp 0)⟩,
        ⟨(some 39), none, .mv (.tmp 1)⟩,
        ⟨(some 40), none, .call false (.cst (.func 104 [] [])) [.tmp 38, .tmp 39]⟩,
        ⟨(some 41), none, .mv (.tmp 1)⟩,
        ⟨(some 42), none, .call false (.cst (.func 103 [] [])) [.tmp 40, .tmp 41]⟩,
        ⟨(some 4), none, .mv (.tmp 42)⟩])
      (.ret)))))⟩
/-- barrow/lock.within -/
def a74 : AFun := ⟨15, [.tmp 6],
 .seq (.region [⟨(some 6), none, .mv (.cst (.bool false))⟩])
  (.seq (.region [⟨(some 7), none, .mv (.tmp 0)⟩,
     ⟨(some 8), none, .mv (.tmp 1)⟩,
     ⟨(some 9), none, .bin .geq (.tmp 7) (.tmp 8)⟩,
     ⟨(some 10), none, .mv (.tmp 9)⟩,
     ⟨(some 11), (some (10, true)), .mv (.tmp 0)⟩,
     ⟨(some 12), (some (10, true)), .mv (.tmp 2)⟩,
     ⟨(some 13), (some (10, true)), .bin .leq (.tmp 11) (.tmp 12)⟩,
     ⟨(some 14), none, .pick (.tmp 10) (.tmp 13) (.cst (.bool false))⟩,
     ⟨(some 6), none, .mv (.tmp 14)⟩])
   (.ret))⟩
/-- barrow/view.Seen -/
def a75 : AFun := ⟨13, [.cell 2 true 11],
 .seq (.region [⟨(some 1), none, .box (.tmp 0)⟩,
    ⟨(some 2), none, .alloc [.int .i64 0, .str [], .int .i64 0, .int .i64 0, .int .i64 0, .int .i64 0, .int .i64 0, .int .i64 0, .int .i64 0, .int .i64 0, .int .i64 0]⟩])
  (.seq (.dregion [⟨(some 3), none, .fieldAddr 0 (.tmp 1)⟩,
     ⟨(some 4), none, .fieldAddr 0 (.tmp 3)⟩,
     ⟨(some 5), none, .load false 1 (.tmp 4)⟩,
     ⟨(some 6), none, .fieldAddr 10 (.tmp 1)⟩,
     ⟨(some 7), none, .load false 1 (.tmp 6)⟩,
     ⟨(some 8), none, .call true (.cst (.func 105 [] [])) [.tmp 7]⟩,
     ⟨(some 9), none, .fieldAddr 0 (.tmp 1)⟩,
     ⟨(some 10), none, .load true 10 (.tmp 9)⟩,
     ⟨(some 11), none, .call true (.cst (.func 106 [] [])) [.tmp 10]⟩,
     ⟨(some 12), none, .build [.int .i64 0, .str [], .int .i64 0, .int .i64 0, .int .i64 0, .int .i64 0, .int .i64 0, .int .i64 0, .int .i64 0, .int .i64 0, .int .i64 0] [(0, 1, (.tmp 5)), (1, 1, (.tmp 8)), (2, 9, (.tmp 11))]⟩,
     ⟨none, none, .store 11 (.tmp 2) (.tmp 12)⟩] [])
   (.ret))⟩
/-- barrow/view.Copy -/
def a76 : AFun := ⟨12, [.cell 2 true 4],
 .seq (.region [⟨(some 1), none, .box (.tmp 0)⟩,
    ⟨(some 2), none, .alloc [.int .i64 0, .slice none 0 none, .slice none 0 none, .bool false]⟩])
  (.seq (.dregion [⟨(some 3), none, .fieldAddr 1 (.tmp 1)⟩,
     ⟨(some 4), none, .load false 1 (.tmp 3)⟩,
     ⟨(some 5), none, .call true (.cst (.func 107 [] [])) [.tmp 4]⟩,
     ⟨(some 6), none, .fieldAddr 2 (.tmp 1)⟩,
     ⟨(some 7), none, .load false 1 (.tmp 6)⟩,
     ⟨(some 8), none, .call false (.cst (.func 108 [] [])) [.tmp 7]⟩,
     ⟨(some 9), none, .fieldAddr 1 (.tmp 1)⟩,
     ⟨none, none, .store 1 (.tmp 9) (.tmp 5)⟩,
     ⟨(some 10), none, .fieldAddr 2 (.tmp 1)⟩,
     ⟨none, none, .store 1 (.tmp 10) (.tmp 8)⟩] [])
   (.seq (.region [⟨(some 11), none, .load true 4 (.tmp 1)⟩,
      ⟨none, none, .store 4 (.tmp 2) (.tmp 11)⟩])
    (.ret)))⟩
/-- barrow/view.enter -/
def a77 : AFun := ⟨15, [.cell 2 true 3],
 .seq (.region [⟨(some 1), none, .box (.tmp 0)⟩,
    ⟨(some 2), none, .alloc [.int .i64 0, .slice none 0 none, .str []]⟩])
  (.seq (.dregion [⟨(some 4), none, .fieldAddr 0 (.tmp 1)⟩,
     ⟨(some 5), none, .load false 1 (.tmp 4)⟩,
     ⟨(some 6), none, .bslice 1 1 [.int .i64 0] [(0, 1, (.tmp 5))]⟩,
     ⟨(some 7), none, .fieldAddr 2 (.tmp 1)⟩,
     ⟨(some 8), none, .sliceA 9 1 (.tmp 7) none none none⟩,
     ⟨(some 9), none, .append 1 8 (.tmp 6) (.tmp 8)⟩,
     ⟨(some 3), none, .mv (.tmp 9)⟩] [])
   (.seq (.region [⟨(some 10), none, .mv (.tmp 3)⟩,
      ⟨(some 11), none, .fieldAddr 1 (.tmp 1)⟩,
      ⟨(some 12), none, .load false 1 (.tmp 11)⟩,
      ⟨(some 13), none, .call false (.cst (.func 105 [] [])) [.tmp 12]⟩,
      ⟨(some 14), none, .build [.int .i64 0, .slice none 0 none, .str []] [(0, 1, (.cst (.int .i64 4))), (1, 1, (.tmp 10)), (2, 1, (.tmp 13))]⟩,
      ⟨none, none, .store 3 (.tmp 2) (.tmp 14)⟩])
    (.ret)))⟩
/-- slices.Equal[[]barrow/api.Seen,barrow/api.Seen] -/
def a78 : AFun := ⟨26, [.tmp 4],
 .seq (.region [⟨(some 4), none, .mv (.cst (.bool false))⟩])
  (.seq (.seq (.region [⟨(some 6), none, .mv (.tmp 0)⟩,
      ⟨(some 7), none, .lenS (.tmp 6)⟩,
      ⟨(some 8), none, .mv (.tmp 1)⟩,
      ⟨(some 9), none, .lenS (.tmp 8)⟩,
      ⟨(some 10), none, .bin .neq (.tmp 7) (.tmp 9)⟩])
    (.cond (.tmp 10)
     (.seq (.region [⟨(some 4), none, .mv (.cst (.bool false))⟩])
      (.ret))
     (.skip)))
   (.seq (.seq (.region [⟨(some 11), none, .mv (.tmp 0)⟩,
       ⟨(some 12), none, .lenS (.tmp 11)⟩,
       ⟨(some 13), none, .mv (.cst (.int .i64 0))⟩])
     (rangeCode 0 1 13 12 14 25 (.seq (.region [⟨(some 15), none, .mv (.tmp 13)⟩,
                ⟨(some 5), none, .mv (.tmp 15)⟩])
              (.seq (.dregion [⟨(some 16), none, .mv (.tmp 0)⟩,
                 ⟨(some 17), none, .mv (.tmp 5)⟩,
                 ⟨(some 18), none, .indexAddr 11 (.tmp 16) (.tmp 17)⟩,
                 ⟨(some 19), none, .load true 11 (.tmp 18)⟩,
                 ⟨(some 20), none, .mv (.tmp 1)⟩,
                 ⟨(some 21), none, .mv (.tmp 5)⟩,
                 ⟨(some 22), none, .indexAddr 11 (.tmp 20) (.tmp 21)⟩,
                 ⟨(some 23), none, .load true 11 (.tmp 22)⟩,
                 ⟨(some 24), none, .eq true (.agg [.int, .str, .int, .int, .int, .int, .int, .int, .int, .int, .int]) (.tmp 19) (.tmp 23)⟩] [])
               (.cond (.tmp 24)
                (.seq (.region [⟨(some 4), none, .mv (.cst (.bool false))⟩])
                 (.ret))
                (.skip))))))
    (.seq (.region [⟨(some 4), none, .mv (.cst (.bool true))⟩])
     (.ret))))⟩
/-- slices.Equal[[][5]int,[5]int] -/
def a79 : AFun := ⟨26, [.tmp 4],
 .seq (.region [⟨(some 4), none, .mv (.cst (.bool false))⟩])
  (.seq (.seq (.region [⟨(some 6), none, .mv (.tmp 0)⟩,
      ⟨(some 7), none, .lenS (.tmp 6)⟩,
      ⟨(some 8), none, .mv (.tmp 1)⟩,
      ⟨(some 9), none, .lenS (.tmp 8)⟩,
      ⟨(some 10), none, .bin .neq (.tmp 7) (.tmp 9)⟩])
    (.cond (.tmp 10)
     (.seq (.region [⟨(some 4), none, .mv (.cst (.bool false))⟩])
      (.ret))
     (.skip)))
   (.seq (.seq (.region [⟨(some 11), none, .mv (.tmp 0)⟩,
       ⟨(some 12), none, .lenS (.tmp 11)⟩,
       ⟨(some 13), none, .mv (.cst (.int .i64 0))⟩])
     (rangeCode 0 1 13 12 14 25 (.seq (.region [⟨(some 15), none, .mv (.tmp 13)⟩,
                ⟨(some 5), none, .mv (.tmp 15)⟩])
              (.seq (.dregion [⟨(some 16), none, .mv (.tmp 0)⟩,
                 ⟨(some 17), none, .mv (.tmp 5)⟩,
                 ⟨(some 18), none, .indexAddr 5 (.tmp 16) (.tmp 17)⟩,
                 ⟨(some 19), none, .load true 5 (.tmp 18)⟩,
                 ⟨(some 20), none, .mv (.tmp 1)⟩,
                 ⟨(some 21), none, .mv (.tmp 5)⟩,
                 ⟨(some 22), none, .indexAddr 5 (.tmp 20) (.tmp 21)⟩,
                 ⟨(some 23), none, .load true 5 (.tmp 22)⟩,
                 ⟨(some 24), none, .eq true (.agg [.int, .int, .int, .int, .int]) (.tmp 19) (.tmp 23)⟩] [])
               (.cond (.tmp 24)
                (.seq (.region [⟨(some 4), none, .mv (.cst (.bool false))⟩])
                 (.ret))
                (.skip))))))
    (.seq (.region [⟨(some 4), none, .mv (.cst (.bool true))⟩])
     (.ret))))⟩
/-- barrow/view.find -/
def a80 : AFun := ⟨8, [.tmp 4],
 .seq (.region [⟨(some 3), none, .box (.tmp 1)⟩,
    ⟨(some 4), none, .mv (.cst (.int .i64 0))⟩])
  (.seq (.region [⟨(some 5), none, .mv (.tmp 0)⟩,
     ⟨(some 6), none, .mkfn 110 [] [.tmp 3]⟩,
     ⟨(some 7), none, .call false (.cst (.func 109 [] [])) [.tmp 5, .tmp 6]⟩,
     ⟨(some 4), none, .mv (.tmp 7)⟩])
   (.ret))⟩
/-- barrow/view.fields -/
def a81 : AFun := ⟨36, [.tmp 4],
 .seq (.region [⟨(some 2), none, .box (.tmp 0)⟩,
    ⟨(some 3), none, .box (.tmp 1)⟩,
    ⟨(some 4), none, .mv (.cst (.slice none 0 none))⟩])
  (.seq (.seq (.region [⟨(some 8), none, .fieldAddr 2 (.tmp 2)⟩,
      ⟨(some 9), none, .load true 9 (.tmp 8)⟩,
      ⟨(some 10), none, .fieldAddr 2 (.tmp 3)⟩,
      ⟨(some 11), none, .load true 9 (.tmp 10)⟩,
      ⟨(some 12), none, .eq false (.agg [.int, .int, .int, .int, .int, .int, .int, .int, .int]) (.tmp 9) (.tmp 11)⟩])
    (.cond (.tmp 12)
     (.seq (.region [⟨(some 4), none, .mv (.cst (.slice none 0 none))⟩])
      (.ret))
     (.skip)))
   (.seq (.region [⟨(some 5), none, .mv (.cst (.slice none 0 none))⟩])
    (.seq (.seq (.region [⟨(some 13), none, .fieldAddr 2 (.tmp 3)⟩,
        ⟨(some 14), none, .load true 9 (.tmp 13)⟩,
        ⟨(some 15), none, .mv (.cst (.int .i64 0))⟩])
      (.block 0 (.loop (.seq (.region [⟨(some 16), none, .bin .lss (.tmp 15) (.cst (.int .i64 9))⟩])
         (.seq (.cond (.tmp 16)
           (.skip)
           (.exit 0))
          (.seq (.block 1 (.seq (.region [⟨(some 17), none, .mv (.tmp 15)⟩,
               ⟨(some 18), none, .indexA false 9 1 (.tmp 14) (.tmp 15)⟩,
               ⟨(some 6), none, .mv (.tmp 17)⟩,
               ⟨(some 7), none, .mv (.tmp 18)⟩])
             (.seq (.region [⟨(some 19), none, .mv (.tmp 7)⟩,
                ⟨(some 20), none, .mv (.tmp 6)⟩,
                ⟨(some 21), none, .fieldAddr 2 (.tmp 2)⟩,
                ⟨(some 22), none, .indexAddrA 9 1 (.tmp 21) (.tmp 20)⟩,
                ⟨(some 23), none, .load false 1 (.tmp 22)⟩,
                ⟨(some 24), none, .bin .neq (.tmp 19) (.tmp 23)⟩])
              (.cond (.tmp 24)
               (.region [⟨(some 25), none, .mv (.tmp 5)⟩,
                 ⟨(some 26), none, .fieldAddr 0 (.tmp 3)⟩,
                 ⟨(some 27), none, .load false 1 (.tmp 26)⟩,
                 ⟨(some 28), none, .mv (.tmp 6)⟩,
                 ⟨(some 29), none, .mv (.tmp 7)⟩,
                 ⟨(some 30), none, .bslice 1 3 [.int .i64 0] [(0, 1, (.tmp 27)), (1, 1, (.tmp 28)), (2, 1, (.tmp 29))]⟩,
                 ⟨(some 31), none, .build [.int .i64 0, .slice none 0 none, .str []] [(0, 1, (.cst (.int .i64 6))), (1, 1, (.tmp 30))]⟩,
                 ⟨(some 32), none, .bslice 3 1 [.int .i64 0, .slice none 0 none, .str []] [(0, 3, (.tmp 31))]⟩,
                 ⟨(some 33), none, .append 3 48 (.tmp 25) (.tmp 32)⟩,
                 ⟨(some 5), none, .mv (.tmp 33)⟩])
               (.skip)))))
           (.region [⟨(some 34), none, .bin .add (.tmp 15) (.cst (.int .i64 1))⟩,
             ⟨(some 15), none, .mv (.tmp 34)⟩])))))))
     (.seq (.region [⟨(some 35), none, .mv (.tmp 5)⟩,
        ⟨(some 4), none, .mv (.tmp 35)⟩])
      (.ret)))))⟩
/-- barrow/view.entered -/
def a82 : AFun := ⟨38, [.tmp 4],
 .seq (.region [⟨(some 3), none, .box (.tmp 1)⟩,
    ⟨(some 4), none, .mv (.cst (.slice none 0 none))⟩])
  (.seq (.dregion [⟨(some 8), none, .fieldAddr 1 (.tmp 3)⟩,
     ⟨(some 9), none, .load false 1 (.tmp 8)⟩,
     ⟨(some 10), none, .indexAddr 1 (.tmp 9) (.cst (.int .i64 0))⟩,
     ⟨(some 11), none, .load false 1 (.tmp 10)⟩,
     ⟨(some 12), none, .fieldAddr 2 (.tmp 3)⟩,
     ⟨(some 13), none, .load false 1 (.tmp 12)⟩,
     ⟨(some 14), none, .fieldAddr 1 (.tmp 3)⟩,
     ⟨(some 15), none, .load false 1 (.tmp 14)⟩,
     ⟨(some 16), none, .slice 1 (.tmp 15) (some (.cst (.int .i64 1))) none none⟩,
     ⟨(some 17), none, .s2ap 9 (.tmp 16)⟩,
     ⟨(some 18), none, .load true 9 (.tmp 17)⟩,
     ⟨(some 19), none, .build [.int .i64 0, .str [], .int .i64 0, .int .i64 0, .int .i64 0, .int .i64 0, .int .i64 0, .int .i64 0, .int .i64 0, .int .i64 0, .int .i64 0] [(0, 1, (.tmp 11)), (1, 1, (.tmp 13)), (2, 9, (.tmp 18))]⟩,
     ⟨(some 5), none, .alloc [.int .i64 0, .str [], .int .i64 0, .int .i64 0, .int .i64 0, .int .i64 0, .int .i64 0, .int .i64 0, .int .i64 0, .int .i64 0, .int .i64 0]⟩,
     ⟨none, none, .store 11 (.tmp 5) (.tmp 19)⟩] [])
   (.seq (.region [⟨(some 21), none, .mv (.tmp 0)⟩,
      ⟨(some 22), none, .fieldAddr 0 (.tmp 5)⟩,
      ⟨(some 23), none, .load false 1 (.tmp 22)⟩,
      ⟨(some 24), none, .call false (.cst (.func 111 [] [])) [.tmp 21, .tmp 23]⟩,
      ⟨(some 20), none, .mv (.tmp 24)⟩,
      ⟨(some 25), none, .extract (.tmp 20) 0⟩,
      ⟨(some 26), none, .extract (.tmp 20) 1⟩,
      ⟨(some 6), none, .mv (.tmp 25)⟩,
      ⟨(some 7), none, .mv (.tmp 26)⟩])
    (.seq (.seq (.region [⟨(some 27), none, .mv (.tmp 7)⟩])
      (.cond (.tmp 27)
       (.seq (.region [⟨(some 28), none, .mv (.tmp 0)⟩,
          ⟨(some 29), none, .mv (.tmp 6)⟩,
          ⟨(some 30), none, .load true 11 (.tmp 5)⟩,
          ⟨(some 31), none, .indexAddr 11 (.tmp 28) (.tmp 29)⟩,
          ⟨none, none, .store 11 (.tmp 31) (.tmp 30)⟩])
        (.seq (.region [⟨(some 32), none, .mv (.tmp 0)⟩,
           ⟨(some 4), none, .mv (.tmp 32)⟩])
         (.ret)))
       (.skip)))
     (.seq (.region [⟨(some 33), none, .mv (.tmp 0)⟩,
        ⟨(some 34), none, .mv (.tmp 6)⟩,
        ⟨(some 35), none, .load true 11 (.tmp 5)⟩,
        ⟨(some 36), none, .bslice 11 1 [.int .i64 0, .str [], .int .i64 0, .int .i64 0, .int .i64 0, .int .i64 0, .int .i64 0, .int .i64 0, .int .i64 0, .int .i64 0, .int .i64 0] [(0, 11, (.tmp 35))]⟩,
        ⟨(some 37), none, .call false (.cst (.func 112 [] [])) [.tmp 33, .tmp 34, .tmp 36]⟩,
        ⟨(some 4), none, .mv (.tmp 37)⟩])
      (.ret)))))⟩
/-- slices.Delete[[]barrow/api.Seen,barrow/api.Seen] -/
def a83 : AFun := ⟨33, [.tmp 6],
 .seq (.region [⟨(some 6), none, .mv (.cst (.slice none 0 none))⟩])
  (.seq (.region [⟨(some 8), none, .mv (.tmp 0)⟩,
     ⟨(some 9), none, .mv (.tmp 1)⟩,
     ⟨(some 10), none, .mv (.tmp 2)⟩,
     ⟨(some 11), none, .mv (.tmp 0)⟩,
     ⟨(some 12), none, .lenS (.tmp 11)⟩,
     ⟨(some 13), none, .slice 11 (.tmp 8) (some (.tmp 9)) (some (.tmp 10)) (some (.tmp 12))⟩])
   (.seq (.seq (.region [⟨(some 14), none, .mv (.tmp 1)⟩,
       ⟨(some 15), none, .mv (.tmp 2)⟩,
       ⟨(some 16), none, .bin .eql (.tmp 14) (.tmp 15)⟩])
     (.cond (.tmp 16)
      (.seq (.region [⟨(some 17), none, .mv (.tmp 0)⟩,
         ⟨(some 6), none, .mv (.tmp 17)⟩])
       (.ret))
      (.skip)))
    (.seq (.region [⟨(some 18), none, .mv (.tmp 0)⟩,
       ⟨(some 19), none, .lenS (.tmp 18)⟩,
       ⟨(some 7), none, .mv (.tmp 19)⟩])
     (.seq (.dregion [⟨(some 20), none, .mv (.tmp 0)⟩,
        ⟨(some 21), none, .mv (.tmp 1)⟩,
        ⟨(some 22), none, .slice 11 (.tmp 20) none (some (.tmp 21)) none⟩,
        ⟨(some 23), none, .mv (.tmp 0)⟩,
        ⟨(some 24), none, .mv (.tmp 2)⟩,
        ⟨(some 25), none, .slice 11 (.tmp 23) (some (.tmp 24)) none none⟩,
        ⟨(some 26), none, .append 11 96 (.tmp 22) (.tmp 25)⟩,
        ⟨(some 0), none, .mv (.tmp 26)⟩] [])
      (.seq (.region [⟨(some 27), none, .mv (.tmp 0)⟩,
         ⟨(some 28), none, .mv (.tmp 0)⟩,
         ⟨(some 29), none, .lenS (.tmp 28)⟩,
         ⟨(some 30), none, .mv (.tmp 7)⟩,
         ⟨(some 31), none, .slice 11 (.tmp 27) (some (.tmp 29)) (some (.tmp 30)) none⟩,
         ⟨none, none, .clear [.int .i64 0, .str [], .int .i64 0, .int .i64 0, .int .i64 0, .int .i64 0, .int .i64 0, .int .i64 0, .int .i64 0, .int .i64 0, .int .i64 0] (.tmp 31)⟩])
       (.seq (.region [⟨(some 32), none, .mv (.tmp 0)⟩,
          ⟨(some 6), none, .mv (.tmp 32)⟩])
        (.ret)))))))⟩
/-- barrow/view.changed -/
def a84 : AFun := ⟨29, [],
 .seq (.region [⟨(some 9), none, .mv (.tmp 0)⟩,
    ⟨(some 10), none, .mv (.tmp 1)⟩,
    ⟨(some 11), none, .call false (.cst (.func 80 [] [])) [.tmp 9, .tmp 10]⟩,
    ⟨(some 8), none, .mv (.tmp 11)⟩])
  (.seq (.region [⟨(some 12), none, .mv (.tmp 8)⟩,
     ⟨(some 13), none, .bin .geq (.tmp 12) (.cst (.int .i64 0))⟩,
     ⟨(some 14), none, .mv (.tmp 13)⟩,
     ⟨(some 15), (some (14, true)), .mv (.tmp 2)⟩,
     ⟨(some 16), (some (14, true)), .bin .geq (.tmp 15) (.cst (.int .i64 0))⟩,
     ⟨(some 17), none, .pick (.tmp 14) (.tmp 16) (.cst (.bool false))⟩,
     ⟨(some 18), none, .mv (.tmp 17)⟩,
     ⟨(some 19), (some (18, true)), .mv (.tmp 2)⟩,
     ⟨(some 20), (some (18, true)), .bin .lss (.tmp 19) (.cst (.int .i64 9))⟩,
     ⟨(some 21), none, .pick (.tmp 18) (.tmp 20) (.cst (.bool false))⟩])
   (.cond (.tmp 21)
    (.region [⟨(some 22), none, .mv (.tmp 0)⟩,
      ⟨(some 23), none, .mv (.tmp 8)⟩,
      ⟨(some 24), none, .mv (.tmp 2)⟩,
      ⟨(some 25), none, .mv (.tmp 3)⟩,
      ⟨(some 26), none, .indexAddr 11 (.tmp 22) (.tmp 23)⟩,
      ⟨(some 27), none, .fieldAddr 2 (.tmp 26)⟩,
      ⟨(some 28), none, .indexAddrA 9 1 (.tmp 27) (.tmp 24)⟩,
      ⟨none, none, .store 1 (.tmp 28) (.tmp 25)⟩])
    (.skip)))⟩
/-- barrow/message.sizes -/
def a85 : AFun := ⟨2, [.cell 0 true 11],
 .seq (.region [⟨(some 0), none, .alloc (repCells [.int .i64 0] 11)⟩])
  (.seq (.region [⟨(some 1), none, .build (repCells [.int .i64 0] 11) [(0, 1, (.cst (.int .i64 (-1)))), (1, 1, (.cst (.int .i64 2))), (2, 1, (.cst (.int .i64 1))), (3, 1, (.cst (.int .i64 0))), (4, 1, (.cst (.int .i64 10))), (5, 1, (.cst (.int .i64 1))), (6, 1, (.cst (.int .i64 3))), (7, 1, (.cst (.int .i64 5))), (8, 1, (.cst (.int .i64 3))), (9, 1, (.cst (.int .i64 2))), (10, 1, (.cst (.int .i64 0)))]⟩,
     ⟨none, none, .store 11 (.tmp 0) (.tmp 1)⟩])
   (.ret))⟩
/-- barrow/barrowref03.read -/
def a86 : AFun := ⟨81, [.tmp 4, .tmp 5, .tmp 6],
 .seq (.region [⟨(some 4), none, .mv (.cst (.int .u64 0))⟩,
    ⟨(some 5), none, .mv (.cst (.int .i64 0))⟩,
    ⟨(some 6), none, .mv (.cst (.bool false))⟩])
  (.seq (.seq (.region [⟨(some 10), none, .mv (.tmp 1)⟩,
      ⟨(some 11), none, .bin .lss (.tmp 10) (.cst (.int .i64 0))⟩])
    (.cond (.tmp 11)
     (.seq (.region [⟨(some 12), none, .mv (.tmp 1)⟩,
        ⟨(some 4), none, .mv (.cst (.int .u64 0))⟩,
        ⟨(some 5), none, .mv (.tmp 12)⟩,
        ⟨(some 6), none, .mv (.cst (.bool false))⟩])
      (.ret))
     (.skip)))
   (.seq (.region [⟨(some 13), none, .mv (.tmp 1)⟩,
      ⟨(some 7), none, .mv (.tmp 13)⟩])
    (.seq (.block 0 (.loop (.seq (.seq (.region [⟨(some 14), none, .mv (.tmp 7)⟩,
           ⟨(some 15), none, .mv (.tmp 0)⟩,
           ⟨(some 16), none, .lenS (.tmp 15)⟩,
           ⟨(some 17), none, .bin .lss (.tmp 14) (.tmp 16)⟩,
           ⟨(some 18), none, .mv (.tmp 17)⟩,
           ⟨(some 19), (some (18, true)), .mv (.tmp 0)⟩,
           ⟨(some 20), (some (18, true)), .mv (.tmp 7)⟩,
           ⟨(some 21), (some (18, true)), .indexAddr 1 (.tmp 19) (.tmp 20)⟩,
           ⟨(some 22), (some (18, true)), .load false 1 (.tmp 21)⟩,
           ⟨(some 23), (some (18, true)), .bin .geq (.tmp 22) (.cst (.int .u8 128))⟩,
           ⟨(some 24), none, .pick (.tmp 18) (.tmp 23) (.cst (.bool false))⟩])
         (.cond (.tmp 24)
          (.skip)
          (.exit 0)))
        (.block 1 (.region [⟨(some 25), none, .mv (.tmp 7)⟩,
           ⟨(some 26), none, .bin .add (.tmp 25) (.cst (.int .i64 1))⟩,
           ⟨(some 7), none, .mv (.tmp 26)⟩])))))
     (.seq (.seq (.region [⟨(some 27), none, .mv (.tmp 7)⟩,
         ⟨(some 28), none, .mv (.tmp 0)⟩,
         ⟨(some 29), none, .lenS (.tmp 28)⟩,
         ⟨(some 30), none, .bin .geq (.tmp 27) (.tmp 29)⟩,
         ⟨(some 31), none, .mv (.tmp 30)⟩,
         ⟨(some 32), (some (31, false)), .mv (.tmp 7)⟩,
         ⟨(some 33), (some (31, false)), .mv (.tmp 1)⟩,
         ⟨(some 34), (some (31, false)), .bin .sub (.tmp 32) (.tmp 33)⟩,
         ⟨(some 35), (some (31, false)), .bin .gtr (.tmp 34) (.cst (.int .i64 9))⟩,
         ⟨(some 36), none, .pick (.tmp 31) (.cst (.bool true)) (.tmp 35)⟩,
         ⟨(some 37), none, .mv (.tmp 36)⟩,
         ⟨(some 38), (some (37, false)), .mv (.tmp 7)⟩,
         ⟨(some 39), (some (37, false)), .mv (.tmp 1)⟩,
         ⟨(some 40), (some (37, false)), .bin .gtr (.tmp 38) (.tmp 39)⟩,
         ⟨(some 41), (some (37, false)), .mv (.tmp 40)⟩,
         ⟨(some 42), (some (41, true)), .mv (.tmp 0)⟩,
         ⟨(some 43), (some (41, true)), .mv (.tmp 7)⟩,
         ⟨(some 44), (some (41, true)), .indexAddr 1 (.tmp 42) (.tmp 43)⟩,
         ⟨(some 45), (some (41, true)), .load false 1 (.tmp 44)⟩,
         ⟨(some 46), (some (41, true)), .bin .eql (.tmp 45) (.cst (.int .u8 0))⟩,
         ⟨(some 47), (some (37, false)), .pick (.tmp 41) (.tmp 46) (.cst (.bool false))⟩,
         ⟨(some 48), none, .pick (.tmp 37) (.cst (.bool true)) (.tmp 47)⟩,
         ⟨(some 49), none, .mv (.tmp 48)⟩,
         ⟨(some 50), (some (49, false)), .mv (.tmp 7)⟩,
         ⟨(some 51), (some (49, false)), .mv (.tmp 1)⟩,
         ⟨(some 52), (some (49, false)), .bin .sub (.tmp 50) (.tmp 51)⟩,
         ⟨(some 53), (some (49, false)), .bin .eql (.tmp 52) (.cst (.int .i64 9))⟩,
         ⟨(some 54), (some (49, false)), .mv (.tmp 53)⟩,
         ⟨(some 55), (some (54, true)), .mv (.tmp 0)⟩,
         ⟨(some 56), (some (54, true)), .mv (.tmp 7)⟩,
         ⟨(some 57), (some (54, true)), .indexAddr 1 (.tmp 55) (.tmp 56)⟩,
         ⟨(some 58), (some (54, true)), .load false 1 (.tmp 57)⟩,
         ⟨(some 59), (some (54, true)), .bin .gtr (.tmp 58) (.cst (.int .u8 1))⟩,
         ⟨(some 60), (some (49, false)), .pick (.tmp 54) (.tmp 59) (.cst (.bool false))⟩,
         ⟨(some 61), none, .pick (.tmp 49) (.cst (.bool true)) (.tmp 60)⟩])
       (.cond (.tmp 61)
        (.seq (.region [⟨(some 62), none, .mv (.tmp 1)⟩,
           ⟨(some 4), none, .mv (.cst (.int .u64 0))⟩,
           ⟨(some 5), none, .mv (.tmp 62)⟩,
           ⟨(some 6), none, .mv (.cst (.bool false))⟩])
         (.ret))
        (.skip)))
      (.seq (.region [⟨(some 8), none, .mv (.cst (.int .u64 0))⟩])
       (.seq (.seq (.region [⟨(some 63), none, .mv (.tmp 7)⟩,
           ⟨(some 9), none, .mv (.tmp 63)⟩])
         (.block 2 (.loop (.seq (.seq (.region [⟨(some 64), none, .mv (.tmp 9)⟩,
               ⟨(some 65), none, .mv (.tmp 1)⟩,
               ⟨(some 66), none, .bin .geq (.tmp 64) (.tmp 65)⟩])
             (.cond (.tmp 66)
              (.skip)
              (.exit 2)))
            (.seq (.block 3 (.region [⟨(some 69), none, .mv (.tmp 8)⟩,
                ⟨(some 70), none, .bin .mul (.cst (.int .u64 128)) (.tmp 69)⟩,
                ⟨(some 71), none, .mv (.tmp 0)⟩,
                ⟨(some 72), none, .mv (.tmp 9)⟩,
                ⟨(some 73), none, .indexAddr 1 (.tmp 71) (.tmp 72)⟩,
                ⟨(some 74), none, .load false 1 (.tmp 73)⟩,
                ⟨(some 75), none, .bin .rem (.tmp 74) (.cst (.int .u8 128))⟩,
                ⟨(some 76), none, .convInt .u64 (.tmp 75)⟩,
                ⟨(some 77), none, .bin .add (.tmp 70) (.tmp 76)⟩,
                ⟨(some 8), none, .mv (.tmp 77)⟩]))
             (.region [⟨(some 67), none, .mv (.tmp 9)⟩,
               ⟨(some 68), none, .bin .sub (.tmp 67) (.cst (.int .i64 1))⟩,
               ⟨(some 9), none, .mv (.tmp 68)⟩]))))))
        (.seq (.region [⟨(some 78), none, .mv (.tmp 8)⟩,
           ⟨(some 79), none, .mv (.tmp 7)⟩,
           ⟨(some 80), none, .bin .add (.tmp 79) (.cst (.int .i64 1))⟩,
           ⟨(some 4), none, .mv (.tmp 78)⟩,
           ⟨(some 5), none, .mv (.tmp 80)⟩,
           ⟨(some 6), none, .mv (.cst (.bool true))⟩])
         (.ret))))))))⟩
/-- barrow/pack.read -/
def a87 : AFun := ⟨32, [.tmp 4, .tmp 5, .tmp 6],
 .seq (.region [⟨(some 4), none, .mv (.cst (.int .u64 0))⟩,
    ⟨(some 5), none, .mv (.cst (.int .i64 0))⟩,
    ⟨(some 6), none, .mv (.cst (.int .i64 0))⟩])
  (.seq (.seq (.region [⟨(some 9), none, .mv (.tmp 1)⟩,
      ⟨(some 10), none, .bin .lss (.tmp 9) (.cst (.int .i64 0))⟩,
      ⟨(some 11), none, .mv (.tmp 10)⟩,
      ⟨(some 12), (some (11, false)), .mv (.tmp 1)⟩,
      ⟨(some 13), (some (11, false)), .mv (.tmp 0)⟩,
      ⟨(some 14), (some (11, false)), .lenS (.tmp 13)⟩,
      ⟨(some 15), (some (11, false)), .bin .gtr (.tmp 12) (.tmp 14)⟩,
      ⟨(some 16), none, .pick (.tmp 11) (.cst (.bool true)) (.tmp 15)⟩])
    (.cond (.tmp 16)
     (.seq (.region [⟨(some 17), none, .mv (.tmp 1)⟩,
        ⟨(some 4), none, .mv (.cst (.int .u64 0))⟩,
        ⟨(some 5), none, .mv (.tmp 17)⟩,
        ⟨(some 6), none, .mv (.cst (.int .i64 2))⟩])
      (.ret))
     (.skip)))
   (.seq (.region [⟨(some 19), none, .mv (.tmp 0)⟩,
      ⟨(some 20), none, .mv (.tmp 1)⟩,
      ⟨(some 21), none, .slice 1 (.tmp 19) (some (.tmp 20)) none none⟩,
      ⟨(some 22), none, .call false (.cst (.func 113 [] [])) [.tmp 21]⟩,
      ⟨(some 18), none, .mv (.tmp 22)⟩,
      ⟨(some 23), none, .extract (.tmp 18) 0⟩,
      ⟨(some 24), none, .extract (.tmp 18) 1⟩,
      ⟨(some 7), none, .mv (.tmp 23)⟩,
      ⟨(some 8), none, .mv (.tmp 24)⟩])
    (.seq (.seq (.region [⟨(some 25), none, .mv (.tmp 8)⟩,
        ⟨(some 26), none, .bin .eql (.tmp 25) (.cst (.int .i64 0))⟩])
      (.cond (.tmp 26)
       (.seq (.region [⟨(some 27), none, .mv (.tmp 1)⟩,
          ⟨(some 4), none, .mv (.cst (.int .u64 0))⟩,
          ⟨(some 5), none, .mv (.tmp 27)⟩,
          ⟨(some 6), none, .mv (.cst (.int .i64 2))⟩])
        (.ret))
       (.skip)))
     (.seq (.region [⟨(some 28), none, .mv (.tmp 7)⟩,
        ⟨(some 29), none, .mv (.tmp 1)⟩,
        ⟨(some 30), none, .mv (.tmp 8)⟩,
        ⟨(some 31), none, .bin .add (.tmp 29) (.tmp 30)⟩,
        ⟨(some 4), none, .mv (.tmp 28)⟩,
        ⟨(some 5), none, .mv (.tmp 31)⟩,
        ⟨(some 6), none, .mv (.cst (.int .i64 0))⟩])
      (.ret)))))⟩
/-- barrow/pack.unfold -/
def a88 : AFun := ⟨11, [.tmp 2],
 .seq (.region [⟨(some 2), none, .mv (.cst (.int .i64 0))⟩])
  (.seq (.region [⟨(some 3), none, .mv (.tmp 0)⟩,
     ⟨(some 4), none, .bin .shr (.tmp 3) (.cst (.int .u64 1))⟩,
     ⟨(some 5), none, .convInt .i64 (.tmp 4)⟩,
     ⟨(some 6), none, .mv (.tmp 0)⟩,
     ⟨(some 7), none, .bin .and (.tmp 6) (.cst (.int .u64 1))⟩,
     ⟨(some 8), none, .convInt .i64 (.tmp 7)⟩,
     ⟨(some 9), none, .un .neg (.tmp 8)⟩,
     ⟨(some 10), none, .bin .xor (.tmp 5) (.tmp 9)⟩,
     ⟨(some 2), none, .mv (.tmp 10)⟩])
   (.ret))⟩
/-- barrow/pack.put -/
def a89 : AFun := ⟨20, [.tmp 4],
 .seq (.region [⟨(some 4), none, .mv (.cst (.slice none 0 none))⟩])
  (.seq (.block 0 (.loop (.seq (.seq (.region [⟨(some 5), none, .mv (.tmp 1)⟩,
         ⟨(some 6), none, .bin .gtr (.tmp 5) (.cst (.int .u64 127))⟩])
       (.cond (.tmp 6)
        (.skip)
        (.exit 0)))
      (.seq (.block 1 (.region [⟨(some 9), none, .mv (.tmp 0)⟩,
          ⟨(some 10), none, .mv (.tmp 1)⟩,
          ⟨(some 11), none, .convInt .u8 (.tmp 10)⟩,
          ⟨(some 12), none, .bin .or (.tmp 11) (.cst (.int .u8 128))⟩,
          ⟨(some 13), none, .bslice 1 1 [.int .u8 0] [(0, 1, (.tmp 12))]⟩,
          ⟨(some 14), none, .append 1 1 (.tmp 9) (.tmp 13)⟩,
          ⟨(some 0), none, .mv (.tmp 14)⟩]))
       (.region [⟨(some 7), none, .mv (.tmp 1)⟩,
         ⟨(some 8), none, .bin .shr (.tmp 7) (.cst (.int .u64 7))⟩,
         ⟨(some 1), none, .mv (.tmp 8)⟩])))))
   (.seq (.region [⟨(some 15), none, .mv (.tmp 0)⟩,
      ⟨(some 16), none, .mv (.tmp 1)⟩,
      ⟨(some 17), none, .convInt .u8 (.tmp 16)⟩,
      ⟨(some 18), none, .bslice 1 1 [.int .u8 0] [(0, 1, (.tmp 17))]⟩,
      ⟨(some 19), none, .append 1 1 (.tmp 15) (.tmp 18)⟩,
      ⟨(some 4), none, .mv (.tmp 19)⟩])
    (.ret)))⟩
/-- slices.Clone[[]byte,byte] -/
def a90 : AFun := ⟨8, [.tmp 2],
 .seq (.region [⟨(some 2), none, .mv (.cst (.slice none 0 none))⟩])
  (.seq (.seq (.region [⟨(some 3), none, .mv (.tmp 0)⟩,
      ⟨(some 4), none, .eq false .slc (.tmp 3) (.cst (.slice none 0 none))⟩])
    (.cond (.tmp 4)
     (.seq (.region [⟨(some 2), none, .mv (.cst (.slice none 0 none))⟩])
      (.ret))
     (.skip)))
   (.seq (.region [⟨(some 5), none, .bslice 1 0 [.int .u8 0] []⟩,
      ⟨(some 6), none, .mv (.tmp 0)⟩,
      ⟨(some 7), none, .append 1 1 (.tmp 5) (.tmp 6)⟩,
      ⟨(some 2), none, .mv (.tmp 7)⟩])
    (.ret)))⟩
/-- barrow/pack.fold -/
def a91 : AFun := ⟨10, [.tmp 2],
 .seq (.region [⟨(some 2), none, .mv (.cst (.int .u64 0))⟩])
  (.seq (.region [⟨(some 3), none, .mv (.tmp 0)⟩,
     ⟨(some 4), none, .convInt .u64 (.tmp 3)⟩,
     ⟨(some 5), none, .bin .shl (.tmp 4) (.cst (.int .u64 1))⟩,
     ⟨(some 6), none, .mv (.tmp 0)⟩,
     ⟨(some 7), none, .bin .shr (.tmp 6) (.cst (.int .u64 63))⟩,
     ⟨(some 8), none, .convInt .u64 (.tmp 7)⟩,
     ⟨(some 9), none, .bin .xor (.tmp 5) (.tmp 8)⟩,
     ⟨(some 2), none, .mv (.tmp 9)⟩])
   (.ret))⟩
/-- cmp.Or[int] -/
def a92 : AFun := ⟨18, [.tmp 2],
 .seq (.region [⟨(some 2), none, .mv (.cst (.int .i64 0))⟩])
  (.seq (.region [⟨(some 3), none, .mv (.cst (.int .i64 0))⟩])
   (.seq (.seq (.region [⟨(some 6), none, .mv (.tmp 0)⟩,
       ⟨(some 7), none, .lenS (.tmp 6)⟩,
       ⟨(some 8), none, .mv (.cst (.int .i64 0))⟩])
     (rangeCode 0 1 8 7 9 16 (.seq (.region [⟨(some 10), none, .indexAddr 1 (.tmp 6) (.tmp 8)⟩,
           ⟨(some 11), none, .load false 1 (.tmp 10)⟩,
           ⟨(some 5), none, .mv (.tmp 11)⟩])
         (.seq (.region [⟨(some 12), none, .mv (.tmp 5)⟩,
            ⟨(some 13), none, .mv (.tmp 3)⟩,
            ⟨(some 14), none, .bin .neq (.tmp 12) (.tmp 13)⟩])
          (.cond (.tmp 14)
           (.seq (.region [⟨(some 15), none, .mv (.tmp 5)⟩,
              ⟨(some 2), none, .mv (.tmp 15)⟩])
            (.ret))
           (.skip))))))
    (.seq (.region [⟨(some 17), none, .mv (.tmp 3)⟩,
       ⟨(some 2), none, .mv (.tmp 17)⟩])
     (.ret))))⟩
/-- cmp.Compare[string] -/
def a93 : AFun := ⟨20, [.tmp 4],
 .seq (.region [⟨(some 4), none, .mv (.cst (.int .i64 0))⟩])
  (.seq (.region [⟨(some 7), none, .mv (.tmp 0)⟩,
     ⟨(some 8), none, .call false (.cst (.func 114 [] [])) [.tmp 7]⟩,
     ⟨(some 5), none, .mv (.tmp 8)⟩])
   (.seq (.region [⟨(some 9), none, .mv (.tmp 1)⟩,
      ⟨(some 10), none, .call false (.cst (.func 114 [] [])) [.tmp 9]⟩,
      ⟨(some 6), none, .mv (.tmp 10)⟩])
    (.seq (.seq (.region [⟨(some 11), none, .mv (.tmp 5)⟩])
      (.cond (.tmp 11)
       (.seq (.seq (.region [⟨(some 12), none, .mv (.tmp 6)⟩])
         (.cond (.tmp 12)
          (.seq (.region [⟨(some 4), none, .mv (.cst (.int .i64 0))⟩])
           (.ret))
          (.skip)))
        (.seq (.region [⟨(some 4), none, .mv (.cst (.int .i64 (-1)))⟩])
         (.ret)))
       (.skip)))
     (.seq (.seq (.region [⟨(some 13), none, .mv (.tmp 6)⟩])
       (.cond (.tmp 13)
        (.seq (.region [⟨(some 4), none, .mv (.cst (.int .i64 1))⟩])
         (.ret))
        (.skip)))
      (.seq (.seq (.region [⟨(some 14), none, .mv (.tmp 0)⟩,
          ⟨(some 15), none, .mv (.tmp 1)⟩,
          ⟨(some 16), none, .bin .lss (.tmp 14) (.tmp 15)⟩])
        (.cond (.tmp 16)
         (.seq (.region [⟨(some 4), none, .mv (.cst (.int .i64 (-1)))⟩])
          (.ret))
         (.skip)))
       (.seq (.seq (.region [⟨(some 17), none, .mv (.tmp 0)⟩,
           ⟨(some 18), none, .mv (.tmp 1)⟩,
           ⟨(some 19), none, .bin .gtr (.tmp 17) (.tmp 18)⟩])
         (.cond (.tmp 19)
          (.seq (.region [⟨(some 4), none, .mv (.cst (.int .i64 1))⟩])
           (.ret))
          (.skip)))
        (.seq (.region [⟨(some 4), none, .mv (.cst (.int .i64 0))⟩])
         (.ret))))))))⟩
/-- cmp.Compare[int] -/
def a94 : AFun := ⟨20, [.tmp 4],
 .seq (.region [⟨(some 4), none, .mv (.cst (.int .i64 0))⟩])
  (.seq (.region [⟨(some 7), none, .mv (.tmp 0)⟩,
     ⟨(some 8), none, .call false (.cst (.func 115 [] [])) [.tmp 7]⟩,
     ⟨(some 5), none, .mv (.tmp 8)⟩])
   (.seq (.region [⟨(some 9), none, .mv (.tmp 1)⟩,
      ⟨(some 10), none, .call false (.cst (.func 115 [] [])) [.tmp 9]⟩,
      ⟨(some 6), none, .mv (.tmp 10)⟩])
    (.seq (.seq (.region [⟨(some 11), none, .mv (.tmp 5)⟩])
      (.cond (.tmp 11)
       (.seq (.seq (.region [⟨(some 12), none, .mv (.tmp 6)⟩])
         (.cond (.tmp 12)
          (.seq (.region [⟨(some 4), none, .mv (.cst (.int .i64 0))⟩])
           (.ret))
          (.skip)))
        (.seq (.region [⟨(some 4), none, .mv (.cst (.int .i64 (-1)))⟩])
         (.ret)))
       (.skip)))
     (.seq (.seq (.region [⟨(some 13), none, .mv (.tmp 6)⟩])
       (.cond (.tmp 13)
        (.seq (.region [⟨(some 4), none, .mv (.cst (.int .i64 1))⟩])
         (.ret))
        (.skip)))
      (.seq (.seq (.region [⟨(some 14), none, .mv (.tmp 0)⟩,
          ⟨(some 15), none, .mv (.tmp 1)⟩,
          ⟨(some 16), none, .bin .lss (.tmp 14) (.tmp 15)⟩])
        (.cond (.tmp 16)
         (.seq (.region [⟨(some 4), none, .mv (.cst (.int .i64 (-1)))⟩])
          (.ret))
         (.skip)))
       (.seq (.seq (.region [⟨(some 17), none, .mv (.tmp 0)⟩,
           ⟨(some 18), none, .mv (.tmp 1)⟩,
           ⟨(some 19), none, .bin .gtr (.tmp 17) (.tmp 18)⟩])
         (.cond (.tmp 19)
          (.seq (.region [⟨(some 4), none, .mv (.cst (.int .i64 1))⟩])
           (.ret))
          (.skip)))
        (.seq (.region [⟨(some 4), none, .mv (.cst (.int .i64 0))⟩])
         (.ret))))))))⟩
/-- slices.rotateRight[barrow/api.Lock] -/
def a96 : AFun := ⟨10, [],
 .region [⟨(some 4), none, .mv (.tmp 0)⟩,
   ⟨(some 5), none, .mv (.tmp 0)⟩,
   ⟨(some 6), none, .lenS (.tmp 5)⟩,
   ⟨(some 7), none, .mv (.tmp 1)⟩,
   ⟨(some 8), none, .bin .sub (.tmp 6) (.tmp 7)⟩,
   ⟨(some 9), none, .call false (.cst (.func 116 [] [])) [.tmp 4, .tmp 8]⟩]⟩
/-- slices.IndexFunc[[]string,string] -/
def a97 : AFun := ⟨19, [.tmp 4],
 .seq (.region [⟨(some 4), none, .mv (.cst (.int .i64 0))⟩])
  (.seq (.seq (.region [⟨(some 6), none, .mv (.tmp 0)⟩,
      ⟨(some 7), none, .lenS (.tmp 6)⟩,
      ⟨(some 8), none, .mv (.cst (.int .i64 0))⟩])
    (rangeCode 0 1 8 7 9 18 (.seq (.region [⟨(some 10), none, .mv (.tmp 8)⟩,
           ⟨(some 5), none, .mv (.tmp 10)⟩])
         (.seq (.region [⟨(some 11), none, .mv (.tmp 1)⟩,
            ⟨(some 12), none, .mv (.tmp 0)⟩,
            ⟨(some 13), none, .mv (.tmp 5)⟩,
            ⟨(some 14), none, .indexAddr 1 (.tmp 12) (.tmp 13)⟩,
            ⟨(some 15), none, .load false 1 (.tmp 14)⟩,
            ⟨(some 16), none, .call false (.tmp 11) [.tmp 15]⟩])
          (.cond (.tmp 16)
           (.seq (.region [⟨(some 17), none, .mv (.tmp 5)⟩,
              ⟨(some 4), none, .mv (.tmp 17)⟩])
            (.ret))
           (.skip))))))
   (.seq (.region [⟨(some 4), none, .mv (.cst (.int .i64 (-1)))⟩])
    (.ret)))⟩
/-- strings.trimLeftByte -/
def a98 : AFun := ⟨17, [.tmp 4],
 .seq (.region [⟨(some 4), none, .mv (.cst (.str []))⟩])
  (.seq (.block 0 (.loop (.seq (.seq (.region [⟨(some 5), none, .mv (.tmp 0)⟩,
         ⟨(some 6), none, .lenStr (.tmp 5)⟩,
         ⟨(some 7), none, .bin .gtr (.tmp 6) (.cst (.int .i64 0))⟩,
         ⟨(some 8), none, .mv (.tmp 7)⟩,
         ⟨(some 9), (some (8, true)), .mv (.tmp 0)⟩,
         ⟨(some 10), (some (8, true)), .indexS (.tmp 9) (.cst (.int .i64 0))⟩,
         ⟨(some 11), (some (8, true)), .mv (.tmp 1)⟩,
         ⟨(some 12), (some (8, true)), .bin .eql (.tmp 10) (.tmp 11)⟩,
         ⟨(some 13), none, .pick (.tmp 8) (.tmp 12) (.cst (.bool false))⟩])
       (.cond (.tmp 13)
        (.skip)
        (.exit 0)))
      (.block 1 (.region [⟨(some 14), none, .mv (.tmp 0)⟩,
         ⟨(some 15), none, .sliceS (.tmp 14) (some (.cst (.int .i64 1))) none⟩,
         ⟨(some 0), none, .mv (.tmp 15)⟩])))))
   (.seq (.region [⟨(some 16), none, .mv (.tmp 0)⟩,
      ⟨(some 4), none, .mv (.tmp 16)⟩])
    (.ret)))⟩
/-- strings.trimRightByte -/
def a99 : AFun := ⟨23, [.tmp 4],
 .seq (.region [⟨(some 4), none, .mv (.cst (.str []))⟩])
  (.seq (.block 0 (.loop (.seq (.seq (.region [⟨(some 5), none, .mv (.tmp 0)⟩,
         ⟨(some 6), none, .lenStr (.tmp 5)⟩,
         ⟨(some 7), none, .bin .gtr (.tmp 6) (.cst (.int .i64 0))⟩,
         ⟨(some 8), none, .mv (.tmp 7)⟩,
         ⟨(some 9), (some (8, true)), .mv (.tmp 0)⟩,
         ⟨(some 10), (some (8, true)), .mv (.tmp 0)⟩,
         ⟨(some 11), (some (8, true)), .lenStr (.tmp 10)⟩,
         ⟨(some 12), (some (8, true)), .bin .sub (.tmp 11) (.cst (.int .i64 1))⟩,
         ⟨(some 13), (some (8, true)), .indexS (.tmp 9) (.tmp 12)⟩,
         ⟨(some 14), (some (8, true)), .mv (.tmp 1)⟩,
         ⟨(some 15), (some (8, true)), .bin .eql (.tmp 13) (.tmp 14)⟩,
         ⟨(some 16), none, .pick (.tmp 8) (.tmp 15) (.cst (.bool false))⟩])
       (.cond (.tmp 16)
        (.skip)
        (.exit 0)))
      (.block 1 (.region [⟨(some 17), none, .mv (.tmp 0)⟩,
         ⟨(some 18), none, .mv (.tmp 0)⟩,
         ⟨(some 19), none, .lenStr (.tmp 18)⟩,
         ⟨(some 20), none, .bin .sub (.tmp 19) (.cst (.int .i64 1))⟩,
         ⟨(some 21), none, .sliceS (.tmp 17) none (some (.tmp 20))⟩,
         ⟨(some 0), none, .mv (.tmp 21)⟩])))))
   (.seq (.region [⟨(some 22), none, .mv (.tmp 0)⟩,
      ⟨(some 4), none, .mv (.tmp 22)⟩])
    (.ret)))⟩
/-- strings.makeASCIISet -/
def a100 : AFun := ⟨21, [.cell 2 true 256, .tmp 3],
 .seq (.region [⟨(some 2), none, .alloc (repCells [.bool false] 256)⟩,
    ⟨(some 3), none, .mv (.cst (.bool false))⟩])
  (.seq (.seq (.region [⟨(some 4), none, .mv (.cst (.int .i64 0))⟩])
    (.block 0 (.loop (.seq (.seq (.region [⟨(some 6), none, .mv (.tmp 4)⟩,
          ⟨(some 7), none, .mv (.tmp 0)⟩,
          ⟨(some 8), none, .lenStr (.tmp 7)⟩,
          ⟨(some 9), none, .bin .lss (.tmp 6) (.tmp 8)⟩])
        (.cond (.tmp 9)
         (.skip)
         (.exit 0)))
       (.seq (.block 1 (.seq (.region [⟨(some 12), none, .mv (.tmp 0)⟩,
            ⟨(some 13), none, .mv (.tmp 4)⟩,
            ⟨(some 14), none, .indexS (.tmp 12) (.tmp 13)⟩,
            ⟨(some 5), none, .mv (.tmp 14)⟩])
          (.seq (.seq (.region [⟨(some 15), none, .mv (.tmp 5)⟩,
              ⟨(some 16), none, .bin .geq (.tmp 15) (.cst (.int .u8 128))⟩])
            (.cond (.tmp 16)
             (.seq (.region [⟨(some 17), none, .load true 256 (.tmp 2)⟩,
                ⟨none, none, .store 256 (.tmp 2) (.tmp 17)⟩,
                ⟨(some 3), none, .mv (.cst (.bool false))⟩])
              (.ret))
             (.skip)))
           (.region [⟨(some 18), none, .mv (.tmp 5)⟩,
             ⟨(some 19), none, .indexAddrA 256 1 (.tmp 2) (.tmp 18)⟩,
             ⟨none, none, .store 1 (.tmp 19) (.cst (.bool true))⟩]))))
        (.region [⟨(some 10), none, .mv (.tmp 4)⟩,
          ⟨(some 11), none, .bin .add (.tmp 10) (.cst (.int .i64 1))⟩,
          ⟨(some 4), none, .mv (.tmp 11)⟩]))))))
   (.seq (.region [⟨(some 20), none, .load true 256 (.tmp 2)⟩,
      ⟨none, none, .store 256 (.tmp 2) (.tmp 20)⟩,
      ⟨(some 3), none, .mv (.cst (.bool true))⟩])
    (.ret)))⟩
/-- strings.trimLeftASCII -/
def a101 : AFun := ⟨16, [.tmp 4],
 .seq (.region [⟨(some 4), none, .mv (.cst (.str []))⟩])
  (.seq (.block 0 (.loop (.seq (.seq (.region [⟨(some 5), none, .mv (.tmp 0)⟩,
         ⟨(some 6), none, .lenStr (.tmp 5)⟩,
         ⟨(some 7), none, .bin .gtr (.tmp 6) (.cst (.int .i64 0))⟩])
       (.cond (.tmp 7)
        (.skip)
        (.exit 0)))
      (.block 1 (.seq (.seq (.region [⟨(some 8), none, .mv (.tmp 1)⟩,
           ⟨(some 9), none, .mv (.tmp 0)⟩,
           ⟨(some 10), none, .indexS (.tmp 9) (.cst (.int .i64 0))⟩,
           ⟨(some 11), none, .call false (.cst (.func 117 [] [])) [.tmp 8, .tmp 10]⟩,
           ⟨(some 12), none, .un .not (.tmp 11)⟩])
         (.cond (.tmp 12)
          (.exit 0)
          (.skip)))
        (.region [⟨(some 13), none, .mv (.tmp 0)⟩,
          ⟨(some 14), none, .sliceS (.tmp 13) (some (.cst (.int .i64 1))) none⟩,
          ⟨(some 0), none, .mv (.tmp 14)⟩]))))))
   (.seq (.region [⟨(some 15), none, .mv (.tmp 0)⟩,
      ⟨(some 4), none, .mv (.tmp 15)⟩])
    (.ret)))⟩
/-- strings.trimRightASCII -/
def a102 : AFun := ⟨22, [.tmp 4],
 .seq (.region [⟨(some 4), none, .mv (.cst (.str []))⟩])
  (.seq (.block 0 (.loop (.seq (.seq (.region [⟨(some 5), none, .mv (.tmp 0)⟩,
         ⟨(some 6), none, .lenStr (.tmp 5)⟩,
         ⟨(some 7), none, .bin .gtr (.tmp 6) (.cst (.int .i64 0))⟩])
       (.cond (.tmp 7)
        (.skip)
        (.exit 0)))
      (.block 1 (.seq (.seq (.region [⟨(some 8), none, .mv (.tmp 1)⟩,
           ⟨(some 9), none, .mv (.tmp 0)⟩,
           ⟨(some 10), none, .mv (.tmp 0)⟩,
           ⟨(some 11), none, .lenStr (.tmp 10)⟩,
           ⟨(some 12), none, .bin .sub (.tmp 11) (.cst (.int .i64 1))⟩,
           ⟨(some 13), none, .indexS (.tmp 9) (.tmp 12)⟩,
           ⟨(some 14), none, .call false (.cst (.func 117 [] [])) [.tmp 8, .tmp 13]⟩,
           ⟨(some 15), none, .un .not (.tmp 14)⟩])
         (.cond (.tmp 15)
          (.exit 0)
          (.skip)))
        (.region [⟨(some 16), none, .mv (.tmp 0)⟩,
          ⟨(some 17), none, .mv (.tmp 0)⟩,
          ⟨(some 18), none, .lenStr (.tmp 17)⟩,
          ⟨(some 19), none, .bin .sub (.tmp 18) (.cst (.int .i64 1))⟩,
          ⟨(some 20), none, .sliceS (.tmp 16) none (some (.tmp 19))⟩,
          ⟨(some 0), none, .mv (.tmp 20)⟩]))))))
   (.seq (.region [⟨(some 21), none, .mv (.tmp 0)⟩,
      ⟨(some 4), none, .mv (.tmp 21)⟩])
    (.ret)))⟩
/-- strings.trimLeftUnicode -/
def a103 : AFun := ⟨23, [.tmp 4],
 .seq (.region [⟨(some 4), none, .mv (.cst (.str []))⟩])
  (.seq (.block 0 (.loop (.seq (.seq (.region [⟨(some 7), none, .mv (.tmp 0)⟩,
         ⟨(some 8), none, .lenStr (.tmp 7)⟩,
         ⟨(some 9), none, .bin .gtr (.tmp 8) (.cst (.int .i64 0))⟩])
       (.cond (.tmp 9)
        (.skip)
        (.exit 0)))
      (.block 1 (.seq (.region [⟨(some 11), none, .mv (.tmp 0)⟩,
          ⟨(some 12), none, .call false (.cst (.func 118 [] [])) [.tmp 11]⟩,
          ⟨(some 10), none, .mv (.tmp 12)⟩,
          ⟨(some 13), none, .extract (.tmp 10) 0⟩,
          ⟨(some 14), none, .extract (.tmp 10) 1⟩,
          ⟨(some 5), none, .mv (.tmp 13)⟩,
          ⟨(some 6), none, .mv (.tmp 14)⟩])
        (.seq (.seq (.region [⟨(some 15), none, .mv (.tmp 1)⟩,
            ⟨(some 16), none, .mv (.tmp 5)⟩,
            ⟨(some 17), none, .call false (.cst (.func 119 [] [])) [.tmp 15, .tmp 16]⟩,
            ⟨(some 18), none, .un .not (.tmp 17)⟩])
          (.cond (.tmp 18)
           (.exit 0)
           (.skip)))
         (.region [⟨(some 19), none, .mv (.tmp 0)⟩,
           ⟨(some 20), none, .mv (.tmp 6)⟩,
           ⟨(some 21), none, .sliceS (.tmp 19) (some (.tmp 20)) none⟩,
           ⟨(some 0), none, .mv (.tmp 21)⟩])))))))
   (.seq (.region [⟨(some 22), none, .mv (.tmp 0)⟩,
      ⟨(some 4), none, .mv (.tmp 22)⟩])
    (.ret)))⟩
/-- strings.trimRightUnicode -/
def a104 : AFun := ⟨34, [.tmp 4],
 .seq (.region [⟨(some 4), none, .mv (.cst (.str []))⟩])
  (.seq (.block 0 (.loop (.seq (.seq (.region [⟨(some 7), none, .mv (.tmp 0)⟩,
         ⟨(some 8), none, .lenStr (.tmp 7)⟩,
         ⟨(some 9), none, .bin .gtr (.tmp 8) (.cst (.int .i64 0))⟩])
       (.cond (.tmp 9)
        (.skip)
        (.exit 0)))
      (.block 1 (.seq (.region [⟨(some 10), none, .mv (.tmp 0)⟩,
          ⟨(some 11), none, .mv (.tmp 0)⟩,
          ⟨(some 12), none, .lenStr (.tmp 11)⟩,
          ⟨(some 13), none, .bin .sub (.tmp 12) (.cst (.int .i64 1))⟩,
          ⟨(some 14), none, .indexS (.tmp 10) (.tmp 13)⟩,
          ⟨(some 15), none, .convInt .i32 (.tmp 14)⟩,
          ⟨(some 5), none, .mv (.tmp 15)⟩,
          ⟨(some 6), none, .mv (.cst (.int .i64 1))⟩])
        (.seq (.seq (.region [⟨(some 16), none, .mv (.tmp 5)⟩,
            ⟨(some 17), none, .bin .geq (.tmp 16) (.cst (.int .i32 128))⟩])
          (.cond (.tmp 17)
           (.region [⟨(some 19), none, .mv (.tmp 0)⟩,
             ⟨(some 20), none, .call false (.cst (.func 120 [] [])) [.tmp 19]⟩,
             ⟨(some 18), none, .mv (.tmp 20)⟩,
             ⟨(some 21), none, .extract (.tmp 18) 0⟩,
             ⟨(some 22), none, .extract (.tmp 18) 1⟩,
             ⟨(some 5), none, .mv (.tmp 21)⟩,
             ⟨(some 6), none, .mv (.tmp 22)⟩])
           (.skip)))
         (.seq (.seq (.region [⟨(some 23), none, .mv (.tmp 1)⟩,
             ⟨(some 24), none, .mv (.tmp 5)⟩,
             ⟨(some 25), none, .call false (.cst (.func 119 [] [])) [.tmp 23, .tmp 24]⟩,
             ⟨(some 26), none, .un .not (.tmp 25)⟩])
           (.cond (.tmp 26)
            (.exit 0)
            (.skip)))
          (.region [⟨(some 27), none, .mv (.tmp 0)⟩,
            ⟨(some 28), none, .mv (.tmp 0)⟩,
            ⟨(some 29), none, .lenStr (.tmp 28)⟩,
            ⟨(some 30), none, .mv (.tmp 6)⟩,
            ⟨(some 31), none, .bin .sub (.tmp 29) (.tmp 30)⟩,
            ⟨(some 32), none, .sliceS (.tmp 27) none (some (.tmp 31))⟩,
            ⟨(some 0), none, .mv (.tmp 32)⟩]))))))))
   (.seq (.region [⟨(some 33), none, .mv (.tmp 0)⟩,
      ⟨(some 4), none, .mv (.tmp 33)⟩])
    (.ret)))⟩
/-- barrow/view.nameOf -/
def a105 : AFun := ⟨7, [.tmp 2],
 .seq (.region [⟨(some 2), none, .mv (.cst (.str []))⟩])
  (.seq (.seq (.region [⟨(some 3), none, .mv (.tmp 0)⟩,
      ⟨(some 4), none, .call false (.cst (.func 37 [] [])) [.tmp 3]⟩,
      ⟨(some 5), none, .un .not (.tmp 4)⟩])
    (.cond (.tmp 5)
     (.seq (.region [⟨(some 2), none, .mv (.cst (.str []))⟩])
      (.ret))
     (.skip)))
   (.seq (.region [⟨(some 6), none, .mv (.tmp 0)⟩,
      ⟨(some 2), none, .mv (.tmp 6)⟩])
    (.ret)))⟩
/-- barrow/body.Fields -/
def a106 : AFun := ⟨24, [.cell 2 true 9],
 .seq (.region [⟨(some 1), none, .box (.tmp 0)⟩,
    ⟨(some 2), none, .alloc (repCells [.int .i64 0] 9)⟩])
  (.seq (.region [⟨(some 3), none, .fieldAddr 1 (.tmp 1)⟩,
     ⟨(some 4), none, .load false 1 (.tmp 3)⟩,
     ⟨(some 5), none, .fieldAddr 2 (.tmp 1)⟩,
     ⟨(some 6), none, .load false 1 (.tmp 5)⟩,
     ⟨(some 7), none, .fieldAddr 3 (.tmp 1)⟩,
     ⟨(some 8), none, .load false 1 (.tmp 7)⟩,
     ⟨(some 9), none, .fieldAddr 4 (.tmp 1)⟩,
     ⟨(some 10), none, .load false 1 (.tmp 9)⟩,
     ⟨(some 11), none, .fieldAddr 5 (.tmp 1)⟩,
     ⟨(some 12), none, .load false 1 (.tmp 11)⟩,
     ⟨(some 13), none, .fieldAddr 6 (.tmp 1)⟩,
     ⟨(some 14), none, .load false 1 (.tmp 13)⟩,
     ⟨(some 15), none, .fieldAddr 7 (.tmp 1)⟩,
     ⟨(some 16), none, .fieldAddr 0 (.tmp 15)⟩,
     ⟨(some 17), none, .load false 1 (.tmp 16)⟩,
     ⟨(some 18), none, .fieldAddr 7 (.tmp 1)⟩,
     ⟨(some 19), none, .fieldAddr 1 (.tmp 18)⟩,
     ⟨(some 20), none, .load false 1 (.tmp 19)⟩,
     ⟨(some 21), none, .fieldAddr 9 (.tmp 1)⟩,
     ⟨(some 22), none, .load false 1 (.tmp 21)⟩,
     ⟨(some 23), none, .build (repCells [.int .i64 0] 9) [(0, 1, (.tmp 4)), (1, 1, (.tmp 6)), (2, 1, (.tmp 8)), (3, 1, (.tmp 10)), (4, 1, (.tmp 12)), (5, 1, (.tmp 14)), (6, 1, (.tmp 17)), (7, 1, (.tmp 20)), (8, 1, (.tmp 22))]⟩,
     ⟨none, none, .store 9 (.tmp 2) (.tmp 23)⟩])
   (.ret))⟩
/-- slices.Clone[[]barrow/api.Seen,barrow/api.Seen] -/
def a107 : AFun := ⟨8, [.tmp 2],
 .seq (.region [⟨(some 2), none, .mv (.cst (.slice none 0 none))⟩])
  (.seq (.seq (.region [⟨(some 3), none, .mv (.tmp 0)⟩,
      ⟨(some 4), none, .eq false .slc (.tmp 3) (.cst (.slice none 0 none))⟩])
    (.cond (.tmp 4)
     (.seq (.region [⟨(some 2), none, .mv (.cst (.slice none 0 none))⟩])
      (.ret))
     (.skip)))
   (.seq (.region [⟨(some 5), none, .bslice 11 0 [.int .i64 0, .str [], .int .i64 0, .int .i64 0, .int .i64 0, .int .i64 0, .int .i64 0, .int .i64 0, .int .i64 0, .int .i64 0, .int .i64 0] []⟩,
      ⟨(some 6), none, .mv (.tmp 0)⟩,
      ⟨(some 7), none, .append 11 96 (.tmp 5) (.tmp 6)⟩,
      ⟨(some 2), none, .mv (.tmp 7)⟩])
    (.ret)))⟩
/-- slices.Clone[[][5]int,[5]int] -/
def a108 : AFun := ⟨8, [.tmp 2],
 .seq (.region [⟨(some 2), none, .mv (.cst (.slice none 0 none))⟩])
  (.seq (.seq (.region [⟨(some 3), none, .mv (.tmp 0)⟩,
      ⟨(some 4), none, .eq false .slc (.tmp 3) (.cst (.slice none 0 none))⟩])
    (.cond (.tmp 4)
     (.seq (.region [⟨(some 2), none, .mv (.cst (.slice none 0 none))⟩])
      (.ret))
     (.skip)))
   (.seq (.region [⟨(some 5), none, .bslice 5 0 [.int .i64 0, .int .i64 0, .int .i64 0, .int .i64 0, .int .i64 0] []⟩,
      ⟨(some 6), none, .mv (.tmp 0)⟩,
      ⟨(some 7), none, .append 5 40 (.tmp 5) (.tmp 6)⟩,
      ⟨(some 2), none, .mv (.tmp 7)⟩])
    (.ret)))⟩
/-- slices.IndexFunc[[]barrow/api.Seen,barrow/api.Seen] -/
def a109 : AFun := ⟨19, [.tmp 4],
 .seq (.region [⟨(some 4), none, .mv (.cst (.int .i64 0))⟩])
  (.seq (.seq (.region [⟨(some 6), none, .mv (.tmp 0)⟩,
      ⟨(some 7), none, .lenS (.tmp 6)⟩,
      ⟨(some 8), none, .mv (.cst (.int .i64 0))⟩])
    (rangeCode 0 1 8 7 9 18 (.seq (.region [⟨(some 10), none, .mv (.tmp 8)⟩,
           ⟨(some 5), none, .mv (.tmp 10)⟩])
         (.seq (.region [⟨(some 11), none, .mv (.tmp 1)⟩,
            ⟨(some 12), none, .mv (.tmp 0)⟩,
            ⟨(some 13), none, .mv (.tmp 5)⟩,
            ⟨(some 14), none, .indexAddr 11 (.tmp 12) (.tmp 13)⟩,
            ⟨(some 15), none, .load true 11 (.tmp 14)⟩,
            ⟨(some 16), none, .call false (.tmp 11) [.tmp 15]⟩])
          (.cond (.tmp 16)
           (.seq (.region [⟨(some 17), none, .mv (.tmp 5)⟩,
              ⟨(some 4), none, .mv (.tmp 17)⟩])
            (.ret))
           (.skip))))))
   (.seq (.region [⟨(some 4), none, .mv (.cst (.int .i64 (-1)))⟩])
    (.ret)))⟩
/-- barrow/view.find$1 -/
def a110 : AFun := ⟨8, [.tmp 3],
 .seq (.region [⟨(some 2), none, .box (.tmp 0)⟩,
    ⟨(some 3), none, .mv (.cst (.bool false))⟩])
  (.seq (.region [⟨(some 4), none, .fieldAddr 0 (.tmp 2)⟩,
     ⟨(some 5), none, .load false 1 (.tmp 4)⟩,
     ⟨(some 6), none, .load false 1 (.tmp 1)⟩,
     ⟨(some 7), none, .bin .eql (.tmp 5) (.tmp 6)⟩,
     ⟨(some 3), none, .mv (.tmp 7)⟩])
   (.ret))⟩
/-- barrow/view.place -/
def a111 : AFun := ⟨27, [.tmp 4, .tmp 5],
 .seq (.region [⟨(some 4), none, .mv (.cst (.int .i64 0))⟩,
    ⟨(some 5), none, .mv (.cst (.bool false))⟩])
  (.seq (.seq (.region [⟨(some 8), none, .mv (.tmp 0)⟩,
      ⟨(some 9), none, .lenS (.tmp 8)⟩,
      ⟨(some 10), none, .mv (.cst (.int .i64 0))⟩])
    (rangeCode 0 1 10 9 11 24 (.seq (.region [⟨(some 12), none, .mv (.tmp 10)⟩,
             ⟨(some 13), none, .indexAddr 11 (.tmp 8) (.tmp 10)⟩,
             ⟨(some 14), none, .load true 11 (.tmp 13)⟩,
             ⟨(some 7), none, .alloc [.int .i64 0, .str [], .int .i64 0, .int .i64 0, .int .i64 0, .int .i64 0, .int .i64 0, .int .i64 0, .int .i64 0, .int .i64 0, .int .i64 0]⟩,
             ⟨(some 6), none, .mv (.tmp 12)⟩,
             ⟨none, none, .store 11 (.tmp 7) (.tmp 14)⟩])
           (.seq (.region [⟨(some 15), none, .fieldAddr 0 (.tmp 7)⟩,
              ⟨(some 16), none, .load false 1 (.tmp 15)⟩,
              ⟨(some 17), none, .mv (.tmp 1)⟩,
              ⟨(some 18), none, .bin .geq (.tmp 16) (.tmp 17)⟩])
            (.cond (.tmp 18)
             (.seq (.dregion [⟨(some 19), none, .mv (.tmp 6)⟩,
                ⟨(some 20), none, .fieldAddr 0 (.tmp 7)⟩,
                ⟨(some 21), none, .load false 1 (.tmp 20)⟩,
                ⟨(some 22), none, .mv (.tmp 1)⟩,
                ⟨(some 23), none, .bin .eql (.tmp 21) (.tmp 22)⟩,
                ⟨(some 4), none, .mv (.tmp 19)⟩,
                ⟨(some 5), none, .mv (.tmp 23)⟩] [])
              (.ret))
             (.skip))))))
   (.seq (.region [⟨(some 25), none, .mv (.tmp 0)⟩,
      ⟨(some 26), none, .lenS (.tmp 25)⟩,
      ⟨(some 4), none, .mv (.tmp 26)⟩,
      ⟨(some 5), none, .mv (.cst (.bool false))⟩])
    (.ret)))⟩
/-- barrow/pack.take -/
def a113 : AFun := ⟨45, [.tmp 2, .tmp 3],
 .seq (.region [⟨(some 2), none, .mv (.cst (.int .u64 0))⟩,
    ⟨(some 3), none, .mv (.cst (.int .i64 0))⟩])
  (.seq (.region [⟨(some 4), none, .mv (.cst (.int .u64 0))⟩])
   (.seq (.seq (.region [⟨(some 7), none, .mv (.tmp 0)⟩,
       ⟨(some 8), none, .lenS (.tmp 7)⟩,
       ⟨(some 9), none, .minmax false (.tmp 8) [.cst (.int .i64 10)]⟩,
       ⟨(some 10), none, .mv (.cst (.int .i64 0))⟩])
     (rangeCode 0 1 10 9 11 44 (.seq (.region [⟨(some 12), none, .mv (.tmp 10)⟩,
             ⟨(some 5), none, .mv (.tmp 12)⟩])
           (.seq (.region [⟨(some 13), none, .mv (.tmp 0)⟩,
              ⟨(some 14), none, .mv (.tmp 5)⟩,
              ⟨(some 15), none, .indexAddr 1 (.tmp 13) (.tmp 14)⟩,
              ⟨(some 16), none, .load false 1 (.tmp 15)⟩,
              ⟨(some 17), none, .convInt .u64 (.tmp 16)⟩,
              ⟨(some 6), none, .mv (.tmp 17)⟩])
            (.seq (.region [⟨(some 18), none, .mv (.tmp 4)⟩,
               ⟨(some 19), none, .mv (.tmp 6)⟩,
               ⟨(some 20), none, .bin .and (.tmp 19) (.cst (.int .u64 127))⟩,
               ⟨(some 21), none, .mv (.tmp 5)⟩,
               ⟨(some 22), none, .bin .mul (.cst (.int .i64 7)) (.tmp 21)⟩,
               ⟨(some 23), none, .bin .shl (.tmp 20) (.tmp 22)⟩,
               ⟨(some 24), none, .bin .or (.tmp 18) (.tmp 23)⟩,
               ⟨(some 4), none, .mv (.tmp 24)⟩])
             (.seq (.block 2 (.seq (.region [⟨(some 26), none, .mv (.tmp 6)⟩,
                  ⟨(some 27), none, .bin .geq (.tmp 26) (.cst (.int .u64 128))⟩,
                  ⟨(some 25), none, .mv (.tmp 27)⟩])
                (.cond (.tmp 25)
                 (.exit 1)
                 (.seq (.seq (.region [⟨(some 29), none, .mv (.tmp 6)⟩,
                     ⟨(some 30), none, .bin .eql (.tmp 29) (.cst (.int .u64 0))⟩,
                     ⟨(some 31), none, .mv (.tmp 30)⟩,
                     ⟨(some 32), (some (31, true)), .mv (.tmp 5)⟩,
                     ⟨(some 33), (some (31, true)), .bin .gtr (.tmp 32) (.cst (.int .i64 0))⟩,
                     ⟨(some 34), none, .pick (.tmp 31) (.tmp 33) (.cst (.bool false))⟩,
                     ⟨(some 28), none, .mv (.tmp 34)⟩])
                   (.cond (.tmp 28)
                    (.skip)
                    (.region [⟨(some 35), none, .mv (.tmp 5)⟩,
                      ⟨(some 36), none, .bin .eql (.tmp 35) (.cst (.int .i64 9))⟩,
                      ⟨(some 37), none, .mv (.tmp 36)⟩,
                      ⟨(some 38), (some (37, true)), .mv (.tmp 6)⟩,
                      ⟨(some 39), (some (37, true)), .bin .gtr (.tmp 38) (.cst (.int .u64 1))⟩,
                      ⟨(some 40), none, .pick (.tmp 37) (.tmp 39) (.cst (.bool false))⟩,
                      ⟨(some 28), none, .mv (.tmp 40)⟩])))
                  (.cond (.tmp 28)
                   (.seq (.region [⟨(some 2), none, .mv (.cst (.int .u64 0))⟩,
                      ⟨(some 3), none, .mv (.cst (.int .i64 0))⟩])
                    (.ret))
                   (.skip))))))
              (.seq (.region [⟨(some 41), none, .mv (.tmp 4)⟩,
                 ⟨(some 42), none, .mv (.tmp 5)⟩,
                 ⟨(some 43), none, .bin .add (.tmp 42) (.cst (.int .i64 1))⟩,
                 ⟨(some 2), none, .mv (.tmp 41)⟩,
                 ⟨(some 3), none, .mv (.tmp 43)⟩])
               (.ret))))))))
    (.seq (.region [⟨(some 2), none, .mv (.cst (.int .u64 0))⟩,
       ⟨(some 3), none, .mv (.cst (.int .i64 0))⟩])
     (.ret))))⟩
/-- cmp.isNaN[string] -/
def a114 : AFun := ⟨6, [.tmp 2],
 .seq (.region [⟨(some 2), none, .mv (.cst (.bool false))⟩])
  (.seq (.region [⟨(some 3), none, .mv (.tmp 0)⟩,
     ⟨(some 4), none, .mv (.tmp 0)⟩,
     ⟨(some 5), none, .bin .neq (.tmp 3) (.tmp 4)⟩,
     ⟨(some 2), none, .mv (.tmp 5)⟩])
   (.ret))⟩
/-- cmp.isNaN[int] -/
def a115 : AFun := ⟨6, [.tmp 2],
 .seq (.region [⟨(some 2), none, .mv (.cst (.bool false))⟩])
  (.seq (.region [⟨(some 3), none, .mv (.tmp 0)⟩,
     ⟨(some 4), none, .mv (.tmp 0)⟩,
     ⟨(some 5), none, .bin .neq (.tmp 3) (.tmp 4)⟩,
     ⟨(some 2), none, .mv (.tmp 5)⟩])
   (.ret))⟩
/-- slices.rotateLeft[barrow/api.Lock] -/
def a116 : AFun := ⟨14, [],
 .seq (.region [⟨(some 4), none, .mv (.tmp 0)⟩,
    ⟨(some 5), none, .mv (.tmp 1)⟩,
    ⟨(some 6), none, .slice 3 (.tmp 4) none (some (.tmp 5)) none⟩,
    ⟨(some 7), none, .call false (.cst (.func 123 [] [])) [.tmp 6]⟩])
  (.seq (.region [⟨(some 8), none, .mv (.tmp 0)⟩,
     ⟨(some 9), none, .mv (.tmp 1)⟩,
     ⟨(some 10), none, .slice 3 (.tmp 8) (some (.tmp 9)) none none⟩,
     ⟨(some 11), none, .call false (.cst (.func 123 [] [])) [.tmp 10]⟩])
   (.region [⟨(some 12), none, .mv (.tmp 0)⟩,
     ⟨(some 13), none, .call false (.cst (.func 123 [] [])) [.tmp 12]⟩]))⟩
/-- (*strings.asciiSet).contains -/
def a117 : AFun := ⟨10, [.tmp 4],
 .seq (.region [⟨(some 4), none, .mv (.cst (.bool false))⟩])
  (.seq (.region [⟨(some 5), none, .mv (.tmp 0)⟩,
     ⟨(some 6), none, .mv (.tmp 1)⟩,
     ⟨(some 7), none, .nilck (.tmp 5)⟩,
     ⟨(some 8), none, .indexAddrA 256 1 (.tmp 7) (.tmp 6)⟩,
     ⟨(some 9), none, .load false 1 (.tmp 8)⟩,
     ⟨(some 4), none, .mv (.tmp 9)⟩])
   (.ret))⟩
/-- unicode/utf8.DecodeRuneInString -/
def a118 : AFun := ⟨19, [.tmp 2, .tmp 3],
 .seq (.region [⟨(some 2), none, .mv (.cst (.int .i32 0))⟩,
    ⟨(some 3), none, .mv (.cst (.int .i64 0))⟩])
  (.seq (.seq (.region [⟨(some 4), none, .mv (.tmp 0)⟩,
      ⟨(some 5), none, .bin .neq (.tmp 4) (.cst (.str []))⟩,
      ⟨(some 6), none, .mv (.tmp 5)⟩,
      ⟨(some 7), (some (6, true)), .mv (.tmp 0)⟩,
      ⟨(some 8), (some (6, true)), .indexS (.tmp 7) (.cst (.int .i64 0))⟩,
      ⟨(some 9), (some (6, true)), .bin .lss (.tmp 8) (.cst (.int .u8 128))⟩,
      ⟨(some 10), none, .pick (.tmp 6) (.tmp 9) (.cst (.bool false))⟩])
    (.cond (.tmp 10)
     (.seq (.region [⟨(some 11), none, .mv (.tmp 0)⟩,
        ⟨(some 12), none, .indexS (.tmp 11) (.cst (.int .i64 0))⟩,
        ⟨(some 13), none, .convInt .i32 (.tmp 12)⟩,
        ⟨(some 2), none, .mv (.tmp 13)⟩,
        ⟨(some 3), none, .mv (.cst (.int .i64 1))⟩])
      (.ret))
     (.region [⟨(some 15), none, .mv (.tmp 0)⟩,
       ⟨(some 16), none, .call false (.cst (.func 124 [] [])) [.tmp 15]⟩,
       ⟨(some 14), none, .mv (.tmp 16)⟩,
       ⟨(some 17), none, .extract (.tmp 14) 0⟩,
       ⟨(some 18), none, .extract (.tmp 14) 1⟩,
       ⟨(some 2), none, .mv (.tmp 17)⟩,
       ⟨(some 3), none, .mv (.tmp 18)⟩])))
   (.ret))⟩
/-- strings.ContainsRune -/
def a119 : AFun := ⟨9, [.tmp 4],
 .seq (.region [⟨(some 4), none, .mv (.cst (.bool false))⟩])
  (.seq (.region [⟨(some 5), none, .mv (.tmp 0)⟩,
     ⟨(some 6), none, .mv (.tmp 1)⟩,
     ⟨(some 7), none, .call false (.cst (.func 125 [] [])) [.tmp 5, .tmp 6]⟩,
     ⟨(some 8), none, .bin .geq (.tmp 7) (.cst (.int .i64 0))⟩,
     ⟨(some 4), none, .mv (.tmp 8)⟩])
   (.ret))⟩
/-- unicode/utf8.DecodeLastRuneInString -/
def a120 : AFun := ⟨51, [.tmp 2, .tmp 3],
 .seq (.region [⟨(some 2), none, .mv (.cst (.int .i32 0))⟩,
    ⟨(some 3), none, .mv (.cst (.int .i64 0))⟩])
  (.seq (.region [⟨(some 7), none, .mv (.tmp 0)⟩,
     ⟨(some 8), none, .lenStr (.tmp 7)⟩,
     ⟨(some 4), none, .mv (.tmp 8)⟩])
   (.seq (.seq (.region [⟨(some 9), none, .mv (.tmp 4)⟩,
       ⟨(some 10), none, .bin .eql (.tmp 9) (.cst (.int .i64 0))⟩])
     (.cond (.tmp 10)
      (.seq (.region [⟨(some 2), none, .mv (.cst (.int .i32 65533))⟩,
         ⟨(some 3), none, .mv (.cst (.int .i64 0))⟩])
       (.ret))
      (.skip)))
    (.seq (.region [⟨(some 11), none, .mv (.tmp 4)⟩,
       ⟨(some 12), none, .bin .sub (.tmp 11) (.cst (.int .i64 1))⟩,
       ⟨(some 5), none, .mv (.tmp 12)⟩])
     (.seq (.region [⟨(some 13), none, .mv (.tmp 0)⟩,
        ⟨(some 14), none, .mv (.tmp 5)⟩,
        ⟨(some 15), none, .indexS (.tmp 13) (.tmp 14)⟩,
        ⟨(some 16), none, .convInt .i32 (.tmp 15)⟩,
        ⟨(some 2), none, .mv (.tmp 16)⟩])
      (.seq (.seq (.region [⟨(some 17), none, .mv (.tmp 2)⟩,
          ⟨(some 18), none, .bin .lss (.tmp 17) (.cst (.int .i32 128))⟩])
        (.cond (.tmp 18)
         (.seq (.region [⟨(some 19), none, .mv (.tmp 2)⟩,
            ⟨(some 2), none, .mv (.tmp 19)⟩,
            ⟨(some 3), none, .mv (.cst (.int .i64 1))⟩])
          (.ret))
         (.skip)))
       (.seq (.region [⟨(some 20), none, .mv (.tmp 4)⟩,
          ⟨(some 21), none, .bin .sub (.tmp 20) (.cst (.int .i64 4))⟩,
          ⟨(some 22), none, .minmax true (.tmp 21) [.cst (.int .i64 0)]⟩,
          ⟨(some 6), none, .mv (.tmp 22)⟩])
        (.seq (.seq (.region [⟨(some 23), none, .mv (.tmp 5)⟩,
            ⟨(some 24), none, .bin .sub (.tmp 23) (.cst (.int .i64 1))⟩,
            ⟨(some 5), none, .mv (.tmp 24)⟩])
          (.block 0 (.loop (.seq (.seq (.region [⟨(some 25), none, .mv (.tmp 5)⟩,
                ⟨(some 26), none, .mv (.tmp 6)⟩,
                ⟨(some 27), none, .bin .geq (.tmp 25) (.tmp 26)⟩])
              (.cond (.tmp 27)
               (.skip)
               (.exit 0)))
             (.seq (.block 1 (.seq (.region [⟨(some 30), none, .mv (.tmp 0)⟩,
                  ⟨(some 31), none, .mv (.tmp 5)⟩,
                  ⟨(some 32), none, .indexS (.tmp 30) (.tmp 31)⟩,
                  ⟨(some 33), none, .call false (.cst (.func 126 [] [])) [.tmp 32]⟩])
                (.cond (.tmp 33)
                 (.exit 0)
                 (.skip))))
              (.region [⟨(some 28), none, .mv (.tmp 5)⟩,
                ⟨(some 29), none, .bin .sub (.tmp 28) (.cst (.int .i64 1))⟩,
                ⟨(some 5), none, .mv (.tmp 29)⟩]))))))
         (.seq (.seq (.region [⟨(some 34), none, .mv (.tmp 5)⟩,
             ⟨(some 35), none, .bin .lss (.tmp 34) (.cst (.int .i64 0))⟩])
           (.cond (.tmp 35)
            (.region [⟨(some 5), none, .mv (.cst (.int .i64 0))⟩])
            (.skip)))
          (.seq (.region [⟨(some 37), none, .mv (.tmp 0)⟩,
             ⟨(some 38), none, .mv (.tmp 5)⟩,
             ⟨(some 39), none, .mv (.tmp 4)⟩,
             ⟨(some 40), none, .sliceS (.tmp 37) (some (.tmp 38)) (some (.tmp 39))⟩,
             ⟨(some 41), none, .call false (.cst (.func 118 [] [])) [.tmp 40]⟩,
             ⟨(some 36), none, .mv (.tmp 41)⟩,
             ⟨(some 42), none, .extract (.tmp 36) 0⟩,
             ⟨(some 43), none, .extract (.tmp 36) 1⟩,
             ⟨(some 2), none, .mv (.tmp 42)⟩,
             ⟨(some 3), none, .mv (.tmp 43)⟩])
           (.seq (.seq (.region [⟨(some 44), none, .mv (.tmp 5)⟩,
               ⟨(some 45), none, .mv (.tmp 3)⟩,
               ⟨(some 46), none, .bin .add (.tmp 44) (.tmp 45)⟩,
               ⟨(some 47), none, .mv (.tmp 4)⟩,
               ⟨(some 48), none, .bin .neq (.tmp 46) (.tmp 47)⟩])
             (.cond (.tmp 48)
              (.seq (.region [⟨(some 2), none, .mv (.cst (.int .i32 65533))⟩,
                 ⟨(some 3), none, .mv (.cst (.int .i64 1))⟩])
               (.ret))
              (.skip)))
            (.seq (.region [⟨(some 49), none, .mv (.tmp 2)⟩,
               ⟨(some 50), none, .mv (.tmp 3)⟩,
               ⟨(some 2), none, .mv (.tmp 49)⟩,
               ⟨(some 3), none, .mv (.tmp 50)⟩])
             (.ret))))))))))))⟩
/-- slices.rotateRight[barrow/api.Seen] -/
def a122 : AFun := ⟨10, [],
 .region [⟨(some 4), none, .mv (.tmp 0)⟩,
   ⟨(some 5), none, .mv (.tmp 0)⟩,
   ⟨(some 6), none, .lenS (.tmp 5)⟩,
   ⟨(some 7), none, .mv (.tmp 1)⟩,
   ⟨(some 8), none, .bin .sub (.tmp 6) (.tmp 7)⟩,
   ⟨(some 9), none, .call false (.cst (.func 127 [] [])) [.tmp 4, .tmp 8]⟩]⟩
/-- slices.Reverse[[]barrow/api.Lock,barrow/api.Lock] -/
def a123 : AFun := ⟨28, [],
 .seq (.region [⟨(some 4), none, .mv (.tmp 0)⟩,
    ⟨(some 5), none, .lenS (.tmp 4)⟩,
    ⟨(some 6), none, .bin .sub (.tmp 5) (.cst (.int .i64 1))⟩,
    ⟨(some 2), none, .mv (.cst (.int .i64 0))⟩,
    ⟨(some 3), none, .mv (.tmp 6)⟩])
  (.block 0 (.loop (.seq (.seq (.region [⟨(some 7), none, .mv (.tmp 2)⟩,
        ⟨(some 8), none, .mv (.tmp 3)⟩,
        ⟨(some 9), none, .bin .lss (.tmp 7) (.tmp 8)⟩])
      (.cond (.tmp 9)
       (.skip)
       (.exit 0)))
     (.seq (.block 1 (.dregion [⟨(some 14), none, .mv (.tmp 0)⟩,
         ⟨(some 15), none, .mv (.tmp 2)⟩,
         ⟨(some 16), none, .mv (.tmp 0)⟩,
         ⟨(some 17), none, .mv (.tmp 3)⟩,
         ⟨(some 18), none, .mv (.tmp 0)⟩,
         ⟨(some 19), none, .mv (.tmp 3)⟩,
         ⟨(some 20), none, .indexAddr 3 (.tmp 18) (.tmp 19)⟩,
         ⟨(some 21), none, .load true 3 (.tmp 20)⟩,
         ⟨(some 22), none, .mv (.tmp 0)⟩,
         ⟨(some 23), none, .mv (.tmp 2)⟩,
         ⟨(some 24), none, .indexAddr 3 (.tmp 22) (.tmp 23)⟩,
         ⟨(some 25), none, .load true 3 (.tmp 24)⟩,
         ⟨(some 26), none, .indexAddr 3 (.tmp 14) (.tmp 15)⟩,
         ⟨none, none, .store 3 (.tmp 26) (.tmp 21)⟩,
         ⟨(some 27), none, .indexAddr 3 (.tmp 16) (.tmp 17)⟩,
         ⟨none, none, .store 3 (.tmp 27) (.tmp 25)⟩] []))
      (.region [⟨(some 10), none, .mv (.tmp 2)⟩,
        ⟨(some 11), none, .bin .add (.tmp 10) (.cst (.int .i64 1))⟩,
        ⟨(some 12), none, .mv (.tmp 3)⟩,
        ⟨(some 13), none, .bin .sub (.tmp 12) (.cst (.int .i64 1))⟩,
        ⟨(some 2), none, .mv (.tmp 11)⟩,
        ⟨(some 3), none, .mv (.tmp 13)⟩])))))⟩
/-- unicode/utf8.RuneStart -/
def a126 : AFun := ⟨6, [.tmp 2],
 .seq (.region [⟨(some 2), none, .mv (.cst (.bool false))⟩])
  (.seq (.region [⟨(some 3), none, .mv (.tmp 0)⟩,
     ⟨(some 4), none, .bin .and (.tmp 3) (.cst (.int .u8 192))⟩,
     ⟨(some 5), none, .bin .neq (.tmp 4) (.cst (.int .u8 128))⟩,
     ⟨(some 2), none, .mv (.tmp 5)⟩])
   (.ret))⟩
/-- slices.rotateLeft[barrow/api.Seen] -/
def a127 : AFun := ⟨14, [],
 .seq (.region [⟨(some 4), none, .mv (.tmp 0)⟩,
    ⟨(some 5), none, .mv (.tmp 1)⟩,
    ⟨(some 6), none, .slice 11 (.tmp 4) none (some (.tmp 5)) none⟩,
    ⟨(some 7), none, .call false (.cst (.func 132 [] [])) [.tmp 6]⟩])
  (.seq (.region [⟨(some 8), none, .mv (.tmp 0)⟩,
     ⟨(some 9), none, .mv (.tmp 1)⟩,
     ⟨(some 10), none, .slice 11 (.tmp 8) (some (.tmp 9)) none none⟩,
     ⟨(some 11), none, .call false (.cst (.func 132 [] [])) [.tmp 10]⟩])
   (.region [⟨(some 12), none, .mv (.tmp 0)⟩,
     ⟨(some 13), none, .call false (.cst (.func 132 [] [])) [.tmp 12]⟩]))⟩
/-- strings.IndexByte -/
def a128 : AFun := ⟨8, [.tmp 4],
 .seq (.region [⟨(some 4), none, .mv (.cst (.int .i64 0))⟩])
  (.seq (.region [⟨(some 5), none, .mv (.tmp 0)⟩,
     ⟨(some 6), none, .mv (.tmp 1)⟩,
     ⟨(some 7), none, .call false (.cst (.func 133 [] [])) [.tmp 5, .tmp 6]⟩,
     ⟨(some 4), none, .mv (.tmp 7)⟩])
   (.ret))⟩
/-- unicode/utf8.ValidRune -/
def a129 : AFun := ⟨17, [.tmp 2],
 .seq (.region [⟨(some 2), none, .mv (.cst (.bool false))⟩])
  (.seq (.block 0 (.seq (.region [⟨(some 4), none, .mv (.tmp 0)⟩,
       ⟨(some 5), none, .bin .leq (.cst (.int .i32 0)) (.tmp 4)⟩,
       ⟨(some 6), none, .mv (.tmp 5)⟩,
       ⟨(some 7), (some (6, true)), .mv (.tmp 0)⟩,
       ⟨(some 8), (some (6, true)), .bin .lss (.tmp 7) (.cst (.int .i32 55296))⟩,
       ⟨(some 9), none, .pick (.tmp 6) (.tmp 8) (.cst (.bool false))⟩,
       ⟨(some 3), none, .mv (.tmp 9)⟩])
     (.cond (.tmp 3)
      (.seq (.region [⟨(some 2), none, .mv (.cst (.bool true))⟩])
       (.ret))
      (.seq (.region [⟨(some 11), none, .mv (.tmp 0)⟩,
         ⟨(some 12), none, .bin .lss (.cst (.int .i32 57343)) (.tmp 11)⟩,
         ⟨(some 13), none, .mv (.tmp 12)⟩,
         ⟨(some 14), (some (13, true)), .mv (.tmp 0)⟩,
         ⟨(some 15), (some (13, true)), .bin .leq (.tmp 14) (.cst (.int .i32 1114111))⟩,
         ⟨(some 16), none, .pick (.tmp 13) (.tmp 15) (.cst (.bool false))⟩,
         ⟨(some 10), none, .mv (.tmp 16)⟩])
       (.cond (.tmp 10)
        (.seq (.region [⟨(some 2), none, .mv (.cst (.bool true))⟩])
         (.ret))
        (.skip))))))
   (.seq (.region [⟨(some 2), none, .mv (.cst (.bool false))⟩])
    (.ret)))⟩
/-- internal/bytealg.Cutover -/
def a130 : AFun := ⟨6, [.tmp 2],
 .seq (.region [⟨(some 2), none, .mv (.cst (.int .i64 0))⟩])
  (.seq (.region [⟨(some 3), none, .mv (.tmp 0)⟩,
     ⟨(some 4), none, .bin .add (.tmp 3) (.cst (.int .i64 16))⟩,
     ⟨(some 5), none, .bin .quo (.tmp 4) (.cst (.int .i64 8))⟩,
     ⟨(some 2), none, .mv (.tmp 5)⟩])
   (.ret))⟩
/-- slices.Reverse[[]barrow/api.Seen,barrow/api.Seen] -/
def a132 : AFun := ⟨28, [],
 .seq (.region [⟨(some 4), none, .mv (.tmp 0)⟩,
    ⟨(some 5), none, .lenS (.tmp 4)⟩,
    ⟨(some 6), none, .bin .sub (.tmp 5) (.cst (.int .i64 1))⟩,
    ⟨(some 2), none, .mv (.cst (.int .i64 0))⟩,
    ⟨(some 3), none, .mv (.tmp 6)⟩])
  (.block 0 (.loop (.seq (.seq (.region [⟨(some 7), none, .mv (.tmp 2)⟩,
        ⟨(some 8), none, .mv (.tmp 3)⟩,
        ⟨(some 9), none, .bin .lss (.tmp 7) (.tmp 8)⟩])
      (.cond (.tmp 9)
       (.skip)
       (.exit 0)))
     (.seq (.block 1 (.dregion [⟨(some 14), none, .mv (.tmp 0)⟩,
         ⟨(some 15), none, .mv (.tmp 2)⟩,
         ⟨(some 16), none, .mv (.tmp 0)⟩,
         ⟨(some 17), none, .mv (.tmp 3)⟩,
         ⟨(some 18), none, .mv (.tmp 0)⟩,
         ⟨(some 19), none, .mv (.tmp 3)⟩,
         ⟨(some 20), none, .indexAddr 11 (.tmp 18) (.tmp 19)⟩,
         ⟨(some 21), none, .load true 11 (.tmp 20)⟩,
         ⟨(some 22), none, .mv (.tmp 0)⟩,
         ⟨(some 23), none, .mv (.tmp 2)⟩,
         ⟨(some 24), none, .indexAddr 11 (.tmp 22) (.tmp 23)⟩,
         ⟨(some 25), none, .load true 11 (.tmp 24)⟩,
         ⟨(some 26), none, .indexAddr 11 (.tmp 14) (.tmp 15)⟩,
         ⟨none, none, .store 11 (.tmp 26) (.tmp 21)⟩,
         ⟨(some 27), none, .indexAddr 11 (.tmp 16) (.tmp 17)⟩,
         ⟨none, none, .store 11 (.tmp 27) (.tmp 25)⟩] []))
      (.region [⟨(some 10), none, .mv (.tmp 2)⟩,
        ⟨(some 11), none, .bin .add (.tmp 10) (.cst (.int .i64 1))⟩,
        ⟨(some 12), none, .mv (.tmp 3)⟩,
        ⟨(some 13), none, .bin .sub (.tmp 12) (.cst (.int .i64 1))⟩,
        ⟨(some 2), none, .mv (.tmp 11)⟩,
        ⟨(some 3), none, .mv (.tmp 13)⟩])))))⟩
/-- internal/stringslite.IndexByte -/
def a133 : AFun := ⟨8, [.tmp 4],
 .seq (.region [⟨(some 4), none, .mv (.cst (.int .i64 0))⟩])
  (.seq (.region [⟨(some 5), none, .mv (.tmp 0)⟩,
     ⟨(some 6), none, .mv (.tmp 1)⟩,
     ⟨(some 7), none, .call false (.cst (.func 134 [] [])) [.tmp 5, .tmp 6]⟩,
     ⟨(some 4), none, .mv (.tmp 7)⟩])
   (.ret))⟩
end Go.Proofs.Qq.Qqd

/- PRINTED BY A PROGRAM (seat.py): the table of functions. -/
namespace Go.Proofs.Qq.Qqd
open Go.Proofs.Qq
def tab (prims : Nat → Option AFn) : List (Option AFn) :=
  [prims 0,
   prims 1,
   some (.code a2),
   some (.code a3),
   some (.code a4),
   some (.code a5),
   some (.code a6),
   some (.code a7),
   some (.code a8),
   some (.code a9),
   some (.code a10),
   some (.code a11),
   some (.code a12),
   some (.code a13),
   some (.code a14),
   some (.code a15),
   some (.code a16),
   some (.code a17),
   some (.code a18),
   some (.code a19),
   some (.code a20),
   some (.code a21),
   some (.code a22),
   some (.code a23),
   some (.code a24),
   some (.code a25),
   some (.code a26),
   some (.code a27),
   some (.code a28),
   some (.code a29),
   some (.code a30),
   some (.code a31),
   some (.code a32),
   some (.code a33),
   some (.code a34),
   some (.code a35),
   some (.code a36),
   some (.code a37),
   some (.code a38),
   some (.code a39),
   some (.code a40),
   some (.code a41),
   some (.code a42),
   some (.code a43),
   some (.code a44),
   some (.code a45),
   some (.code a46),
   some (.code a47),
   some (.code a48),
   some (.code a49),
   some (.code a50),
   some (.code a51),
   some (.code a52),
   some (.code a53),
   some (.code a54),
   some (.code a55),
   some (.code a56),
   some (.code a57),
   some (.code a58),
   some (.code a59),
   some (.code a60),
   some (.code a61),
   prims 62,
   some (.code a63),
   some (.code a64),
   some (.code a65),
   some (.code a66),
   some (.code a67),
   some (.code a68),
   some (.code a69),
   some (.code a70),
   some (.code a71),
   some (.code a72),
   some (.code a73),
   some (.code a74),
   some (.code a75),
   some (.code a76),
   some (.code a77),
   some (.code a78),
   some (.code a79),
   some (.code a80),
   some (.code a81),
   some (.code a82),
   some (.code a83),
   some (.code a84),
   some (.code a85),
   some (.code a86),
   some (.code a87),
   some (.code a88),
   some (.code a89),
   some (.code a90),
   some (.code a91),
   some (.code a92),
   some (.code a93),
   some (.code a94),
   prims 95,
   some (.code a96),
   some (.code a97),
   some (.code a98),
   some (.code a99),
   some (.code a100),
   some (.code a101),
   some (.code a102),
   some (.code a103),
   some (.code a104),
   some (.code a105),
   some (.code a106),
   some (.code a107),
   some (.code a108),
   some (.code a109),
   some (.code a110),
   some (.code a111),
   prims 112,
   some (.code a113),
   some (.code a114),
   some (.code a115),
   some (.code a116),
   some (.code a117),
   some (.code a118),
   some (.code a119),
   some (.code a120),
   prims 121,
   some (.code a122),
   some (.code a123),
   prims 124,
   prims 125,
   some (.code a126),
   some (.code a127),
   some (.code a128),
   some (.code a129),
   some (.code a130),
   prims 131,
   some (.code a132),
   some (.code a133)]
end Go.Proofs.Qq.Qqd

