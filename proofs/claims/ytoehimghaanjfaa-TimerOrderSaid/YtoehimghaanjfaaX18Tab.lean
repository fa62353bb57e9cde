import Derived.Test.YtoehimghaanjfaaVic
import Derived.Test.YtoehimghaanjfaaChecked
import Derived.KernelRfl
set_option linter.unusedSimpArgs false
set_option linter.unusedVariables false
namespace Go.Proofs.Ytoehimghaanjfaa
open Go.Vi
/-! 3: wagoner/wagonerlaw18.TimerPlays; loops: [[0, 3, 4, 5]] -/
def a3_0 : AC :=
 (.seq
  (.seq
   (rg [
     o 17 (.mv (.t 5)),
     o 18 (.mv (.t 0)),
     o 19 (.len false (.t 18)),
     o 20 (.bin .lss (.t 17) (.t 19))])
   (.cond (.t 20)
    .skip
    (.exit 0)))
  (.seq
   (.block 1
    (.seq
     (rg [
       o 23 (.mv (.t 0)),
       o 24 (.mv (.t 5)),
       o 25 (.ia 3 (.t 23) (.t 24)),
       o 26 (.ld (some 3) (.t 25)),
       o 6 (.alloc [.d (.i .i64 0), .d (.i .i64 0), .d (.i .i64 0)]),
       on (.st 3 (.t 6) (.t 26))])
     (.seq
      (.seq
       (rg [
         o 27 (.fa 2 (.t 6)),
         o 28 (.ld none (.t 27)),
         o 29 (.bin .gtr (.t 28) (kc 1099511627776))])
       (.cond (.t 29)
        (.exit 1)
        .skip))
      (.seq
       (rd [
         o 30 (.ld (some 2) (.t 3)),
         o 31 (.ld (some 2) (.t 4)),
         o 7 (.alloc [.d (.i .i64 0), .ns]),
         o 8 (.alloc [.d (.i .i64 0), .ns]),
         ⟨none, .st 2 (.t 7) (.t 30), none, [3, 0, 2], false⟩,
         ⟨none, .st 2 (.t 8) (.t 31), none, [2, 0, 4, 1, 3], false⟩])
       (.seq
        (.seq
         (rg [
           o 32 (.fa 0 (.t 6)),
           o 33 (.ld none (.t 32))])
         (.block 2
          (.seq
           (rg [
             o 51 (.bin .eql (.t 33) (kc 0)),
             o 50 (.mv (.t 51))])
           (.cond (.t 50)
            (rg [
              o 52 (.ld (some 2) (.t 3)),
              o 53 (.fa 1 (.t 6)),
              o 54 (.ld none (.t 53)),
              o 55 (.fa 2 (.t 6)),
              o 56 (.ld none (.t 55)),
              o 57 (.callp 7 [(.t 52), (.t 54), (.t 56)]),
              o 58 (.ld (some 2) (.t 4)),
              o 59 (.fa 1 (.t 6)),
              o 60 (.ld none (.t 59)),
              o 61 (.fa 2 (.t 6)),
              o 62 (.ld none (.t 61)),
              o 63 (.callp 8 [(.t 58), (.t 60), (.t 62)]),
              on (.st 2 (.t 7) (.t 57)),
              on (.st 2 (.t 8) (.t 63))])
            (.seq
             (rg [
               o 65 (.bin .eql (.t 33) (kc 1)),
               o 64 (.mv (.t 65))])
             (.cond (.t 64)
              (rg [
                o 66 (.ld (some 2) (.t 3)),
                o 67 (.fa 1 (.t 6)),
                o 68 (.ld none (.t 67)),
                o 69 (.callp 9 [(.t 66), (.t 68)]),
                o 70 (.ld (some 2) (.t 4)),
                o 71 (.fa 1 (.t 6)),
                o 72 (.ld none (.t 71)),
                o 73 (.callp 10 [(.t 70), (.t 72)]),
                on (.st 2 (.t 7) (.t 69)),
                on (.st 2 (.t 8) (.t 73))])
              (.seq
               (rg [
                 o 35 (.ld (some 2) (.t 3)),
                 o 36 (.callp 11 [(.t 35)]),
                 o 34 (.mv (.t 36)),
                 o 37 (.ext (.t 34) 0),
                 o 38 (.ext (.t 34) 1),
                 o 9 (.alloc [.d (.i .i64 0), .ns]),
                 on (.st 2 (.t 9) (.t 37)),
                 o 10 (.mv (.t 38))])
               (.seq
                (rg [
                  o 40 (.ld (some 2) (.t 4)),
                  o 41 (.callp 12 [(.t 40)]),
                  o 39 (.mv (.t 41)),
                  o 42 (.ext (.t 39) 0),
                  o 43 (.ext (.t 39) 1),
                  o 11 (.alloc [.d (.i .i64 0), .ns]),
                  on (.st 2 (.t 11) (.t 42)),
                  o 12 (.mv (.t 43))])
                (.seq
                 (rd [
                   o 44 (.ld (some 2) (.t 9)),
                   o 45 (.ld (some 2) (.t 11)),
                   ⟨none, .st 2 (.t 7) (.t 44), none, [0], false⟩,
                   ⟨none, .st 2 (.t 8) (.t 45), none, [0, 2, 1], false⟩])
                 (.seq
                  (rg [
                    o 46 (.mv (.t 10)),
                    o 47 (.mv (.t 12)),
                    o 48 (.callp 13 [(.t 46), (.t 47)]),
                    o 49 (.un .not (.t 48))])
                  (.cond (.t 49)
                   (.seq
                    (rg [
                      o 2 (.mv (kb false))])
                    .ret)
                   .skip)))))))))))
        (.seq
         (.seq
          (rg [
            o 74 (.ld (some 2) (.t 7)),
            o 75 (.ld (some 2) (.t 8)),
            o 76 (.callp 14 [(.t 74), (.t 75)]),
            o 77 (.un .not (.t 76)),
            o 78 (.mv (.t 77)),
            og 79 78 false (.ld (some 2) (.t 3)),
            og 80 78 false (.ld (some 2) (.t 4)),
            og 81 78 false (.callp 14 [(.t 79), (.t 80)]),
            og 82 78 false (.un .not (.t 81)),
            o 83 (.pick (.t 78) (kb true) (.t 82)),
            o 84 (.mv (.t 83)),
            og 85 84 false (.ld (some 2) (.t 7)),
            og 86 84 false (.fa 1 (.t 6)),
            og 87 84 false (.ld none (.t 86)),
            og 88 84 false (.callp 15 [(.t 85), (.t 87)]),
            og 89 84 false (.ld (some 2) (.t 8)),
            og 90 84 false (.fa 1 (.t 6)),
            og 91 84 false (.ld none (.t 90)),
            og 92 84 false (.callp 16 [(.t 89), (.t 91)]),
            og 93 84 false (.eqb true (.t 88) (.t 92)),
            o 94 (.pick (.t 84) (kb true) (.t 93))])
          (.cond (.t 94)
           (.seq
            (rg [
              o 2 (.mv (kb false))])
            .ret)
           .skip))
         (rd [
           o 95 (.ld (some 2) (.t 7)),
           o 96 (.ld (some 2) (.t 8)),
           ⟨none, .st 2 (.t 3) (.t 95), none, [0], false⟩,
           ⟨none, .st 2 (.t 4) (.t 96), none, [0, 2, 1], false⟩])))))))
   (rg [
     o 21 (.mv (.t 5)),
     o 22 (.bin .add (.t 21) (kc 1)),
     o 5 (.mv (.t 22))])))
def a3 : AF := ⟨98,
 (.seq
  (rg [
    o 2 (.mv (kb false))])
  (.seq
   (.seq
    (rg [
      o 13 (.mv (.t 0)),
      o 14 (.len false (.t 13)),
      o 15 (.bin .gtr (.t 14) (kc 80))])
    (.cond (.t 15)
     (.seq
      (rg [
        o 16 (.callp 6 []),
        o 2 (.mv (.t 16))])
      .ret)
     .skip))
   (.seq
    (rg [
      o 3 (.alloc [.d (.i .i64 0), .ns]),
      o 4 (.alloc [.d (.i .i64 0), .ns])])
    (.seq
     (.seq
      (rg [
        o 5 (.mv (kc 0))])
      (.block 0
       (.loop [0, 3, 4, 5] a3_0)))
     (.seq
      (rg [
        o 97 (.callp 6 []),
        o 2 (.mv (.t 97))])
      .ret))))),
 [.t 2], false⟩
/-! 4: wagoner/wagonerlaw18.TimerOnce; loops: [[0, 5, 6, 7, 8, 9], [0, 5, 6, 7, 8, 9, 13, 14]] -/
def a4_1 : AC :=
 (.seq
  (.seq
   (rg [
     o 60 (.mv (.t 14)),
     o 61 (.mv (.t 13)),
     o 62 (.len false (.t 61)),
     o 63 (.bin .lss (.t 60) (.t 62))])
   (.cond (.t 63)
    .skip
    (.exit 3)))
  (.seq
   (.block 4
    (.seq
     (rg [
       o 66 (.mv (.t 13)),
       o 67 (.mv (.t 14)),
       o 68 (.ia 1 (.t 66) (.t 67)),
       o 69 (.ld none (.t 68)),
       o 70 (.bin .eql (.t 69) (kc 0))])
     (.cond (.t 70)
      (.seq
       (rg [
         o 71 (.mv (.t 8)),
         o 72 (.bin .add (.t 71) (kc 1)),
         o 8 (.mv (.t 72))])
       (.seq
        (rg [
          o 73 (.mv (.t 7)),
          o 74 (.mv (.t 5)),
          o 75 (.bin .neq (.t 73) (.t 74))])
        (.cond (.t 75)
         (.seq
          (rg [
            o 4 (.mv (kb false))])
          .ret)
         .skip)))
      .skip)))
   (rg [
     o 64 (.mv (.t 14)),
     o 65 (.bin .add (.t 64) (kc 1)),
     o 14 (.mv (.t 65))])))
def a4_0 : AC :=
 (.seq
  (.seq
   (rg [
     o 26 (.mv (.t 9)),
     o 27 (.mv (.t 0)),
     o 28 (.len false (.t 27)),
     o 29 (.bin .add (.t 28) (kc 30)),
     o 30 (.bin .lss (.t 26) (.t 29))])
   (.cond (.t 30)
    .skip
    (.exit 0)))
  (.seq
   (.block 1
    (.seq
     (rg [
       o 33 (.build [.d (.i .i64 0), .d (.i .i64 0), .d (.i .i64 0)] [(0, 1, (kc 2))]),
       o 10 (.alloc [.d (.i .i64 0), .d (.i .i64 0), .d (.i .i64 0)]),
       on (.st 3 (.t 10) (.t 33))])
     (.seq
      (.seq
       (rg [
         o 34 (.mv (.t 9)),
         o 35 (.mv (.t 0)),
         o 36 (.len false (.t 35)),
         o 37 (.bin .lss (.t 34) (.t 36))])
       (.cond (.t 37)
        (rg [
          o 38 (.mv (.t 0)),
          o 39 (.mv (.t 9)),
          o 40 (.ia 3 (.t 38) (.t 39)),
          o 41 (.ld (some 3) (.t 40)),
          on (.st 3 (.t 10) (.t 41))])
        .skip))
      (.seq
       (.seq
        (rg [
          o 42 (.fa 2 (.t 10)),
          o 43 (.ld none (.t 42)),
          o 44 (.bin .gtr (.t 43) (kc 1099511627776))])
        (.cond (.t 44)
         (.exit 1)
         .skip))
       (.seq
        (rg [
          o 45 (.fa 1 (.t 10)),
          o 46 (.ld none (.t 45)),
          o 47 (.mm true (.t 46) (kc 0)),
          o 48 (.bin .rem (.t 47) (kc 5)),
          o 49 (.bin .add (kc 1) (.t 48)),
          o 11 (.mv (.t 49))])
        (.seq
         (.seq
          (rg [
            o 50 (.fa 0 (.t 10)),
            o 51 (.ld none (.t 50))])
          (.block 2
           (.seq
            (rg [
              o 77 (.bin .eql (.t 51) (kc 0)),
              o 76 (.mv (.t 77))])
            (.cond (.t 76)
             (rg [
               o 78 (.ld (some 2) (.t 6)),
               o 79 (.mv (.t 11)),
               o 80 (.fa 2 (.t 10)),
               o 81 (.ld none (.t 80)),
               o 82 (.callp 7 [(.t 78), (.t 79), (.t 81)]),
               on (.st 2 (.t 6) (.t 82))])
             (.seq
              (rg [
                o 84 (.bin .eql (.t 51) (kc 1)),
                o 83 (.mv (.t 84))])
              (.cond (.t 83)
               (rg [
                 o 85 (.ld (some 2) (.t 6)),
                 o 86 (.mv (.t 11)),
                 o 87 (.callp 9 [(.t 85), (.t 86)]),
                 on (.st 2 (.t 6) (.t 87))])
               (.seq
                (rg [
                  o 53 (.ld (some 2) (.t 6)),
                  o 54 (.callp 11 [(.t 53)]),
                  o 52 (.mv (.t 54)),
                  o 55 (.ext (.t 52) 0),
                  o 56 (.ext (.t 52) 1),
                  o 12 (.alloc [.d (.i .i64 0), .ns]),
                  on (.st 2 (.t 12) (.t 55)),
                  o 13 (.mv (.t 56))])
                (.seq
                 (rg [
                   o 57 (.ld (some 2) (.t 12)),
                   on (.st 2 (.t 6) (.t 57))])
                 (.seq
                  (rg [
                    o 58 (.mv (.t 7)),
                    o 59 (.bin .add (.t 58) (kc 1)),
                    o 7 (.mv (.t 59))])
                  (.seq
                   (rg [
                     o 14 (.mv (kc 0))])
                   (.block 3
                    (.loop [0, 5, 6, 7, 8, 9, 13, 14] a4_1))))))))))))
         (.seq
          (rg [
            o 88 (.ld (some 2) (.t 6)),
            o 89 (.callp 15 [(.t 88), (kc 0)]),
            o 90 (.mv (.t 7)),
            o 91 (.mv (.t 5)),
            o 92 (.bin .lss (.t 90) (.t 91)),
            o 93 (.eqb true (.t 89) (.t 92))])
          (.cond (.t 93)
           (.seq
            (rg [
              o 4 (.mv (kb false))])
            .ret)
           .skip))))))))
   (rg [
     o 31 (.mv (.t 9)),
     o 32 (.bin .add (.t 31) (kc 1)),
     o 9 (.mv (.t 32))])))
def a4 : AF := ⟨105,
 (.seq
  (rg [
    o 4 (.mv (kb false))])
  (.seq
   (.seq
    (rg [
      o 15 (.mv (.t 0)),
      o 16 (.len false (.t 15)),
      o 17 (.bin .gtr (.t 16) (kc 40))])
    (.cond (.t 17)
     (.seq
      (rg [
        o 18 (.callp 6 []),
        o 4 (.mv (.t 18))])
      .ret)
     .skip))
   (.seq
    (rg [
      o 19 (.mv (.t 1)),
      o 20 (.bin .rem (.t 19) (kx (.d (.i .u8 20)))),
      o 21 (.cvi .i64 (.t 20)),
      o 22 (.bin .add (kc 1) (.t 21)),
      o 5 (.mv (.t 22))])
    (.seq
     (rg [
       o 23 (.build [.d (.i .i64 0), .ns] []),
       o 24 (.mv (.t 5)),
       o 25 (.callp 7 [(.t 23), (kc 0), (.t 24)]),
       o 6 (.alloc [.d (.i .i64 0), .ns]),
       on (.st 2 (.t 6) (.t 25))])
     (.seq
      (rg [
        o 7 (.mv (kc 0))])
      (.seq
       (rg [
         o 8 (.mv (kc 0))])
       (.seq
        (.seq
         (rg [
           o 9 (.mv (kc 0))])
         (.block 0
          (.loop [0, 5, 6, 7, 8, 9] a4_0)))
        (.seq
         (rg [
           o 94 (.callp 6 []),
           o 95 (.mv (.t 94)),
           og 96 95 true (.mv (.t 8)),
           og 97 95 true (.bin .eql (.t 96) (kc 1)),
           o 98 (.pick (.t 95) (.t 97) (kb false)),
           o 99 (.mv (.t 98)),
           og 100 99 true (.fa 0 (.t 6)),
           og 101 99 true (.ld none (.t 100)),
           og 102 99 true (.mv (.t 7)),
           og 103 99 true (.bin .eql (.t 101) (.t 102)),
           o 104 (.pick (.t 99) (.t 103) (kb false)),
           o 4 (.mv (.t 104))])
         .ret)))))))),
 [.t 4], false⟩
/-! 5: wagoner/wagonerlaw18.TimerOrder; loops: [[0, 3, 4], [0, 3, 5, 6], [0, 3, 5, 6, 8, 9]] -/
def a5_0 : AC :=
 (.seq
  (.seq
   (rg [
     o 17 (.mv (.t 4)),
     o 18 (.bin .geq (.t 17) (kc 0))])
   (.cond (.t 18)
    .skip
    (.exit 0)))
  (.seq
   (.block 1
    (rg [
      o 21 (.ld (some 2) (.t 3)),
      o 22 (.mv (.t 4)),
      o 23 (.mv (.t 0)),
      o 24 (.mv (.t 4)),
      o 25 (.ia 1 (.t 23) (.t 24)),
      o 26 (.ld none (.t 25)),
      o 27 (.bin .rem (.t 26) (kx (.d (.i .u8 16)))),
      o 28 (.cvi .i64 (.t 27)),
      o 29 (.callp 7 [(.t 21), (.t 22), (.t 28)]),
      on (.st 2 (.t 3) (.t 29))]))
   (rg [
     o 19 (.mv (.t 4)),
     o 20 (.bin .sub (.t 19) (kc 1)),
     o 4 (.mv (.t 20))])))
def a5_2 : AC :=
 (.seq
  (.seq
   (rg [
     o 40 (.mv (.t 9)),
     o 41 (.mv (.t 8)),
     o 42 (.len false (.t 41)),
     o 43 (.bin .lss (.t 40) (.t 42))])
   (.cond (.t 43)
    .skip
    (.exit 4)))
  (.seq
   (.block 5
    (.seq
     (.seq
      (rg [
        o 46 (.mv (.t 8)),
        o 47 (.mv (.t 9)),
        o 48 (.ia 1 (.t 46) (.t 47)),
        o 49 (.ld none (.t 48)),
        o 50 (.bin .lss (.t 49) (kc 0)),
        o 51 (.mv (.t 50)),
        og 52 51 false (.mv (.t 8)),
        og 53 51 false (.mv (.t 9)),
        og 54 51 false (.ia 1 (.t 52) (.t 53)),
        og 55 51 false (.ld none (.t 54)),
        og 56 51 false (.mv (.t 0)),
        og 57 51 false (.len false (.t 56)),
        og 58 51 false (.bin .geq (.t 55) (.t 57)),
        o 59 (.pick (.t 51) (kb true) (.t 58)),
        o 60 (.mv (.t 59)),
        og 61 60 false (.mv (.t 0)),
        og 62 60 false (.mv (.t 8)),
        og 63 60 false (.mv (.t 9)),
        og 64 60 false (.ia 1 (.t 62) (.t 63)),
        og 65 60 false (.ld none (.t 64)),
        og 66 60 false (.ia 1 (.t 61) (.t 65)),
        og 67 60 false (.ld none (.t 66)),
        og 68 60 false (.bin .rem (.t 67) (kx (.d (.i .u8 16)))),
        og 69 60 false (.cvi .i64 (.t 68)),
        og 70 60 false (.mm true (.t 69) (kc 1)),
        og 71 60 false (.mv (.t 6)),
        og 72 60 false (.bin .neq (.t 70) (.t 71)),
        o 73 (.pick (.t 60) (kb true) (.t 72)),
        o 74 (.mv (.t 73)),
        og 75 74 false (.mv (.t 9)),
        og 76 74 false (.bin .gtr (.t 75) (kc 0)),
        og 77 74 false (.mv (.t 76)),
        og 78 77 true (.mv (.t 8)),
        og 79 77 true (.mv (.t 9)),
        og 80 77 true (.ia 1 (.t 78) (.t 79)),
        og 81 77 true (.ld none (.t 80)),
        og 82 77 true (.mv (.t 8)),
        og 83 77 true (.mv (.t 9)),
        og 84 77 true (.bin .sub (.t 83) (kc 1)),
        og 85 77 true (.ia 1 (.t 82) (.t 84)),
        og 86 77 true (.ld none (.t 85)),
        og 87 77 true (.bin .leq (.t 81) (.t 86)),
        og 88 74 false (.pick (.t 77) (.t 87) (kb false)),
        o 89 (.pick (.t 74) (kb true) (.t 88))])
      (.cond (.t 89)
       (.seq
        (rg [
          o 2 (.mv (kb false))])
        .ret)
       .skip))
     (rg [
       o 90 (.mv (.t 5)),
       o 91 (.bin .add (.t 90) (kc 1)),
       o 5 (.mv (.t 91))])))
   (rg [
     o 44 (.mv (.t 9)),
     o 45 (.bin .add (.t 44) (kc 1)),
     o 9 (.mv (.t 45))])))
def a5_1 : AC :=
 (.seq
  (.seq
   (rg [
     o 30 (.mv (.t 6)),
     o 31 (.bin .leq (.t 30) (kc 16))])
   (.cond (.t 31)
    .skip
    (.exit 2)))
  (.seq
   (.block 3
    (.seq
     (rg [
       o 35 (.ld (some 2) (.t 3)),
       o 36 (.callp 11 [(.t 35)]),
       o 34 (.mv (.t 36)),
       o 37 (.ext (.t 34) 0),
       o 38 (.ext (.t 34) 1),
       o 7 (.alloc [.d (.i .i64 0), .ns]),
       on (.st 2 (.t 7) (.t 37)),
       o 8 (.mv (.t 38))])
     (.seq
      (rg [
        o 39 (.ld (some 2) (.t 7)),
        on (.st 2 (.t 3) (.t 39))])
      (.seq
       (rg [
         o 9 (.mv (kc 0))])
       (.block 4
        (.loop [0, 3, 5, 6, 8, 9] a5_2))))))
   (rg [
     o 32 (.mv (.t 6)),
     o 33 (.bin .add (.t 32) (kc 1)),
     o 6 (.mv (.t 33))])))
def a5 : AF := ⟨105,
 (.seq
  (rg [
    o 2 (.mv (kb false))])
  (.seq
   (.seq
    (rg [
      o 10 (.mv (.t 0)),
      o 11 (.len false (.t 10)),
      o 12 (.bin .gtr (.t 11) (kc 30))])
    (.cond (.t 12)
     (.seq
      (rg [
        o 13 (.callp 6 []),
        o 2 (.mv (.t 13))])
      .ret)
     .skip))
   (.seq
    (rg [
      o 3 (.alloc [.d (.i .i64 0), .ns])])
    (.seq
     (.seq
      (rg [
        o 14 (.mv (.t 0)),
        o 15 (.len false (.t 14)),
        o 16 (.bin .sub (.t 15) (kc 1)),
        o 4 (.mv (.t 16))])
      (.block 0
       (.loop [0, 3, 4] a5_0)))
     (.seq
      (rg [
        o 5 (.mv (kc 0))])
      (.seq
       (.seq
        (rg [
          o 6 (.mv (kc 1))])
        (.block 2
         (.loop [0, 3, 5, 6] a5_1)))
       (.seq
        (rg [
          o 92 (.callp 6 []),
          o 93 (.mv (.t 92)),
          og 94 93 true (.mv (.t 5)),
          og 95 93 true (.mv (.t 0)),
          og 96 93 true (.len false (.t 95)),
          og 97 93 true (.bin .eql (.t 94) (.t 96)),
          o 98 (.pick (.t 93) (.t 97) (kb false)),
          o 99 (.mv (.t 98)),
          og 100 99 true (.fa 1 (.t 3)),
          og 101 99 true (.ld none (.t 100)),
          og 102 99 true (.len false (.t 101)),
          og 103 99 true (.bin .eql (.t 102) (kc 0)),
          o 104 (.pick (.t 99) (.t 103) (kb false)),
          o 2 (.mv (.t 104))])
        .ret))))))),
 [.t 2], false⟩
/-! 6: wagoner/wagonerlaw18.awake; loops: [] -/
def a6 : AF := ⟨34,
 (.seq
  (rg [
    o 0 (.mv (kb false))])
  (.seq
   (rg [
     o 6 (.build [.d (.i .i64 0), .ns] []),
     o 7 (.callp 7 [(.t 6), (kc 5), (kc 2)]),
     o 8 (.callp 11 [(.t 7)]),
     o 5 (.mv (.t 8)),
     o 9 (.ext (.t 5) 0),
     o 10 (.ext (.t 5) 1),
     o 1 (.alloc [.d (.i .i64 0), .ns]),
     on (.st 2 (.t 1) (.t 9)),
     o 2 (.mv (.t 10))])
   (.seq
    (rg [
      o 12 (.ld (some 2) (.t 1)),
      o 13 (.callp 11 [(.t 12)]),
      o 11 (.mv (.t 13)),
      o 14 (.ext (.t 11) 0),
      o 15 (.ext (.t 11) 1),
      o 3 (.alloc [.d (.i .i64 0), .ns]),
      on (.st 2 (.t 3) (.t 14)),
      o 4 (.mv (.t 15))])
    (.seq
     (rg [
       o 16 (.mv (.t 2)),
       o 17 (.len false (.t 16)),
       o 18 (.bin .eql (.t 17) (kc 0)),
       o 19 (.mv (.t 18)),
       og 20 19 true (.mv (.t 4)),
       og 21 19 true (.len false (.t 20)),
       og 22 19 true (.bin .eql (.t 21) (kc 1)),
       o 23 (.pick (.t 19) (.t 22) (kb false)),
       o 24 (.mv (.t 23)),
       og 25 24 true (.mv (.t 4)),
       og 26 24 true (.ia 1 (.t 25) (kc 0)),
       og 27 24 true (.ld none (.t 26)),
       og 28 24 true (.bin .eql (.t 27) (kc 5)),
       o 29 (.pick (.t 24) (.t 28) (kb false)),
       o 30 (.mv (.t 29)),
       og 31 30 true (.ld (some 2) (.t 1)),
       og 32 30 true (.callp 15 [(.t 31), (kc 5)]),
       o 33 (.pick (.t 30) (.t 32) (kb false)),
       o 0 (.mv (.t 33))])
     .ret)))),
 [.t 0], false⟩
/-! 7: wagoner/timer.Arm; loops: [[3, 6, 7, 8, 9]] -/
def a7_0 : AC :=
 (.seq
  (.seq
   (rg [
     o 29 (.mv (.t 9)),
     o 30 (.bin .gtr (.t 29) (kc 0)),
     o 31 (.mv (.t 30)),
     og 32 31 true (.ld (some 2) (.t 7)),
     og 33 31 true (.mv (.t 8)),
     og 34 31 true (.mv (.t 9)),
     og 35 31 true (.bin .sub (.t 34) (kc 1)),
     og 36 31 true (.ia 2 (.t 33) (.t 35)),
     og 37 31 true (.ld (some 2) (.t 36)),
     og 38 31 true (.callp 18 [(.t 32), (.t 37)]),
     o 39 (.pick (.t 31) (.t 38) (kb false))])
   (.cond (.t 39)
    .skip
    (.exit 0)))
  (.seq
   (.block 1
    (rg [
      o 42 (.mv (.t 8)),
      o 43 (.mv (.t 9)),
      o 44 (.mv (.t 8)),
      o 45 (.mv (.t 9)),
      o 46 (.bin .sub (.t 45) (kc 1)),
      o 47 (.mv (.t 8)),
      o 48 (.mv (.t 9)),
      o 49 (.bin .sub (.t 48) (kc 1)),
      o 50 (.ia 2 (.t 47) (.t 49)),
      o 51 (.ld (some 2) (.t 50)),
      o 52 (.mv (.t 8)),
      o 53 (.mv (.t 9)),
      o 54 (.ia 2 (.t 52) (.t 53)),
      o 55 (.ld (some 2) (.t 54)),
      o 56 (.ia 2 (.t 42) (.t 43)),
      on (.st 2 (.t 56) (.t 51)),
      o 57 (.ia 2 (.t 44) (.t 46)),
      on (.st 2 (.t 57) (.t 55))]))
   (rg [
     o 40 (.mv (.t 9)),
     o 41 (.bin .sub (.t 40) (kc 1)),
     o 9 (.mv (.t 41))])))
def a7 : AF := ⟨61,
 (.seq
  (rg [
    o 3 (.box (.t 0)),
    o 6 (.alloc [.d (.i .i64 0), .ns])])
  (.seq
   (rg [
     o 10 (.ld (some 2) (.t 3)),
     o 11 (.mv (.t 1)),
     o 12 (.callp 9 [(.t 10), (.t 11)]),
     on (.st 2 (.t 3) (.t 12))])
   (.seq
    (rg [
      o 13 (.mv (.t 1)),
      o 14 (.fa 0 (.t 3)),
      o 15 (.ld none (.t 14)),
      o 16 (.mv (.t 2)),
      o 17 (.mm true (.t 16) (kc 1)),
      o 18 (.bin .add (.t 15) (.t 17)),
      o 19 (.build [.d (.i .i64 0), .d (.i .i64 0)] [(0, 1, (.t 13)), (1, 1, (.t 18))]),
      o 7 (.alloc [.d (.i .i64 0), .d (.i .i64 0)]),
      on (.st 2 (.t 7) (.t 19))])
    (.seq
     (rd [
       o 20 (.fa 1 (.t 3)),
       od 21 [0] (.ld none (.t 20)),
       od 22 [0, 1] (.call 17 [(.t 21)]),
       o 23 (.ld (some 2) (.t 7)),
       od 24 [3] (.bsl 2 [[.i .i64 0, .i .i64 0]] [(0, (.t 23))]),
       od 25 [3, 4, 1, 0, 2] (.app false 2 16 (.t 22) (.t 24)),
       od 8 [2, 0, 1, 4, 3, 5] (.mv (.t 25))])
     (.seq
      (.seq
       (rg [
         o 26 (.mv (.t 8)),
         o 27 (.len false (.t 26)),
         o 28 (.bin .sub (.t 27) (kc 1)),
         o 9 (.mv (.t 28))])
       (.block 0
        (.loop [3, 6, 7, 8, 9] a7_0)))
      (.seq
       (rg [
         o 58 (.mv (.t 8)),
         o 59 (.fa 1 (.t 3)),
         on (.st 1 (.t 59) (.t 58))])
       (.seq
        (rg [
          o 60 (.ld (some 2) (.t 3)),
          on (.st 2 (.t 6) (.t 60))])
        .ret))))))),
 [.c (some 2) 6], false⟩
/-! 8: wagoner/wagonerref18.Arm; loops: [[1, 3, 6, 7, 8]] -/
def a8_0 : AC :=
 (.seq
  (.seq
   (rg [
     o 19 (.mv (.t 8)),
     o 20 (.fa 1 (.t 3)),
     o 21 (.ld none (.t 20)),
     o 22 (.len false (.t 21)),
     o 23 (.bin .lss (.t 19) (.t 22)),
     o 24 (.mv (.t 23)),
     og 25 24 true (.fa 1 (.t 3)),
     og 26 24 true (.ld none (.t 25)),
     og 27 24 true (.mv (.t 8)),
     og 28 24 true (.ia 2 (.t 26) (.t 27)),
     og 29 24 true (.fa 1 (.t 28)),
     og 30 24 true (.ld none (.t 29)),
     og 31 24 true (.fa 1 (.t 7)),
     og 32 24 true (.ld none (.t 31)),
     og 33 24 true (.bin .lss (.t 30) (.t 32)),
     og 34 24 true (.mv (.t 33)),
     og 35 34 false (.fa 1 (.t 3)),
     og 36 34 false (.ld none (.t 35)),
     og 37 34 false (.mv (.t 8)),
     og 38 34 false (.ia 2 (.t 36) (.t 37)),
     og 39 34 false (.fa 1 (.t 38)),
     og 40 34 false (.ld none (.t 39)),
     og 41 34 false (.fa 1 (.t 7)),
     og 42 34 false (.ld none (.t 41)),
     og 43 34 false (.bin .eql (.t 40) (.t 42)),
     og 44 34 false (.mv (.t 43)),
     og 45 44 true (.fa 1 (.t 3)),
     og 46 44 true (.ld none (.t 45)),
     og 47 44 true (.mv (.t 8)),
     og 48 44 true (.ia 2 (.t 46) (.t 47)),
     og 49 44 true (.fa 0 (.t 48)),
     og 50 44 true (.ld none (.t 49)),
     og 51 44 true (.mv (.t 1)),
     og 52 44 true (.bin .lss (.t 50) (.t 51)),
     og 53 34 false (.pick (.t 44) (.t 52) (kb false)),
     og 54 24 true (.pick (.t 34) (kb true) (.t 53)),
     o 55 (.pick (.t 24) (.t 54) (kb false))])
   (.cond (.t 55)
    .skip
    (.exit 0)))
  (.block 1
   (rg [
     o 56 (.mv (.t 8)),
     o 57 (.bin .add (.t 56) (kc 1)),
     o 8 (.mv (.t 57))])))
def a8 : AF := ⟨74,
 (.seq
  (rg [
    o 3 (.box (.t 0)),
    o 6 (.alloc [.d (.i .i64 0), .ns])])
  (.seq
   (rg [
     o 9 (.ld (some 2) (.t 3)),
     o 10 (.mv (.t 1)),
     o 11 (.callp 10 [(.t 9), (.t 10)]),
     on (.st 2 (.t 3) (.t 11))])
   (.seq
    (rg [
      o 12 (.mv (.t 1)),
      o 13 (.fa 0 (.t 3)),
      o 14 (.ld none (.t 13)),
      o 15 (.mv (.t 2)),
      o 16 (.mm true (.t 15) (kc 1)),
      o 17 (.bin .add (.t 14) (.t 16)),
      o 18 (.build [.d (.i .i64 0), .d (.i .i64 0)] [(0, 1, (.t 12)), (1, 1, (.t 17))]),
      o 7 (.alloc [.d (.i .i64 0), .d (.i .i64 0)]),
      on (.st 2 (.t 7) (.t 18))])
    (.seq
     (rg [
       o 8 (.mv (kc 0))])
     (.seq
      (.block 0
       (.loop [1, 3, 6, 7, 8] a8_0))
      (.seq
       (rd [
         o 58 (.bsl 2 [] []),
         o 59 (.fa 1 (.t 3)),
         od 60 [1] (.ld none (.t 59)),
         o 61 (.mv (.t 8)),
         od 62 [3, 1, 2] (.slc 2 (.t 60) none (some (.t 61)) none),
         od 63 [2, 1, 3, 4, 0] (.app false 2 16 (.t 58) (.t 62)),
         o 64 (.ld (some 2) (.t 7)),
         od 65 [6] (.bsl 2 [[.i .i64 0, .i .i64 0]] [(0, (.t 64))]),
         od 66 [6, 7, 0, 4, 3, 1, 2, 5] (.app false 2 16 (.t 63) (.t 65)),
         o 67 (.fa 1 (.t 3)),
         od 68 [9] (.ld none (.t 67)),
         o 69 (.mv (.t 8)),
         od 70 [11, 9, 10] (.slc 2 (.t 68) (some (.t 69)) none none),
         od 71 [10, 9, 11, 12, 5, 2, 1, 3, 4, 0, 7, 6, 8] (.app false 2 16 (.t 66) (.t 70)),
         od 72 [13, 12, 11, 10, 9, 8, 7, 6, 5, 4, 3, 2, 1, 0] (.fa 1 (.t 3)),
         ⟨none, .st 1 (.t 72) (.t 71), none, [0, 1, 2, 3, 4, 5, 6, 7, 8, 9, 10, 11, 12, 13, 14], false⟩])
       (.seq
        (rg [
          o 73 (.ld (some 2) (.t 3)),
          on (.st 2 (.t 6) (.t 73))])
        .ret))))))),
 [.c (some 2) 6], false⟩
/-! 9: wagoner/timer.Cancel; loops: [] -/
def a9 : AF := ⟨24,
 (.seq
  (rg [
    o 2 (.box (.t 0)),
    o 4 (.alloc [.d (.i .i64 0), .ns])])
  (.seq
   (.seq
    (rg [
      o 6 (.ld (some 2) (.t 2)),
      o 7 (.mv (.t 1)),
      o 8 (.callp 19 [(.t 6), (.t 7)]),
      o 5 (.mv (.t 8))])
    (.seq
     (rg [
       o 9 (.mv (.t 5)),
       o 10 (.bin .geq (.t 9) (kc 0))])
     (.cond (.t 10)
      (rg [
        o 11 (.fa 1 (.t 2)),
        o 12 (.ld none (.t 11)),
        o 13 (.mv (.t 5)),
        o 14 (.mv (.t 5)),
        o 15 (.slc 2 (.t 12) none (some (.t 13)) (some (.t 14))),
        o 16 (.fa 1 (.t 2)),
        o 17 (.ld none (.t 16)),
        o 18 (.mv (.t 5)),
        o 19 (.bin .add (.t 18) (kc 1)),
        o 20 (.slc 2 (.t 17) (some (.t 19)) none none),
        o 21 (.app false 2 16 (.t 15) (.t 20)),
        o 22 (.fa 1 (.t 2)),
        on (.st 1 (.t 22) (.t 21))])
      .skip)))
   (.seq
    (rg [
      o 23 (.ld (some 2) (.t 2)),
      on (.st 2 (.t 4) (.t 23))])
    .ret))),
 [.c (some 2) 4], false⟩
/-! 10: wagoner/wagonerref18.Cancel; loops: [[1, 2, 4, 5, 6]] -/
def a10_0 : AC :=
 (.seq
  (.seq
   (rg [
     o 7 (.mv (.t 6)),
     o 8 (.fa 1 (.t 2)),
     o 9 (.ld none (.t 8)),
     o 10 (.len false (.t 9)),
     o 11 (.bin .lss (.t 7) (.t 10))])
   (.cond (.t 11)
    .skip
    (.exit 0)))
  (.seq
   (.block 1
    (.seq
     (rg [
       o 14 (.fa 1 (.t 2)),
       o 15 (.ld none (.t 14)),
       o 16 (.mv (.t 6)),
       o 17 (.ia 2 (.t 15) (.t 16)),
       o 18 (.fa 0 (.t 17)),
       o 19 (.ld none (.t 18)),
       o 20 (.mv (.t 1)),
       o 21 (.bin .neq (.t 19) (.t 20))])
     (.cond (.t 21)
      (rg [
        o 22 (.mv (.t 5)),
        o 23 (.fa 1 (.t 2)),
        o 24 (.ld none (.t 23)),
        o 25 (.mv (.t 6)),
        o 26 (.ia 2 (.t 24) (.t 25)),
        o 27 (.ld (some 2) (.t 26)),
        o 28 (.bsl 2 [[.i .i64 0, .i .i64 0]] [(0, (.t 27))]),
        o 29 (.app false 2 16 (.t 22) (.t 28)),
        o 5 (.mv (.t 29))])
      .skip)))
   (rg [
     o 12 (.mv (.t 6)),
     o 13 (.bin .add (.t 12) (kc 1)),
     o 6 (.mv (.t 13))])))
def a10 : AF := ⟨33,
 (.seq
  (rg [
    o 2 (.box (.t 0)),
    o 4 (.alloc [.d (.i .i64 0), .ns])])
  (.seq
   (rg [
     o 5 (.own 2)])
   (.seq
    (.seq
     (rg [
       o 6 (.mv (kc 0))])
     (.block 0
      (.loop [1, 2, 4, 5, 6] a10_0)))
    (.seq
     (rg [
       o 30 (.mv (.t 5)),
       o 31 (.fa 1 (.t 2)),
       on (.st 1 (.t 31) (.t 30))])
     (.seq
      (rg [
        o 32 (.ld (some 2) (.t 2)),
        on (.st 2 (.t 4) (.t 32))])
      .ret))))),
 [.c (some 2) 4], false⟩
/-! 11: wagoner/timer.Tick; loops: [[1, 2, 4]] -/
def a11_0 : AC :=
 (.seq
  (.seq
   (rg [
     o 9 (.fa 1 (.t 1)),
     o 10 (.ld none (.t 9)),
     o 11 (.len false (.t 10)),
     o 12 (.bin .gtr (.t 11) (kc 0)),
     o 13 (.mv (.t 12)),
     og 14 13 true (.fa 1 (.t 1)),
     og 15 13 true (.ld none (.t 14)),
     og 16 13 true (.ia 2 (.t 15) (kc 0)),
     og 17 13 true (.fa 1 (.t 16)),
     og 18 13 true (.ld none (.t 17)),
     og 19 13 true (.fa 0 (.t 1)),
     og 20 13 true (.ld none (.t 19)),
     og 21 13 true (.bin .leq (.t 18) (.t 20)),
     o 22 (.pick (.t 13) (.t 21) (kb false))])
   (.cond (.t 22)
    .skip
    (.exit 0)))
  (.block 1
   (.seq
    (rg [
      o 23 (.mv (.t 4)),
      o 24 (.fa 1 (.t 1)),
      o 25 (.ld none (.t 24)),
      o 26 (.ia 2 (.t 25) (kc 0)),
      o 27 (.fa 0 (.t 26)),
      o 28 (.ld none (.t 27)),
      o 29 (.bsl 1 [[.i .i64 0]] [(0, (.t 28))]),
      o 30 (.app false 1 8 (.t 23) (.t 29)),
      o 4 (.mv (.t 30))])
    (rg [
      o 31 (.fa 1 (.t 1)),
      o 32 (.ld none (.t 31)),
      o 33 (.slc 2 (.t 32) (some (kc 1)) none none),
      o 34 (.fa 1 (.t 1)),
      on (.st 1 (.t 34) (.t 33))]))))
def a11 : AF := ⟨37,
 (.seq
  (rg [
    o 1 (.box (.t 0)),
    o 2 (.alloc [.d (.i .i64 0), .ns]),
    oz 3 (.mv (kx (.ns)))])
  (.seq
   (rg [
     o 5 (.fa 0 (.t 1)),
     o 6 (.ld none (.t 5)),
     o 7 (.bin .add (.t 6) (kc 1)),
     o 8 (.fa 0 (.t 1)),
     on (.st 1 (.t 8) (.t 7))])
   (.seq
    (rg [
      o 4 (.own 1)])
    (.seq
     (.block 0
      (.loop [1, 2, 4] a11_0))
     (.seq
      (rg [
        o 35 (.ld (some 2) (.t 1)),
        o 36 (.mv (.t 4)),
        on (.st 2 (.t 2) (.t 35)),
        o 3 (.mv (.t 36))])
      .ret))))),
 [.c (some 2) 2, .t 3], false⟩
/-! 12: wagoner/wagonerref18.Tick; loops: [[1, 2, 4, 5, 6]] -/
def a12_0 : AC :=
 (.seq
  (.seq
   (rg [
     o 11 (.mv (.t 6)),
     o 12 (.fa 1 (.t 1)),
     o 13 (.ld none (.t 12)),
     o 14 (.len false (.t 13)),
     o 15 (.bin .lss (.t 11) (.t 14))])
   (.cond (.t 15)
    .skip
    (.exit 0)))
  (.seq
   (.block 1
    (.seq
     (rg [
       o 18 (.fa 1 (.t 1)),
       o 19 (.ld none (.t 18)),
       o 20 (.mv (.t 6)),
       o 21 (.ia 2 (.t 19) (.t 20)),
       o 22 (.fa 1 (.t 21)),
       o 23 (.ld none (.t 22)),
       o 24 (.fa 0 (.t 1)),
       o 25 (.ld none (.t 24)),
       o 26 (.bin .leq (.t 23) (.t 25))])
     (.cond (.t 26)
      (rg [
        o 27 (.mv (.t 5)),
        o 28 (.fa 1 (.t 1)),
        o 29 (.ld none (.t 28)),
        o 30 (.mv (.t 6)),
        o 31 (.ia 2 (.t 29) (.t 30)),
        o 32 (.fa 0 (.t 31)),
        o 33 (.ld none (.t 32)),
        o 34 (.bsl 1 [[.i .i64 0]] [(0, (.t 33))]),
        o 35 (.app false 1 8 (.t 27) (.t 34)),
        o 5 (.mv (.t 35))])
      (rg [
        o 36 (.mv (.t 4)),
        o 37 (.fa 1 (.t 1)),
        o 38 (.ld none (.t 37)),
        o 39 (.mv (.t 6)),
        o 40 (.ia 2 (.t 38) (.t 39)),
        o 41 (.ld (some 2) (.t 40)),
        o 42 (.bsl 2 [[.i .i64 0, .i .i64 0]] [(0, (.t 41))]),
        o 43 (.app false 2 16 (.t 36) (.t 42)),
        o 4 (.mv (.t 43))]))))
   (rg [
     o 16 (.mv (.t 6)),
     o 17 (.bin .add (.t 16) (kc 1)),
     o 6 (.mv (.t 17))])))
def a12 : AF := ⟨48,
 (.seq
  (rg [
    o 1 (.box (.t 0)),
    o 2 (.alloc [.d (.i .i64 0), .ns]),
    oz 3 (.mv (kx (.ns)))])
  (.seq
   (rg [
     o 7 (.fa 0 (.t 1)),
     o 8 (.ld none (.t 7)),
     o 9 (.bin .add (.t 8) (kc 1)),
     o 10 (.fa 0 (.t 1)),
     on (.st 1 (.t 10) (.t 9))])
   (.seq
    (rg [
      o 4 (.own 2)])
    (.seq
     (rg [
       o 5 (.own 1)])
     (.seq
      (.seq
       (rg [
         o 6 (.mv (kc 0))])
       (.block 0
        (.loop [1, 2, 4, 5, 6] a12_0)))
      (.seq
       (rg [
         o 44 (.mv (.t 4)),
         o 45 (.fa 1 (.t 1)),
         on (.st 1 (.t 45) (.t 44))])
       (.seq
        (rg [
          o 46 (.ld (some 2) (.t 1)),
          o 47 (.mv (.t 5)),
          on (.st 2 (.t 2) (.t 46)),
          o 3 (.mv (.t 47))])
        .ret))))))),
 [.c (some 2) 2, .t 3], false⟩
/-! 13: wagoner/wagonerlaw18.same; loops: [[0, 1, 5]] -/
def a13_0 : AC :=
 (.seq
  (.seq
   (rg [
     o 11 (.mv (.t 5)),
     o 12 (.mv (.t 0)),
     o 13 (.len false (.t 12)),
     o 14 (.bin .lss (.t 11) (.t 13))])
   (.cond (.t 14)
    .skip
    (.exit 0)))
  (.seq
   (.block 1
    (.seq
     (rg [
       o 17 (.mv (.t 0)),
       o 18 (.mv (.t 5)),
       o 19 (.ia 1 (.t 17) (.t 18)),
       o 20 (.ld none (.t 19)),
       o 21 (.mv (.t 1)),
       o 22 (.mv (.t 5)),
       o 23 (.ia 1 (.t 21) (.t 22)),
       o 24 (.ld none (.t 23)),
       o 25 (.bin .neq (.t 20) (.t 24))])
     (.cond (.t 25)
      (.seq
       (rg [
         o 4 (.mv (kb false))])
       .ret)
      .skip)))
   (rg [
     o 15 (.mv (.t 5)),
     o 16 (.bin .add (.t 15) (kc 1)),
     o 5 (.mv (.t 16))])))
def a13 : AF := ⟨26,
 (.seq
  (rg [
    o 4 (.mv (kb false))])
  (.seq
   (.seq
    (rg [
      o 6 (.mv (.t 0)),
      o 7 (.len false (.t 6)),
      o 8 (.mv (.t 1)),
      o 9 (.len false (.t 8)),
      o 10 (.bin .neq (.t 7) (.t 9))])
    (.cond (.t 10)
     (.seq
      (rg [
        o 4 (.mv (kb false))])
      .ret)
     .skip))
   (.seq
    (.seq
     (rg [
       o 5 (.mv (kc 0))])
     (.block 0
      (.loop [0, 1, 5] a13_0)))
    (.seq
     (rg [
       o 4 (.mv (kb true))])
     .ret)))),
 [.t 4], false⟩
/-! 14: wagoner/wagonerref18.Same; loops: [[2, 3, 5]] -/
def a14_0 : AC :=
 (.seq
  (.seq
   (rg [
     o 20 (.mv (.t 5)),
     o 21 (.fa 1 (.t 2)),
     o 22 (.ld none (.t 21)),
     o 23 (.len false (.t 22)),
     o 24 (.bin .lss (.t 20) (.t 23))])
   (.cond (.t 24)
    .skip
    (.exit 0)))
  (.seq
   (.block 1
    (.seq
     (rg [
       o 27 (.fa 1 (.t 2)),
       o 28 (.ld none (.t 27)),
       o 29 (.mv (.t 5)),
       o 30 (.ia 2 (.t 28) (.t 29)),
       o 31 (.ld (some 2) (.t 30)),
       o 32 (.fa 1 (.t 3)),
       o 33 (.ld none (.t 32)),
       o 34 (.mv (.t 5)),
       o 35 (.ia 2 (.t 33) (.t 34)),
       o 36 (.ld (some 2) (.t 35)),
       o 37 (.eqa true [0, 0] (.t 31) (.t 36))])
     (.cond (.t 37)
      (.seq
       (rg [
         o 4 (.mv (kb false))])
       .ret)
      .skip)))
   (rg [
     o 25 (.mv (.t 5)),
     o 26 (.bin .add (.t 25) (kc 1)),
     o 5 (.mv (.t 26))])))
def a14 : AF := ⟨38,
 (.seq
  (rg [
    o 2 (.box (.t 0)),
    o 3 (.box (.t 1)),
    o 4 (.mv (kb false))])
  (.seq
   (.seq
    (rg [
      o 6 (.fa 0 (.t 2)),
      o 7 (.ld none (.t 6)),
      o 8 (.fa 0 (.t 3)),
      o 9 (.ld none (.t 8)),
      o 10 (.bin .neq (.t 7) (.t 9)),
      o 11 (.mv (.t 10)),
      og 12 11 false (.fa 1 (.t 2)),
      og 13 11 false (.ld none (.t 12)),
      og 14 11 false (.len false (.t 13)),
      og 15 11 false (.fa 1 (.t 3)),
      og 16 11 false (.ld none (.t 15)),
      og 17 11 false (.len false (.t 16)),
      og 18 11 false (.bin .neq (.t 14) (.t 17)),
      o 19 (.pick (.t 11) (kb true) (.t 18))])
    (.cond (.t 19)
     (.seq
      (rg [
        o 4 (.mv (kb false))])
      .ret)
     .skip))
   (.seq
    (.seq
     (rg [
       o 5 (.mv (kc 0))])
     (.block 0
      (.loop [2, 3, 5] a14_0)))
    (.seq
     (rg [
       o 4 (.mv (kb true))])
     .ret)))),
 [.t 4], false⟩
/-! 15: wagoner/timer.Armed; loops: [] -/
def a15 : AF := ⟨9,
 (.seq
  (rg [
    o 2 (.box (.t 0)),
    o 4 (.mv (kb false))])
  (.seq
   (rg [
     o 5 (.ld (some 2) (.t 2)),
     o 6 (.mv (.t 1)),
     o 7 (.callp 19 [(.t 5), (.t 6)]),
     o 8 (.bin .geq (.t 7) (kc 0)),
     o 4 (.mv (.t 8))])
   .ret)),
 [.t 4], false⟩
/-! 16: wagoner/wagonerref18.Armed; loops: [[1, 2, 5]] -/
def a16_0 : AC :=
 (.seq
  (.seq
   (rg [
     o 6 (.mv (.t 5)),
     o 7 (.fa 1 (.t 2)),
     o 8 (.ld none (.t 7)),
     o 9 (.len false (.t 8)),
     o 10 (.bin .lss (.t 6) (.t 9))])
   (.cond (.t 10)
    .skip
    (.exit 0)))
  (.seq
   (.block 1
    (.seq
     (rg [
       o 13 (.fa 1 (.t 2)),
       o 14 (.ld none (.t 13)),
       o 15 (.mv (.t 5)),
       o 16 (.ia 2 (.t 14) (.t 15)),
       o 17 (.fa 0 (.t 16)),
       o 18 (.ld none (.t 17)),
       o 19 (.mv (.t 1)),
       o 20 (.bin .eql (.t 18) (.t 19))])
     (.cond (.t 20)
      (.seq
       (rg [
         o 4 (.mv (kb true))])
       .ret)
      .skip)))
   (rg [
     o 11 (.mv (.t 5)),
     o 12 (.bin .add (.t 11) (kc 1)),
     o 5 (.mv (.t 12))])))
def a16 : AF := ⟨21,
 (.seq
  (rg [
    o 2 (.box (.t 0)),
    o 4 (.mv (kb false))])
  (.seq
   (.seq
    (rg [
      o 5 (.mv (kc 0))])
    (.block 0
     (.loop [1, 2, 5] a16_0)))
   (.seq
    (rg [
      o 4 (.mv (kb false))])
    .ret))),
 [.t 4], false⟩
/-! 17: slices.Clone[[]wagoner/api.Alarm,wagoner/api.Alarm]; loops: [] -/
/-! 18: wagoner/timer.ahead; loops: [] -/
def a18 : AF := ⟨24,
 (.seq
  (rg [
    o 2 (.box (.t 0)),
    o 3 (.box (.t 1)),
    o 4 (.mv (kb false))])
  (.seq
   (rg [
     o 5 (.fa 1 (.t 2)),
     o 6 (.ld none (.t 5)),
     o 7 (.fa 1 (.t 3)),
     o 8 (.ld none (.t 7)),
     o 9 (.bin .lss (.t 6) (.t 8)),
     o 10 (.mv (.t 9)),
     og 11 10 false (.fa 1 (.t 2)),
     og 12 10 false (.ld none (.t 11)),
     og 13 10 false (.fa 1 (.t 3)),
     og 14 10 false (.ld none (.t 13)),
     og 15 10 false (.bin .eql (.t 12) (.t 14)),
     og 16 10 false (.mv (.t 15)),
     og 17 16 true (.fa 0 (.t 2)),
     og 18 16 true (.ld none (.t 17)),
     og 19 16 true (.fa 0 (.t 3)),
     og 20 16 true (.ld none (.t 19)),
     og 21 16 true (.bin .lss (.t 18) (.t 20)),
     og 22 10 false (.pick (.t 16) (.t 21) (kb false)),
     o 23 (.pick (.t 10) (kb true) (.t 22)),
     o 4 (.mv (.t 23))])
   .ret)),
 [.t 4], false⟩
/-! 19: wagoner/timer.find; loops: [] -/
def a19 : AF := ⟨9,
 (.seq
  (rg [
    o 2 (.box (.t 0)),
    o 3 (.box (.t 1)),
    o 4 (.mv (kc 0))])
  (.seq
   (rg [
     o 5 (.fa 1 (.t 2)),
     o 6 (.ld none (.t 5)),
     o 7 (.mkf 21 [(.t 3)]),
     o 8 (.call 20 [(.t 6), (.t 7)]),
     o 4 (.mv (.t 8))])
   .ret)),
 [.t 4], false⟩
/-! 20: slices.IndexFunc[[]wagoner/api.Alarm,wagoner/api.Alarm]; loops: [[0, 1, 7, 8]] -/
def a20_0 : AC :=
 (.seq
  (rg [
    o 9 (.bin .lss (.t 8) (.t 7))])
  (.seq
   (.cond (.t 9)
    .skip
    (.exit 0))
   (.seq
    (.block 1
     (.seq
      (rg [
        o 10 (.mv (.t 8)),
        o 5 (.mv (.t 10))])
      (.seq
       (rg [
         o 11 (.mv (.t 1)),
         o 12 (.mv (.t 0)),
         o 13 (.mv (.t 5)),
         o 14 (.ia 2 (.t 12) (.t 13)),
         o 15 (.ld (some 2) (.t 14)),
         o 16 (.callv (.t 11) [(.t 15)])])
       (.cond (.t 16)
        (.seq
         (rg [
           o 17 (.mv (.t 5)),
           o 4 (.mv (.t 17))])
         .ret)
        .skip))))
    (rg [
      o 18 (.bin .add (.t 8) (kc 1)),
      o 8 (.mv (.t 18))]))))
def a20 : AF := ⟨19,
 (.seq
  (rg [
    o 4 (.mv (kc 0))])
  (.seq
   (.seq
    (rg [
      o 6 (.mv (.t 0)),
      o 7 (.len false (.t 6)),
      o 8 (.mv (kc 0))])
    (.block 0
     (.loop [0, 1, 7, 8] a20_0)))
   (.seq
    (rg [
      o 4 (.mv (kc (-1)))])
    .ret))),
 [.t 4], false⟩
/-! 21: wagoner/timer.find$1; loops: [] -/
def a21 : AF := ⟨8,
 (.seq
  (rg [
    o 2 (.box (.t 0)),
    o 3 (.mv (kb false))])
  (.seq
   (rg [
     o 4 (.fa 0 (.t 2)),
     o 5 (.ld none (.t 4)),
     o 6 (.ld none (.t 1)),
     o 7 (.bin .eql (.t 5) (.t 6)),
     o 3 (.mv (.t 7))])
   .ret)),
 [.t 3], false⟩
def ans : List (Nat × Ann) := [
  (3, ⟨[], [[0, 3, 4, 5]], false, false⟩),
  (4, ⟨[], [[0, 5, 6, 7, 8, 9], [0, 5, 6, 7, 8, 9, 13, 14]], false, false⟩),
  (5, ⟨[], [[0, 3, 4], [0, 3, 5, 6], [0, 3, 5, 6, 8, 9]], false, false⟩),
  (6, ⟨[], [], false, false⟩),
  (7, ⟨[(3, 2, 8)], [[3, 6, 7, 8, 9]], false, false⟩),
  (8, ⟨[], [[1, 3, 6, 7, 8]], false, false⟩),
  (9, ⟨[], [], false, false⟩),
  (10, ⟨[(1, 0, 102)], [[1, 2, 4, 5, 6]], false, false⟩),
  (11, ⟨[(0, 2, 2), (2, 0, 101)], [[1, 2, 4]], false, false⟩),
  (12, ⟨[(0, 2, 2), (2, 0, 102), (3, 0, 101)], [[1, 2, 4, 5, 6]], false, false⟩),
  (13, ⟨[], [[0, 1, 5]], false, false⟩),
  (14, ⟨[], [[2, 3, 5]], false, false⟩),
  (15, ⟨[], [], false, false⟩),
  (16, ⟨[], [[1, 2, 5]], false, false⟩),
  (17, ⟨[], [], true, true⟩),
  (18, ⟨[], [], false, false⟩),
  (19, ⟨[(1, 3, 8)], [], false, false⟩),
  (20, ⟨[], [[0, 1, 7, 8]], false, false⟩),
  (21, ⟨[], [], false, false⟩)]
theorem s3 : compS Try.prog 3 (anOf ans 3) = some a3 := by kernel_rfl
theorem s4 : compS Try.prog 4 (anOf ans 4) = some a4 := by kernel_rfl
theorem s5 : compS Try.prog 5 (anOf ans 5) = some a5 := by kernel_rfl
theorem s6 : compS Try.prog 6 (anOf ans 6) = some a6 := by kernel_rfl
theorem s7 : compS Try.prog 7 (anOf ans 7) = some a7 := by kernel_rfl
theorem s8 : compS Try.prog 8 (anOf ans 8) = some a8 := by kernel_rfl
theorem s9 : compS Try.prog 9 (anOf ans 9) = some a9 := by kernel_rfl
theorem s10 : compS Try.prog 10 (anOf ans 10) = some a10 := by kernel_rfl
theorem s11 : compS Try.prog 11 (anOf ans 11) = some a11 := by kernel_rfl
theorem s12 : compS Try.prog 12 (anOf ans 12) = some a12 := by kernel_rfl
theorem s13 : compS Try.prog 13 (anOf ans 13) = some a13 := by kernel_rfl
theorem s14 : compS Try.prog 14 (anOf ans 14) = some a14 := by kernel_rfl
theorem s15 : compS Try.prog 15 (anOf ans 15) = some a15 := by kernel_rfl
theorem s16 : compS Try.prog 16 (anOf ans 16) = some a16 := by kernel_rfl
theorem s18 : compS Try.prog 18 (anOf ans 18) = some a18 := by kernel_rfl
theorem s19 : compS Try.prog 19 (anOf ans 19) = some a19 := by kernel_rfl
theorem s20 : compS Try.prog 20 (anOf ans 20) = some a20 := by kernel_rfl
theorem s21 : compS Try.prog 21 (anOf ans 21) = some a21 := by kernel_rfl
def clones : List (Nat × Nat × Nat) := [(17, 2, 16)]
theorem clones_ok : ∀ f sz bytes, (f, sz, bytes) ∈ clones → 0 < sz ∧ ∃ an, compS Try.prog f an = some (cloneAF sz bytes) := by
  intro f sz bytes h
  rcases List.mem_cons.1 h with h | h
  · cases h; exact ⟨by decide, ⟨[], [], true, false⟩, by kernel_rfl⟩
  cases h
noncomputable abbrev call : Phi := callU (progOf Try.prog (anOf ans)) (clonePr clones)
theorem c17 (rows : List (List D)) (h1 : okRows 2 rows = true) (h2 : rows.length * 16 ≤ 140737488355328) (h3 : rows.length ≤ 9223372036854775807) (H : Hp) : callIso call 17 [.one (.d (.l rows))] H = some (.one (.sl (H.length + 1) 2 0 rows.length), H ++ [.dead, .arr 2 rows 0]) := clone_call rfl rfl rows h1 h2 h3 H
end Go.Proofs.Ytoehimghaanjfaa
