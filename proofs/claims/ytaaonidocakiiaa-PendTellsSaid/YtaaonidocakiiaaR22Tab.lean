import Derived.Test.YtaaonidocakiiaaVib
import Derived.Test.YtaaonidocakiiaaChecked
import Derived.KernelRfl
set_option linter.unusedSimpArgs false
set_option linter.unusedVariables false
namespace Go.Proofs.Ytaaonidocakiiaa
open Go.Vi
/-! 3: wagoner/wagonerlaw22.PendFirst; loops: [[0, 1, 5, 6], [1, 7, 8, 9], [1, 7, 10]] -/
def a3_0 : AC :=
 (.seq
  (.seq
   (rg [
     o 25 (.mv (.t 6)),
     o 26 (.mv (.t 0)),
     o 27 (.len false (.t 26)),
     o 28 (.bin .lss (.t 25) (.t 27))])
   (.cond (.t 28)
    .skip
    (.exit 0)))
  (.seq
   (.block 1
    (.seq
     (rg [
       o 31 (.mv (.t 0)),
       o 32 (.mv (.t 6)),
       o 33 (.ia 3 (.t 31) (.t 32)),
       o 34 (.fa 2 (.t 33)),
       o 35 (.ld none (.t 34)),
       o 36 (.bin .lss (.t 35) (kc 0)),
       o 37 (.mv (.t 5)),
       o 38 (.bin .geq (.t 37) (kc 0)),
       o 39 (.mv (.t 38)),
       og 40 39 true (.mv (.t 6)),
       og 41 39 true (.mv (.t 5)),
       og 42 39 true (.bin .geq (.t 40) (.t 41)),
       o 43 (.pick (.t 39) (.t 42) (kb false)),
       o 44 (.eqb true (.t 36) (.t 43))])
     (.cond (.t 44)
      (.seq
       (rg [
         o 4 (.mv (kb false))])
       .ret)
      .skip)))
   (rg [
     o 29 (.mv (.t 6)),
     o 30 (.bin .add (.t 29) (kc 1)),
     o 6 (.mv (.t 30))])))
def a3_1 : AC :=
 (.seq
  (.seq
   (rg [
     o 59 (.mv (.t 9)),
     o 60 (.mv (.t 8)),
     o 61 (.len false (.t 60)),
     o 62 (.bin .lss (.t 59) (.t 61))])
   (.cond (.t 62)
    .skip
    (.exit 2)))
  (.seq
   (.block 3
    (.seq
     (rg [
       o 65 (.mv (.t 8)),
       o 66 (.mv (.t 9)),
       o 67 (.ia 3 (.t 65) (.t 66)),
       o 68 (.fa 2 (.t 67)),
       o 69 (.ld none (.t 68)),
       o 70 (.bin .lss (.t 69) (kc 0)),
       o 71 (.mv (.t 70)),
       og 72 71 false (.mv (.t 8)),
       og 73 71 false (.mv (.t 9)),
       og 74 71 false (.ia 3 (.t 72) (.t 73)),
       og 75 71 false (.fa 2 (.t 74)),
       og 76 71 false (.ld none (.t 75)),
       og 77 71 false (.mv (.t 1)),
       og 78 71 false (.bin .geq (.t 76) (.t 77)),
       o 79 (.pick (.t 71) (kb true) (.t 78))])
     (.cond (.t 79)
      (.seq
       (rg [
         o 4 (.mv (kb false))])
       .ret)
      .skip)))
   (rg [
     o 63 (.mv (.t 9)),
     o 64 (.bin .add (.t 63) (kc 1)),
     o 9 (.mv (.t 64))])))
def a3_2 : AC :=
 (.seq
  (.seq
   (rg [
     o 80 (.mv (.t 10)),
     o 81 (.mv (.t 7)),
     o 82 (.len false (.t 81)),
     o 83 (.bin .lss (.t 80) (.t 82))])
   (.cond (.t 83)
    .skip
    (.exit 4)))
  (.seq
   (.block 5
    (.seq
     (rg [
       o 86 (.mv (.t 7)),
       o 87 (.mv (.t 10)),
       o 88 (.ia 3 (.t 86) (.t 87)),
       o 89 (.fa 2 (.t 88)),
       o 90 (.ld none (.t 89)),
       o 91 (.bin .geq (.t 90) (kc 0)),
       o 92 (.mv (.t 91)),
       og 93 92 true (.mv (.t 7)),
       og 94 92 true (.mv (.t 10)),
       og 95 92 true (.ia 3 (.t 93) (.t 94)),
       og 96 92 true (.fa 2 (.t 95)),
       og 97 92 true (.ld none (.t 96)),
       og 98 92 true (.mv (.t 1)),
       og 99 92 true (.bin .lss (.t 97) (.t 98)),
       o 100 (.pick (.t 92) (.t 99) (kb false))])
     (.cond (.t 100)
      (.seq
       (rg [
         o 4 (.mv (kb false))])
       .ret)
      .skip)))
   (rg [
     o 84 (.mv (.t 10)),
     o 85 (.bin .add (.t 84) (kc 1)),
     o 10 (.mv (.t 85))])))
def a3 : AF := ⟨102,
 (.seq
  (rg [
    o 4 (.mv (kb false))])
  (.seq
   (.seq
    (rg [
      o 11 (.mv (.t 0)),
      o 12 (.callp 6 [(.t 11)]),
      o 13 (.un .not (.t 12))])
    (.cond (.t 13)
     (.seq
      (rg [
        o 14 (.callp 7 []),
        o 4 (.mv (.t 14))])
      .ret)
     .skip))
   (.seq
    (rg [
      o 15 (.mv (.t 0)),
      o 16 (.callp 8 [(.t 15)]),
      o 5 (.mv (.t 16))])
    (.seq
     (.seq
      (rg [
        o 17 (.mv (.t 5)),
        o 18 (.bin .lss (.t 17) (kc (-1))),
        o 19 (.mv (.t 18)),
        og 20 19 false (.mv (.t 5)),
        og 21 19 false (.mv (.t 0)),
        og 22 19 false (.len false (.t 21)),
        og 23 19 false (.bin .geq (.t 20) (.t 22)),
        o 24 (.pick (.t 19) (kb true) (.t 23))])
      (.cond (.t 24)
       (.seq
        (rg [
          o 4 (.mv (kb false))])
        .ret)
       .skip))
     (.seq
      (.seq
       (rg [
         o 6 (.mv (kc 0))])
       (.block 0
        (.loop [0, 1, 5, 6] a3_0)))
      (.seq
       (rg [
         o 46 (.mv (.t 0)),
         o 47 (.mv (.t 1)),
         o 48 (.callp 9 [(.t 46), (.t 47)]),
         o 45 (.mv (.t 48)),
         o 49 (.ext (.t 45) 0),
         o 50 (.ext (.t 45) 1),
         o 7 (.mv (.t 49)),
         o 8 (.mv (.t 50))])
       (.seq
        (.seq
         (rg [
           o 51 (.mv (.t 7)),
           o 52 (.len false (.t 51)),
           o 53 (.mv (.t 8)),
           o 54 (.len false (.t 53)),
           o 55 (.bin .add (.t 52) (.t 54)),
           o 56 (.mv (.t 0)),
           o 57 (.len false (.t 56)),
           o 58 (.bin .neq (.t 55) (.t 57))])
         (.cond (.t 58)
          (.seq
           (rg [
             o 4 (.mv (kb false))])
           .ret)
          .skip))
        (.seq
         (.seq
          (rg [
            o 9 (.mv (kc 0))])
          (.block 2
           (.loop [1, 7, 8, 9] a3_1)))
         (.seq
          (.seq
           (rg [
             o 10 (.mv (kc 0))])
           (.block 4
            (.loop [1, 7, 10] a3_2)))
          (.seq
           (rg [
             o 101 (.callp 7 []),
             o 4 (.mv (.t 101))])
           .ret)))))))))),
 [.t 4], false⟩
/-! 4: wagoner/wagonerlaw22.PendTells; loops: [] -/
def a4 : AF := ⟨160,
 (.seq
  (rg [
    o 4 (.box (.t 1)),
    o 5 (.box (.t 2)),
    o 6 (.mv (kb false))])
  (.seq
   (.seq
    (rg [
      o 17 (.mv (.t 0)),
      o 18 (.callp 6 [(.t 17)]),
      o 19 (.un .not (.t 18)),
      o 20 (.mv (.t 19)),
      og 21 20 false (.fa 1 (.t 4)),
      og 22 20 false (.ld none (.t 21)),
      og 23 20 false (.len true (.t 22)),
      og 24 20 false (.bin .gtr (.t 23) (kc 300)),
      o 25 (.pick (.t 20) (kb true) (.t 24))])
    (.cond (.t 25)
     (.seq
      (rg [
        o 26 (.callp 7 []),
        o 6 (.mv (.t 26))])
      .ret)
     .skip))
   (.seq
    (rg [
      o 27 (.bsl 3 [] []),
      o 28 (.mv (.t 0)),
      o 29 (.app false 3 32 (.t 27) (.t 28)),
      oz 7 (.mv (.t 29))])
    (.seq
     (rg [
       o 31 (.mv (.t 0)),
       o 32 (.fa 0 (.t 4)),
       o 33 (.ld none (.t 32)),
       o 34 (.fa 1 (.t 4)),
       o 35 (.ld none (.t 34)),
       o 36 (.iar 3 1 (.t 5) (kc 0)),
       o 37 (.ld none (.t 36)),
       o 38 (.callp 10 [(.t 31), (.t 33), (.t 35), (.t 37)]),
       o 30 (.mv (.t 38)),
       o 39 (.ext (.t 30) 0),
       o 40 (.ext (.t 30) 1),
       o 8 (.mv (.t 39)),
       o 9 (.mv (.t 40))])
     (.seq
      (rg [
        o 42 (.mv (.t 7)),
        o 43 (.fa 0 (.t 4)),
        o 44 (.ld none (.t 43)),
        o 45 (.fa 1 (.t 4)),
        o 46 (.ld none (.t 45)),
        o 47 (.iar 3 1 (.t 5) (kc 0)),
        o 48 (.ld none (.t 47)),
        o 49 (.callp 11 [(.t 42), (.t 44), (.t 46), (.t 48)]),
        o 41 (.mv (.t 49)),
        o 50 (.ext (.t 41) 0),
        o 51 (.ext (.t 41) 1),
        o 10 (.mv (.t 50)),
        o 11 (.mv (.t 51))])
      (.seq
       (rg [
         o 53 (.mv (.t 0)),
         o 54 (.iar 3 1 (.t 5) (kc 1)),
         o 55 (.ld none (.t 54)),
         o 56 (.callp 9 [(.t 53), (.t 55)]),
         o 52 (.mv (.t 56)),
         o 57 (.ext (.t 52) 0),
         o 58 (.ext (.t 52) 1),
         o 12 (.mv (.t 57)),
         o 13 (.mv (.t 58))])
       (.seq
        (rg [
          o 60 (.mv (.t 7)),
          o 61 (.iar 3 1 (.t 5) (kc 1)),
          o 62 (.ld none (.t 61)),
          o 63 (.callp 12 [(.t 60), (.t 62)]),
          o 59 (.mv (.t 63)),
          o 64 (.ext (.t 59) 0),
          o 65 (.ext (.t 59) 1),
          o 14 (.mv (.t 64)),
          o 15 (.mv (.t 65))])
        (.seq
         (.seq
          (rg [
            o 66 (.mv (.t 8)),
            o 67 (.mv (.t 10)),
            o 68 (.callp 13 [(.t 66), (.t 67)]),
            o 69 (.un .not (.t 68)),
            o 70 (.mv (.t 69)),
            og 71 70 false (.mv (.t 9)),
            og 72 70 false (.mv (.t 11)),
            og 73 70 false (.bin .neq (.t 71) (.t 72)),
            o 74 (.pick (.t 70) (kb true) (.t 73)),
            o 75 (.mv (.t 74)),
            og 76 75 false (.mv (.t 12)),
            og 77 75 false (.mv (.t 14)),
            og 78 75 false (.callp 13 [(.t 76), (.t 77)]),
            og 79 75 false (.un .not (.t 78)),
            o 80 (.pick (.t 75) (kb true) (.t 79)),
            o 81 (.mv (.t 80)),
            og 82 81 false (.mv (.t 13)),
            og 83 81 false (.mv (.t 15)),
            og 84 81 false (.callp 13 [(.t 82), (.t 83)]),
            og 85 81 false (.un .not (.t 84)),
            o 86 (.pick (.t 81) (kb true) (.t 85)),
            o 87 (.mv (.t 86)),
            og 88 87 false (.mv (.t 0)),
            og 89 87 false (.callp 8 [(.t 88)]),
            og 90 87 false (.mv (.t 7)),
            og 91 87 false (.callp 14 [(.t 90)]),
            og 92 87 false (.bin .neq (.t 89) (.t 91)),
            o 93 (.pick (.t 87) (kb true) (.t 92))])
          (.cond (.t 93)
           (.seq
            (rg [
              o 6 (.mv (kb false))])
            .ret)
           .skip))
         (.seq
          (.seq
           (rg [
             o 94 (.iar 3 1 (.t 5) (kc 2)),
             o 95 (.ld none (.t 94)),
             o 96 (.bin .geq (.t 95) (kc 0)),
             o 97 (.mv (.t 96)),
             og 98 97 true (.iar 3 1 (.t 5) (kc 2)),
             og 99 97 true (.ld none (.t 98)),
             og 100 97 true (.mv (.t 0)),
             og 101 97 true (.len false (.t 100)),
             og 102 97 true (.bin .lss (.t 99) (.t 101)),
             o 103 (.pick (.t 97) (.t 102) (kb false)),
             o 104 (.mv (.t 103)),
             og 105 104 true (.mv (.t 0)),
             og 106 104 true (.iar 3 1 (.t 5) (kc 2)),
             og 107 104 true (.ld none (.t 106)),
             og 108 104 true (.callp 15 [(.t 105), (.t 107)]),
             og 109 104 true (.mv (.t 7)),
             og 110 104 true (.iar 3 1 (.t 5) (kc 2)),
             og 111 104 true (.ld none (.t 110)),
             og 112 104 true (.callp 16 [(.t 109), (.t 111)]),
             og 113 104 true (.callp 13 [(.t 108), (.t 112)]),
             og 114 104 true (.un .not (.t 113)),
             o 115 (.pick (.t 104) (.t 114) (kb false))])
           (.cond (.t 115)
            (.seq
             (rg [
               o 6 (.mv (kb false))])
             .ret)
            .skip))
          (.seq
           (rg [
             o 116 (.mv (.t 0)),
             o 117 (.callp 14 [(.t 116)]),
             o 16 (.mv (.t 117))])
           (.seq
            (.seq
             (rg [
               o 118 (.mv (.t 16)),
               o 119 (.bin .geq (.t 118) (kc 0)),
               o 120 (.mv (.t 119)),
               og 121 120 true (.iar 3 1 (.t 5) (kc 1)),
               og 122 120 true (.ld none (.t 121)),
               og 123 120 true (.bin .geq (.t 122) (kc 0)),
               o 124 (.pick (.t 120) (.t 123) (kb false)),
               o 125 (.mv (.t 124)),
               og 126 125 true (.mv (.t 16)),
               og 127 125 true (.bin .eql (.t 126) (kc 0)),
               og 128 125 true (.mv (.t 127)),
               og 129 128 false (.mv (.t 0)),
               og 130 128 false (.mv (.t 16)),
               og 131 128 false (.bin .sub (.t 130) (kc 1)),
               og 132 128 false (.ia 3 (.t 129) (.t 131)),
               og 133 128 false (.fa 2 (.t 132)),
               og 134 128 false (.ld none (.t 133)),
               og 135 128 false (.iar 3 1 (.t 5) (kc 1)),
               og 136 128 false (.ld none (.t 135)),
               og 137 128 false (.bin .lss (.t 134) (.t 136)),
               og 138 125 true (.pick (.t 128) (kb true) (.t 137)),
               o 139 (.pick (.t 125) (.t 138) (kb false)),
               o 140 (.mv (.t 139)),
               og 141 140 true (.mv (.t 0)),
               og 142 140 true (.mv (.t 16)),
               og 143 140 true (.iar 3 1 (.t 5) (kc 1)),
               og 144 140 true (.ld none (.t 143)),
               og 145 140 true (.callp 17 [(.t 141), (.t 142), (.t 144)]),
               og 146 140 true (.mv (.t 7)),
               og 147 140 true (.mv (.t 16)),
               og 148 140 true (.iar 3 1 (.t 5) (kc 1)),
               og 149 140 true (.ld none (.t 148)),
               og 150 140 true (.callp 18 [(.t 146), (.t 147), (.t 149)]),
               og 151 140 true (.callp 13 [(.t 145), (.t 150)]),
               og 152 140 true (.un .not (.t 151)),
               o 153 (.pick (.t 140) (.t 152) (kb false))])
             (.cond (.t 153)
              (.seq
               (rg [
                 o 6 (.mv (kb false))])
               .ret)
              .skip))
            (.seq
             (rg [
               o 154 (.callp 7 []),
               o 155 (.mv (.t 154)),
               og 156 155 true (.mv (.t 0)),
               og 157 155 true (.mv (.t 7)),
               og 158 155 true (.callp 13 [(.t 156), (.t 157)]),
               o 159 (.pick (.t 155) (.t 158) (kb false)),
               o 6 (.mv (.t 159))])
             .ret)))))))))))),
 [.t 6], false⟩
/-! 5: wagoner/wagonerlaw22.PendPlays; loops: [[0, 5, 6, 7, 8, 9, 10, 11, 12], [0, 5, 7, 8, 9, 10, 11, 12, 16, 17, 18]] -/
def a5_1 : AC :=
 (.seq
  (.seq
   (rg [
     o 52 (.mv (.t 18)),
     o 53 (.mv (.t 17)),
     o 54 (.len false (.t 53)),
     o 55 (.bin .lss (.t 52) (.t 54))])
   (.cond (.t 55)
    .skip
    (.exit 3)))
  (.seq
   (.block 4
    (.seq
     (.seq
      (rg [
        o 58 (.mv (.t 17)),
        o 59 (.mv (.t 18)),
        o 60 (.ia 3 (.t 58) (.t 59)),
        o 61 (.fa 0 (.t 60)),
        o 62 (.ld none (.t 61)),
        o 63 (.mv (.t 11)),
        o 64 (.bin .leq (.t 62) (.t 63))])
      (.cond (.t 64)
       (.seq
        (rg [
          o 4 (.mv (kb false))])
        .ret)
       .skip))
     (.seq
      (rg [
        o 65 (.mv (.t 17)),
        o 66 (.mv (.t 18)),
        o 67 (.ia 3 (.t 65) (.t 66)),
        o 68 (.fa 0 (.t 67)),
        o 69 (.ld none (.t 68)),
        o 11 (.mv (.t 69))])
      (rg [
        o 70 (.mv (.t 9)),
        o 71 (.bin .add (.t 70) (kc 1)),
        o 9 (.mv (.t 71))]))))
   (rg [
     o 56 (.mv (.t 18)),
     o 57 (.bin .add (.t 56) (kc 1)),
     o 18 (.mv (.t 57))])))
def a5_0 : AC :=
 (.seq
  (.seq
   (rg [
     o 26 (.mv (.t 12)),
     o 27 (.mv (.t 0)),
     o 28 (.len false (.t 27)),
     o 29 (.bin .lss (.t 26) (.t 28))])
   (.cond (.t 29)
    .skip
    (.exit 0)))
  (.seq
   (.block 1
    (.seq
     (rg [
       o 32 (.mv (.t 6)),
       o 33 (.callp 8 [(.t 32)]),
       o 13 (.mv (.t 33))])
     (.seq
      (.seq
       (rg [
         o 34 (.mv (.t 0)),
         o 35 (.mv (.t 12)),
         o 36 (.ia 1 (.t 34) (.t 35)),
         o 37 (.ld none (.t 36)),
         o 38 (.bin .rem (.t 37) (kx (.d (.i .u8 4))))])
       (.block 2
        (.seq
         (rg [
           o 74 (.bin .eql (.t 38) (kx (.d (.i .u8 0)))),
           o 73 (.mv (.t 74))])
         (.cond (.t 73)
          (.seq
           (rg [
             o 76 (.mv (.t 6)),
             o 77 (.mv (.t 7)),
             o 78 (.mv (.t 5)),
             o 79 (.callp 10 [(.t 76), (.t 77), (ks [120]), (.t 78)]),
             o 75 (.mv (.t 79)),
             o 80 (.ext (.t 75) 0),
             o 81 (.ext (.t 75) 1),
             o 14 (.mv (.t 80)),
             o 15 (.mv (.t 81))])
           (.seq
            (.seq
             (rg [
               o 82 (.mv (.t 15)),
               o 83 (.bin .eql (.t 82) (kc 12)),
               o 84 (.mv (.t 6)),
               o 85 (.len false (.t 84)),
               o 86 (.mv (.t 5)),
               o 87 (.bin .geq (.t 85) (.t 86)),
               o 88 (.eqb true (.t 83) (.t 87)),
               o 89 (.mv (.t 88)),
               og 90 89 false (.mv (.t 15)),
               og 91 89 false (.bin .neq (.t 90) (kc 0)),
               og 92 89 false (.mv (.t 91)),
               og 93 92 true (.mv (.t 15)),
               og 94 92 true (.bin .neq (.t 93) (kc 12)),
               og 95 89 false (.pick (.t 92) (.t 94) (kb false)),
               o 96 (.pick (.t 89) (kb true) (.t 95))])
             (.cond (.t 96)
              (.seq
               (rg [
                 o 4 (.mv (kb false))])
               .ret)
              .skip))
            (.seq
             (.seq
              (rg [
                o 97 (.mv (.t 15)),
                o 98 (.bin .eql (.t 97) (kc 0))])
              (.cond (.t 98)
               (rg [
                 o 99 (.mv (.t 7)),
                 o 100 (.bin .add (.t 99) (kc 1)),
                 o 7 (.mv (.t 100))])
               .skip))
             (rg [
               o 101 (.mv (.t 14)),
               o 6 (.mv (.t 101))]))))
          (.seq
           (rg [
             o 103 (.bin .eql (.t 38) (kx (.d (.i .u8 1)))),
             o 102 (.mv (.t 103))])
           (.cond (.t 102)
            (.seq
             (rg [
               o 104 (.mv (.t 13)),
               o 105 (.bin .geq (.t 104) (kc 0)),
               o 106 (.mv (.t 105)),
               og 107 106 true (.mv (.t 13)),
               og 108 106 true (.mv (.t 6)),
               og 109 106 true (.len false (.t 108)),
               og 110 106 true (.bin .lss (.t 107) (.t 109)),
               o 111 (.pick (.t 106) (.t 110) (kb false))])
             (.cond (.t 111)
              (.seq
               (rg [
                 o 112 (.mv (.t 6)),
                 o 113 (.mv (.t 13)),
                 o 114 (.mv (.t 8)),
                 o 115 (.callp 17 [(.t 112), (.t 113), (.t 114)]),
                 o 6 (.mv (.t 115))])
               (rg [
                 o 116 (.mv (.t 8)),
                 o 117 (.bin .add (.t 116) (kc 1)),
                 o 8 (.mv (.t 117))]))
              .skip))
            (.seq
             (rg [
               o 119 (.bin .eql (.t 38) (kx (.d (.i .u8 2)))),
               o 118 (.mv (.t 119))])
             (.cond (.t 118)
              (.seq
               (rg [
                 o 120 (.mv (.t 13)),
                 o 121 (.bin .geq (.t 120) (kc 0)),
                 o 122 (.mv (.t 121)),
                 og 123 122 true (.mv (.t 13)),
                 og 124 122 true (.mv (.t 6)),
                 og 125 122 true (.len false (.t 124)),
                 og 126 122 true (.bin .lss (.t 123) (.t 125)),
                 o 127 (.pick (.t 122) (.t 126) (kb false))])
               (.cond (.t 127)
                (.seq
                 (rg [
                   o 128 (.mv (.t 6)),
                   o 129 (.mv (.t 13)),
                   o 130 (.callp 15 [(.t 128), (.t 129)]),
                   o 6 (.mv (.t 130))])
                 (rg [
                   o 131 (.mv (.t 10)),
                   o 132 (.bin .add (.t 131) (kc 1)),
                   o 10 (.mv (.t 132))]))
                .skip))
              (.seq
               (rg [
                 o 40 (.mv (.t 6)),
                 o 41 (.mv (.t 8)),
                 o 42 (.mv (.t 0)),
                 o 43 (.mv (.t 12)),
                 o 44 (.ia 1 (.t 42) (.t 43)),
                 o 45 (.ld none (.t 44)),
                 o 46 (.bin .quo (.t 45) (kx (.d (.i .u8 64)))),
                 o 47 (.cvi .i64 (.t 46)),
                 o 48 (.bin .sub (.t 41) (.t 47)),
                 o 49 (.callp 9 [(.t 40), (.t 48)]),
                 o 39 (.mv (.t 49)),
                 o 50 (.ext (.t 39) 0),
                 o 51 (.ext (.t 39) 1),
                 o 16 (.mv (.t 50)),
                 o 17 (.mv (.t 51))])
               (.seq
                (.seq
                 (rg [
                   o 18 (.mv (kc 0))])
                 (.block 3
                  (.loop [0, 5, 7, 8, 9, 10, 11, 12, 16, 17, 18] a5_1)))
                (rg [
                  o 72 (.mv (.t 16)),
                  o 6 (.mv (.t 72))])))))))))))
      (.seq
       (rg [
         o 133 (.mv (.t 6)),
         o 134 (.len false (.t 133)),
         o 135 (.mv (.t 5)),
         o 136 (.bin .gtr (.t 134) (.t 135)),
         o 137 (.mv (.t 136)),
         og 138 137 false (.mv (.t 6)),
         og 139 137 false (.callp 19 [(.t 138)]),
         og 140 137 false (.un .not (.t 139)),
         o 141 (.pick (.t 137) (kb true) (.t 140)),
         o 142 (.mv (.t 141)),
         og 143 142 false (.mv (.t 6)),
         og 144 142 false (.len false (.t 143)),
         og 145 142 false (.mv (.t 9)),
         og 146 142 false (.bin .add (.t 144) (.t 145)),
         og 147 142 false (.mv (.t 10)),
         og 148 142 false (.bin .add (.t 146) (.t 147)),
         og 149 142 false (.mv (.t 7)),
         og 150 142 false (.bin .neq (.t 148) (.t 149)),
         o 151 (.pick (.t 142) (kb true) (.t 150))])
       (.cond (.t 151)
        (.seq
         (rg [
           o 4 (.mv (kb false))])
         .ret)
        .skip)))))
   (rg [
     o 30 (.mv (.t 12)),
     o 31 (.bin .add (.t 30) (kc 1)),
     o 12 (.mv (.t 31))])))
def a5 : AF := ⟨153,
 (.seq
  (rg [
    o 4 (.mv (kb false))])
  (.seq
   (.seq
    (rg [
      o 19 (.mv (.t 0)),
      o 20 (.len false (.t 19)),
      o 21 (.bin .gtr (.t 20) (kc 80))])
    (.cond (.t 21)
     (.seq
      (rg [
        o 22 (.callp 7 []),
        o 4 (.mv (.t 22))])
      .ret)
     .skip))
   (.seq
    (rg [
      o 23 (.mv (.t 1)),
      o 24 (.bin .rem (.t 23) (kx (.d (.i .u8 9)))),
      o 25 (.cvi .i64 (.t 24)),
      o 5 (.mv (.t 25))])
    (.seq
     (rg [
       oz 6 (.mv (kx (.ns)))])
     (.seq
      (rg [
        o 7 (.mv (kc 0)),
        o 8 (.mv (kc 0)),
        o 9 (.mv (kc 0)),
        o 10 (.mv (kc 0)),
        o 11 (.mv (kc (-1)))])
      (.seq
       (.seq
        (rg [
          o 12 (.mv (kc 0))])
        (.block 0
         (.loop [0, 5, 6, 7, 8, 9, 10, 11, 12] a5_0)))
       (.seq
        (rg [
          o 152 (.callp 7 []),
          o 4 (.mv (.t 152))])
        .ret))))))),
 [.t 4], false⟩
/-! 6: wagoner/wagonerlaw22.may; loops: [[0, 3]] -/
def a6_0 : AC :=
 (.seq
  (.seq
   (rg [
     o 7 (.mv (.t 3)),
     o 8 (.mv (.t 0)),
     o 9 (.len false (.t 8)),
     o 10 (.bin .lss (.t 7) (.t 9))])
   (.cond (.t 10)
    .skip
    (.exit 0)))
  (.seq
   (.block 1
    (.seq
     (rg [
       o 13 (.mv (.t 0)),
       o 14 (.mv (.t 3)),
       o 15 (.ia 3 (.t 13) (.t 14)),
       o 16 (.fa 1 (.t 15)),
       o 17 (.ld none (.t 16)),
       o 18 (.len true (.t 17)),
       o 19 (.bin .gtr (.t 18) (kc 300))])
     (.cond (.t 19)
      (.seq
       (rg [
         o 2 (.mv (kb false))])
       .ret)
      .skip)))
   (rg [
     o 11 (.mv (.t 3)),
     o 12 (.bin .add (.t 11) (kc 1)),
     o 3 (.mv (.t 12))])))
def a6 : AF := ⟨22,
 (.seq
  (rg [
    o 2 (.mv (kb false))])
  (.seq
   (.seq
    (rg [
      o 4 (.mv (.t 0)),
      o 5 (.len false (.t 4)),
      o 6 (.bin .gtr (.t 5) (kc 100))])
    (.cond (.t 6)
     (.seq
      (rg [
        o 2 (.mv (kb false))])
      .ret)
     .skip))
   (.seq
    (.seq
     (rg [
       o 3 (.mv (kc 0))])
     (.block 0
      (.loop [0, 3] a6_0)))
    (.seq
     (rg [
       o 20 (.mv (.t 0)),
       o 21 (.callp 19 [(.t 20)]),
       o 2 (.mv (.t 21))])
     .ret)))),
 [.t 2], false⟩
/-! 7: wagoner/wagonerlaw22.awake; loops: [] -/
def a7 : AF := ⟨30,
 (.seq
  (rg [
    o 0 (.mv (kb false))])
  (.seq
   (rg [
     o 4 (.build [.d (.i .i64 0), .d (.s []), .d (.i .i64 0)] [(0, 1, (kc 1)), (2, 1, (kc 4))]),
     o 5 (.build [.d (.i .i64 0), .d (.s []), .d (.i .i64 0)] [(0, 1, (kc 2)), (2, 1, (kc 5))]),
     o 6 (.bsl 3 [[.i .i64 0, .s [], .i .i64 0], [.i .i64 0, .s [], .i .i64 0]] [(0, (.t 4)), (1, (.t 5))]),
     o 7 (.callz 9 [(.t 6), (kc 5)]),
     o 3 (.mv (.t 7)),
     o 8 (.ext (.t 3) 0),
     o 9 (.ext (.t 3) 1),
     o 1 (.mv (.t 8)),
     o 2 (.mv (.t 9))])
   (.seq
    (rg [
      o 10 (.mv (.t 1)),
      o 11 (.len false (.t 10)),
      o 12 (.bin .eql (.t 11) (kc 1)),
      o 13 (.mv (.t 12)),
      og 14 13 true (.mv (.t 2)),
      og 15 13 true (.len false (.t 14)),
      og 16 13 true (.bin .eql (.t 15) (kc 1)),
      o 17 (.pick (.t 13) (.t 16) (kb false)),
      o 18 (.mv (.t 17)),
      og 19 18 true (.mv (.t 2)),
      og 20 18 true (.ia 3 (.t 19) (kc 0)),
      og 21 18 true (.fa 0 (.t 20)),
      og 22 18 true (.ld none (.t 21)),
      og 23 18 true (.bin .eql (.t 22) (kc 1)),
      o 24 (.pick (.t 18) (.t 23) (kb false)),
      o 25 (.mv (.t 24)),
      og 26 25 true (.mv (.t 1)),
      og 27 25 true (.callp 8 [(.t 26)]),
      og 28 25 true (.bin .eql (.t 27) (kc (-1))),
      o 29 (.pick (.t 25) (.t 28) (kb false)),
      o 0 (.mv (.t 29))])
    .ret))),
 [.t 0], false⟩
/-! 8: wagoner/pend.First; loops: [] -/
def a8 : AF := ⟨5,
 (.seq
  (rg [
    o 2 (.mv (kc 0))])
  (.seq
   (rg [
     o 3 (.mv (.t 0)),
     o 4 (.call 20 [(.t 3), (kx (.f 21 []))]),
     o 2 (.mv (.t 4))])
   .ret)),
 [.t 2], false⟩
/-! 9: wagoner/pend.Release; loops: [[0, 1, 6]] -/
def a9_0 : AC :=
 (.seq
  (.seq
   (rg [
     o 7 (.mv (.t 6)),
     o 8 (.mv (.t 0)),
     o 9 (.len false (.t 8)),
     o 10 (.bin .lss (.t 7) (.t 9)),
     o 11 (.mv (.t 10)),
     og 12 11 true (.mv (.t 0)),
     og 13 11 true (.mv (.t 6)),
     og 14 11 true (.ia 3 (.t 12) (.t 13)),
     og 15 11 true (.fa 2 (.t 14)),
     og 16 11 true (.ld none (.t 15)),
     og 17 11 true (.bin .geq (.t 16) (kc 0)),
     o 18 (.pick (.t 11) (.t 17) (kb false)),
     o 19 (.mv (.t 18)),
     og 20 19 true (.mv (.t 0)),
     og 21 19 true (.mv (.t 6)),
     og 22 19 true (.ia 3 (.t 20) (.t 21)),
     og 23 19 true (.fa 2 (.t 22)),
     og 24 19 true (.ld none (.t 23)),
     og 25 19 true (.mv (.t 1)),
     og 26 19 true (.bin .lss (.t 24) (.t 25)),
     o 27 (.pick (.t 19) (.t 26) (kb false))])
   (.cond (.t 27)
    .skip
    (.exit 0)))
  (.block 1
   (rg [
     o 28 (.mv (.t 6)),
     o 29 (.bin .add (.t 28) (kc 1)),
     o 6 (.mv (.t 29))])))
def a9 : AF := ⟨37,
 (.seq
  (rg [
    oz 4 (.mv (kx (.ns))),
    oz 5 (.mv (kx (.ns)))])
  (.seq
   (rg [
     o 6 (.mv (kc 0))])
   (.seq
    (.block 0
     (.loop [0, 1, 6] a9_0))
    (.seq
     (rg [
       o 30 (.mv (.t 0)),
       o 31 (.mv (.t 6)),
       o 32 (.slc 3 (.t 30) (some (.t 31)) none none),
       o 33 (.mv (.t 0)),
       o 34 (.mv (.t 6)),
       o 35 (.mv (.t 6)),
       o 36 (.slc 3 (.t 33) none (some (.t 34)) (some (.t 35))),
       o 4 (.mv (.t 32)),
       o 5 (.mv (.t 36))])
     .ret)))),
 [.t 4, .t 5], false⟩
/-! 10: wagoner/pend.Add; loops: [] -/
def a10 : AF := ⟨26,
 (.seq
  (rg [
    o 8 (.own 3),
    o 9 (.mv (kc 0))])
  (.seq
   (rg [
     o 11 (.mv (.t 0)),
     o 12 (.len false (.t 11)),
     o 10 (.mv (.t 12))])
   (.seq
    (.seq
     (rg [
       o 13 (.mv (.t 10)),
       o 14 (.mv (.t 3)),
       o 15 (.bin .geq (.t 13) (.t 14))])
     (.cond (.t 15)
      (.seq
       (rg [
         o 16 (.mv (.t 0)),
         o 8 (.mv (.t 16)),
         o 9 (.mv (kc 12))])
       .ret)
      .skip))
    (.seq
     (rg [
       o 17 (.mv (.t 0)),
       o 18 (.mv (.t 10)),
       o 19 (.mv (.t 10)),
       o 20 (.slc 3 (.t 17) none (some (.t 18)) (some (.t 19))),
       o 21 (.mv (.t 1)),
       o 22 (.mv (.t 2)),
       o 23 (.build [.d (.i .i64 0), .d (.s []), .d (.i .i64 0)] [(0, 1, (.t 21)), (1, 1, (.t 22)), (2, 1, (kc (-1)))]),
       o 24 (.bsl 3 [[.i .i64 0, .s [], .i .i64 0]] [(0, (.t 23))]),
       o 25 (.app false 3 32 (.t 20) (.t 24)),
       oz 8 (.mv (.t 25)),
       o 9 (.mv (kc 0))])
     .ret)))),
 [.t 8, .t 9], false⟩
/-! 11: wagoner/wagonerref22.Add; loops: [] -/
def a11 : AF := ⟨23,
 (.seq
  (rg [
    o 8 (.own 3),
    o 9 (.mv (kc 0))])
  (.seq
   (.seq
    (rg [
      o 10 (.mv (.t 0)),
      o 11 (.len false (.t 10)),
      o 12 (.mv (.t 3)),
      o 13 (.bin .geq (.t 11) (.t 12))])
    (.cond (.t 13)
     (.seq
      (rg [
        o 14 (.mv (.t 0)),
        o 8 (.mv (.t 14)),
        o 9 (.mv (kc 12))])
      .ret)
     .skip))
   (.seq
    (rg [
      o 15 (.bsl 3 [] []),
      o 16 (.mv (.t 0)),
      o 17 (.app false 3 32 (.t 15) (.t 16)),
      o 18 (.mv (.t 1)),
      o 19 (.mv (.t 2)),
      o 20 (.build [.d (.i .i64 0), .d (.s []), .d (.i .i64 0)] [(0, 1, (.t 18)), (1, 1, (.t 19)), (2, 1, (kc (-1)))]),
      o 21 (.bsl 3 [[.i .i64 0, .s [], .i .i64 0]] [(0, (.t 20))]),
      o 22 (.app false 3 32 (.t 17) (.t 21)),
      oz 8 (.mv (.t 22)),
      o 9 (.mv (kc 0))])
    .ret))),
 [.t 8, .t 9], false⟩
/-! 12: wagoner/wagonerref22.Release; loops: [[0, 1, 6, 7, 8]] -/
def a12_0 : AC :=
 (.seq
  (.seq
   (rg [
     o 9 (.mv (.t 8)),
     o 10 (.mv (.t 0)),
     o 11 (.len false (.t 10)),
     o 12 (.bin .lss (.t 9) (.t 11))])
   (.cond (.t 12)
    .skip
    (.exit 0)))
  (.seq
   (.block 1
    (.seq
     (rg [
       o 15 (.mv (.t 0)),
       o 16 (.mv (.t 8)),
       o 17 (.ia 3 (.t 15) (.t 16)),
       o 18 (.fa 2 (.t 17)),
       o 19 (.ld none (.t 18)),
       o 20 (.bin .geq (.t 19) (kc 0)),
       o 21 (.mv (.t 20)),
       og 22 21 true (.mv (.t 0)),
       og 23 21 true (.mv (.t 8)),
       og 24 21 true (.ia 3 (.t 22) (.t 23)),
       og 25 21 true (.fa 2 (.t 24)),
       og 26 21 true (.ld none (.t 25)),
       og 27 21 true (.mv (.t 1)),
       og 28 21 true (.bin .lss (.t 26) (.t 27)),
       o 29 (.pick (.t 21) (.t 28) (kb false))])
     (.cond (.t 29)
      (rg [
        o 30 (.mv (.t 7)),
        o 31 (.mv (.t 0)),
        o 32 (.mv (.t 8)),
        o 33 (.ia 3 (.t 31) (.t 32)),
        o 34 (.ld (some 3) (.t 33)),
        o 35 (.bsl 3 [[.i .i64 0, .s [], .i .i64 0]] [(0, (.t 34))]),
        o 36 (.app false 3 32 (.t 30) (.t 35)),
        o 7 (.mv (.t 36))])
      (rg [
        o 37 (.mv (.t 6)),
        o 38 (.mv (.t 0)),
        o 39 (.mv (.t 8)),
        o 40 (.ia 3 (.t 38) (.t 39)),
        o 41 (.ld (some 3) (.t 40)),
        o 42 (.bsl 3 [[.i .i64 0, .s [], .i .i64 0]] [(0, (.t 41))]),
        o 43 (.app false 3 32 (.t 37) (.t 42)),
        o 6 (.mv (.t 43))]))))
   (rg [
     o 13 (.mv (.t 8)),
     o 14 (.bin .add (.t 13) (kc 1)),
     o 8 (.mv (.t 14))])))
def a12 : AF := ⟨46,
 (.seq
  (rg [
    oz 4 (.mv (kx (.ns))),
    oz 5 (.mv (kx (.ns)))])
  (.seq
   (rg [
     o 6 (.own 3),
     o 7 (.own 3)])
   (.seq
    (.seq
     (rg [
       o 8 (.mv (kc 0))])
     (.block 0
      (.loop [0, 1, 6, 7, 8] a12_0)))
    (.seq
     (rg [
       o 44 (.mv (.t 6)),
       o 45 (.mv (.t 7)),
       o 4 (.mv (.t 44)),
       o 5 (.mv (.t 45))])
     .ret)))),
 [.t 4, .t 5], false⟩
/-! 13: wagoner/wagonerref22.Same; loops: [[0, 1, 5]] -/
def a13_0 : AC :=
 (.seq
  (.seq
   (rg [
     o 11 (.mv (.t 5)),
     o 12 (.mv (.t 0)),
     o 13 (.len false (.t 12)),
     o 14 (.bin .lss (.t 11) (.t 13))])
   (.cond (.t 14)
    .skip
    (.exit 0)))
  (.seq
   (.block 1
    (.seq
     (rg [
       o 17 (.mv (.t 0)),
       o 18 (.mv (.t 5)),
       o 19 (.ia 3 (.t 17) (.t 18)),
       o 20 (.ld (some 3) (.t 19)),
       o 21 (.mv (.t 1)),
       o 22 (.mv (.t 5)),
       o 23 (.ia 3 (.t 21) (.t 22)),
       o 24 (.ld (some 3) (.t 23)),
       o 25 (.eqa true [0, 2, 0] (.t 20) (.t 24))])
     (.cond (.t 25)
      (.seq
       (rg [
         o 4 (.mv (kb false))])
       .ret)
      .skip)))
   (rg [
     o 15 (.mv (.t 5)),
     o 16 (.bin .add (.t 15) (kc 1)),
     o 5 (.mv (.t 16))])))
def a13 : AF := ⟨26,
 (.seq
  (rg [
    o 4 (.mv (kb false))])
  (.seq
   (.seq
    (rg [
      o 6 (.mv (.t 0)),
      o 7 (.len false (.t 6)),
      o 8 (.mv (.t 1)),
      o 9 (.len false (.t 8)),
      o 10 (.bin .neq (.t 7) (.t 9))])
    (.cond (.t 10)
     (.seq
      (rg [
        o 4 (.mv (kb false))])
      .ret)
     .skip))
   (.seq
    (.seq
     (rg [
       o 5 (.mv (kc 0))])
     (.block 0
      (.loop [0, 1, 5] a13_0)))
    (.seq
     (rg [
       o 4 (.mv (kb true))])
     .ret)))),
 [.t 4], false⟩
/-! 14: wagoner/wagonerref22.First; loops: [[0, 3]] -/
def a14_0 : AC :=
 (.seq
  (.seq
   (rg [
     o 4 (.mv (.t 3)),
     o 5 (.mv (.t 0)),
     o 6 (.len false (.t 5)),
     o 7 (.bin .lss (.t 4) (.t 6))])
   (.cond (.t 7)
    .skip
    (.exit 0)))
  (.seq
   (.block 1
    (.seq
     (rg [
       o 10 (.mv (.t 0)),
       o 11 (.mv (.t 3)),
       o 12 (.ia 3 (.t 10) (.t 11)),
       o 13 (.fa 2 (.t 12)),
       o 14 (.ld none (.t 13)),
       o 15 (.bin .lss (.t 14) (kc 0))])
     (.cond (.t 15)
      (.seq
       (rg [
         o 16 (.mv (.t 3)),
         o 2 (.mv (.t 16))])
       .ret)
      .skip)))
   (rg [
     o 8 (.mv (.t 3)),
     o 9 (.bin .add (.t 8) (kc 1)),
     o 3 (.mv (.t 9))])))
def a14 : AF := ⟨17,
 (.seq
  (rg [
    o 2 (.mv (kc 0))])
  (.seq
   (.seq
    (rg [
      o 3 (.mv (kc 0))])
    (.block 0
     (.loop [0, 3] a14_0)))
   (.seq
    (rg [
      o 2 (.mv (kc (-1)))])
    .ret))),
 [.t 2], false⟩
/-! 15: wagoner/pend.Drop; loops: [] -/
def a15 : AF := ⟨14,
 (.seq
  (rg [
    o 4 (.own 3)])
  (.seq
   (rg [
     o 5 (.mv (.t 0)),
     o 6 (.mv (.t 1)),
     o 7 (.mv (.t 1)),
     o 8 (.slc 3 (.t 5) none (some (.t 6)) (some (.t 7))),
     o 9 (.mv (.t 0)),
     o 10 (.mv (.t 1)),
     o 11 (.bin .add (.t 10) (kc 1)),
     o 12 (.slc 3 (.t 9) (some (.t 11)) none none),
     o 13 (.app false 3 32 (.t 8) (.t 12)),
     o 4 (.mv (.t 13))])
   .ret)),
 [.t 4], false⟩
/-! 16: wagoner/wagonerref22.Drop; loops: [] -/
def a16 : AF := ⟨15,
 (.seq
  (rg [
    o 4 (.own 3)])
  (.seq
   (rg [
     o 5 (.bsl 3 [] []),
     o 6 (.mv (.t 0)),
     o 7 (.mv (.t 1)),
     o 8 (.slc 3 (.t 6) none (some (.t 7)) none),
     o 9 (.app false 3 32 (.t 5) (.t 8)),
     o 10 (.mv (.t 0)),
     o 11 (.mv (.t 1)),
     o 12 (.bin .add (.t 11) (kc 1)),
     o 13 (.slc 3 (.t 10) (some (.t 12)) none none),
     o 14 (.app false 3 32 (.t 9) (.t 13)),
     o 4 (.mv (.t 14))])
   .ret)),
 [.t 4], false⟩
/-! 17: wagoner/pend.Write; loops: [] -/
def a17 : AF := ⟨16,
 (.seq
  (rg [
    oz 6 (.mv (kx (.ns)))])
  (.seq
   (rg [
     o 8 (.mv (.t 0)),
     o 9 (.call 22 [(.t 8)]),
     o 7 (.mv (.t 9))])
   (.seq
    (rg [
      o 10 (.mv (.t 7)),
      o 11 (.mv (.t 1)),
      o 12 (.mv (.t 2)),
      o 13 (.ia 3 (.t 10) (.t 11)),
      o 14 (.fa 2 (.t 13)),
      on (.st 1 (.t 14) (.t 12))])
    (.seq
     (rg [
       o 15 (.mv (.t 7)),
       o 6 (.mv (.t 15))])
     .ret)))),
 [.t 6], false⟩
/-! 18: wagoner/wagonerref22.Write; loops: [] -/
def a18 : AF := ⟨17,
 (.seq
  (rg [
    oz 6 (.mv (kx (.ns)))])
  (.seq
   (rg [
     o 8 (.bsl 3 [] []),
     o 9 (.mv (.t 0)),
     o 10 (.app false 3 32 (.t 8) (.t 9)),
     o 7 (.mv (.t 10))])
   (.seq
    (rg [
      o 11 (.mv (.t 7)),
      o 12 (.mv (.t 1)),
      o 13 (.mv (.t 2)),
      o 14 (.ia 3 (.t 11) (.t 12)),
      o 15 (.fa 2 (.t 14)),
      on (.st 1 (.t 15) (.t 13))])
    (.seq
     (rg [
       o 16 (.mv (.t 7)),
       o 6 (.mv (.t 16))])
     .ret)))),
 [.t 6], false⟩
/-! 19: wagoner/wagonerref22.Right; loops: [[0, 3, 4, 5]] -/
def a19_0 : AC :=
 (.seq
  (.seq
   (rg [
     o 6 (.mv (.t 5)),
     o 7 (.mv (.t 0)),
     o 8 (.len false (.t 7)),
     o 9 (.bin .lss (.t 6) (.t 8))])
   (.cond (.t 9)
    .skip
    (.exit 0)))
  (.seq
   (.block 1
    (.seq
     (.seq
      (rg [
        o 12 (.mv (.t 0)),
        o 13 (.mv (.t 5)),
        o 14 (.ia 3 (.t 12) (.t 13)),
        o 15 (.fa 2 (.t 14)),
        o 16 (.ld none (.t 15)),
        o 17 (.bin .lss (.t 16) (kc (-1))),
        o 18 (.mv (.t 17)),
        og 19 18 false (.mv (.t 0)),
        og 20 18 false (.mv (.t 5)),
        og 21 18 false (.ia 3 (.t 19) (.t 20)),
        og 22 18 false (.fa 2 (.t 21)),
        og 23 18 false (.ld none (.t 22)),
        og 24 18 false (.bin .geq (.t 23) (kc 0)),
        og 25 18 false (.mv (.t 24)),
        og 26 25 true (.mv (.t 4)),
        og 27 25 true (.mv (.t 26)),
        og 28 27 false (.mv (.t 0)),
        og 29 27 false (.mv (.t 5)),
        og 30 27 false (.ia 3 (.t 28) (.t 29)),
        og 31 27 false (.fa 2 (.t 30)),
        og 32 27 false (.ld none (.t 31)),
        og 33 27 false (.mv (.t 3)),
        og 34 27 false (.bin .leq (.t 32) (.t 33)),
        og 35 25 true (.pick (.t 27) (kb true) (.t 34)),
        og 36 18 false (.pick (.t 25) (.t 35) (kb false)),
        o 37 (.pick (.t 18) (kb true) (.t 36))])
      (.cond (.t 37)
       (.seq
        (rg [
          o 2 (.mv (kb false))])
        .ret)
       .skip))
     (.seq
      (rg [
        o 38 (.mv (.t 0)),
        o 39 (.mv (.t 5)),
        o 40 (.ia 3 (.t 38) (.t 39)),
        o 41 (.fa 2 (.t 40)),
        o 42 (.ld none (.t 41)),
        o 43 (.bin .lss (.t 42) (kc 0))])
      (.cond (.t 43)
       (rg [
         o 4 (.mv (kb true))])
       (rg [
         o 44 (.mv (.t 0)),
         o 45 (.mv (.t 5)),
         o 46 (.ia 3 (.t 44) (.t 45)),
         o 47 (.fa 2 (.t 46)),
         o 48 (.ld none (.t 47)),
         o 3 (.mv (.t 48))])))))
   (rg [
     o 10 (.mv (.t 5)),
     o 11 (.bin .add (.t 10) (kc 1)),
     o 5 (.mv (.t 11))])))
def a19 : AF := ⟨49,
 (.seq
  (rg [
    o 2 (.mv (kb false))])
  (.seq
   (rg [
     o 3 (.mv (kc (-1))),
     o 4 (.mv (kb false))])
   (.seq
    (.seq
     (rg [
       o 5 (.mv (kc 0))])
     (.block 0
      (.loop [0, 3, 4, 5] a19_0)))
    (.seq
     (rg [
       o 2 (.mv (kb true))])
     .ret)))),
 [.t 2], false⟩
/-! 20: slices.IndexFunc[[]wagoner/api.Entry,wagoner/api.Entry]; loops: [[0, 1, 7, 8]] -/
def a20_0 : AC :=
 (.seq
  (rg [
    o 9 (.bin .lss (.t 8) (.t 7))])
  (.seq
   (.cond (.t 9)
    .skip
    (.exit 0))
   (.seq
    (.block 1
     (.seq
      (rg [
        o 10 (.mv (.t 8)),
        o 5 (.mv (.t 10))])
      (.seq
       (rg [
         o 11 (.mv (.t 1)),
         o 12 (.mv (.t 0)),
         o 13 (.mv (.t 5)),
         o 14 (.ia 3 (.t 12) (.t 13)),
         o 15 (.ld (some 3) (.t 14)),
         o 16 (.callv (.t 11) [(.t 15)])])
       (.cond (.t 16)
        (.seq
         (rg [
           o 17 (.mv (.t 5)),
           o 4 (.mv (.t 17))])
         .ret)
        .skip))))
    (rg [
      o 18 (.bin .add (.t 8) (kc 1)),
      o 8 (.mv (.t 18))]))))
def a20 : AF := ⟨19,
 (.seq
  (rg [
    o 4 (.mv (kc 0))])
  (.seq
   (.seq
    (rg [
      o 6 (.mv (.t 0)),
      o 7 (.len false (.t 6)),
      o 8 (.mv (kc 0))])
    (.block 0
     (.loop [0, 1, 7, 8] a20_0)))
   (.seq
    (rg [
      o 4 (.mv (kc (-1)))])
    .ret))),
 [.t 4], false⟩
/-! 21: wagoner/pend.First$1; loops: [] -/
def a21 : AF := ⟨6,
 (.seq
  (rg [
    o 1 (.box (.t 0)),
    o 2 (.mv (kb false))])
  (.seq
   (rg [
     o 3 (.fa 2 (.t 1)),
     o 4 (.ld none (.t 3)),
     o 5 (.bin .lss (.t 4) (kc 0)),
     o 2 (.mv (.t 5))])
   .ret)),
 [.t 2], false⟩
/-! 22: slices.Clone[[]wagoner/api.Entry,wagoner/api.Entry]; loops: [] -/
def ans : List (Nat × Ann) := [
  (3, ⟨[], [[0, 1, 5, 6], [1, 7, 8, 9], [1, 7, 10]], false, false⟩),
  (4, ⟨[(3, 3, 2)], [], false, false⟩),
  (5, ⟨[(4, 0, 2)], [[0, 5, 6, 7, 8, 9, 10, 11, 12], [0, 5, 7, 8, 9, 10, 11, 12, 16, 17, 18]], false, false⟩),
  (6, ⟨[], [[0, 3]], false, false⟩),
  (7, ⟨[(1, 3, 9)], [], false, false⟩),
  (8, ⟨[(1, 1, 8)], [], false, false⟩),
  (9, ⟨[(0, 0, 2), (0, 1, 2)], [[0, 1, 6]], false, false⟩),
  (10, ⟨[(0, 0, 103), (4, 9, 2)], [], false, false⟩),
  (11, ⟨[(0, 0, 103), (3, 8, 2)], [], false, false⟩),
  (12, ⟨[(0, 0, 2), (0, 1, 2), (1, 0, 103), (1, 1, 103)], [[0, 1, 6, 7, 8]], false, false⟩),
  (13, ⟨[], [[0, 1, 5]], false, false⟩),
  (14, ⟨[], [[0, 3]], false, false⟩),
  (15, ⟨[(0, 0, 103)], [], false, false⟩),
  (16, ⟨[(0, 0, 103)], [], false, false⟩),
  (17, ⟨[(1, 1, 8), (0, 0, 2)], [], false, false⟩),
  (18, ⟨[(0, 0, 2)], [], false, false⟩),
  (19, ⟨[], [[0, 3, 4, 5]], false, false⟩),
  (20, ⟨[], [[0, 1, 7, 8]], false, false⟩),
  (21, ⟨[], [], false, false⟩),
  (22, ⟨[], [], true, true⟩)]
theorem s3 : compS Try.prog 3 (anOf ans 3) = some a3 := by kernel_rfl
theorem s4 : compS Try.prog 4 (anOf ans 4) = some a4 := by kernel_rfl
theorem s5 : compS Try.prog 5 (anOf ans 5) = some a5 := by kernel_rfl
theorem s6 : compS Try.prog 6 (anOf ans 6) = some a6 := by kernel_rfl
theorem s7 : compS Try.prog 7 (anOf ans 7) = some a7 := by kernel_rfl
theorem s8 : compS Try.prog 8 (anOf ans 8) = some a8 := by kernel_rfl
theorem s9 : compS Try.prog 9 (anOf ans 9) = some a9 := by kernel_rfl
theorem s10 : compS Try.prog 10 (anOf ans 10) = some a10 := by kernel_rfl
theorem s11 : compS Try.prog 11 (anOf ans 11) = some a11 := by kernel_rfl
theorem s12 : compS Try.prog 12 (anOf ans 12) = some a12 := by kernel_rfl
theorem s13 : compS Try.prog 13 (anOf ans 13) = some a13 := by kernel_rfl
theorem s14 : compS Try.prog 14 (anOf ans 14) = some a14 := by kernel_rfl
theorem s15 : compS Try.prog 15 (anOf ans 15) = some a15 := by kernel_rfl
theorem s16 : compS Try.prog 16 (anOf ans 16) = some a16 := by kernel_rfl
theorem s17 : compS Try.prog 17 (anOf ans 17) = some a17 := by kernel_rfl
theorem s18 : compS Try.prog 18 (anOf ans 18) = some a18 := by kernel_rfl
theorem s19 : compS Try.prog 19 (anOf ans 19) = some a19 := by kernel_rfl
theorem s20 : compS Try.prog 20 (anOf ans 20) = some a20 := by kernel_rfl
theorem s21 : compS Try.prog 21 (anOf ans 21) = some a21 := by kernel_rfl
def clones : List (Nat × Nat × Nat) := [(22, 3, 32)]
theorem clones_ok : ∀ f sz bytes, (f, sz, bytes) ∈ clones → 0 < sz ∧ ∃ an, compS Try.prog f an = some (cloneAF sz bytes) := by
  intro f sz bytes h
  rcases List.mem_cons.1 h with h | h
  · cases h; exact ⟨by decide, ⟨[], [], true, false⟩, by kernel_rfl⟩
  cases h
noncomputable abbrev call : Phi := callU (progOf Try.prog (anOf ans)) (clonePr clones)
theorem c22 (rows : List (List D)) (h1 : okRows 3 rows = true) (h2 : rows.length * 32 ≤ 140737488355328) (h3 : rows.length ≤ 9223372036854775807) (H : Hp) : callIso call 22 [.one (.d (.l rows))] H = some (.one (.sl (H.length + 1) 3 0 rows.length), H ++ [.dead, .arr 3 rows 0]) := clone_call rfl rfl rows h1 h2 h3 H
end Go.Proofs.Ytaaonidocakiiaa
