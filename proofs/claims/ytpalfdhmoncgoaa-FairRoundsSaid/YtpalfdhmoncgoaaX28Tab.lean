import Derived.Test.YtpalfdhmoncgoaaVid
import Derived.Test.YtpalfdhmoncgoaaChecked
import Derived.KernelRfl
set_option linter.unusedSimpArgs false
set_option linter.unusedVariables false
namespace Go.Proofs.Ytpalfdhmoncgoaa
open Go.Vi
/-! 3: wagoner/wagonerlaw28.FairRounds; loops: [[5, 6, 7, 8, 9, 10], [5, 7, 8, 9, 11]] -/
def a3_0 : AC :=
 (.seq
  (.seq
   (rg [
     o 18 (.mv (.t 10)),
     o 19 (.mv (.t 6)),
     o 20 (.len false (.t 19)),
     o 21 (.bin .lss (.t 18) (.t 20))])
   (.cond (.t 21)
    .skip
    (.exit 0)))
  (.seq
   (.block 1
    (.block 2
     (.seq
      (rg [
        o 25 (.mv (.t 6)),
        o 26 (.mv (.t 10)),
        o 27 (.ia 6 (.t 25) (.t 26)),
        o 28 (.fa 0 (.t 27)),
        o 29 (.ld none (.t 28)),
        o 30 (.bin .eql (.t 29) (kc 9)),
        o 24 (.mv (.t 30))])
      (.cond (.t 24)
       (rg [
         o 31 (.mv (.t 9)),
         o 32 (.bin .add (.t 31) (kc 1)),
         o 9 (.mv (.t 32))])
       (.seq
        (rg [
          o 34 (.mv (.t 6)),
          o 35 (.mv (.t 10)),
          o 36 (.ia 6 (.t 34) (.t 35)),
          o 37 (.fa 0 (.t 36)),
          o 38 (.ld none (.t 37)),
          o 39 (.bin .eql (.t 38) (kc 5)),
          o 40 (.mv (.t 39)),
          og 41 40 true (.mv (.t 6)),
          og 42 40 true (.mv (.t 10)),
          og 43 40 true (.ia 6 (.t 41) (.t 42)),
          og 44 40 true (.fa 1 (.t 43)),
          og 45 40 true (.ld none (.t 44)),
          og 46 40 true (.bin .geq (.t 45) (kc 0)),
          o 47 (.pick (.t 40) (.t 46) (kb false)),
          o 48 (.mv (.t 47)),
          og 49 48 true (.mv (.t 6)),
          og 50 48 true (.mv (.t 10)),
          og 51 48 true (.ia 6 (.t 49) (.t 50)),
          og 52 48 true (.fa 1 (.t 51)),
          og 53 48 true (.ld none (.t 52)),
          og 54 48 true (.bin .lss (.t 53) (kc 20)),
          o 55 (.pick (.t 48) (.t 54) (kb false)),
          o 33 (.mv (.t 55))])
        (.cond (.t 33)
         (rg [
           o 56 (.mv (.t 6)),
           o 57 (.mv (.t 10)),
           o 58 (.ia 6 (.t 56) (.t 57)),
           o 59 (.fa 1 (.t 58)),
           o 60 (.ld none (.t 59)),
           o 61 (.iar 20 1 (.t 7) (.t 60)),
           o 62 (.ld none (.t 61)),
           o 63 (.bin .add (.t 62) (kc 1)),
           o 64 (.iar 20 1 (.t 7) (.t 60)),
           on (.st 1 (.t 64) (.t 63))])
         (.seq
          (rg [
            o 66 (.mv (.t 6)),
            o 67 (.mv (.t 10)),
            o 68 (.ia 6 (.t 66) (.t 67)),
            o 69 (.fa 0 (.t 68)),
            o 70 (.ld none (.t 69)),
            o 71 (.bin .eql (.t 70) (kc 6)),
            o 72 (.mv (.t 71)),
            og 73 72 true (.mv (.t 6)),
            og 74 72 true (.mv (.t 10)),
            og 75 72 true (.ia 6 (.t 73) (.t 74)),
            og 76 72 true (.fa 2 (.t 75)),
            og 77 72 true (.ld none (.t 76)),
            og 78 72 true (.bin .geq (.t 77) (kc 0)),
            o 79 (.pick (.t 72) (.t 78) (kb false)),
            o 80 (.mv (.t 79)),
            og 81 80 true (.mv (.t 6)),
            og 82 80 true (.mv (.t 10)),
            og 83 80 true (.ia 6 (.t 81) (.t 82)),
            og 84 80 true (.fa 2 (.t 83)),
            og 85 80 true (.ld none (.t 84)),
            og 86 80 true (.bin .lss (.t 85) (kc 20)),
            o 87 (.pick (.t 80) (.t 86) (kb false)),
            o 88 (.mv (.t 87)),
            og 89 88 true (.mv (.t 6)),
            og 90 88 true (.mv (.t 10)),
            og 91 88 true (.ia 6 (.t 89) (.t 90)),
            og 92 88 true (.fa 3 (.t 91)),
            og 93 88 true (.ld none (.t 92)),
            og 94 88 true (.bin .eql (.t 93) (kc 0)),
            o 95 (.pick (.t 88) (.t 94) (kb false)),
            o 65 (.mv (.t 95))])
          (.cond (.t 65)
           (rg [
             o 96 (.mv (.t 6)),
             o 97 (.mv (.t 10)),
             o 98 (.ia 6 (.t 96) (.t 97)),
             o 99 (.fa 2 (.t 98)),
             o 100 (.ld none (.t 99)),
             o 101 (.iar 20 1 (.t 8) (.t 100)),
             o 102 (.ld none (.t 101)),
             o 103 (.bin .add (.t 102) (kc 1)),
             o 104 (.iar 20 1 (.t 8) (.t 100)),
             on (.st 1 (.t 104) (.t 103))])
           (.seq
            (rg [
              o 4 (.mv (kb false))])
            .ret)))))))))
   (rg [
     o 22 (.mv (.t 10)),
     o 23 (.bin .add (.t 22) (kc 1)),
     o 10 (.mv (.t 23))])))
def a3_1 : AC :=
 (.seq
  (.seq
   (rg [
     o 105 (.mv (.t 11)),
     o 106 (.bin .lss (.t 105) (kc 20))])
   (.cond (.t 106)
    .skip
    (.exit 3)))
  (.seq
   (.block 4
    (.seq
     (rg [
       o 109 (.mv (.t 11)),
       o 110 (.iar 20 1 (.t 7) (.t 109)),
       o 111 (.ld none (.t 110)),
       o 112 (.bin .eql (.t 111) (kc 1)),
       o 113 (.mv (.t 11)),
       o 114 (.fa 0 (.t 5)),
       o 115 (.ld none (.t 114)),
       o 116 (.bin .lss (.t 113) (.t 115)),
       o 117 (.eqb true (.t 112) (.t 116)),
       o 118 (.mv (.t 117)),
       og 119 118 false (.mv (.t 11)),
       og 120 118 false (.iar 20 1 (.t 7) (.t 119)),
       og 121 118 false (.ld none (.t 120)),
       og 122 118 false (.bin .gtr (.t 121) (kc 1)),
       o 123 (.pick (.t 118) (kb true) (.t 122)),
       o 124 (.mv (.t 123)),
       og 125 124 false (.mv (.t 11)),
       og 126 124 false (.iar 20 1 (.t 8) (.t 125)),
       og 127 124 false (.ld none (.t 126)),
       og 128 124 false (.bin .eql (.t 127) (kc 1)),
       og 129 124 false (.mv (.t 11)),
       og 130 124 false (.fa 0 (.t 5)),
       og 131 124 false (.ld none (.t 130)),
       og 132 124 false (.bin .mul (kc 2) (.t 131)),
       og 133 124 false (.bin .sub (.t 132) (kc 2)),
       og 134 124 false (.bin .lss (.t 129) (.t 133)),
       og 135 124 false (.eqb true (.t 128) (.t 134)),
       o 136 (.pick (.t 124) (kb true) (.t 135)),
       o 137 (.mv (.t 136)),
       og 138 137 false (.mv (.t 11)),
       og 139 137 false (.iar 20 1 (.t 8) (.t 138)),
       og 140 137 false (.ld none (.t 139)),
       og 141 137 false (.bin .gtr (.t 140) (kc 1)),
       o 142 (.pick (.t 137) (kb true) (.t 141))])
     (.cond (.t 142)
      (.seq
       (rg [
         o 4 (.mv (kb false))])
       .ret)
      .skip)))
   (rg [
     o 107 (.mv (.t 11)),
     o 108 (.bin .add (.t 107) (kc 1)),
     o 11 (.mv (.t 108))])))
def a3 : AF := ⟨148,
 (.seq
  (rg [
    o 2 (.box (.t 0)),
    o 4 (.mv (kb false))])
  (.seq
   (rg [
     o 12 (.ld (some 12) (.t 2)),
     o 13 (.callp 4 [(.t 12)]),
     o 5 (.alloc [.d (.i .i64 0), .d (.i .i64 0), .d (.i .i64 0), .d (.i .i64 0), .d (.i .i64 0), .d (.i .i64 0), .d (.i .i64 0), .d (.i .i64 0), .d (.i .i64 0), .d (.i .i64 0), .d (.i .i64 0), .d (.i .i64 0), .d (.i .i64 0), .d (.i .i64 0), .d (.i .i64 0)]),
     on (.st 15 (.t 5) (.t 13))])
   (.seq
    (rg [
      o 14 (.ld (some 15) (.t 5)),
      o 15 (.mv (.t 1)),
      o 16 (.callp 6 [(.t 15)]),
      o 17 (.callp 5 [(.t 14), (.t 16)]),
      o 6 (.mv (.t 17))])
    (.seq
     (rg [
       o 7 (.alloc [.d (.i .i64 0), .d (.i .i64 0), .d (.i .i64 0), .d (.i .i64 0), .d (.i .i64 0), .d (.i .i64 0), .d (.i .i64 0), .d (.i .i64 0), .d (.i .i64 0), .d (.i .i64 0), .d (.i .i64 0), .d (.i .i64 0), .d (.i .i64 0), .d (.i .i64 0), .d (.i .i64 0), .d (.i .i64 0), .d (.i .i64 0), .d (.i .i64 0), .d (.i .i64 0), .d (.i .i64 0)]),
       o 8 (.alloc [.d (.i .i64 0), .d (.i .i64 0), .d (.i .i64 0), .d (.i .i64 0), .d (.i .i64 0), .d (.i .i64 0), .d (.i .i64 0), .d (.i .i64 0), .d (.i .i64 0), .d (.i .i64 0), .d (.i .i64 0), .d (.i .i64 0), .d (.i .i64 0), .d (.i .i64 0), .d (.i .i64 0), .d (.i .i64 0), .d (.i .i64 0), .d (.i .i64 0), .d (.i .i64 0), .d (.i .i64 0)])])
     (.seq
      (rg [
        o 9 (.mv (kc 0))])
      (.seq
       (.seq
        (rg [
          o 10 (.mv (kc 0))])
        (.block 0
         (.loop [5, 6, 7, 8, 9, 10] a3_0)))
       (.seq
        (.seq
         (rg [
           o 11 (.mv (kc 0))])
         (.block 3
          (.loop [5, 7, 8, 9, 11] a3_1)))
        (.seq
         (rg [
           o 143 (.callp 7 []),
           o 144 (.mv (.t 143)),
           og 145 144 true (.mv (.t 9)),
           og 146 144 true (.bin .eql (.t 145) (kc 1)),
           o 147 (.pick (.t 144) (.t 146) (kb false)),
           o 4 (.mv (.t 147))])
         .ret)))))))),
 [.t 4], false⟩
/-! 4: wagoner/wagonerref23.Conf; loops: [] -/
def a4 : AF := ⟨90,
 (.seq
  (rg [
    o 1 (.box (.t 0)),
    o 2 (.alloc [.d (.i .i64 0), .d (.i .i64 0), .d (.i .i64 0), .d (.i .i64 0), .d (.i .i64 0), .d (.i .i64 0), .d (.i .i64 0), .d (.i .i64 0), .d (.i .i64 0), .d (.i .i64 0), .d (.i .i64 0), .d (.i .i64 0), .d (.i .i64 0), .d (.i .i64 0), .d (.i .i64 0)])])
  (.seq
   (rg [
     o 4 (.iar 12 1 (.t 1) (kc 0)),
     o 5 (.ld none (.t 4)),
     o 6 (.bin .rem (.t 5) (kx (.d (.i .u8 4)))),
     o 7 (.cvi .i64 (.t 6)),
     o 8 (.bin .add (kc 1) (.t 7)),
     o 9 (.iar 12 1 (.t 1) (kc 1)),
     o 10 (.ld none (.t 9)),
     o 11 (.bin .rem (.t 10) (kx (.d (.i .u8 80)))),
     o 12 (.cvi .i64 (.t 11)),
     o 13 (.bin .add (kc 20) (.t 12)),
     o 14 (.iar 12 1 (.t 1) (kc 2)),
     o 15 (.ld none (.t 14)),
     o 16 (.cvi .i64 (.t 15)),
     o 17 (.iar 12 1 (.t 1) (kc 3)),
     o 18 (.ld none (.t 17)),
     o 19 (.bin .rem (.t 18) (kx (.d (.i .u8 40)))),
     o 20 (.cvi .i64 (.t 19)),
     o 21 (.bin .add (kc 1) (.t 20)),
     o 22 (.iar 12 1 (.t 1) (kc 4)),
     o 23 (.ld none (.t 22)),
     o 24 (.bin .rem (.t 23) (kx (.d (.i .u8 100)))),
     o 25 (.cvi .i64 (.t 24)),
     o 26 (.bin .add (kc 100) (.t 25)),
     o 27 (.iar 12 1 (.t 1) (kc 5)),
     o 28 (.ld none (.t 27)),
     o 29 (.bin .rem (.t 28) (kx (.d (.i .u8 4)))),
     o 30 (.cvi .i64 (.t 29)),
     o 31 (.bin .add (kc 1) (.t 30)),
     o 32 (.iar 12 1 (.t 1) (kc 6)),
     o 33 (.ld none (.t 32)),
     o 34 (.bin .rem (.t 33) (kx (.d (.i .u8 4)))),
     o 35 (.cvi .i64 (.t 34)),
     o 36 (.iar 12 1 (.t 1) (kc 7)),
     o 37 (.ld none (.t 36)),
     o 38 (.bin .rem (.t 37) (kx (.d (.i .u8 40)))),
     o 39 (.cvi .i64 (.t 38)),
     o 40 (.bin .add (kc 16) (.t 39)),
     o 41 (.iar 12 1 (.t 1) (kc 8)),
     o 42 (.ld none (.t 41)),
     o 43 (.bin .rem (.t 42) (kx (.d (.i .u8 8)))),
     o 44 (.cvi .i64 (.t 43)),
     o 45 (.bin .add (kc 1) (.t 44)),
     o 46 (.iar 12 1 (.t 1) (kc 9)),
     o 47 (.ld none (.t 46)),
     o 48 (.bin .rem (.t 47) (kx (.d (.i .u8 6)))),
     o 49 (.cvi .i64 (.t 48)),
     o 50 (.bin .add (kc 1) (.t 49)),
     o 51 (.iar 12 1 (.t 1) (kc 10)),
     o 52 (.ld none (.t 51)),
     o 53 (.bin .rem (.t 52) (kx (.d (.i .u8 3)))),
     o 54 (.cvi .i64 (.t 53)),
     o 55 (.bin .add (kc 1) (.t 54)),
     o 56 (.iar 12 1 (.t 1) (kc 11)),
     o 57 (.ld none (.t 56)),
     o 58 (.bin .rem (.t 57) (kx (.d (.i .u8 20)))),
     o 59 (.cvi .i64 (.t 58)),
     o 60 (.bin .add (kc 1) (.t 59)),
     o 61 (.build [.d (.i .i64 0), .d (.i .i64 0), .d (.i .i64 0), .d (.i .i64 0), .d (.i .i64 0), .d (.i .i64 0), .d (.i .i64 0), .d (.i .i64 0), .d (.i .i64 0), .d (.i .i64 0), .d (.i .i64 0), .d (.i .i64 0), .d (.i .i64 0), .d (.i .i64 0), .d (.i .i64 0)] [(0, 1, (.t 8)), (1, 1, (.t 13)), (2, 1, (.t 16)), (3, 1, (.t 21)), (4, 1, (.t 26)), (5, 1, (.t 31)), (7, 1, (.t 35)), (8, 1, (.t 40)), (9, 1, (.t 45)), (10, 1, (.t 50)), (11, 1, (.t 55)), (13, 1, (.t 60)), (14, 1, (kc 1099511627776))]),
     o 3 (.alloc [.d (.i .i64 0), .d (.i .i64 0), .d (.i .i64 0), .d (.i .i64 0), .d (.i .i64 0), .d (.i .i64 0), .d (.i .i64 0), .d (.i .i64 0), .d (.i .i64 0), .d (.i .i64 0), .d (.i .i64 0), .d (.i .i64 0), .d (.i .i64 0), .d (.i .i64 0), .d (.i .i64 0)]),
     on (.st 15 (.t 3) (.t 61))])
   (.seq
    (rg [
      o 62 (.fa 4 (.t 3)),
      o 63 (.ld none (.t 62)),
      o 64 (.iar 12 1 (.t 1) (kc 5)),
      o 65 (.ld none (.t 64)),
      o 66 (.cvi .i64 (.t 65)),
      o 67 (.bin .add (.t 63) (.t 66)),
      o 68 (.fa 6 (.t 3)),
      on (.st 1 (.t 68) (.t 67))])
    (.seq
     (rg [
       o 69 (.fa 11 (.t 3)),
       o 70 (.ld none (.t 69)),
       o 71 (.iar 12 1 (.t 1) (kc 10)),
       o 72 (.ld none (.t 71)),
       o 73 (.bin .rem (.t 72) (kx (.d (.i .u8 5)))),
       o 74 (.cvi .i64 (.t 73)),
       o 75 (.bin .add (.t 70) (.t 74)),
       o 76 (.fa 12 (.t 3)),
       on (.st 1 (.t 76) (.t 75))])
     (.seq
      (.seq
       (rg [
         o 77 (.iar 12 1 (.t 1) (kc 8)),
         o 78 (.ld none (.t 77)),
         o 79 (.bin .gtr (.t 78) (kx (.d (.i .u8 240))))])
       (.cond (.t 79)
        (.seq
         (rg [
           o 80 (.iar 12 1 (.t 1) (kc 3)),
           o 81 (.ld none (.t 80)),
           o 82 (.bin .rem (.t 81) (kx (.d (.i .u8 30)))),
           o 83 (.cvi .i64 (.t 82)),
           o 84 (.fa 14 (.t 3)),
           on (.st 1 (.t 84) (.t 83))])
         (rg [
           o 85 (.fa 14 (.t 3)),
           o 86 (.ld none (.t 85)),
           o 87 (.mm true (.t 86) (kc 1)),
           o 88 (.fa 14 (.t 3)),
           on (.st 1 (.t 88) (.t 87))]))
        .skip))
      (.seq
       (rg [
         o 89 (.ld (some 15) (.t 3)),
         on (.st 15 (.t 2) (.t 89))])
       .ret)))))),
 [.c (some 15) 2], false⟩
/-! 5: wagoner/fair.Round; loops: [[2, 5, 6, 19, 20, 21], [6, 36, 37, 38]] -/
def a5_0 : AC :=
 (.seq
  (rg [
    o 22 (.bin .lss (.t 21) (.t 20))])
  (.seq
   (.cond (.t 22)
    .skip
    (.exit 0))
   (.seq
    (.block 1
     (.seq
      (rg [
        o 23 (.ia 1 (.t 19) (.t 21)),
        o 24 (.ld none (.t 23)),
        o 8 (.mv (.t 24))])
      (rg [
        o 25 (.mv (.t 6)),
        o 26 (.mv (.t 8)),
        o 27 (.build [.d (.i .i64 0), .d (.i .i64 0), .d (.i .i64 0), .d (.i .i64 0), .d (.s []), .ns] [(0, 1, (kc 5)), (1, 1, (.t 26))]),
        o 28 (.bsl 6 [[.i .i64 0, .i .i64 0, .i .i64 0, .i .i64 0, .s [], .l []]] [(0, (.t 27))]),
        o 29 (.app false 6 72 (.t 25) (.t 28)),
        o 6 (.mv (.t 29))])))
    (rg [
      o 30 (.bin .add (.t 21) (kc 1)),
      o 21 (.mv (.t 30))]))))
def a5_1 : AC :=
 (.seq
  (rg [
    o 39 (.bin .lss (.t 38) (.t 37))])
  (.seq
   (.cond (.t 39)
    .skip
    (.exit 2))
   (.seq
    (.block 3
     (.seq
      (rg [
        o 40 (.ia 1 (.t 36) (.t 38)),
        o 41 (.ld none (.t 40)),
        o 10 (.mv (.t 41))])
      (rg [
        o 42 (.mv (.t 6)),
        o 43 (.mv (.t 10)),
        o 44 (.build [.d (.i .i64 0), .d (.i .i64 0), .d (.i .i64 0), .d (.i .i64 0), .d (.s []), .ns] [(0, 1, (kc 6)), (2, 1, (.t 43))]),
        o 45 (.bsl 6 [[.i .i64 0, .i .i64 0, .i .i64 0, .i .i64 0, .s [], .l []]] [(0, (.t 44))]),
        o 46 (.app false 6 72 (.t 42) (.t 45)),
        o 6 (.mv (.t 46))])))
    (rg [
      o 47 (.bin .add (.t 38) (kc 1)),
      o 38 (.mv (.t 47))]))))
def a5 : AF := ⟨49,
 (.seq
  (rg [
    o 2 (.box (.t 0)),
    oz 4 (.mv (kx (.ns)))])
  (.seq
   (rg [
     o 11 (.mv (.t 1)),
     o 12 (.build [.ns] [(0, 1, (.t 11))]),
     o 13 (.box (.t 12)),
     o 5 (.mv (.t 13))])
   (.seq
    (rg [
      o 14 (.build [.d (.i .i64 0), .d (.i .i64 0), .d (.i .i64 0), .d (.i .i64 0), .d (.s []), .ns] [(0, 1, (kc 9))]),
      o 15 (.bsl 6 [[.i .i64 0, .i .i64 0, .i .i64 0, .i .i64 0, .s [], .l []]] [(0, (.t 14))]),
      o 6 (.mv (.t 15))])
    (.seq
     (.seq
      (rg [
        o 16 (.mv (.t 5)),
        o 17 (.fa 0 (.t 2)),
        o 18 (.ld none (.t 17)),
        o 19 (.call 8 [(.t 16), (.t 18)]),
        o 20 (.len false (.t 19)),
        o 21 (.mv (kc 0))])
      (.block 0
       (.loop [2, 5, 6, 19, 20, 21] a5_0)))
     (.seq
      (.seq
       (rg [
         o 31 (.mv (.t 5)),
         o 32 (.fa 0 (.t 2)),
         o 33 (.ld none (.t 32)),
         o 34 (.bin .mul (kc 2) (.t 33)),
         o 35 (.bin .sub (.t 34) (kc 2)),
         o 36 (.call 8 [(.t 31), (.t 35)]),
         o 37 (.len false (.t 36)),
         o 38 (.mv (kc 0))])
       (.block 2
        (.loop [6, 36, 37, 38] a5_1)))
      (.seq
       (rg [
         o 48 (.mv (.t 6)),
         o 4 (.mv (.t 48))])
       .ret)))))),
 [.t 4], false⟩
/-! 6: wagoner/wagonerlaw28.picks; loops: [[0, 3, 4]] -/
def a6_0 : AC :=
 (.seq
  (.seq
   (rg [
     o 5 (.mv (.t 4)),
     o 6 (.mv (.t 0)),
     o 7 (.len false (.t 6)),
     o 8 (.bin .lss (.t 5) (.t 7)),
     o 9 (.mv (.t 8)),
     og 10 9 true (.mv (.t 4)),
     og 11 9 true (.bin .lss (.t 10) (kc 30)),
     o 12 (.pick (.t 9) (.t 11) (kb false))])
   (.cond (.t 12)
    .skip
    (.exit 0)))
  (.seq
   (.block 1
    (rg [
      o 15 (.mv (.t 3)),
      o 16 (.mv (.t 0)),
      o 17 (.mv (.t 4)),
      o 18 (.ia 1 (.t 16) (.t 17)),
      o 19 (.ld none (.t 18)),
      o 20 (.cvi .i64 (.t 19)),
      o 21 (.bsl 1 [[.i .i64 0]] [(0, (.t 20))]),
      o 22 (.app false 1 8 (.t 15) (.t 21)),
      o 3 (.mv (.t 22))]))
   (rg [
     o 13 (.mv (.t 4)),
     o 14 (.bin .add (.t 13) (kc 1)),
     o 4 (.mv (.t 14))])))
def a6 : AF := ⟨24,
 (.seq
  (rg [
    oz 2 (.mv (kx (.ns)))])
  (.seq
   (rg [
     o 3 (.own 1)])
   (.seq
    (.seq
     (rg [
       o 4 (.mv (kc 0))])
     (.block 0
      (.loop [0, 3, 4] a6_0)))
    (.seq
     (rg [
       o 23 (.mv (.t 3)),
       o 2 (.mv (.t 23))])
     .ret)))),
 [.t 2], false⟩
/-! 7: wagoner/wagonerlaw28.awake; loops: [] -/
def a7 : AF := ⟨22,
 (.seq
  (rg [
    o 0 (.mv (kb false))])
  (.seq
   (rg [
     o 2 (.build [.d (.i .u8 0), .d (.i .u8 0), .d (.i .u8 0), .d (.i .u8 0), .d (.i .u8 0), .d (.i .u8 0), .d (.i .u8 0), .d (.i .u8 0), .d (.i .u8 0), .d (.i .u8 0), .d (.i .u8 0), .d (.i .u8 0)] []),
     o 3 (.callp 4 [(.t 2)]),
     o 4 (.callp 5 [(.t 3), (kx (.ns))]),
     o 1 (.mv (.t 4))])
   (.seq
    (rg [
      o 5 (.mv (.t 1)),
      o 6 (.len false (.t 5)),
      o 7 (.bin .eql (.t 6) (kc 2)),
      o 8 (.mv (.t 7)),
      og 9 8 true (.mv (.t 1)),
      og 10 8 true (.ia 6 (.t 9) (kc 0)),
      og 11 8 true (.fa 0 (.t 10)),
      og 12 8 true (.ld none (.t 11)),
      og 13 8 true (.bin .eql (.t 12) (kc 9)),
      o 14 (.pick (.t 8) (.t 13) (kb false)),
      o 15 (.mv (.t 14)),
      og 16 15 true (.mv (.t 1)),
      og 17 15 true (.ia 6 (.t 16) (kc 1)),
      og 18 15 true (.fa 0 (.t 17)),
      og 19 15 true (.ld none (.t 18)),
      og 20 15 true (.bin .eql (.t 19) (kc 5)),
      o 21 (.pick (.t 15) (.t 20) (kb false)),
      o 0 (.mv (.t 21))])
    .ret))),
 [.t 0], false⟩
/-! 8: (*wagoner/fair.picker).order; loops: [[0, 1, 5, 12, 13], [0, 5, 7]] -/
def a8_0 : AC :=
 (.seq
  (rg [
    o 14 (.bin .lss (.t 13) (.t 12))])
  (.seq
   (.cond (.t 14)
    .skip
    (.exit 0))
   (.seq
    (.block 1
     (.seq
      (rg [
        o 15 (.mv (.t 13)),
        o 6 (.mv (.t 15))])
      (rg [
        o 16 (.mv (.t 5)),
        o 17 (.mv (.t 6)),
        o 18 (.mv (.t 6)),
        o 19 (.ia 1 (.t 16) (.t 17)),
        on (.st 1 (.t 19) (.t 18))])))
    (rg [
      o 20 (.bin .add (.t 13) (kc 1)),
      o 13 (.mv (.t 20))]))))
def a8_1 : AC :=
 (.seq
  (.seq
   (rg [
     o 23 (.mv (.t 5)),
     o 24 (.len false (.t 23)),
     o 25 (.bin .gtr (.t 24) (kc 0))])
   (.cond (.t 25)
    .skip
    (.exit 2)))
  (.block 3
   (.seq
    (rg [
      o 8 (.mv (kc 0))])
    (.seq
     (.seq
      (rg [
        o 26 (.mv (.t 0)),
        o 27 (.nck (.t 26)),
        o 28 (.fa 0 (.t 27)),
        o 29 (.ld none (.t 28)),
        o 30 (.len false (.t 29)),
        o 31 (.bin .gtr (.t 30) (kc 0))])
      (.cond (.t 31)
       (.seq
        (rg [
          o 32 (.mv (.t 0)),
          o 33 (.nck (.t 32)),
          o 34 (.fa 0 (.t 33)),
          o 35 (.ld none (.t 34)),
          o 36 (.ia 1 (.t 35) (kc 0)),
          o 37 (.ld none (.t 36)),
          o 38 (.mv (.t 5)),
          o 39 (.len false (.t 38)),
          o 40 (.bin .rem (.t 37) (.t 39)),
          o 8 (.mv (.t 40))])
        (rg [
          o 41 (.mv (.t 0)),
          o 42 (.mv (.t 0)),
          o 43 (.nck (.t 42)),
          o 44 (.fa 0 (.t 43)),
          o 45 (.ld none (.t 44)),
          o 46 (.slc 1 (.t 45) (some (kc 1)) none none),
          o 47 (.nck (.t 41)),
          o 48 (.fa 0 (.t 47)),
          on (.st 1 (.t 48) (.t 46))]))
       .skip))
     (.seq
      (rg [
        o 49 (.mv (.t 7)),
        o 50 (.mv (.t 5)),
        o 51 (.mv (.t 8)),
        o 52 (.ia 1 (.t 50) (.t 51)),
        o 53 (.ld none (.t 52)),
        o 54 (.bsl 1 [[.i .i64 0]] [(0, (.t 53))]),
        o 55 (.app false 1 8 (.t 49) (.t 54)),
        o 7 (.mv (.t 55))])
      (rg [
        o 56 (.mv (.t 5)),
        o 57 (.mv (.t 8)),
        o 58 (.mv (.t 8)),
        o 59 (.bin .add (.t 58) (kc 1)),
        o 60 (.call 9 [(.t 56), (.t 57), (.t 59)]),
        o 5 (.mv (.t 60))]))))))
def a8 : AF := ⟨62,
 (.seq
  (rg [
    oz 4 (.mv (kx (.ns)))])
  (.seq
   (rg [
     o 9 (.mv (.t 1)),
     o 10 (.mks 1 8 [.i .i64 0] (.t 9) (.t 9)),
     o 5 (.mv (.t 10))])
   (.seq
    (.seq
     (rg [
       o 11 (.mv (.t 5)),
       o 12 (.len false (.t 11)),
       o 13 (.mv (kc 0))])
     (.block 0
      (.loop [0, 1, 5, 12, 13] a8_0)))
    (.seq
     (rg [
       o 21 (.mv (.t 1)),
       o 22 (.mks 1 8 [.i .i64 0] (kc 0) (.t 21)),
       o 7 (.mv (.t 22))])
     (.seq
      (.block 2
       (.loop [0, 5, 7] a8_1))
      (.seq
       (rg [
         o 61 (.mv (.t 7)),
         o 4 (.mv (.t 61))])
       .ret)))))),
 [.t 4], false⟩
/-! 9: slices.Delete[[]int,int]; loops: [] -/
def ans : List (Nat × Ann) := [
  (3, ⟨[], [[5, 6, 7, 8, 9, 10], [5, 7, 8, 9, 11]], false, false⟩),
  (4, ⟨[], [], false, false⟩),
  (5, ⟨[(3, 3, 8), (8, 5, 8), (0, 1, 2)], [[2, 5, 6, 19, 20, 21], [6, 36, 37, 38]], false, false⟩),
  (6, ⟨[(0, 0, 2), (1, 0, 101)], [[0, 3, 4]], false, false⟩),
  (7, ⟨[], [], false, false⟩),
  (8, ⟨[(14, 4, 8), (0, 0, 2)], [[0, 1, 5, 12, 13], [0, 5, 7]], false, false⟩),
  (9, ⟨[], [], true, true⟩)]
theorem s3 : compS Try.prog 3 (anOf ans 3) = some a3 := by kernel_rfl
theorem s4 : compS Try.prog 4 (anOf ans 4) = some a4 := by kernel_rfl
theorem s5 : compS Try.prog 5 (anOf ans 5) = some a5 := by kernel_rfl
theorem s6 : compS Try.prog 6 (anOf ans 6) = some a6 := by kernel_rfl
theorem s7 : compS Try.prog 7 (anOf ans 7) = some a7 := by kernel_rfl
theorem s8 : compS Try.prog 8 (anOf ans 8) = some a8 := by kernel_rfl
def lib : Lib := ⟨[], [], [(9, 1)]⟩
noncomputable abbrev call : Phi := callU (progOf Try.prog (anOf ans)) (libPr lib)
end Go.Proofs.Ytpalfdhmoncgoaa
