import Derived.Test.YthijgiinafanfaaVic
import Derived.Test.YthijgiinafanfaaChecked
import Derived.KernelRfl
set_option linter.unusedSimpArgs false
set_option linter.unusedVariables false
namespace Go.Proofs.Ythijgiinafanfaa
open Go.Vi
/-! 3: wagoner/wagonerlaw09.SegmentScans; loops: [] -/
def a3 : AF := ⟨62,
 (.seq
  (rg [
    o 6 (.mv (kb false))])
  (.seq
   (.seq
    (rg [
      o 14 (.mv (.t 0)),
      o 15 (.len true (.t 14)),
      o 16 (.bin .gtr (.t 15) (kc 2000))])
    (.cond (.t 16)
     (.seq
      (rg [
        o 17 (.callp 7 []),
        o 6 (.mv (.t 17))])
      .ret)
     .skip))
   (.seq
    (rg [
      o 19 (.mv (.t 0)),
      o 20 (.mv (.t 1)),
      o 21 (.callp 8 [(.t 19), (.t 20)]),
      o 18 (.mv (.t 21)),
      o 22 (.ext (.t 18) 0),
      o 23 (.ext (.t 18) 1),
      o 24 (.ext (.t 18) 2),
      o 7 (.mv (.t 22)),
      o 8 (.mv (.t 23)),
      o 9 (.mv (.t 24))])
    (.seq
     (rg [
       o 26 (.mv (.t 0)),
       o 27 (.mv (.t 1)),
       o 28 (.callp 9 [(.t 26), (.t 27)]),
       o 25 (.mv (.t 28)),
       o 29 (.ext (.t 25) 0),
       o 30 (.ext (.t 25) 1),
       o 31 (.ext (.t 25) 2),
       o 10 (.mv (.t 29)),
       o 11 (.mv (.t 30)),
       o 12 (.mv (.t 31))])
     (.seq
      (rg [
        o 32 (.mv (.t 2)),
        o 33 (.cvi .i64 (.t 32)),
        o 34 (.bin .add (kc 1) (.t 33)),
        o 13 (.mv (.t 34))])
      (.seq
       (rg [
         o 35 (.callp 7 []),
         o 36 (.mv (.t 35)),
         og 37 36 true (.mv (.t 7)),
         og 38 36 true (.mv (.t 10)),
         og 39 36 true (.callp 10 [(.t 37), (.t 38)]),
         o 40 (.pick (.t 36) (.t 39) (kb false)),
         o 41 (.mv (.t 40)),
         og 42 41 true (.mv (.t 8)),
         og 43 41 true (.mv (.t 11)),
         og 44 41 true (.bin .eql (.t 42) (.t 43)),
         o 45 (.pick (.t 41) (.t 44) (kb false)),
         o 46 (.mv (.t 45)),
         og 47 46 true (.mv (.t 9)),
         og 48 46 true (.mv (.t 12)),
         og 49 46 true (.bin .eql (.t 47) (.t 48)),
         o 50 (.pick (.t 46) (.t 49) (kb false)),
         o 51 (.mv (.t 50)),
         og 52 51 true (.mv (.t 0)),
         og 53 51 true (.mv (.t 1)),
         og 54 51 true (.mv (.t 13)),
         og 55 51 true (.callp 12 [(.t 52), (.t 53), (.t 54)]),
         og 56 51 true (.mv (.t 0)),
         og 57 51 true (.mv (.t 1)),
         og 58 51 true (.mv (.t 13)),
         og 59 51 true (.callp 13 [(.t 56), (.t 57), (.t 58)]),
         og 60 51 true (.callp 11 [(.t 55), (.t 59)]),
         o 61 (.pick (.t 51) (.t 60) (kb false)),
         o 6 (.mv (.t 61))])
       .ret)))))),
 [.t 6], false⟩
/-! 4: wagoner/wagonerlaw09.SegmentReads; loops: [] -/
def a4 : AF := ⟨54,
 (.seq
  (rg [
    o 1 (.box (.t 0)),
    o 2 (.mv (kb false))])
  (.seq
   (rg [
     o 11 (.fa 0 (.t 1)),
     o 12 (.ld none (.t 11)),
     o 13 (.fa 1 (.t 1)),
     o 14 (.ld none (.t 13)),
     o 15 (.fa 2 (.t 1)),
     o 16 (.ld none (.t 15)),
     o 17 (.fa 3 (.t 1)),
     o 18 (.ld none (.t 17)),
     o 3 (.mv (.t 12)),
     o 4 (.mv (.t 14)),
     o 5 (.mv (.t 16)),
     o 6 (.mv (.t 18))])
   (.seq
    (.seq
     (rg [
       o 19 (.mv (.t 3)),
       o 20 (.len true (.t 19)),
       o 21 (.bin .gtr (.t 20) (kc 2000))])
     (.cond (.t 21)
      (.seq
       (rg [
         o 22 (.callp 7 []),
         o 2 (.mv (.t 22))])
       .ret)
      .skip))
    (.seq
     (rg [
       o 24 (.mv (.t 3)),
       o 25 (.mv (.t 4)),
       o 26 (.mv (.t 3)),
       o 27 (.mv (.t 4)),
       o 28 (.mv (.t 6)),
       o 29 (.cvi .i64 (.t 28)),
       o 30 (.bin .add (kc 1) (.t 29)),
       o 31 (.callp 13 [(.t 26), (.t 27), (.t 30)]),
       o 32 (.mv (.t 5)),
       o 33 (.callp 14 [(.t 24), (.t 25), (.t 31), (.t 32)]),
       o 23 (.mv (.t 33)),
       o 34 (.ext (.t 23) 0),
       o 35 (.ext (.t 23) 1),
       o 7 (.alloc [.d (.i .i64 0), .d (.i .i64 0), .d (.s [])]),
       on (.st 3 (.t 7) (.t 34)),
       o 8 (.mv (.t 35))])
     (.seq
      (rg [
        o 37 (.mv (.t 3)),
        o 38 (.mv (.t 4)),
        o 39 (.mv (.t 5)),
        o 40 (.callp 15 [(.t 37), (.t 38), (.t 39)]),
        o 36 (.mv (.t 40)),
        o 41 (.ext (.t 36) 0),
        o 42 (.ext (.t 36) 1),
        o 9 (.alloc [.d (.i .i64 0), .d (.i .i64 0), .d (.s [])]),
        on (.st 3 (.t 9) (.t 41)),
        o 10 (.mv (.t 42))])
      (.seq
       (rg [
         o 43 (.callp 7 []),
         o 44 (.mv (.t 43)),
         og 45 44 true (.ld (some 3) (.t 7)),
         og 46 44 true (.ld (some 3) (.t 9)),
         og 47 44 true (.eqa false [0, 0, 2] (.t 45) (.t 46)),
         o 48 (.pick (.t 44) (.t 47) (kb false)),
         o 49 (.mv (.t 48)),
         og 50 49 true (.mv (.t 8)),
         og 51 49 true (.mv (.t 10)),
         og 52 49 true (.bin .eql (.t 50) (.t 51)),
         o 53 (.pick (.t 49) (.t 52) (kb false)),
         o 2 (.mv (.t 53))])
       .ret)))))),
 [.t 2], false⟩
/-! 5: wagoner/wagonerlaw09.SegmentCut; loops: [[0, 1, 7, 8, 10, 11], [0, 1, 11, 12, 15]] -/
def a5_0 : AC :=
 (.seq
  (.seq
   (rg [
     o 33 (.mv (.t 11)),
     o 34 (.bin .add (.t 33) (kc 1)),
     o 35 (.mv (.t 8)),
     o 36 (.len false (.t 35)),
     o 37 (.bin .lss (.t 34) (.t 36)),
     o 38 (.mv (.t 37)),
     og 39 38 true (.mv (.t 8)),
     og 40 38 true (.mv (.t 11)),
     og 41 38 true (.bin .add (.t 40) (kc 1)),
     og 42 38 true (.ia 1 (.t 39) (.t 41)),
     og 43 38 true (.ld none (.t 42)),
     og 44 38 true (.mv (.t 10)),
     og 45 38 true (.bin .leq (.t 43) (.t 44)),
     o 46 (.pick (.t 38) (.t 45) (kb false))])
   (.cond (.t 46)
    .skip
    (.exit 0)))
  (.block 1
   (rg [
     o 47 (.mv (.t 11)),
     o 48 (.bin .add (.t 47) (kc 1)),
     o 11 (.mv (.t 48))])))
def a5_1 : AC :=
 (.seq
  (.seq
   (rg [
     o 90 (.mv (.t 15)),
     o 91 (.mv (.t 11)),
     o 92 (.bin .lss (.t 90) (.t 91))])
   (.cond (.t 92)
    .skip
    (.exit 2)))
  (.seq
   (.block 3
    (.seq
     (rg [
       o 95 (.mv (.t 12)),
       o 96 (.mv (.t 15)),
       o 97 (.ia 3 (.t 95) (.t 96)),
       o 98 (.ld (some 3) (.t 97)),
       o 99 (.mv (.t 0)),
       o 100 (.cvi .i64 (.t 99)),
       o 101 (.mv (.t 15)),
       o 102 (.bin .add (.t 100) (.t 101)),
       o 103 (.mv (.t 15)),
       o 104 (.mv (.t 1)),
       o 105 (.mv (.t 15)),
       o 106 (.ia 1 (.t 104) (.t 105)),
       o 107 (.ld none (.t 106)),
       o 108 (.build [.d (.i .i64 0), .d (.i .i64 0), .d (.s [])] [(0, 1, (.t 102)), (1, 1, (.t 103)), (2, 1, (.t 107))]),
       o 109 (.eqa true [0, 0, 2] (.t 98) (.t 108))])
     (.cond (.t 109)
      (.seq
       (rg [
         o 6 (.mv (kb false))])
       .ret)
      .skip)))
   (rg [
     o 93 (.mv (.t 15)),
     o 94 (.bin .add (.t 93) (kc 1)),
     o 15 (.mv (.t 94))])))
def a5 : AF := ⟨111,
 (.seq
  (rg [
    o 6 (.mv (kb false))])
  (.seq
   (rg [
     o 17 (.mv (.t 0)),
     o 18 (.cvi .i64 (.t 17)),
     o 19 (.mv (.t 1)),
     o 20 (.callp 16 [(.t 18), (.t 19)]),
     o 16 (.mv (.t 20)),
     o 21 (.ext (.t 16) 0),
     o 22 (.ext (.t 16) 1),
     o 23 (.ext (.t 16) 2),
     o 7 (.mv (.t 21)),
     o 8 (.mv (.t 22)),
     o 9 (.mv (.t 23))])
   (.seq
    (.seq
     (rg [
       o 24 (.mv (.t 9)),
       o 25 (.un .not (.t 24))])
     (.cond (.t 25)
      (.seq
       (rg [
         o 26 (.callp 7 []),
         o 6 (.mv (.t 26))])
       .ret)
      .skip))
    (.seq
     (rg [
       o 27 (.mv (.t 2)),
       o 28 (.cvi .i64 (.t 27)),
       o 29 (.mv (.t 7)),
       o 30 (.len true (.t 29)),
       o 31 (.bin .add (.t 30) (kc 1)),
       o 32 (.bin .rem (.t 28) (.t 31)),
       o 10 (.mv (.t 32))])
     (.seq
      (rg [
        o 11 (.mv (kc 0))])
      (.seq
       (.block 0
        (.loop [0, 1, 7, 8, 10, 11] a5_0))
       (.seq
        (rg [
          o 50 (.mv (.t 7)),
          o 51 (.mv (.t 10)),
          o 52 (.sls (.t 50) none (some (.t 51))),
          o 53 (.mv (.t 0)),
          o 54 (.cvi .i64 (.t 53)),
          o 55 (.callp 8 [(.t 52), (.t 54)]),
          o 49 (.mv (.t 55)),
          o 56 (.ext (.t 49) 0),
          o 57 (.ext (.t 49) 1),
          o 58 (.ext (.t 49) 2),
          o 12 (.mv (.t 56)),
          o 13 (.mv (.t 57)),
          o 14 (.mv (.t 58))])
        (.seq
         (.seq
          (rg [
            o 59 (.mv (.t 12)),
            o 60 (.len false (.t 59)),
            o 61 (.mv (.t 11)),
            o 62 (.bin .neq (.t 60) (.t 61)),
            o 63 (.mv (.t 62)),
            og 64 63 false (.mv (.t 13)),
            og 65 63 false (.mv (.t 8)),
            og 66 63 false (.mv (.t 11)),
            og 67 63 false (.ia 1 (.t 65) (.t 66)),
            og 68 63 false (.ld none (.t 67)),
            og 69 63 false (.bin .neq (.t 64) (.t 68)),
            o 70 (.pick (.t 63) (kb true) (.t 69)),
            o 71 (.mv (.t 70)),
            og 72 71 false (.mv (.t 14)),
            og 73 71 false (.bin .eql (.t 72) (kc 0)),
            og 74 71 false (.mv (.t 8)),
            og 75 71 false (.mv (.t 11)),
            og 76 71 false (.ia 1 (.t 74) (.t 75)),
            og 77 71 false (.ld none (.t 76)),
            og 78 71 false (.mv (.t 10)),
            og 79 71 false (.bin .eql (.t 77) (.t 78)),
            og 80 71 false (.eqb true (.t 73) (.t 79)),
            o 81 (.pick (.t 71) (kb true) (.t 80)),
            o 82 (.mv (.t 81)),
            og 83 82 false (.mv (.t 14)),
            og 84 82 false (.bin .neq (.t 83) (kc 0)),
            og 85 82 false (.mv (.t 84)),
            og 86 85 true (.mv (.t 14)),
            og 87 85 true (.bin .neq (.t 86) (kc 2)),
            og 88 82 false (.pick (.t 85) (.t 87) (kb false)),
            o 89 (.pick (.t 82) (kb true) (.t 88))])
          (.cond (.t 89)
           (.seq
            (rg [
              o 6 (.mv (kb false))])
            .ret)
           .skip))
         (.seq
          (.seq
           (rg [
             o 15 (.mv (kc 0))])
           (.block 2
            (.loop [0, 1, 11, 12, 15] a5_1)))
          (.seq
           (rg [
             o 110 (.callp 7 []),
             o 6 (.mv (.t 110))])
           .ret)))))))))),
 [.t 6], false⟩
/-! 6: wagoner/wagonerlaw09.SegmentFinds; loops: [[0, 1, 7, 10, 11]] -/
def a6_0 : AC :=
 (.seq
  (.seq
   (rg [
     o 32 (.mv (.t 11)),
     o 33 (.mv (.t 1)),
     o 34 (.len false (.t 33)),
     o 35 (.bin .leq (.t 32) (.t 34))])
   (.cond (.t 35)
    .skip
    (.exit 0)))
  (.seq
   (.block 1
    (.seq
     (rg [
       o 39 (.mv (.t 7)),
       o 40 (.mv (.t 0)),
       o 41 (.cvi .i64 (.t 40)),
       o 42 (.mv (.t 10)),
       o 43 (.mv (.t 0)),
       o 44 (.cvi .i64 (.t 43)),
       o 45 (.mv (.t 11)),
       o 46 (.bin .add (.t 44) (.t 45)),
       o 47 (.callp 14 [(.t 39), (.t 41), (.t 42), (.t 46)]),
       o 38 (.mv (.t 47)),
       o 48 (.ext (.t 38) 0),
       o 49 (.ext (.t 38) 1),
       o 12 (.alloc [.d (.i .i64 0), .d (.i .i64 0), .d (.s [])]),
       on (.st 3 (.t 12) (.t 48)),
       o 13 (.mv (.t 49))])
     (.seq
      (.seq
       (rg [
         o 50 (.mv (.t 11)),
         o 51 (.bin .lss (.t 50) (kc 0)),
         o 52 (.mv (.t 51)),
         og 53 52 false (.mv (.t 11)),
         og 54 52 false (.mv (.t 1)),
         og 55 52 false (.len false (.t 54)),
         og 56 52 false (.bin .eql (.t 53) (.t 55)),
         o 57 (.pick (.t 52) (kb true) (.t 56))])
       (.cond (.t 57)
        (.seq
         (.seq
          (rg [
            o 58 (.mv (.t 13)),
            o 59 (.bin .neq (.t 58) (kc 6)),
            o 60 (.mv (.t 59)),
            og 61 60 false (.ld (some 3) (.t 12)),
            og 62 60 false (.build [.d (.i .i64 0), .d (.i .i64 0), .d (.s [])] []),
            og 63 60 false (.eqa true [0, 0, 2] (.t 61) (.t 62)),
            o 64 (.pick (.t 60) (kb true) (.t 63))])
          (.cond (.t 64)
           (.seq
            (rg [
              o 6 (.mv (kb false))])
            .ret)
           .skip))
         (.exit 1))
        .skip))
      (.seq
       (rg [
         o 65 (.mv (.t 13)),
         o 66 (.bin .neq (.t 65) (kc 0)),
         o 67 (.mv (.t 66)),
         og 68 67 false (.ld (some 3) (.t 12)),
         og 69 67 false (.mv (.t 0)),
         og 70 67 false (.cvi .i64 (.t 69)),
         og 71 67 false (.mv (.t 11)),
         og 72 67 false (.bin .add (.t 70) (.t 71)),
         og 73 67 false (.mv (.t 11)),
         og 74 67 false (.mv (.t 1)),
         og 75 67 false (.mv (.t 11)),
         og 76 67 false (.ia 1 (.t 74) (.t 75)),
         og 77 67 false (.ld none (.t 76)),
         og 78 67 false (.build [.d (.i .i64 0), .d (.i .i64 0), .d (.s [])] [(0, 1, (.t 72)), (1, 1, (.t 73)), (2, 1, (.t 77))]),
         og 79 67 false (.eqa true [0, 0, 2] (.t 68) (.t 78)),
         o 80 (.pick (.t 67) (kb true) (.t 79))])
       (.cond (.t 80)
        (.seq
         (rg [
           o 6 (.mv (kb false))])
         .ret)
        .skip)))))
   (rg [
     o 36 (.mv (.t 11)),
     o 37 (.bin .add (.t 36) (kc 1)),
     o 11 (.mv (.t 37))])))
def a6 : AF := ⟨82,
 (.seq
  (rg [
    o 6 (.mv (kb false))])
  (.seq
   (rg [
     o 15 (.mv (.t 0)),
     o 16 (.cvi .i64 (.t 15)),
     o 17 (.mv (.t 1)),
     o 18 (.callp 16 [(.t 16), (.t 17)]),
     o 14 (.mv (.t 18)),
     o 19 (.ext (.t 14) 0),
     o 20 (.ext (.t 14) 1),
     o 21 (.ext (.t 14) 2),
     o 7 (.mv (.t 19)),
     o 8 (.mv (.t 20)),
     o 9 (.mv (.t 21))])
   (.seq
    (.seq
     (rg [
       o 22 (.mv (.t 9)),
       o 23 (.un .not (.t 22))])
     (.cond (.t 23)
      (.seq
       (rg [
         o 24 (.callp 7 []),
         o 6 (.mv (.t 24))])
       .ret)
      .skip))
    (.seq
     (rg [
       o 25 (.mv (.t 7)),
       o 26 (.mv (.t 0)),
       o 27 (.cvi .i64 (.t 26)),
       o 28 (.mv (.t 2)),
       o 29 (.cvi .i64 (.t 28)),
       o 30 (.bin .add (kc 1) (.t 29)),
       o 31 (.callp 12 [(.t 25), (.t 27), (.t 30)]),
       o 10 (.mv (.t 31))])
     (.seq
      (.seq
       (rg [
         o 11 (.mv (kc (-1)))])
       (.block 0
        (.loop [0, 1, 7, 10, 11] a6_0)))
      (.seq
       (rg [
         o 81 (.callp 7 []),
         o 6 (.mv (.t 81))])
       .ret)))))),
 [.t 6], false⟩
/-! 7: wagoner/wagonerlaw09.awake; loops: [] -/
def a7 : AF := ⟨55,
 (.seq
  (rg [
    o 0 (.mv (kb false))])
  (.seq
   (rg [
     o 9 (.build [.d (.i .i64 0), .d (.i .i64 0), .d (.s [])] [(0, 1, (kc 3)), (2, 1, (ks [97]))]),
     o 10 (.build [.d (.i .i64 0), .d (.i .i64 0), .d (.s [])] [(0, 1, (kc 4)), (2, 1, (ks [98]))]),
     o 11 (.bsl 3 [[.i .i64 0, .i .i64 0, .s []], [.i .i64 0, .i .i64 0, .s []]] [(0, (.t 9)), (1, (.t 10))]),
     o 12 (.callz 17 [(.t 11)]),
     o 8 (.mv (.t 12)),
     o 13 (.ext (.t 8) 0),
     o 14 (.ext (.t 8) 1),
     o 1 (.mv (.t 13)),
     o 2 (.mv (.t 14))])
   (.seq
    (rg [
      o 16 (.mv (.t 1)),
      o 17 (.mv (.t 1)),
      o 18 (.len true (.t 17)),
      o 19 (.bin .sub (.t 18) (kc 1)),
      o 20 (.sls (.t 16) none (some (.t 19))),
      o 21 (.callp 8 [(.t 20), (kc 3)]),
      o 15 (.mv (.t 21)),
      o 22 (.ext (.t 15) 0),
      o 23 (.ext (.t 15) 1),
      o 24 (.ext (.t 15) 2),
      o 3 (.mv (.t 22)),
      o 4 (.mv (.t 23)),
      o 5 (.mv (.t 24))])
    (.seq
     (rg [
       o 26 (.mv (.t 1)),
       o 27 (.mv (.t 1)),
       o 28 (.callp 12 [(.t 27), (kc 3), (kc 1)]),
       o 29 (.callp 14 [(.t 26), (kc 3), (.t 28), (kc 4)]),
       o 25 (.mv (.t 29)),
       o 30 (.ext (.t 25) 0),
       o 31 (.ext (.t 25) 1),
       o 6 (.alloc [.d (.i .i64 0), .d (.i .i64 0), .d (.s [])]),
       on (.st 3 (.t 6) (.t 30)),
       o 7 (.mv (.t 31))])
     (.seq
      (rg [
        o 32 (.mv (.t 3)),
        o 33 (.len false (.t 32)),
        o 34 (.bin .eql (.t 33) (kc 1)),
        o 35 (.mv (.t 34)),
        og 36 35 true (.mv (.t 4)),
        og 37 35 true (.mv (.t 1)),
        og 38 35 true (.len true (.t 37)),
        og 39 35 true (.bin .quo (.t 38) (kc 2)),
        og 40 35 true (.bin .eql (.t 36) (.t 39)),
        o 41 (.pick (.t 35) (.t 40) (kb false)),
        o 42 (.mv (.t 41)),
        og 43 42 true (.mv (.t 5)),
        og 44 42 true (.bin .eql (.t 43) (kc 2)),
        o 45 (.pick (.t 42) (.t 44) (kb false)),
        o 46 (.mv (.t 45)),
        og 47 46 true (.mv (.t 7)),
        og 48 46 true (.bin .eql (.t 47) (kc 0)),
        o 49 (.pick (.t 46) (.t 48) (kb false)),
        o 50 (.mv (.t 49)),
        og 51 50 true (.ld (some 3) (.t 6)),
        og 52 50 true (.build [.d (.i .i64 0), .d (.i .i64 0), .d (.s [])] [(0, 1, (kc 4)), (2, 1, (ks [98]))]),
        og 53 50 true (.eqa false [0, 0, 2] (.t 51) (.t 52)),
        o 54 (.pick (.t 50) (.t 53) (kb false)),
        o 0 (.mv (.t 54))])
      .ret))))),
 [.t 0], false⟩
/-! 8: wagoner/segment.Scan; loops: [] -/
def a8 : AF := ⟨34,
 (.seq
  (rg [
    oz 4 (.mv (kx (.ns))),
    o 5 (.mv (kc 0)),
    o 6 (.mv (kc 0))])
  (.seq
   (.seq
    (rg [
      o 10 (.mv (.t 1)),
      o 11 (.callp 18 [(.t 10)]),
      o 12 (.un .not (.t 11))])
    (.cond (.t 12)
     (.seq
      (rg [
        oz 4 (.mv (kx (.ns))),
        o 5 (.mv (kc 0)),
        o 6 (.mv (kc 1))])
      .ret)
     .skip))
   (.seq
    (rg [
      o 13 (.mv (.t 0)),
      o 14 (.mv (.t 1)),
      o 15 (.build [.d (.s []), .d (.i .i64 0), .d (.i .i64 0), .d (.i .i64 0)] [(0, 1, (.t 13)), (2, 1, (.t 14))]),
      o 16 (.box (.t 15)),
      o 7 (.mv (.t 16))])
    (.seq
     (rg [
       o 8 (.alloc [.ns])])
     (.seq
      (.seq
       (rg [
         o 17 (.mv (.t 7)),
         o 18 (.call 19 [(.t 17)])])
       (.block 0
        (.rng (.t 18) [19]
         (rg [
           o 9 (.alloc [.d (.i .i64 0), .d (.i .i64 0), .d (.s []), .d (.i .i64 0), .d (.i .i64 0)]),
           on (.st 5 (.t 9) (.t 19))])
         (.block 1
          (rg [
            o 20 (.ld none (.t 8)),
            o 21 (.fa 0 (.t 9)),
            o 22 (.ld (some 3) (.t 21)),
            o 23 (.bsl 3 [[.i .i64 0, .i .i64 0, .s []]] [(0, (.t 22))]),
            o 24 (.app false 3 32 (.t 20) (.t 23)),
            on (.st 1 (.t 8) (.t 24))])))))
      (.seq
       (rg [
         o 25 (.ld none (.t 8)),
         o 26 (.mv (.t 7)),
         o 27 (.nck (.t 26)),
         o 28 (.fa 1 (.t 27)),
         o 29 (.ld none (.t 28)),
         o 30 (.mv (.t 7)),
         o 31 (.nck (.t 30)),
         o 32 (.fa 3 (.t 31)),
         o 33 (.ld none (.t 32)),
         o 4 (.mv (.t 25)),
         o 5 (.mv (.t 29)),
         o 6 (.mv (.t 33))])
       .ret)))))),
 [.t 4, .t 5, .t 6], false⟩
/-! 9: wagoner/wagonerref09.Scan; loops: [] -/
def a9 : AF := ⟨22,
 (.seq
  (rg [
    oz 4 (.mv (kx (.ns))),
    o 5 (.mv (kc 0)),
    o 6 (.mv (kc 0))])
  (.seq
   (rg [
     o 12 (.mv (.t 0)),
     o 13 (.mv (.t 1)),
     o 14 (.callp 20 [(.t 12), (.t 13)]),
     o 11 (.mv (.t 14)),
     o 15 (.ext (.t 11) 0),
     o 16 (.ext (.t 11) 1),
     o 17 (.ext (.t 11) 2),
     o 18 (.ext (.t 11) 3),
     o 7 (.mv (.t 15)),
     o 8 (.mv (.t 16)),
     o 9 (.mv (.t 17)),
     o 10 (.mv (.t 18))])
   (.seq
    (rg [
      o 19 (.mv (.t 7)),
      o 20 (.mv (.t 9)),
      o 21 (.mv (.t 10)),
      o 4 (.mv (.t 19)),
      o 5 (.mv (.t 20)),
      o 6 (.mv (.t 21))])
    .ret))),
 [.t 4, .t 5, .t 6], false⟩
/-! 10: wagoner/wagonerref04.Same; loops: [[0, 1, 5]] -/
def a10_0 : AC :=
 (.seq
  (.seq
   (rg [
     o 11 (.mv (.t 5)),
     o 12 (.mv (.t 0)),
     o 13 (.len false (.t 12)),
     o 14 (.bin .lss (.t 11) (.t 13))])
   (.cond (.t 14)
    .skip
    (.exit 0)))
  (.seq
   (.block 1
    (.seq
     (rg [
       o 17 (.mv (.t 0)),
       o 18 (.mv (.t 5)),
       o 19 (.ia 3 (.t 17) (.t 18)),
       o 20 (.ld (some 3) (.t 19)),
       o 21 (.mv (.t 1)),
       o 22 (.mv (.t 5)),
       o 23 (.ia 3 (.t 21) (.t 22)),
       o 24 (.ld (some 3) (.t 23)),
       o 25 (.eqa true [0, 0, 2] (.t 20) (.t 24))])
     (.cond (.t 25)
      (.seq
       (rg [
         o 4 (.mv (kb false))])
       .ret)
      .skip)))
   (rg [
     o 15 (.mv (.t 5)),
     o 16 (.bin .add (.t 15) (kc 1)),
     o 5 (.mv (.t 16))])))
def a10 : AF := ⟨26,
 (.seq
  (rg [
    o 4 (.mv (kb false))])
  (.seq
   (.seq
    (rg [
      o 6 (.mv (.t 0)),
      o 7 (.len false (.t 6)),
      o 8 (.mv (.t 1)),
      o 9 (.len false (.t 8)),
      o 10 (.bin .neq (.t 7) (.t 9))])
    (.cond (.t 10)
     (.seq
      (rg [
        o 4 (.mv (kb false))])
      .ret)
     .skip))
   (.seq
    (.seq
     (rg [
       o 5 (.mv (kc 0))])
     (.block 0
      (.loop [0, 1, 5] a10_0)))
    (.seq
     (rg [
       o 4 (.mv (kb true))])
     .ret)))),
 [.t 4], false⟩
/-! 11: wagoner/wagonerref08.Same; loops: [[0, 1, 5]] -/
def a11_0 : AC :=
 (.seq
  (.seq
   (rg [
     o 11 (.mv (.t 5)),
     o 12 (.mv (.t 0)),
     o 13 (.len false (.t 12)),
     o 14 (.bin .lss (.t 11) (.t 13))])
   (.cond (.t 14)
    .skip
    (.exit 0)))
  (.seq
   (.block 1
    (.seq
     (rg [
       o 17 (.mv (.t 0)),
       o 18 (.mv (.t 5)),
       o 19 (.ia 2 (.t 17) (.t 18)),
       o 20 (.ld (some 2) (.t 19)),
       o 21 (.mv (.t 1)),
       o 22 (.mv (.t 5)),
       o 23 (.ia 2 (.t 21) (.t 22)),
       o 24 (.ld (some 2) (.t 23)),
       o 25 (.eqa true [0, 0] (.t 20) (.t 24))])
     (.cond (.t 25)
      (.seq
       (rg [
         o 4 (.mv (kb false))])
       .ret)
      .skip)))
   (rg [
     o 15 (.mv (.t 5)),
     o 16 (.bin .add (.t 15) (kc 1)),
     o 5 (.mv (.t 16))])))
def a11 : AF := ⟨26,
 (.seq
  (rg [
    o 4 (.mv (kb false))])
  (.seq
   (.seq
    (rg [
      o 6 (.mv (.t 0)),
      o 7 (.len false (.t 6)),
      o 8 (.mv (.t 1)),
      o 9 (.len false (.t 8)),
      o 10 (.bin .neq (.t 7) (.t 9))])
    (.cond (.t 10)
     (.seq
      (rg [
        o 4 (.mv (kb false))])
      .ret)
     .skip))
   (.seq
    (.seq
     (rg [
       o 5 (.mv (kc 0))])
     (.block 0
      (.loop [0, 1, 5] a11_0)))
    (.seq
     (rg [
       o 4 (.mv (kb true))])
     .ret)))),
 [.t 4], false⟩
/-! 12: wagoner/segment.Index; loops: [] -/
def a12 : AF := ⟨31,
 (.seq
  (rg [
    o 4 (.box (.t 1)),
    o 5 (.box (.t 2)),
    oz 6 (.mv (kx (.ns)))])
  (.seq
   (.seq
    (rg [
      o 10 (.ld none (.t 4)),
      o 11 (.callp 18 [(.t 10)]),
      o 12 (.un .not (.t 11))])
    (.cond (.t 12)
     (.seq
      (rg [
        oz 6 (.mv (kx (.ns)))])
      .ret)
     .skip))
   (.seq
    (rg [
      o 13 (.mv (.t 0)),
      o 14 (.ld none (.t 4)),
      o 15 (.build [.d (.s []), .d (.i .i64 0), .d (.i .i64 0), .d (.i .i64 0)] [(0, 1, (.t 13)), (2, 1, (.t 14))]),
      o 16 (.box (.t 15)),
      o 7 (.mv (.t 16))])
    (.seq
     (rg [
       o 8 (.alloc [.ns])])
     (.seq
      (.seq
       (rg [
         o 17 (.mv (.t 7)),
         o 18 (.call 19 [(.t 17)])])
       (.block 0
        (.rng (.t 18) [19]
         (rg [
           o 9 (.alloc [.d (.i .i64 0), .d (.i .i64 0), .d (.s []), .d (.i .i64 0), .d (.i .i64 0)]),
           on (.st 5 (.t 9) (.t 19))])
         (.block 1
          (rg [
            o 20 (.ld none (.t 8)),
            o 21 (.ld none (.t 4)),
            o 22 (.ld none (.t 5)),
            o 23 (.fa 0 (.t 9)),
            o 24 (.fa 0 (.t 23)),
            o 25 (.ld none (.t 24)),
            o 26 (.fa 3 (.t 9)),
            o 27 (.ld none (.t 26)),
            o 28 (.build [.d (.i .i64 0), .d (.i .i64 0)] [(0, 1, (.t 25)), (1, 1, (.t 27))]),
            o 29 (.callp 21 [(.t 20), (.t 21), (.t 22), (.t 28)]),
            on (.st 1 (.t 8) (.t 29))])))))
      (.seq
       (rg [
         o 30 (.ld none (.t 8)),
         o 6 (.mv (.t 30))])
       .ret)))))),
 [.t 6], false⟩
/-! 13: wagoner/wagonerref09.Index; loops: [[1, 2, 8, 11, 12]] -/
def a13_0 : AC :=
 (.seq
  (.seq
   (rg [
     o 21 (.mv (.t 12)),
     o 22 (.mv (.t 8)),
     o 23 (.len false (.t 22)),
     o 24 (.bin .lss (.t 21) (.t 23))])
   (.cond (.t 24)
    .skip
    (.exit 0)))
  (.seq
   (.block 1
    (rg [
      o 27 (.mv (.t 11)),
      o 28 (.mv (.t 1)),
      o 29 (.mv (.t 2)),
      o 30 (.mv (.t 1)),
      o 31 (.mv (.t 12)),
      o 32 (.bin .add (.t 30) (.t 31)),
      o 33 (.mv (.t 8)),
      o 34 (.mv (.t 12)),
      o 35 (.ia 1 (.t 33) (.t 34)),
      o 36 (.ld none (.t 35)),
      o 37 (.build [.d (.i .i64 0), .d (.i .i64 0)] [(0, 1, (.t 32)), (1, 1, (.t 36))]),
      o 38 (.callp 22 [(.t 27), (.t 28), (.t 29), (.t 37)]),
      o 11 (.mv (.t 38))]))
   (rg [
     o 25 (.mv (.t 12)),
     o 26 (.bin .add (.t 25) (kc 1)),
     o 12 (.mv (.t 26))])))
def a13 : AF := ⟨40,
 (.seq
  (rg [
    oz 6 (.mv (kx (.ns)))])
  (.seq
   (rg [
     o 14 (.mv (.t 0)),
     o 15 (.mv (.t 1)),
     o 16 (.callp 20 [(.t 14), (.t 15)]),
     o 13 (.mv (.t 16)),
     o 17 (.ext (.t 13) 0),
     o 18 (.ext (.t 13) 1),
     o 19 (.ext (.t 13) 2),
     o 20 (.ext (.t 13) 3),
     o 7 (.mv (.t 17)),
     o 8 (.mv (.t 18)),
     o 9 (.mv (.t 19)),
     o 10 (.mv (.t 20))])
   (.seq
    (rg [
      oz 11 (.mv (kx (.ns)))])
    (.seq
     (.seq
      (rg [
        o 12 (.mv (kc 0))])
      (.block 0
       (.loop [1, 2, 8, 11, 12] a13_0)))
     (.seq
      (rg [
        o 39 (.mv (.t 11)),
        o 6 (.mv (.t 39))])
      .ret))))),
 [.t 6], false⟩
/-! 14: wagoner/segment.Read; loops: [] -/
def a14 : AF := ⟨41,
 (.seq
  (rg [
    o 7 (.box (.t 3)),
    o 8 (.alloc [.d (.i .i64 0), .d (.i .i64 0), .d (.s [])]),
    o 9 (.alloc [.d (.i .i64 0)])])
  (.seq
   (rg [
     o 15 (.mv (.t 2)),
     o 16 (.ld none (.t 7)),
     o 17 (.callp 23 [(.t 15), (.t 16)]),
     o 14 (.mv (.t 17)),
     o 18 (.ext (.t 14) 0),
     o 19 (.ext (.t 14) 1),
     o 10 (.alloc [.d (.i .i64 0), .d (.i .i64 0)]),
     on (.st 2 (.t 10) (.t 18)),
     o 11 (.mv (.t 19))])
   (.seq
    (.seq
     (rg [
       o 20 (.mv (.t 11)),
       o 21 (.un .not (.t 20))])
     (.cond (.t 21)
      (.seq
       (rg [
         o 22 (.build [.d (.i .i64 0), .d (.i .i64 0), .d (.s [])] []),
         on (.st 3 (.t 8) (.t 22)),
         on (.st 1 (.t 9) (kc 6))])
       .ret)
      .skip))
    (.seq
     (rg [
       o 23 (.mv (.t 0)),
       o 24 (.fa 1 (.t 10)),
       o 25 (.ld none (.t 24)),
       o 26 (.fa 0 (.t 10)),
       o 27 (.ld none (.t 26)),
       o 28 (.build [.d (.s []), .d (.i .i64 0), .d (.i .i64 0), .d (.i .i64 0)] [(0, 1, (.t 23)), (1, 1, (.t 25)), (2, 1, (.t 27))]),
       o 29 (.box (.t 28)),
       o 12 (.mv (.t 29))])
     (.seq
      (.seq
       (rg [
         o 30 (.mv (.t 12)),
         o 31 (.call 19 [(.t 30)])])
       (.block 0
        (.rng (.t 31) [32]
         (rg [
           o 13 (.alloc [.d (.i .i64 0), .d (.i .i64 0), .d (.s []), .d (.i .i64 0), .d (.i .i64 0)]),
           on (.st 5 (.t 13) (.t 32))])
         (.block 1
          (.seq
           (rg [
             o 33 (.fa 0 (.t 13)),
             o 34 (.fa 0 (.t 33)),
             o 35 (.ld none (.t 34)),
             o 36 (.ld none (.t 7)),
             o 37 (.bin .eql (.t 35) (.t 36))])
           (.cond (.t 37)
            (.seq
             (rg [
               o 38 (.fa 0 (.t 13)),
               o 39 (.ld (some 3) (.t 38)),
               on (.st 3 (.t 8) (.t 39)),
               on (.st 1 (.t 9) (kc 0))])
             .ret)
            .skip))))))
      (.seq
       (rg [
         o 40 (.build [.d (.i .i64 0), .d (.i .i64 0), .d (.s [])] []),
         on (.st 3 (.t 8) (.t 40)),
         on (.st 1 (.t 9) (kc 6))])
       .ret)))))),
 [.c (some 3) 8, .c none 9], false⟩
/-! 15: wagoner/wagonerref09.Read; loops: [[2, 6, 8, 11]] -/
def a15_0 : AC :=
 (.seq
  (.seq
   (rg [
     o 19 (.mv (.t 11)),
     o 20 (.mv (.t 8)),
     o 21 (.len false (.t 20)),
     o 22 (.bin .lss (.t 19) (.t 21))])
   (.cond (.t 22)
    .skip
    (.exit 0)))
  (.seq
   (.block 1
    (.seq
     (rg [
       o 25 (.mv (.t 8)),
       o 26 (.mv (.t 11)),
       o 27 (.ia 3 (.t 25) (.t 26)),
       o 28 (.fa 0 (.t 27)),
       o 29 (.ld none (.t 28)),
       o 30 (.mv (.t 2)),
       o 31 (.bin .eql (.t 29) (.t 30))])
     (.cond (.t 31)
      (.seq
       (rg [
         o 32 (.mv (.t 8)),
         o 33 (.mv (.t 11)),
         o 34 (.ia 3 (.t 32) (.t 33)),
         o 35 (.ld (some 3) (.t 34)),
         on (.st 3 (.t 6) (.t 35)),
         o 7 (.mv (kc 0))])
       .ret)
      .skip)))
   (rg [
     o 23 (.mv (.t 11)),
     o 24 (.bin .add (.t 23) (kc 1)),
     o 11 (.mv (.t 24))])))
def a15 : AF := ⟨37,
 (.seq
  (rg [
    o 6 (.alloc [.d (.i .i64 0), .d (.i .i64 0), .d (.s [])]),
    o 7 (.mv (kc 0))])
  (.seq
   (rg [
     o 13 (.mv (.t 0)),
     o 14 (.mv (.t 1)),
     o 15 (.callp 9 [(.t 13), (.t 14)]),
     o 12 (.mv (.t 15)),
     o 16 (.ext (.t 12) 0),
     o 17 (.ext (.t 12) 1),
     o 18 (.ext (.t 12) 2),
     o 8 (.mv (.t 16)),
     o 9 (.mv (.t 17)),
     o 10 (.mv (.t 18))])
   (.seq
    (.seq
     (rg [
       o 11 (.mv (kc 0))])
     (.block 0
      (.loop [2, 6, 8, 11] a15_0)))
    (.seq
     (rg [
       o 36 (.build [.d (.i .i64 0), .d (.i .i64 0), .d (.s [])] []),
       on (.st 3 (.t 6) (.t 36)),
       o 7 (.mv (kc 6))])
     .ret)))),
 [.c (some 3) 6, .t 7], false⟩
/-! 16: wagoner/wagonerlaw09.row; loops: [[0, 1, 7, 8, 9]] -/
def a16_0 : AC :=
 (.seq
  (.seq
   (rg [
     o 16 (.mv (.t 9)),
     o 17 (.mv (.t 1)),
     o 18 (.len false (.t 17)),
     o 19 (.bin .lss (.t 16) (.t 18))])
   (.cond (.t 19)
    .skip
    (.exit 0)))
  (.seq
   (.block 1
    (.seq
     (rg [
       o 23 (.mv (.t 0)),
       o 24 (.mv (.t 9)),
       o 25 (.bin .add (.t 23) (.t 24)),
       o 26 (.mv (.t 9)),
       o 27 (.mv (.t 1)),
       o 28 (.mv (.t 9)),
       o 29 (.ia 1 (.t 27) (.t 28)),
       o 30 (.ld none (.t 29)),
       o 31 (.build [.d (.i .i64 0), .d (.i .i64 0), .d (.s [])] [(0, 1, (.t 25)), (1, 1, (.t 26)), (2, 1, (.t 30))]),
       o 32 (.callp 24 [(.t 31)]),
       o 22 (.mv (.t 32)),
       o 33 (.ext (.t 22) 0),
       o 34 (.ext (.t 22) 1),
       o 10 (.mv (.t 33)),
       o 11 (.mv (.t 34))])
     (.seq
      (.seq
       (rg [
         o 35 (.mv (.t 11)),
         o 36 (.bin .neq (.t 35) (kc 0))])
       (.cond (.t 36)
        (.seq
         (rg [
           o 4 (.mv (ks [])),
           oz 5 (.mv (kx (.ns))),
           o 6 (.mv (kb false))])
         .ret)
        .skip))
      (.seq
       (rg [
         o 37 (.mv (.t 7)),
         o 38 (.mv (.t 10)),
         o 39 (.bin .add (.t 37) (.t 38)),
         o 7 (.mv (.t 39))])
       (rg [
         o 40 (.mv (.t 8)),
         o 41 (.mv (.t 7)),
         o 42 (.len true (.t 41)),
         o 43 (.bsl 1 [[.i .i64 0]] [(0, (.t 42))]),
         o 44 (.app false 1 8 (.t 40) (.t 43)),
         o 8 (.mv (.t 44))])))))
   (rg [
     o 20 (.mv (.t 9)),
     o 21 (.bin .add (.t 20) (kc 1)),
     o 9 (.mv (.t 21))])))
def a16 : AF := ⟨47,
 (.seq
  (rg [
    o 4 (.mv (ks [])),
    oz 5 (.mv (kx (.ns))),
    o 6 (.mv (kb false))])
  (.seq
   (.seq
    (rg [
      o 12 (.mv (.t 1)),
      o 13 (.len false (.t 12)),
      o 14 (.bin .gtr (.t 13) (kc 20))])
    (.cond (.t 14)
     (.seq
      (rg [
        o 4 (.mv (ks [])),
        oz 5 (.mv (kx (.ns))),
        o 6 (.mv (kb false))])
      .ret)
     .skip))
   (.seq
    (rg [
      o 7 (.mv (ks []))])
    (.seq
     (rg [
       o 15 (.bsl 1 [[.i .i64 0]] [(0, (kc 0))]),
       o 8 (.mv (.t 15))])
     (.seq
      (.seq
       (rg [
         o 9 (.mv (kc 0))])
       (.block 0
        (.loop [0, 1, 7, 8, 9] a16_0)))
      (.seq
       (rg [
         o 45 (.mv (.t 7)),
         o 46 (.mv (.t 8)),
         o 4 (.mv (.t 45)),
         o 5 (.mv (.t 46)),
         o 6 (.mv (kb true))])
       .ret)))))),
 [.t 4, .t 5, .t 6], false⟩
/-! 17: wagoner/wagonerref04.Row; loops: [[0, 4, 5]] -/
def a17_0 : AC :=
 (.seq
  (.seq
   (rg [
     o 8 (.mv (.t 5)),
     o 9 (.mv (.t 0)),
     o 10 (.len false (.t 9)),
     o 11 (.bin .lss (.t 8) (.t 10))])
   (.cond (.t 11)
    .skip
    (.exit 0)))
  (.seq
   (.block 1
    (.seq
     (rg [
       o 15 (.mv (.t 0)),
       o 16 (.mv (.t 5)),
       o 17 (.ia 3 (.t 15) (.t 16)),
       o 18 (.ld (some 3) (.t 17)),
       o 19 (.callp 24 [(.t 18)]),
       o 14 (.mv (.t 19)),
       o 20 (.ext (.t 14) 0),
       o 21 (.ext (.t 14) 1),
       o 6 (.mv (.t 20)),
       o 7 (.mv (.t 21))])
     (.seq
      (.seq
       (rg [
         o 22 (.mv (.t 7)),
         o 23 (.bin .neq (.t 22) (kc 0))])
       (.cond (.t 23)
        (.seq
         (rg [
           o 24 (.mv (.t 7)),
           o 2 (.mv (ks [])),
           o 3 (.mv (.t 24))])
         .ret)
        .skip))
      (rg [
        o 25 (.mv (.t 4)),
        o 26 (.mv (.t 6)),
        o 27 (.bin .add (.t 25) (.t 26)),
        o 4 (.mv (.t 27))]))))
   (rg [
     o 12 (.mv (.t 5)),
     o 13 (.bin .add (.t 12) (kc 1)),
     o 5 (.mv (.t 13))])))
def a17 : AF := ⟨29,
 (.seq
  (rg [
    o 2 (.mv (ks [])),
    o 3 (.mv (kc 0))])
  (.seq
   (rg [
     o 4 (.mv (ks []))])
   (.seq
    (.seq
     (rg [
       o 5 (.mv (kc 0))])
     (.block 0
      (.loop [0, 4, 5] a17_0)))
    (.seq
     (rg [
       o 28 (.mv (.t 4)),
       o 2 (.mv (.t 28)),
       o 3 (.mv (kc 0))])
     .ret)))),
 [.t 2, .t 3], false⟩
/-! 18: wagoner/segment.good; loops: [] -/
def a18 : AF := ⟨6,
 (.seq
  (rg [
    o 2 (.mv (kb false))])
  (.seq
   (rg [
     o 3 (.mv (.t 0)),
     o 4 (.cvi .u64 (.t 3)),
     o 5 (.bin .leq (.t 4) (kx (.d (.i .u64 1099511627776)))),
     o 2 (.mv (.t 5))])
   .ret)),
 [.t 2], false⟩
/-! 19: (*wagoner/segment.scanner).records; loops: [] -/
def a19 : AF := ⟨4,
 (.seq
  (rg [
    o 1 (.box (.t 0)),
    o 2 (.mv (kx (.nf)))])
  (.seq
   (rg [
     o 3 (.mkf 25 [(.t 1)]),
     o 2 (.mv (.t 3))])
   .ret)),
 [.t 2], false⟩
/-! 20: wagoner/wagonerref09.Places; loops: [[0, 1, 8, 9, 10]] -/
def a20_0 : AC :=
 (.seq
  (.seq
   (rg [
     o 21 (.mv (.t 10)),
     o 22 (.mv (.t 0)),
     o 23 (.len true (.t 22)),
     o 24 (.bin .lss (.t 21) (.t 23))])
   (.cond (.t 24)
    .skip
    (.exit 0)))
  (.block 1
   (.seq
    (rg [
      o 26 (.mv (.t 0)),
      o 27 (.mv (.t 10)),
      o 28 (.callp 28 [(.t 26), (.t 27)]),
      o 25 (.mv (.t 28)),
      o 29 (.ext (.t 25) 0),
      o 30 (.ext (.t 25) 1),
      o 31 (.ext (.t 25) 2),
      o 11 (.mv (.t 29)),
      o 12 (.mv (.t 30)),
      o 13 (.mv (.t 31))])
    (.seq
     (.seq
      (rg [
        o 32 (.mv (.t 13)),
        o 33 (.bin .neq (.t 32) (kc 0))])
      (.cond (.t 33)
       (.seq
        (rg [
          o 34 (.mv (.t 8)),
          o 35 (.mv (.t 9)),
          o 36 (.mv (.t 10)),
          o 37 (.mv (.t 13)),
          o 4 (.mv (.t 34)),
          o 5 (.mv (.t 35)),
          o 6 (.mv (.t 36)),
          o 7 (.mv (.t 37))])
        .ret)
       .skip))
     (.seq
      (rg [
        o 39 (.mv (.t 11)),
        o 40 (.callp 29 [(.t 39)]),
        o 38 (.mv (.t 40)),
        o 41 (.ext (.t 38) 0),
        o 42 (.ext (.t 38) 1),
        o 14 (.alloc [.d (.i .i64 0), .d (.i .i64 0), .d (.s [])]),
        on (.st 3 (.t 14) (.t 41)),
        o 13 (.mv (.t 42))])
      (.seq
       (.seq
        (rg [
          o 43 (.mv (.t 13)),
          o 44 (.bin .neq (.t 43) (kc 0))])
        (.cond (.t 44)
         (.seq
          (rg [
            o 45 (.mv (.t 8)),
            o 46 (.mv (.t 9)),
            o 47 (.mv (.t 10)),
            o 48 (.mv (.t 13)),
            o 4 (.mv (.t 45)),
            o 5 (.mv (.t 46)),
            o 6 (.mv (.t 47)),
            o 7 (.mv (.t 48))])
          .ret)
         .skip))
       (.seq
        (.seq
         (rg [
           o 49 (.fa 0 (.t 14)),
           o 50 (.ld none (.t 49)),
           o 51 (.mv (.t 1)),
           o 52 (.mv (.t 8)),
           o 53 (.len false (.t 52)),
           o 54 (.bin .add (.t 51) (.t 53)),
           o 55 (.bin .neq (.t 50) (.t 54))])
         (.cond (.t 55)
          (.seq
           (rg [
             o 56 (.mv (.t 8)),
             o 57 (.mv (.t 9)),
             o 58 (.mv (.t 10)),
             o 4 (.mv (.t 56)),
             o 5 (.mv (.t 57)),
             o 6 (.mv (.t 58)),
             o 7 (.mv (kc 3))])
           .ret)
          .skip))
        (.seq
         (rg [
           o 59 (.mv (.t 8)),
           o 60 (.ld (some 3) (.t 14)),
           o 61 (.bsl 3 [[.i .i64 0, .i .i64 0, .s []]] [(0, (.t 60))]),
           o 62 (.app false 3 32 (.t 59) (.t 61)),
           o 8 (.mv (.t 62))])
         (.seq
          (rg [
            o 63 (.mv (.t 9)),
            o 64 (.mv (.t 10)),
            o 65 (.bsl 1 [[.i .i64 0]] [(0, (.t 64))]),
            o 66 (.app false 1 8 (.t 63) (.t 65)),
            o 9 (.mv (.t 66))])
          (rg [
            o 67 (.mv (.t 12)),
            o 10 (.mv (.t 67))]))))))))))
def a20 : AF := ⟨71,
 (.seq
  (rg [
    oz 4 (.mv (kx (.ns))),
    oz 5 (.mv (kx (.ns))),
    o 6 (.mv (kc 0)),
    o 7 (.mv (kc 0))])
  (.seq
   (.seq
    (rg [
      o 15 (.mv (.t 1)),
      o 16 (.bin .lss (.t 15) (kc 0)),
      o 17 (.mv (.t 16)),
      og 18 17 false (.mv (.t 1)),
      og 19 17 false (.bin .gtr (.t 18) (kc 1099511627776)),
      o 20 (.pick (.t 17) (kb true) (.t 19))])
    (.cond (.t 20)
     (.seq
      (rg [
        oz 4 (.mv (kx (.ns))),
        oz 5 (.mv (kx (.ns))),
        o 6 (.mv (kc 0)),
        o 7 (.mv (kc 1))])
      .ret)
     .skip))
   (.seq
    (rg [
      o 8 (.own 3)])
    (.seq
     (rg [
       o 9 (.own 1)])
     (.seq
      (rg [
        o 10 (.mv (kc 0))])
      (.seq
       (.block 0
        (.loop [0, 1, 8, 9, 10] a20_0))
       (.seq
        (rg [
          o 68 (.mv (.t 8)),
          o 69 (.mv (.t 9)),
          o 70 (.mv (.t 10)),
          o 4 (.mv (.t 68)),
          o 5 (.mv (.t 69)),
          o 6 (.mv (.t 70)),
          o 7 (.mv (kc 0))])
        .ret))))))),
 [.t 4, .t 5, .t 6, .t 7], false⟩
/-! 21: wagoner/sparse.Add; loops: [] -/
def a21 : AF := ⟨26,
 (.seq
  (rg [
    o 7 (.box (.t 3)),
    o 8 (.own 2)])
  (.seq
   (.seq
    (rg [
      o 9 (.fa 0 (.t 7)),
      o 10 (.ld none (.t 9)),
      o 11 (.mv (.t 1)),
      o 12 (.bin .sub (.t 10) (.t 11)),
      o 13 (.mv (.t 2)),
      o 14 (.bin .rem (.t 12) (.t 13)),
      o 15 (.bin .neq (.t 14) (kc 0))])
    (.cond (.t 15)
     (.seq
      (rg [
        o 16 (.mv (.t 0)),
        o 8 (.mv (.t 16))])
      .ret)
     .skip))
   (.seq
    (rg [
      o 17 (.mv (.t 0)),
      o 18 (.mv (.t 0)),
      o 19 (.len false (.t 18)),
      o 20 (.mv (.t 0)),
      o 21 (.len false (.t 20)),
      o 22 (.slc 2 (.t 17) none (some (.t 19)) (some (.t 21))),
      o 23 (.ld (some 2) (.t 7)),
      o 24 (.bsl 2 [[.i .i64 0, .i .i64 0]] [(0, (.t 23))]),
      o 25 (.app false 2 16 (.t 22) (.t 24)),
      o 8 (.mv (.t 25))])
    .ret))),
 [.t 8], false⟩
/-! 22: wagoner/wagonerref08.Add; loops: [] -/
def a22 : AF := ⟨25,
 (.seq
  (rg [
    o 7 (.box (.t 3)),
    oz 8 (.mv (kx (.ns)))])
  (.seq
   (rg [
     o 10 (.bsl 2 [] []),
     o 11 (.mv (.t 0)),
     o 12 (.app false 2 16 (.t 10) (.t 11)),
     o 9 (.mv (.t 12))])
   (.seq
    (.seq
     (rg [
       o 13 (.fa 0 (.t 7)),
       o 14 (.ld none (.t 13)),
       o 15 (.mv (.t 1)),
       o 16 (.bin .sub (.t 14) (.t 15)),
       o 17 (.mv (.t 2)),
       o 18 (.bin .rem (.t 16) (.t 17)),
       o 19 (.bin .eql (.t 18) (kc 0))])
     (.cond (.t 19)
      (rg [
        o 20 (.mv (.t 9)),
        o 21 (.ld (some 2) (.t 7)),
        o 22 (.bsl 2 [[.i .i64 0, .i .i64 0]] [(0, (.t 21))]),
        o 23 (.app false 2 16 (.t 20) (.t 22)),
        o 9 (.mv (.t 23))])
      .skip))
    (.seq
     (rg [
       o 24 (.mv (.t 9)),
       o 8 (.mv (.t 24))])
     .ret)))),
 [.t 8], false⟩
/-! 23: wagoner/sparse.Find; loops: [[0, 1, 4, 6, 7]] -/
def a23_0 : AC :=
 (.seq
  (.seq
   (rg [
     o 11 (.mv (.t 6)),
     o 12 (.mv (.t 7)),
     o 13 (.bin .lss (.t 11) (.t 12))])
   (.cond (.t 13)
    .skip
    (.exit 0)))
  (.block 1
   (.seq
    (rg [
      o 14 (.mv (.t 6)),
      o 15 (.mv (.t 7)),
      o 16 (.bin .add (.t 14) (.t 15)),
      o 17 (.bin .quo (.t 16) (kc 2)),
      o 8 (.mv (.t 17))])
    (.seq
     (rg [
       o 18 (.mv (.t 0)),
       o 19 (.mv (.t 8)),
       o 20 (.ia 2 (.t 18) (.t 19)),
       o 21 (.fa 0 (.t 20)),
       o 22 (.ld none (.t 21)),
       o 23 (.mv (.t 1)),
       o 24 (.bin .leq (.t 22) (.t 23))])
     (.cond (.t 24)
      (rg [
        o 25 (.mv (.t 8)),
        o 26 (.bin .add (.t 25) (kc 1)),
        o 6 (.mv (.t 26))])
      (rg [
        o 27 (.mv (.t 8)),
        o 7 (.mv (.t 27))]))))))
def a23 : AF := ⟨36,
 (.seq
  (rg [
    o 4 (.alloc [.d (.i .i64 0), .d (.i .i64 0)]),
    o 5 (.mv (kb false))])
  (.seq
   (rg [
     o 9 (.mv (.t 0)),
     o 10 (.len false (.t 9)),
     o 6 (.mv (kc 0)),
     o 7 (.mv (.t 10))])
   (.seq
    (.block 0
     (.loop [0, 1, 4, 6, 7] a23_0))
    (.seq
     (.seq
      (rg [
        o 28 (.mv (.t 6)),
        o 29 (.bin .eql (.t 28) (kc 0))])
      (.cond (.t 29)
       (.seq
        (rg [
          o 30 (.build [.d (.i .i64 0), .d (.i .i64 0)] []),
          on (.st 2 (.t 4) (.t 30)),
          o 5 (.mv (kb false))])
        .ret)
       .skip))
     (.seq
      (rg [
        o 31 (.mv (.t 0)),
        o 32 (.mv (.t 6)),
        o 33 (.bin .sub (.t 32) (kc 1)),
        o 34 (.ia 2 (.t 31) (.t 33)),
        o 35 (.ld (some 2) (.t 34)),
        on (.st 2 (.t 4) (.t 35)),
        o 5 (.mv (kb true))])
      .ret))))),
 [.c (some 2) 4, .t 5], false⟩
/-! 24: wagoner/wagonerref04.Put; loops: [] -/
def a24 : AF := ⟨15,
 (.seq
  (rg [
    o 1 (.box (.t 0)),
    o 2 (.mv (ks [])),
    o 3 (.mv (kc 0))])
  (.seq
   (.seq
    (rg [
      o 5 (.ld (some 3) (.t 1)),
      o 6 (.callp 30 [(.t 5)]),
      o 4 (.mv (.t 6))])
    (.seq
     (rg [
       o 7 (.mv (.t 4)),
       o 8 (.bin .neq (.t 7) (kc 0))])
     (.cond (.t 8)
      (.seq
       (rg [
         o 9 (.mv (.t 4)),
         o 2 (.mv (ks [])),
         o 3 (.mv (.t 9))])
       .ret)
      .skip)))
   (.seq
    (rg [
      o 10 (.ld (some 3) (.t 1)),
      o 11 (.callp 32 [(.t 10)]),
      o 12 (.callp 31 [(.t 11)]),
      o 13 (.ext (.t 12) 0),
      o 14 (.ext (.t 12) 1),
      o 2 (.mv (.t 13)),
      o 3 (.mv (.t 14))])
    .ret))),
 [.t 2, .t 3], false⟩
/-! 25: (*wagoner/segment.scanner).records$1; loops: [[0, 1]] -/
def a25_0 : AC :=
 (.seq
  (.seq
   (rg [
     o 8 (.ld none (.t 1)),
     o 9 (.nck (.t 8)),
     o 10 (.fa 1 (.t 9)),
     o 11 (.ld none (.t 10)),
     o 12 (.ld none (.t 1)),
     o 13 (.nck (.t 12)),
     o 14 (.fa 0 (.t 13)),
     o 15 (.ld none (.t 14)),
     o 16 (.len true (.t 15)),
     o 17 (.bin .lss (.t 11) (.t 16))])
   (.cond (.t 17)
    .skip
    (.exit 0)))
  (.block 1
   (.seq
    (rg [
      o 19 (.ld none (.t 1)),
      o 20 (.nck (.t 19)),
      o 21 (.fa 0 (.t 20)),
      o 22 (.ld none (.t 21)),
      o 23 (.ld none (.t 1)),
      o 24 (.nck (.t 23)),
      o 25 (.fa 1 (.t 24)),
      o 26 (.ld none (.t 25)),
      o 27 (.callp 26 [(.t 22), (.t 26)]),
      o 18 (.mv (.t 27)),
      o 28 (.ext (.t 18) 0),
      o 29 (.ext (.t 18) 1),
      o 30 (.ext (.t 18) 2),
      o 3 (.mv (.t 28)),
      o 4 (.mv (.t 29)),
      o 5 (.mv (.t 30))])
    (.seq
     (.seq
      (rg [
        o 31 (.mv (.t 5)),
        o 32 (.bin .neq (.t 31) (kc 0))])
      (.cond (.t 32)
       (.seq
        (rg [
          o 33 (.ld none (.t 1)),
          o 34 (.mv (.t 5)),
          o 35 (.nck (.t 33)),
          o 36 (.fa 3 (.t 35)),
          on (.st 1 (.t 36) (.t 34))])
        .ret)
       .skip))
     (.seq
      (rg [
        o 38 (.mv (.t 3)),
        o 39 (.callp 27 [(.t 38)]),
        o 37 (.mv (.t 39)),
        o 40 (.ext (.t 37) 0),
        o 41 (.ext (.t 37) 1),
        o 6 (.alloc [.d (.i .i64 0), .d (.i .i64 0), .d (.s [])]),
        on (.st 3 (.t 6) (.t 40)),
        o 5 (.mv (.t 41))])
      (.seq
       (.seq
        (rg [
          o 42 (.mv (.t 5)),
          o 43 (.bin .eql (.t 42) (kc 0)),
          o 44 (.mv (.t 43)),
          og 45 44 true (.fa 0 (.t 6)),
          og 46 44 true (.ld none (.t 45)),
          og 47 44 true (.ld none (.t 1)),
          og 48 44 true (.nck (.t 47)),
          og 49 44 true (.fa 2 (.t 48)),
          og 50 44 true (.ld none (.t 49)),
          og 51 44 true (.bin .neq (.t 46) (.t 50)),
          o 52 (.pick (.t 44) (.t 51) (kb false))])
        (.cond (.t 52)
         (rg [
           o 5 (.mv (kc 3))])
         .skip))
       (.seq
        (.seq
         (rg [
           o 53 (.mv (.t 5)),
           o 54 (.bin .neq (.t 53) (kc 0))])
         (.cond (.t 54)
          (.seq
           (rg [
             o 55 (.ld none (.t 1)),
             o 56 (.mv (.t 5)),
             o 57 (.nck (.t 55)),
             o 58 (.fa 3 (.t 57)),
             on (.st 1 (.t 58) (.t 56))])
           .ret)
          .skip))
        (.seq
         (rd [
           o 59 (.ld (some 3) (.t 6)),
           o 60 (.ld none (.t 1)),
           od 61 [1] (.nck (.t 60)),
           od 62 [1, 2] (.fa 1 (.t 61)),
           od 63 [2, 1, 3] (.ld none (.t 62)),
           o 64 (.mv (.t 4)),
           od 65 [5, 3, 1, 2, 4, 0] (.build [.d (.i .i64 0), .d (.i .i64 0), .d (.s []), .d (.i .i64 0), .d (.i .i64 0)] [(0, 3, (.t 59)), (3, 1, (.t 63)), (4, 1, (.t 64))]),
           o 7 (.alloc [.d (.i .i64 0), .d (.i .i64 0), .d (.s []), .d (.i .i64 0), .d (.i .i64 0)]),
           ⟨none, .st 5 (.t 7) (.t 65), none, [0, 4, 2, 1, 3, 5, 6, 7], false⟩])
         (.seq
          (rd [
            o 66 (.ld none (.t 1)),
            o 67 (.ld none (.t 1)),
            o 68 (.mv (.t 4)),
            o 69 (.ld none (.t 1)),
            od 70 [3] (.nck (.t 69)),
            od 71 [3, 4] (.fa 2 (.t 70)),
            od 72 [4, 3, 5] (.ld none (.t 71)),
            od 73 [5, 3, 4, 6] (.bin .add (.t 72) (kc 1)),
            od 74 [5, 3, 4, 6, 2, 0] (.nck (.t 66)),
            od 75 [0, 2, 6, 4, 3, 5, 8] (.fa 1 (.t 74)),
            ⟨none, .st 1 (.t 75) (.t 68), none, [8, 5, 3, 4, 6, 2, 0, 9], false⟩,
            od 76 [10, 9, 8, 7, 6, 5, 4, 3, 2, 0, 1] (.nck (.t 67)),
            od 77 [1, 0, 2, 3, 4, 5, 6, 7, 8, 9, 10, 11] (.fa 2 (.t 76)),
            ⟨none, .st 1 (.t 77) (.t 73), none, [11, 10, 9, 8, 7, 6, 5, 4, 3, 2, 0, 1, 12], false⟩])
          (.seq
           (.yld [
             o 78 (.mv (.t 0)),
             o 79 (.ld (some 5) (.t 7))] (some 80) (.t 78) [(.t 79)] [
             o 81 (.un .not (.t 80))])
           (.cond (.t 81)
            .ret
            .skip)))))))))))
def a25 : AF := ⟨82,
 (.block 0
  (.loop [0, 1] a25_0)),
 [], false⟩
/-! 26: wagoner/frame.Next; loops: [] -/
def a26 : AF := ⟨73,
 (.seq
  (rg [
    o 4 (.mv (ks [])),
    o 5 (.mv (kc 0)),
    o 6 (.mv (kc 0))])
  (.seq
   (.seq
    (rg [
      o 12 (.mv (.t 1)),
      o 13 (.bin .lss (.t 12) (kc 0)),
      o 14 (.mv (.t 13)),
      og 15 14 false (.mv (.t 1)),
      og 16 14 false (.mv (.t 0)),
      og 17 14 false (.len true (.t 16)),
      og 18 14 false (.bin .geq (.t 15) (.t 17)),
      o 19 (.pick (.t 14) (kb true) (.t 18)),
      o 20 (.mv (.t 19)),
      og 21 20 false (.mv (.t 0)),
      og 22 20 false (.mv (.t 1)),
      og 23 20 false (.sls (.t 21) (some (.t 22)) none),
      og 24 20 false (.callp 33 [(.t 23)]),
      o 25 (.pick (.t 20) (kb true) (.t 24))])
    (.cond (.t 25)
     (.seq
      (rg [
        o 4 (.mv (ks [])),
        o 5 (.mv (kc 0)),
        o 6 (.mv (kc 2))])
      .ret)
     .skip))
   (.seq
    (rg [
      o 27 (.mv (.t 0)),
      o 28 (.mv (.t 1)),
      o 29 (.callp 34 [(.t 27), (.t 28)]),
      o 26 (.mv (.t 29)),
      o 30 (.ext (.t 26) 0),
      o 31 (.ext (.t 26) 1),
      o 32 (.ext (.t 26) 2),
      o 7 (.mv (.t 30)),
      o 8 (.mv (.t 31)),
      o 9 (.mv (.t 32))])
    (.seq
     (.seq
      (rg [
        o 33 (.mv (.t 9)),
        o 34 (.un .not (.t 33)),
        o 35 (.mv (.t 34)),
        og 36 35 false (.mv (.t 7)),
        og 37 35 false (.callp 35 [(.t 36)]),
        og 38 35 false (.un .not (.t 37)),
        o 39 (.pick (.t 35) (kb true) (.t 38))])
      (.cond (.t 39)
       (.seq
        (rg [
          o 4 (.mv (ks [])),
          o 5 (.mv (kc 0)),
          o 6 (.mv (kc 3))])
        .ret)
       .skip))
     (.seq
      (rg [
        o 40 (.mv (.t 0)),
        o 41 (.mv (.t 1)),
        o 42 (.mv (.t 8)),
        o 43 (.sls (.t 40) (some (.t 41)) (some (.t 42))),
        o 10 (.mv (.t 43))])
      (.seq
       (rg [
         o 44 (.mv (.t 8)),
         o 45 (.bin .add (.t 44) (kc 4)),
         o 8 (.mv (.t 45))])
       (.seq
        (.seq
         (rg [
           o 46 (.mv (.t 7)),
           o 47 (.mv (.t 0)),
           o 48 (.len true (.t 47)),
           o 49 (.mv (.t 8)),
           o 50 (.bin .sub (.t 48) (.t 49)),
           o 51 (.bin .gtr (.t 46) (.t 50))])
         (.cond (.t 51)
          (.seq
           (rg [
             o 4 (.mv (ks [])),
             o 5 (.mv (kc 0)),
             o 6 (.mv (kc 2))])
           .ret)
          .skip))
        (.seq
         (rg [
           o 52 (.mv (.t 0)),
           o 53 (.mv (.t 8)),
           o 54 (.mv (.t 8)),
           o 55 (.mv (.t 7)),
           o 56 (.bin .add (.t 54) (.t 55)),
           o 57 (.sls (.t 52) (some (.t 53)) (some (.t 56))),
           o 11 (.mv (.t 57))])
         (.seq
          (.seq
           (rg [
             o 58 (.mv (.t 10)),
             o 59 (.mv (.t 11)),
             o 60 (.bsl 1 [[.s []], [.s []]] [(0, (.t 58)), (1, (.t 59))]),
             o 61 (.callz 37 [(.t 60)]),
             o 62 (.callp 36 [(.t 61)]),
             o 63 (.mv (.t 0)),
             o 64 (.mv (.t 8)),
             o 65 (.bin .sub (.t 64) (kc 4)),
             o 66 (.mv (.t 8)),
             o 67 (.sls (.t 63) (some (.t 65)) (some (.t 66))),
             o 68 (.bin .neq (.t 62) (.t 67))])
           (.cond (.t 68)
            (.seq
             (rg [
               o 4 (.mv (ks [])),
               o 5 (.mv (kc 0)),
               o 6 (.mv (kc 4))])
             .ret)
            .skip))
          (.seq
           (rg [
             o 69 (.mv (.t 11)),
             o 70 (.mv (.t 8)),
             o 71 (.mv (.t 7)),
             o 72 (.bin .add (.t 70) (.t 71)),
             o 4 (.mv (.t 69)),
             o 5 (.mv (.t 72)),
             o 6 (.mv (kc 0))])
           .ret)))))))))),
 [.t 4, .t 5, .t 6], false⟩
/-! 27: wagoner/record.Get; loops: [] -/
def a27 : AF := ⟨31,
 (.seq
  (rg [
    o 1 (.box (.t 0)),
    o 2 (.alloc [.d (.i .i64 0), .d (.i .i64 0), .d (.s [])]),
    o 3 (.mv (kc 0))])
  (.seq
   (rg [
     o 4 (.alloc [.d (.i .i64 0)]),
     o 5 (.alloc [.d (.b false)]),
     on (.st 1 (.t 4) (kc 0)),
     on (.st 1 (.t 5) (kb true))])
   (.seq
    (rg [
      o 9 (.mkf 38 [(.t 1), (.t 4), (.t 5)]),
      o 6 (.mv (.t 9))])
    (.seq
     (rg [
       o 10 (.mv (.t 6)),
       o 11 (.callv (.t 10) []),
       o 12 (.build [.d (.i .i64 0), .d (.i .i64 0), .d (.s [])] [(0, 1, (.t 11))]),
       o 7 (.alloc [.d (.i .i64 0), .d (.i .i64 0), .d (.s [])]),
       on (.st 3 (.t 7) (.t 12))])
     (.seq
      (.seq
       (rg [
         o 13 (.ld none (.t 5))])
       (.cond (.t 13)
        (rg [
          o 14 (.mv (.t 6)),
          o 15 (.callv (.t 14) []),
          o 16 (.fa 1 (.t 7)),
          on (.st 1 (.t 16) (.t 15))])
        .skip))
      (.seq
       (.seq
        (rg [
          o 17 (.ld none (.t 5)),
          o 18 (.un .not (.t 17))])
        (.cond (.t 18)
         (.seq
          (rg [
            o 19 (.build [.d (.i .i64 0), .d (.i .i64 0), .d (.s [])] []),
            on (.st 3 (.t 2) (.t 19)),
            o 3 (.mv (kc 3))])
          .ret)
         .skip))
       (.seq
        (rg [
          o 20 (.ld none (.t 1)),
          o 21 (.ld none (.t 4)),
          o 22 (.sls (.t 20) (some (.t 21)) none),
          o 23 (.fa 2 (.t 7)),
          on (.st 1 (.t 23) (.t 22))])
        (.seq
         (.seq
          (rg [
            o 24 (.ld (some 3) (.t 7)),
            o 25 (.callp 39 [(.t 24)]),
            o 8 (.mv (.t 25))])
          (.seq
           (rg [
             o 26 (.mv (.t 8)),
             o 27 (.bin .neq (.t 26) (kc 0))])
           (.cond (.t 27)
            (.seq
             (rg [
               o 28 (.build [.d (.i .i64 0), .d (.i .i64 0), .d (.s [])] []),
               o 29 (.mv (.t 8)),
               on (.st 3 (.t 2) (.t 28)),
               o 3 (.mv (.t 29))])
             .ret)
            .skip)))
         (.seq
          (rg [
            o 30 (.ld (some 3) (.t 7)),
            on (.st 3 (.t 2) (.t 30)),
            o 3 (.mv (kc 0))])
          .ret))))))))),
 [.c (some 3) 2, .t 3], false⟩
/-! 28: wagoner/wagonerref03.Next; loops: [] -/
def a28 : AF := ⟨77,
 (.seq
  (rg [
    o 4 (.mv (ks [])),
    o 5 (.mv (kc 0)),
    o 6 (.mv (kc 0))])
  (.seq
   (.seq
    (rg [
      o 13 (.mv (.t 1)),
      o 14 (.bin .lss (.t 13) (kc 0)),
      o 15 (.mv (.t 14)),
      og 16 15 false (.mv (.t 1)),
      og 17 15 false (.mv (.t 0)),
      og 18 15 false (.len true (.t 17)),
      og 19 15 false (.bin .geq (.t 16) (.t 18)),
      o 20 (.pick (.t 15) (kb true) (.t 19)),
      o 21 (.mv (.t 20)),
      og 22 21 false (.mv (.t 0)),
      og 23 21 false (.mv (.t 1)),
      og 24 21 false (.callp 40 [(.t 22), (.t 23)]),
      o 25 (.pick (.t 21) (kb true) (.t 24))])
    (.cond (.t 25)
     (.seq
      (rg [
        o 4 (.mv (ks [])),
        o 5 (.mv (kc 0)),
        o 6 (.mv (kc 2))])
      .ret)
     .skip))
   (.seq
    (rg [
      o 27 (.mv (.t 0)),
      o 28 (.mv (.t 1)),
      o 29 (.callp 41 [(.t 27), (.t 28)]),
      o 26 (.mv (.t 29)),
      o 30 (.ext (.t 26) 0),
      o 31 (.ext (.t 26) 1),
      o 32 (.ext (.t 26) 2),
      o 7 (.mv (.t 30)),
      o 8 (.mv (.t 31)),
      o 9 (.mv (.t 32))])
    (.seq
     (.seq
      (rg [
        o 33 (.mv (.t 9)),
        o 34 (.un .not (.t 33)),
        o 35 (.mv (.t 34)),
        og 36 35 false (.mv (.t 7)),
        og 37 35 false (.bin .lss (.t 36) (kc 1)),
        o 38 (.pick (.t 35) (kb true) (.t 37)),
        o 39 (.mv (.t 38)),
        og 40 39 false (.mv (.t 7)),
        og 41 39 false (.bin .gtr (.t 40) (kc 65536)),
        o 42 (.pick (.t 39) (kb true) (.t 41))])
      (.cond (.t 42)
       (.seq
        (rg [
          o 4 (.mv (ks [])),
          o 5 (.mv (kc 0)),
          o 6 (.mv (kc 3))])
        .ret)
       .skip))
     (.seq
      (.seq
       (rg [
         o 43 (.mv (.t 0)),
         o 44 (.len true (.t 43)),
         o 45 (.mv (.t 8)),
         o 46 (.bin .sub (.t 44) (.t 45)),
         o 47 (.mv (.t 7)),
         o 48 (.bin .add (kc 4) (.t 47)),
         o 49 (.bin .lss (.t 46) (.t 48))])
       (.cond (.t 49)
        (.seq
         (rg [
           o 4 (.mv (ks [])),
           o 5 (.mv (kc 0)),
           o 6 (.mv (kc 2))])
         .ret)
        .skip))
      (.seq
       (rg [
         o 50 (.mv (.t 0)),
         o 51 (.mv (.t 8)),
         o 52 (.bin .add (.t 51) (kc 4)),
         o 53 (.mv (.t 8)),
         o 54 (.bin .add (.t 53) (kc 4)),
         o 55 (.mv (.t 7)),
         o 56 (.bin .add (.t 54) (.t 55)),
         o 57 (.sls (.t 50) (some (.t 52)) (some (.t 56))),
         o 10 (.mv (.t 57))])
       (.seq
        (.seq
         (rg [
           o 59 (.mv (.t 10)),
           o 60 (.callp 31 [(.t 59)]),
           o 58 (.mv (.t 60)),
           o 61 (.ext (.t 58) 0),
           o 62 (.ext (.t 58) 1),
           o 11 (.mv (.t 61)),
           o 12 (.mv (.t 62))])
         (.seq
          (rg [
            o 63 (.mv (.t 11)),
            o 64 (.mv (.t 0)),
            o 65 (.mv (.t 1)),
            o 66 (.mv (.t 8)),
            o 67 (.bin .add (.t 66) (kc 4)),
            o 68 (.mv (.t 7)),
            o 69 (.bin .add (.t 67) (.t 68)),
            o 70 (.sls (.t 64) (some (.t 65)) (some (.t 69))),
            o 71 (.bin .neq (.t 63) (.t 70))])
          (.cond (.t 71)
           (.seq
            (rg [
              o 4 (.mv (ks [])),
              o 5 (.mv (kc 0)),
              o 6 (.mv (kc 4))])
            .ret)
           .skip)))
        (.seq
         (rg [
           o 72 (.mv (.t 10)),
           o 73 (.mv (.t 8)),
           o 74 (.bin .add (.t 73) (kc 4)),
           o 75 (.mv (.t 7)),
           o 76 (.bin .add (.t 74) (.t 75)),
           o 4 (.mv (.t 72)),
           o 5 (.mv (.t 76)),
           o 6 (.mv (kc 0))])
         .ret)))))))),
 [.t 4, .t 5, .t 6], false⟩
/-! 29: wagoner/wagonerref04.Get; loops: [] -/
def a29 : AF := ⟨44,
 (.seq
  (rg [
    o 2 (.alloc [.d (.i .i64 0), .d (.i .i64 0), .d (.s [])]),
    o 3 (.mv (kc 0))])
  (.seq
   (rg [
     o 13 (.mv (.t 0)),
     o 14 (.callp 41 [(.t 13), (kc 0)]),
     o 12 (.mv (.t 14)),
     o 15 (.ext (.t 12) 0),
     o 16 (.ext (.t 12) 1),
     o 17 (.ext (.t 12) 2),
     o 4 (.mv (.t 15)),
     o 5 (.mv (.t 16)),
     o 6 (.mv (.t 17))])
   (.seq
    (.seq
     (rg [
       o 18 (.mv (.t 6)),
       o 19 (.un .not (.t 18))])
     (.cond (.t 19)
      (.seq
       (rg [
         o 20 (.build [.d (.i .i64 0), .d (.i .i64 0), .d (.s [])] []),
         on (.st 3 (.t 2) (.t 20)),
         o 3 (.mv (kc 3))])
       .ret)
      .skip))
    (.seq
     (rg [
       o 22 (.mv (.t 0)),
       o 23 (.mv (.t 5)),
       o 24 (.callp 41 [(.t 22), (.t 23)]),
       o 21 (.mv (.t 24)),
       o 25 (.ext (.t 21) 0),
       o 26 (.ext (.t 21) 1),
       o 27 (.ext (.t 21) 2),
       o 7 (.mv (.t 25)),
       o 8 (.mv (.t 26)),
       o 9 (.mv (.t 27))])
     (.seq
      (.seq
       (rg [
         o 28 (.mv (.t 9)),
         o 29 (.un .not (.t 28))])
       (.cond (.t 29)
        (.seq
         (rg [
           o 30 (.build [.d (.i .i64 0), .d (.i .i64 0), .d (.s [])] []),
           on (.st 3 (.t 2) (.t 30)),
           o 3 (.mv (kc 3))])
         .ret)
        .skip))
      (.seq
       (rg [
         o 31 (.mv (.t 4)),
         o 32 (.mv (.t 7)),
         o 33 (.mv (.t 0)),
         o 34 (.mv (.t 8)),
         o 35 (.sls (.t 33) (some (.t 34)) none),
         o 36 (.build [.d (.i .i64 0), .d (.i .i64 0), .d (.s [])] [(0, 1, (.t 31)), (1, 1, (.t 32)), (2, 1, (.t 35))]),
         o 10 (.alloc [.d (.i .i64 0), .d (.i .i64 0), .d (.s [])]),
         on (.st 3 (.t 10) (.t 36))])
       (.seq
        (.seq
         (rg [
           o 37 (.ld (some 3) (.t 10)),
           o 38 (.callp 30 [(.t 37)]),
           o 11 (.mv (.t 38))])
         (.seq
          (rg [
            o 39 (.mv (.t 11)),
            o 40 (.bin .neq (.t 39) (kc 0))])
          (.cond (.t 40)
           (.seq
            (rg [
              o 41 (.build [.d (.i .i64 0), .d (.i .i64 0), .d (.s [])] []),
              o 42 (.mv (.t 11)),
              on (.st 3 (.t 2) (.t 41)),
              o 3 (.mv (.t 42))])
            .ret)
           .skip)))
        (.seq
         (rg [
           o 43 (.ld (some 3) (.t 10)),
           on (.st 3 (.t 2) (.t 43)),
           o 3 (.mv (kc 0))])
         .ret)))))))),
 [.c (some 3) 2, .t 3], false⟩
/-! 30: wagoner/wagonerref04.why; loops: [] -/
def a30 : AF := ⟨17,
 (.seq
  (rg [
    o 1 (.box (.t 0)),
    o 2 (.mv (kc 0))])
  (.seq
   (.seq
    (rg [
      o 3 (.fa 0 (.t 1)),
      o 4 (.ld none (.t 3)),
      o 5 (.callp 42 [(.t 4)]),
      o 6 (.un .not (.t 5)),
      o 7 (.mv (.t 6)),
      og 8 7 false (.fa 1 (.t 1)),
      og 9 7 false (.ld none (.t 8)),
      og 10 7 false (.callp 42 [(.t 9)]),
      og 11 7 false (.un .not (.t 10)),
      o 12 (.pick (.t 7) (kb true) (.t 11))])
    (.cond (.t 12)
     (.seq
      (rg [
        o 2 (.mv (kc 6))])
      .ret)
     .skip))
   (.seq
    (.seq
     (rg [
       o 13 (.fa 2 (.t 1)),
       o 14 (.ld none (.t 13)),
       o 15 (.len true (.t 14)),
       o 16 (.bin .gtr (.t 15) (kc 64))])
     (.cond (.t 16)
      (.seq
       (rg [
         o 2 (.mv (kc 5))])
       .ret)
      .skip))
    (.seq
     (rg [
       o 2 (.mv (kc 0))])
     .ret)))),
 [.t 2], false⟩
/-! 31: wagoner/wagonerref03.Put; loops: [] -/
def a31 : AF := ⟨25,
 (.seq
  (rg [
    o 2 (.mv (ks [])),
    o 3 (.mv (kc 0))])
  (.seq
   (.seq
    (rg [
      o 5 (.mv (.t 0)),
      o 6 (.len true (.t 5)),
      o 7 (.bin .lss (.t 6) (kc 1)),
      o 8 (.mv (.t 7)),
      og 9 8 false (.mv (.t 0)),
      og 10 8 false (.len true (.t 9)),
      og 11 8 false (.bin .gtr (.t 10) (kc 65536)),
      o 12 (.pick (.t 8) (kb true) (.t 11))])
    (.cond (.t 12)
     (.seq
      (rg [
        o 2 (.mv (ks [])),
        o 3 (.mv (kc 5))])
      .ret)
     .skip))
   (.seq
    (rg [
      o 13 (.mv (.t 0)),
      o 14 (.len true (.t 13)),
      o 15 (.callp 43 [(.t 14)]),
      o 4 (.mv (.t 15))])
    (.seq
     (rg [
       o 16 (.mv (.t 4)),
       o 17 (.mv (.t 4)),
       o 18 (.mv (.t 0)),
       o 19 (.bin .add (.t 17) (.t 18)),
       o 20 (.callp 45 [(.t 19)]),
       o 21 (.callp 44 [(.t 20)]),
       o 22 (.bin .add (.t 16) (.t 21)),
       o 23 (.mv (.t 0)),
       o 24 (.bin .add (.t 22) (.t 23)),
       o 2 (.mv (.t 24)),
       o 3 (.mv (kc 0))])
     .ret)))),
 [.t 2, .t 3], false⟩
/-! 32: wagoner/wagonerref04.body; loops: [] -/
def a32 : AF := ⟨13,
 (.seq
  (rg [
    o 1 (.box (.t 0)),
    o 2 (.mv (ks []))])
  (.seq
   (rg [
     o 3 (.fa 0 (.t 1)),
     o 4 (.ld none (.t 3)),
     o 5 (.callp 43 [(.t 4)]),
     o 6 (.fa 1 (.t 1)),
     o 7 (.ld none (.t 6)),
     o 8 (.callp 43 [(.t 7)]),
     o 9 (.bin .add (.t 5) (.t 8)),
     o 10 (.fa 2 (.t 1)),
     o 11 (.ld none (.t 10)),
     o 12 (.bin .add (.t 9) (.t 11)),
     o 2 (.mv (.t 12))])
   .ret)),
 [.t 2], false⟩
/-! 33: wagoner/frame.open; loops: [[0, 8, 9]] -/
def a33_0 : AC :=
 (.seq
  (rg [
    o 10 (.bin .lss (.t 9) (.t 8))])
  (.seq
   (.cond (.t 10)
    .skip
    (.exit 0))
   (.seq
    (.block 1
     (.seq
      (rg [
        o 11 (.mv (.t 9)),
        o 3 (.mv (.t 11))])
      (.seq
       (rg [
         o 12 (.mv (.t 0)),
         o 13 (.mv (.t 3)),
         o 14 (.ixs (.t 12) (.t 13)),
         o 15 (.bin .lss (.t 14) (kx (.d (.i .u8 128))))])
       (.cond (.t 15)
        (.seq
         (rg [
           o 2 (.mv (kb false))])
         .ret)
        .skip))))
    (rg [
      o 16 (.bin .add (.t 9) (kc 1)),
      o 9 (.mv (.t 16))]))))
def a33 : AF := ⟨17,
 (.seq
  (rg [
    o 2 (.mv (kb false))])
  (.seq
   (.seq
    (rg [
      o 4 (.mv (.t 0)),
      o 5 (.len true (.t 4)),
      o 6 (.bin .gtr (.t 5) (kc 8))])
    (.cond (.t 6)
     (.seq
      (rg [
        o 2 (.mv (kb false))])
      .ret)
     .skip))
   (.seq
    (.seq
     (rg [
       o 7 (.mv (.t 0)),
       o 8 (.len true (.t 7)),
       o 9 (.mv (kc 0))])
     (.block 0
      (.loop [0, 8, 9] a33_0)))
    (.seq
     (rg [
       o 2 (.mv (kb true))])
     .ret)))),
 [.t 2], false⟩
/-! 34: wagoner/varint.Read; loops: [[0, 1, 7, 8]] -/
def a34_0 : AC :=
 (.seq
  (.seq
   (rg [
     o 12 (.mv (.t 8)),
     o 13 (.bin .lss (.t 12) (kc 9)),
     o 14 (.mv (.t 13)),
     og 15 14 true (.mv (.t 8)),
     og 16 14 true (.mv (.t 0)),
     og 17 14 true (.len true (.t 16)),
     og 18 14 true (.mv (.t 1)),
     og 19 14 true (.bin .sub (.t 17) (.t 18)),
     og 20 14 true (.bin .lss (.t 15) (.t 19)),
     o 21 (.pick (.t 14) (.t 20) (kb false))])
   (.cond (.t 21)
    .skip
    (.exit 0)))
  (.seq
   (.block 1
    (.seq
     (rg [
       o 24 (.mv (.t 0)),
       o 25 (.mv (.t 1)),
       o 26 (.mv (.t 8)),
       o 27 (.bin .add (.t 25) (.t 26)),
       o 28 (.ixs (.t 24) (.t 27)),
       o 9 (.mv (.t 28))])
     (.seq
      (rg [
        o 29 (.mv (.t 7)),
        o 30 (.mv (.t 9)),
        o 31 (.bin .and (.t 30) (kx (.d (.i .u8 127)))),
        o 32 (.cvi .i64 (.t 31)),
        o 33 (.mv (.t 8)),
        o 34 (.bin .mul (kc 7) (.t 33)),
        o 35 (.cvi .u64 (.t 34)),
        o 36 (.bin .shl (.t 32) (.t 35)),
        o 37 (.bin .or (.t 29) (.t 36)),
        o 7 (.mv (.t 37))])
      (.block 2
       (.seq
        (rg [
          o 44 (.mv (.t 9)),
          o 45 (.bin .geq (.t 44) (kx (.d (.i .u8 128)))),
          o 43 (.mv (.t 45))])
        (.cond (.t 43)
         .skip
         (.seq
          (rg [
            o 47 (.mv (.t 9)),
            o 48 (.bin .eql (.t 47) (kx (.d (.i .u8 0)))),
            o 49 (.mv (.t 48)),
            og 50 49 true (.mv (.t 8)),
            og 51 49 true (.bin .gtr (.t 50) (kc 0)),
            o 52 (.pick (.t 49) (.t 51) (kb false)),
            o 46 (.mv (.t 52))])
          (.cond (.t 46)
           (.exit 0)
           (.seq
            (rg [
              o 38 (.mv (.t 7)),
              o 39 (.mv (.t 1)),
              o 40 (.mv (.t 8)),
              o 41 (.bin .add (.t 39) (.t 40)),
              o 42 (.bin .add (.t 41) (kc 1)),
              o 4 (.mv (.t 38)),
              o 5 (.mv (.t 42)),
              o 6 (.mv (kb true))])
            .ret)))))))))
   (rg [
     o 22 (.mv (.t 8)),
     o 23 (.bin .add (.t 22) (kc 1)),
     o 8 (.mv (.t 23))])))
def a34 : AF := ⟨53,
 (.seq
  (rg [
    o 4 (.mv (kc 0)),
    o 5 (.mv (kc 0)),
    o 6 (.mv (kb false))])
  (.seq
   (.seq
    (rg [
      o 10 (.mv (.t 1)),
      o 11 (.bin .lss (.t 10) (kc 0))])
    (.cond (.t 11)
     (.seq
      (rg [
        o 4 (.mv (kc 0)),
        o 5 (.mv (kc 0)),
        o 6 (.mv (kb false))])
      .ret)
     .skip))
   (.seq
    (rg [
      o 7 (.mv (kc 0))])
    (.seq
     .skip
     (.seq
      (.seq
       (rg [
         o 8 (.mv (kc 0))])
       (.block 0
        (.loop [0, 1, 7, 8] a34_0)))
      (.seq
       (rg [
         o 4 (.mv (kc 0)),
         o 5 (.mv (kc 0)),
         o 6 (.mv (kb false))])
       .ret)))))),
 [.t 4, .t 5, .t 6], false⟩
/-! 35: wagoner/frame.fits; loops: [] -/
def a35 : AF := ⟨9,
 (.seq
  (rg [
    o 2 (.mv (kb false))])
  (.seq
   (rg [
     o 3 (.mv (.t 0)),
     o 4 (.bin .geq (.t 3) (kc 1)),
     o 5 (.mv (.t 4)),
     og 6 5 true (.mv (.t 0)),
     og 7 5 true (.bin .leq (.t 6) (kc 65536)),
     o 8 (.pick (.t 5) (.t 7) (kb false)),
     o 2 (.mv (.t 8))])
   .ret)),
 [.t 2], false⟩
/-! 36: wagoner/crc.Four; loops: [] -/
def a36 : AF := ⟨16,
 (.seq
  (rg [
    o 2 (.mv (ks []))])
  (.seq
   (rg [
     o 3 (.mv (.t 0)),
     o 4 (.cvi .u8 (.t 3)),
     o 5 (.mv (.t 0)),
     o 6 (.bin .shr (.t 5) (kx (.d (.i .u64 8)))),
     o 7 (.cvi .u8 (.t 6)),
     o 8 (.mv (.t 0)),
     o 9 (.bin .shr (.t 8) (kx (.d (.i .u64 16)))),
     o 10 (.cvi .u8 (.t 9)),
     o 11 (.mv (.t 0)),
     o 12 (.bin .shr (.t 11) (kx (.d (.i .u64 24)))),
     o 13 (.cvi .u8 (.t 12)),
     o 14 (.bsl 1 (List.replicate 4 [.i .u8 0]) [(0, (.t 4)), (1, (.t 7)), (2, (.t 10)), (3, (.t 13))]),
     o 15 (.b2s (.t 14)),
     o 2 (.mv (.t 15))])
   .ret)),
 [.t 2], false⟩
/-! 37: wagoner/crc.Sum; loops: [[3, 6, 7, 8]] -/
def a37_0 : AC :=
 (.seq
  (rg [
    o 9 (.bin .lss (.t 8) (.t 7))])
  (.seq
   (.cond (.t 9)
    .skip
    (.exit 0))
   (.seq
    (.block 1
     (.seq
      (rg [
        o 10 (.ia 1 (.t 6) (.t 8)),
        o 11 (.ld none (.t 10)),
        o 5 (.mv (.t 11))])
      (rg [
        o 12 (.mv (.t 3)),
        o 13 (.mv (.t 5)),
        o 14 (.callp 46 [(.t 12), (.t 13)]),
        o 3 (.mv (.t 14))])))
    (rg [
      o 15 (.bin .add (.t 8) (kc 1)),
      o 8 (.mv (.t 15))]))))
def a37 : AF := ⟨17,
 (.seq
  (rg [
    o 2 (.mv (kx (.d (.i .u32 0))))])
  (.seq
   (rg [
     o 3 (.mv (kx (.d (.i .u32 0))))])
   (.seq
    (.seq
     (rg [
       o 6 (.mv (.t 0)),
       o 7 (.len false (.t 6)),
       o 8 (.mv (kc 0))])
     (.block 0
      (.loop [3, 6, 7, 8] a37_0)))
    (.seq
     (rg [
       o 16 (.mv (.t 3)),
       o 2 (.mv (.t 16))])
     .ret)))),
 [.t 2], false⟩
/-! 38: wagoner/record.Get$1; loops: [] -/
def a38 : AF := ⟨20,
 (.seq
  (rg [
    o 3 (.mv (kc 0))])
  (.seq
   (rg [
     o 8 (.ld none (.t 0)),
     o 9 (.ld none (.t 1)),
     o 10 (.callp 34 [(.t 8), (.t 9)]),
     o 7 (.mv (.t 10)),
     o 11 (.ext (.t 7) 0),
     o 12 (.ext (.t 7) 1),
     o 13 (.ext (.t 7) 2),
     o 4 (.mv (.t 11)),
     o 5 (.mv (.t 12)),
     o 6 (.mv (.t 13))])
   (.seq
    (rg [
      o 14 (.mv (.t 5)),
      o 15 (.ld none (.t 2)),
      o 16 (.mv (.t 15)),
      og 17 16 true (.mv (.t 6)),
      o 18 (.pick (.t 16) (.t 17) (kb false)),
      on (.st 1 (.t 1) (.t 14)),
      on (.st 1 (.t 2) (.t 18))])
    (.seq
     (rg [
       o 19 (.mv (.t 4)),
       o 3 (.mv (.t 19))])
     .ret)))),
 [.t 3], false⟩
/-! 39: wagoner/record.check; loops: [] -/
def a39 : AF := ⟨17,
 (.seq
  (rg [
    o 1 (.box (.t 0)),
    o 2 (.mv (kc 0))])
  (.seq
   (.block 0
    (.seq
     (rg [
       o 4 (.fa 0 (.t 1)),
       o 5 (.ld none (.t 4)),
       o 6 (.callp 47 [(.t 5)]),
       o 7 (.mv (.t 6)),
       og 8 7 false (.fa 1 (.t 1)),
       og 9 7 false (.ld none (.t 8)),
       og 10 7 false (.callp 47 [(.t 9)]),
       o 11 (.pick (.t 7) (kb true) (.t 10)),
       o 3 (.mv (.t 11))])
     (.cond (.t 3)
      (.seq
       (rg [
         o 2 (.mv (kc 6))])
       .ret)
      (.seq
       (rg [
         o 13 (.fa 2 (.t 1)),
         o 14 (.ld none (.t 13)),
         o 15 (.len true (.t 14)),
         o 16 (.bin .gtr (.t 15) (kc 64)),
         o 12 (.mv (.t 16))])
       (.cond (.t 12)
        (.seq
         (rg [
           o 2 (.mv (kc 5))])
         .ret)
        .skip)))))
   (.seq
    (rg [
      o 2 (.mv (kc 0))])
    .ret))),
 [.t 2], false⟩
/-! 40: wagoner/wagonerref03.ends; loops: [[0, 1, 5]] -/
def a40_0 : AC :=
 (.seq
  (.seq
   (rg [
     o 7 (.mv (.t 5)),
     o 8 (.mv (.t 0)),
     o 9 (.len true (.t 8)),
     o 10 (.bin .lss (.t 7) (.t 9))])
   (.cond (.t 10)
    .skip
    (.exit 0)))
  (.seq
   (.block 1
    (.seq
     (rg [
       o 13 (.mv (.t 0)),
       o 14 (.mv (.t 5)),
       o 15 (.ixs (.t 13) (.t 14)),
       o 16 (.bin .lss (.t 15) (kx (.d (.i .u8 128))))])
     (.cond (.t 16)
      (.seq
       (rg [
         o 4 (.mv (kb false))])
       .ret)
      .skip)))
   (rg [
     o 11 (.mv (.t 5)),
     o 12 (.bin .add (.t 11) (kc 1)),
     o 5 (.mv (.t 12))])))
def a40 : AF := ⟨22,
 (.seq
  (rg [
    o 4 (.mv (kb false))])
  (.seq
   (.seq
    (rg [
      o 6 (.mv (.t 1)),
      o 5 (.mv (.t 6))])
    (.block 0
     (.loop [0, 1, 5] a40_0)))
   (.seq
    (rg [
      o 17 (.mv (.t 0)),
      o 18 (.len true (.t 17)),
      o 19 (.mv (.t 1)),
      o 20 (.bin .sub (.t 18) (.t 19)),
      o 21 (.bin .leq (.t 20) (kc 8)),
      o 4 (.mv (.t 21))])
    .ret))),
 [.t 4], false⟩
/-! 41: wagoner/wagonerref01.Read; loops: [[0, 1, 7, 8, 9]] -/
def a41_0 : AC :=
 (.seq
  (.seq
   (rg [
     o 19 (.mv (.t 9)),
     o 20 (.bin .lss (.t 19) (kc 9)),
     o 21 (.mv (.t 20)),
     og 22 21 true (.mv (.t 9)),
     og 23 21 true (.mv (.t 0)),
     og 24 21 true (.len true (.t 23)),
     og 25 21 true (.mv (.t 1)),
     og 26 21 true (.bin .sub (.t 24) (.t 25)),
     og 27 21 true (.bin .lss (.t 22) (.t 26)),
     o 28 (.pick (.t 21) (.t 27) (kb false))])
   (.cond (.t 28)
    .skip
    (.exit 0)))
  (.seq
   (.block 1
    (.seq
     (rg [
       o 31 (.mv (.t 0)),
       o 32 (.mv (.t 1)),
       o 33 (.mv (.t 9)),
       o 34 (.bin .add (.t 32) (.t 33)),
       o 35 (.ixs (.t 31) (.t 34)),
       o 36 (.cvi .i64 (.t 35)),
       o 10 (.mv (.t 36))])
     (.seq
      (rg [
        o 37 (.mv (.t 7)),
        o 38 (.mv (.t 10)),
        o 39 (.bin .rem (.t 38) (kc 128)),
        o 40 (.mv (.t 8)),
        o 41 (.bin .mul (.t 39) (.t 40)),
        o 42 (.bin .add (.t 37) (.t 41)),
        o 7 (.mv (.t 42))])
      (.seq
       (.seq
        (rg [
          o 43 (.mv (.t 10)),
          o 44 (.bin .lss (.t 43) (kc 128))])
        (.cond (.t 44)
         (.seq
          (.seq
           (rg [
             o 45 (.mv (.t 7)),
             o 46 (.callp 43 [(.t 45)]),
             o 47 (.mv (.t 0)),
             o 48 (.mv (.t 1)),
             o 49 (.mv (.t 1)),
             o 50 (.mv (.t 9)),
             o 51 (.bin .add (.t 49) (.t 50)),
             o 52 (.bin .add (.t 51) (kc 1)),
             o 53 (.sls (.t 47) (some (.t 48)) (some (.t 52))),
             o 54 (.bin .neq (.t 46) (.t 53))])
           (.cond (.t 54)
            (.seq
             (rg [
               o 4 (.mv (kc 0)),
               o 5 (.mv (kc 0)),
               o 6 (.mv (kb false))])
             .ret)
            .skip))
          (.seq
           (rg [
             o 55 (.mv (.t 7)),
             o 56 (.mv (.t 1)),
             o 57 (.mv (.t 9)),
             o 58 (.bin .add (.t 56) (.t 57)),
             o 59 (.bin .add (.t 58) (kc 1)),
             o 4 (.mv (.t 55)),
             o 5 (.mv (.t 59)),
             o 6 (.mv (kb true))])
           .ret))
         .skip))
       (.seq
        (rg [
          o 60 (.mv (.t 9)),
          o 61 (.bin .lss (.t 60) (kc 8))])
        (.cond (.t 61)
         (rg [
           o 62 (.mv (.t 8)),
           o 63 (.bin .mul (.t 62) (kc 128)),
           o 8 (.mv (.t 63))])
         .skip))))))
   (rg [
     o 29 (.mv (.t 9)),
     o 30 (.bin .add (.t 29) (kc 1)),
     o 9 (.mv (.t 30))])))
def a41 : AF := ⟨64,
 (.seq
  (rg [
    o 4 (.mv (kc 0)),
    o 5 (.mv (kc 0)),
    o 6 (.mv (kb false))])
  (.seq
   (.seq
    (rg [
      o 11 (.mv (.t 1)),
      o 12 (.bin .lss (.t 11) (kc 0)),
      o 13 (.mv (.t 12)),
      og 14 13 false (.mv (.t 1)),
      og 15 13 false (.mv (.t 0)),
      og 16 13 false (.len true (.t 15)),
      og 17 13 false (.bin .geq (.t 14) (.t 16)),
      o 18 (.pick (.t 13) (kb true) (.t 17))])
    (.cond (.t 18)
     (.seq
      (rg [
        o 4 (.mv (kc 0)),
        o 5 (.mv (kc 0)),
        o 6 (.mv (kb false))])
      .ret)
     .skip))
   (.seq
    (rg [
      o 7 (.mv (kc 0)),
      o 8 (.mv (kc 1))])
    (.seq
     (.seq
      (rg [
        o 9 (.mv (kc 0))])
      (.block 0
       (.loop [0, 1, 7, 8, 9] a41_0)))
     (.seq
      (rg [
        o 4 (.mv (kc 0)),
        o 5 (.mv (kc 0)),
        o 6 (.mv (kb false))])
      .ret))))),
 [.t 4, .t 5, .t 6], false⟩
/-! 42: wagoner/wagonerref04.within; loops: [] -/
def a42 : AF := ⟨9,
 (.seq
  (rg [
    o 2 (.mv (kb false))])
  (.seq
   (rg [
     o 3 (.mv (.t 0)),
     o 4 (.bin .geq (.t 3) (kc 0)),
     o 5 (.mv (.t 4)),
     og 6 5 true (.mv (.t 0)),
     og 7 5 true (.bin .leq (.t 6) (kc 1099511627776)),
     o 8 (.pick (.t 5) (.t 7) (kb false)),
     o 2 (.mv (.t 8))])
   .ret)),
 [.t 2], false⟩
/-! 43: wagoner/wagonerref01.Put; loops: [[0, 3]] -/
def a43_0 : AC :=
 (.seq
  (.seq
   (rg [
     o 6 (.mv (.t 0)),
     o 7 (.bin .geq (.t 6) (kc 128))])
   (.cond (.t 7)
    .skip
    (.exit 0)))
  (.block 1
   (.seq
    (rg [
      o 8 (.mv (.t 3)),
      o 9 (.mv (.t 0)),
      o 10 (.bin .rem (.t 9) (kc 128)),
      o 11 (.bin .add (kc 128) (.t 10)),
      o 12 (.cvi .u8 (.t 11)),
      o 13 (.bsl 1 [[.i .u8 0]] [(0, (.t 12))]),
      o 14 (.b2s (.t 13)),
      o 15 (.bin .add (.t 8) (.t 14)),
      o 3 (.mv (.t 15))])
    (rg [
      o 16 (.mv (.t 0)),
      o 17 (.bin .quo (.t 16) (kc 128)),
      o 0 (.mv (.t 17))]))))
def a43 : AF := ⟨24,
 (.seq
  (rg [
    o 2 (.mv (ks []))])
  (.seq
   (.seq
    (rg [
      o 4 (.mv (.t 0)),
      o 5 (.bin .lss (.t 4) (kc 0))])
    (.cond (.t 5)
     (.seq
      (rg [
        o 2 (.mv (ks []))])
      .ret)
     .skip))
   (.seq
    (rg [
      o 3 (.mv (ks []))])
    (.seq
     (.block 0
      (.loop [0, 3] a43_0))
     (.seq
      (rg [
        o 18 (.mv (.t 3)),
        o 19 (.mv (.t 0)),
        o 20 (.cvi .u8 (.t 19)),
        o 21 (.bsl 1 [[.i .u8 0]] [(0, (.t 20))]),
        o 22 (.b2s (.t 21)),
        o 23 (.bin .add (.t 18) (.t 22)),
        o 2 (.mv (.t 23))])
      .ret))))),
 [.t 2], false⟩
/-! 44: wagoner/wagonerref02.Four; loops: [] -/
def a44 : AF := ⟨16,
 (.seq
  (rg [
    o 2 (.mv (ks []))])
  (.seq
   (rg [
     o 3 (.mv (.t 0)),
     o 4 (.cvi .u8 (.t 3)),
     o 5 (.mv (.t 0)),
     o 6 (.bin .shr (.t 5) (kx (.d (.i .u64 8)))),
     o 7 (.cvi .u8 (.t 6)),
     o 8 (.mv (.t 0)),
     o 9 (.bin .shr (.t 8) (kx (.d (.i .u64 16)))),
     o 10 (.cvi .u8 (.t 9)),
     o 11 (.mv (.t 0)),
     o 12 (.bin .shr (.t 11) (kx (.d (.i .u64 24)))),
     o 13 (.cvi .u8 (.t 12)),
     o 14 (.bsl 1 (List.replicate 4 [.i .u8 0]) [(0, (.t 4)), (1, (.t 7)), (2, (.t 10)), (3, (.t 13))]),
     o 15 (.b2s (.t 14)),
     o 2 (.mv (.t 15))])
   .ret)),
 [.t 2], false⟩
/-! 45: wagoner/wagonerref02.Of; loops: [] -/
def a45 : AF := ⟨5,
 (.seq
  (rg [
    o 2 (.mv (kx (.d (.i .u32 0))))])
  (.seq
   (rg [
     o 3 (.mv (.t 0)),
     o 4 (.callp 48 [(kx (.d (.i .u32 0))), (.t 3)]),
     o 2 (.mv (.t 4))])
   .ret)),
 [.t 2], false⟩
/-! 46: wagoner/crc.On; loops: [[1, 5, 6, 12, 13]] -/
def a46_0 : AC :=
 (.seq
  (rg [
    o 14 (.bin .lss (.t 13) (.t 12))])
  (.seq
   (.cond (.t 14)
    .skip
    (.exit 0))
   (.seq
    (.block 1
     (.seq
      (rg [
        o 15 (.mv (.t 13)),
        o 7 (.mv (.t 15))])
      (.seq
       (rg [
         o 16 (.mv (.t 6)),
         o 17 (.mv (.t 1)),
         o 18 (.mv (.t 7)),
         o 19 (.ixs (.t 17) (.t 18)),
         o 20 (.cvi .u32 (.t 19)),
         o 21 (.bin .xor (.t 16) (.t 20)),
         o 6 (.mv (.t 21))])
       (.seq
        (rg [
          o 22 (.mv (.t 6)),
          o 23 (.bin .shr (.t 22) (kx (.d (.i .u64 4)))),
          o 24 (.mv (.t 6)),
          o 25 (.bin .and (.t 24) (kx (.d (.i .u32 15)))),
          o 26 (.iar 16 1 (.t 5) (.t 25)),
          o 27 (.ld none (.t 26)),
          o 28 (.bin .xor (.t 23) (.t 27)),
          o 6 (.mv (.t 28))])
        (rg [
          o 29 (.mv (.t 6)),
          o 30 (.bin .shr (.t 29) (kx (.d (.i .u64 4)))),
          o 31 (.mv (.t 6)),
          o 32 (.bin .and (.t 31) (kx (.d (.i .u32 15)))),
          o 33 (.iar 16 1 (.t 5) (.t 32)),
          o 34 (.ld none (.t 33)),
          o 35 (.bin .xor (.t 30) (.t 34)),
          o 6 (.mv (.t 35))])))))
    (rg [
      o 36 (.bin .add (.t 13) (kc 1)),
      o 13 (.mv (.t 36))]))))
def a46 : AF := ⟨39,
 (.seq
  (rg [
    o 4 (.mv (kx (.d (.i .u32 0))))])
  (.seq
   (rg [
     o 8 (.callp 49 []),
     o 5 (.alloc [.d (.i .u32 0), .d (.i .u32 0), .d (.i .u32 0), .d (.i .u32 0), .d (.i .u32 0), .d (.i .u32 0), .d (.i .u32 0), .d (.i .u32 0), .d (.i .u32 0), .d (.i .u32 0), .d (.i .u32 0), .d (.i .u32 0), .d (.i .u32 0), .d (.i .u32 0), .d (.i .u32 0), .d (.i .u32 0)]),
     on (.st 16 (.t 5) (.t 8))])
   (.seq
    (rg [
      o 9 (.mv (.t 0)),
      o 10 (.un .xor (.t 9)),
      o 6 (.mv (.t 10))])
    (.seq
     (.seq
      (rg [
        o 11 (.mv (.t 1)),
        o 12 (.len true (.t 11)),
        o 13 (.mv (kc 0))])
      (.block 0
       (.loop [1, 5, 6, 12, 13] a46_0)))
     (.seq
      (rg [
        o 37 (.mv (.t 6)),
        o 38 (.un .xor (.t 37)),
        o 4 (.mv (.t 38))])
      .ret))))),
 [.t 4], false⟩
/-! 47: wagoner/record.far; loops: [] -/
def a47 : AF := ⟨6,
 (.seq
  (rg [
    o 2 (.mv (kb false))])
  (.seq
   (rg [
     o 3 (.mv (.t 0)),
     o 4 (.cvi .u64 (.t 3)),
     o 5 (.bin .gtr (.t 4) (kx (.d (.i .u64 1099511627776)))),
     o 2 (.mv (.t 5))])
   .ret)),
 [.t 2], false⟩
/-! 48: wagoner/wagonerref02.On; loops: [[1, 5, 6], [1, 5, 6, 7]] -/
def a48_1 : AC :=
 (.seq
  (.seq
   (rg [
     o 23 (.mv (.t 7)),
     o 24 (.bin .lss (.t 23) (kc 8))])
   (.cond (.t 24)
    .skip
    (.exit 2)))
  (.seq
   (.block 3
    (.seq
     (rg [
       o 27 (.mv (.t 5)),
       o 28 (.bin .rem (.t 27) (kx (.d (.i .u32 2)))),
       o 29 (.bin .eql (.t 28) (kx (.d (.i .u32 1)))),
       o 8 (.mv (.t 29))])
     (.seq
      (rg [
        o 30 (.mv (.t 5)),
        o 31 (.bin .quo (.t 30) (kx (.d (.i .u32 2)))),
        o 5 (.mv (.t 31))])
      (.seq
       (rg [
         o 32 (.mv (.t 8))])
       (.cond (.t 32)
        (rg [
          o 33 (.mv (.t 5)),
          o 34 (.bin .xor (.t 33) (kx (.d (.i .u32 2197175160)))),
          o 5 (.mv (.t 34))])
        .skip)))))
   (rg [
     o 25 (.mv (.t 7)),
     o 26 (.bin .add (.t 25) (kc 1)),
     o 7 (.mv (.t 26))])))
def a48_0 : AC :=
 (.seq
  (.seq
   (rg [
     o 11 (.mv (.t 6)),
     o 12 (.mv (.t 1)),
     o 13 (.len true (.t 12)),
     o 14 (.bin .lss (.t 11) (.t 13))])
   (.cond (.t 14)
    .skip
    (.exit 0)))
  (.seq
   (.block 1
    (.seq
     (rg [
       o 17 (.mv (.t 5)),
       o 18 (.mv (.t 1)),
       o 19 (.mv (.t 6)),
       o 20 (.ixs (.t 18) (.t 19)),
       o 21 (.cvi .u32 (.t 20)),
       o 22 (.bin .xor (.t 17) (.t 21)),
       o 5 (.mv (.t 22))])
     (.seq
      (rg [
        o 7 (.mv (kc 0))])
      (.block 2
       (.loop [1, 5, 6, 7] a48_1)))))
   (rg [
     o 15 (.mv (.t 6)),
     o 16 (.bin .add (.t 15) (kc 1)),
     o 6 (.mv (.t 16))])))
def a48 : AF := ⟨37,
 (.seq
  (rg [
    o 4 (.mv (kx (.d (.i .u32 0))))])
  (.seq
   (rg [
     o 9 (.mv (.t 0)),
     o 10 (.un .xor (.t 9)),
     o 5 (.mv (.t 10))])
   (.seq
    (.seq
     (rg [
       o 6 (.mv (kc 0))])
     (.block 0
      (.loop [1, 5, 6] a48_0)))
    (.seq
     (rg [
       o 35 (.mv (.t 5)),
       o 36 (.un .xor (.t 35)),
       o 4 (.mv (.t 36))])
     .ret)))),
 [.t 4], false⟩
/-! 49: wagoner/crc.table; loops: [[0, 1, 4], [0, 1, 2, 3, 4, 9]] -/
def a49_1 : AC :=
 (.seq
  (rg [
    o 10 (.bin .lss (.t 9) (kc 4))])
  (.seq
   (.cond (.t 10)
    .skip
    (.exit 2))
   (.seq
    (.block 3
     (rg [
       o 11 (.mv (.t 3)),
       o 12 (.bin .shr (.t 11) (kx (.d (.i .u64 1)))),
       o 13 (.mv (.t 3)),
       o 14 (.bin .and (.t 13) (kx (.d (.i .u32 1)))),
       o 15 (.un .neg (.t 14)),
       o 16 (.bin .and (kx (.d (.i .u32 2197175160))) (.t 15)),
       o 17 (.bin .xor (.t 12) (.t 16)),
       o 3 (.mv (.t 17))]))
    (rg [
      o 18 (.bin .add (.t 9) (kc 1)),
      o 9 (.mv (.t 18))]))))
def a49_0 : AC :=
 (.seq
  (rg [
    o 5 (.bin .lss (.t 4) (kc 16))])
  (.seq
   (.cond (.t 5)
    .skip
    (.exit 0))
   (.seq
    (.block 1
     (.seq
      (rg [
        o 6 (.mv (.t 4)),
        o 2 (.mv (.t 6))])
      (.seq
       (rg [
         o 7 (.mv (.t 2)),
         o 8 (.cvi .u32 (.t 7)),
         o 3 (.mv (.t 8))])
       (.seq
        (.seq
         (rg [
           o 9 (.mv (kc 0))])
         (.block 2
          (.loop [0, 1, 2, 3, 4, 9] a49_1)))
        (rg [
          o 19 (.mv (.t 2)),
          o 20 (.mv (.t 3)),
          o 21 (.iar 16 1 (.t 1) (.t 19)),
          on (.st 1 (.t 21) (.t 20))])))))
    (rg [
      o 22 (.bin .add (.t 4) (kc 1)),
      o 4 (.mv (.t 22))]))))
def a49 : AF := ⟨24,
 (.seq
  (rg [
    o 0 (.alloc [.d (.i .u32 0), .d (.i .u32 0), .d (.i .u32 0), .d (.i .u32 0), .d (.i .u32 0), .d (.i .u32 0), .d (.i .u32 0), .d (.i .u32 0), .d (.i .u32 0), .d (.i .u32 0), .d (.i .u32 0), .d (.i .u32 0), .d (.i .u32 0), .d (.i .u32 0), .d (.i .u32 0), .d (.i .u32 0)])])
  (.seq
   (rg [
     o 1 (.alloc [.d (.i .u32 0), .d (.i .u32 0), .d (.i .u32 0), .d (.i .u32 0), .d (.i .u32 0), .d (.i .u32 0), .d (.i .u32 0), .d (.i .u32 0), .d (.i .u32 0), .d (.i .u32 0), .d (.i .u32 0), .d (.i .u32 0), .d (.i .u32 0), .d (.i .u32 0), .d (.i .u32 0), .d (.i .u32 0)])])
   (.seq
    (.seq
     (rg [
       o 4 (.mv (kc 0))])
     (.block 0
      (.loop [0, 1, 4] a49_0)))
    (.seq
     (rg [
       o 23 (.ld (some 16) (.t 1)),
       on (.st 16 (.t 0) (.t 23))])
     .ret)))),
 [.c (some 16) 0], false⟩
def ans : List (Nat × Ann) := [
  (3, ⟨[], [], false, false⟩),
  (4, ⟨[], [], false, false⟩),
  (5, ⟨[], [[0, 1, 7, 8, 10, 11], [0, 1, 11, 12, 15]], false, false⟩),
  (6, ⟨[], [[0, 1, 7, 10, 11]], false, false⟩),
  (7, ⟨[(1, 3, 9)], [], false, false⟩),
  (8, ⟨[(5, 1, 8), (0, 0, 2), (2, 0, 2)], [], false, false⟩),
  (9, ⟨[(0, 0, 2)], [], false, false⟩),
  (10, ⟨[], [[0, 1, 5]], false, false⟩),
  (11, ⟨[], [[0, 1, 5]], false, false⟩),
  (12, ⟨[(5, 1, 8), (0, 2, 2), (2, 0, 2)], [], false, false⟩),
  (13, ⟨[(0, 0, 2), (2, 0, 2)], [[1, 2, 8, 11, 12]], false, false⟩),
  (14, ⟨[(5, 1, 8)], [], false, false⟩),
  (15, ⟨[], [[2, 6, 8, 11]], false, false⟩),
  (16, ⟨[(0, 1, 2), (2, 1, 2), (10, 1, 2)], [[0, 1, 7, 8, 9]], false, false⟩),
  (17, ⟨[], [[0, 4, 5]], false, false⟩),
  (18, ⟨[], [], false, false⟩),
  (19, ⟨[], [], false, false⟩),
  (20, ⟨[(0, 0, 2), (0, 1, 2), (2, 0, 2), (2, 1, 2), (3, 0, 103), (4, 0, 101)], [[0, 1, 8, 9, 10]], false, false⟩),
  (21, ⟨[(0, 1, 102)], [], false, false⟩),
  (22, ⟨[(0, 1, 2)], [], false, false⟩),
  (23, ⟨[], [[0, 1, 4, 6, 7]], false, false⟩),
  (24, ⟨[], [], false, false⟩),
  (25, ⟨[(11, 2, 20)], [[0, 1]], false, false⟩),
  (26, ⟨[(11, 3, 9)], [], false, false⟩),
  (27, ⟨[], [], false, false⟩),
  (28, ⟨[], [], false, false⟩),
  (29, ⟨[], [], false, false⟩),
  (30, ⟨[], [], false, false⟩),
  (31, ⟨[], [], false, false⟩),
  (32, ⟨[], [], false, false⟩),
  (33, ⟨[], [[0, 8, 9]], false, false⟩),
  (34, ⟨[], [[0, 1, 7, 8]], false, false⟩),
  (35, ⟨[], [], false, false⟩),
  (36, ⟨[], [], false, false⟩),
  (37, ⟨[], [[3, 6, 7, 8]], false, false⟩),
  (38, ⟨[], [], false, false⟩),
  (39, ⟨[], [], false, false⟩),
  (40, ⟨[], [[0, 1, 5]], false, false⟩),
  (41, ⟨[], [[0, 1, 7, 8, 9]], false, false⟩),
  (42, ⟨[], [], false, false⟩),
  (43, ⟨[], [[0, 3]], false, false⟩),
  (44, ⟨[], [], false, false⟩),
  (45, ⟨[], [], false, false⟩),
  (46, ⟨[], [[1, 5, 6, 12, 13]], false, false⟩),
  (47, ⟨[], [], false, false⟩),
  (48, ⟨[], [[1, 5, 6], [1, 5, 6, 7]], false, false⟩),
  (49, ⟨[], [[0, 1, 4], [0, 1, 2, 3, 4, 9]], false, false⟩)]
theorem s3 : compS Try.prog 3 (anOf ans 3) = some a3 := by kernel_rfl
theorem s4 : compS Try.prog 4 (anOf ans 4) = some a4 := by kernel_rfl
theorem s5 : compS Try.prog 5 (anOf ans 5) = some a5 := by kernel_rfl
theorem s6 : compS Try.prog 6 (anOf ans 6) = some a6 := by kernel_rfl
theorem s7 : compS Try.prog 7 (anOf ans 7) = some a7 := by kernel_rfl
theorem s8 : compS Try.prog 8 (anOf ans 8) = some a8 := by kernel_rfl
theorem s9 : compS Try.prog 9 (anOf ans 9) = some a9 := by kernel_rfl
theorem s10 : compS Try.prog 10 (anOf ans 10) = some a10 := by kernel_rfl
theorem s11 : compS Try.prog 11 (anOf ans 11) = some a11 := by kernel_rfl
theorem s12 : compS Try.prog 12 (anOf ans 12) = some a12 := by kernel_rfl
theorem s13 : compS Try.prog 13 (anOf ans 13) = some a13 := by kernel_rfl
theorem s14 : compS Try.prog 14 (anOf ans 14) = some a14 := by kernel_rfl
theorem s15 : compS Try.prog 15 (anOf ans 15) = some a15 := by kernel_rfl
theorem s16 : compS Try.prog 16 (anOf ans 16) = some a16 := by kernel_rfl
theorem s17 : compS Try.prog 17 (anOf ans 17) = some a17 := by kernel_rfl
theorem s18 : compS Try.prog 18 (anOf ans 18) = some a18 := by kernel_rfl
theorem s19 : compS Try.prog 19 (anOf ans 19) = some a19 := by kernel_rfl
theorem s20 : compS Try.prog 20 (anOf ans 20) = some a20 := by kernel_rfl
theorem s21 : compS Try.prog 21 (anOf ans 21) = some a21 := by kernel_rfl
theorem s22 : compS Try.prog 22 (anOf ans 22) = some a22 := by kernel_rfl
theorem s23 : compS Try.prog 23 (anOf ans 23) = some a23 := by kernel_rfl
theorem s24 : compS Try.prog 24 (anOf ans 24) = some a24 := by kernel_rfl
theorem s25 : compS Try.prog 25 (anOf ans 25) = some a25 := by kernel_rfl
theorem s26 : compS Try.prog 26 (anOf ans 26) = some a26 := by kernel_rfl
theorem s27 : compS Try.prog 27 (anOf ans 27) = some a27 := by kernel_rfl
theorem s28 : compS Try.prog 28 (anOf ans 28) = some a28 := by kernel_rfl
theorem s29 : compS Try.prog 29 (anOf ans 29) = some a29 := by kernel_rfl
theorem s30 : compS Try.prog 30 (anOf ans 30) = some a30 := by kernel_rfl
theorem s31 : compS Try.prog 31 (anOf ans 31) = some a31 := by kernel_rfl
theorem s32 : compS Try.prog 32 (anOf ans 32) = some a32 := by kernel_rfl
theorem s33 : compS Try.prog 33 (anOf ans 33) = some a33 := by kernel_rfl
theorem s34 : compS Try.prog 34 (anOf ans 34) = some a34 := by kernel_rfl
theorem s35 : compS Try.prog 35 (anOf ans 35) = some a35 := by kernel_rfl
theorem s36 : compS Try.prog 36 (anOf ans 36) = some a36 := by kernel_rfl
theorem s37 : compS Try.prog 37 (anOf ans 37) = some a37 := by kernel_rfl
theorem s38 : compS Try.prog 38 (anOf ans 38) = some a38 := by kernel_rfl
theorem s39 : compS Try.prog 39 (anOf ans 39) = some a39 := by kernel_rfl
theorem s40 : compS Try.prog 40 (anOf ans 40) = some a40 := by kernel_rfl
theorem s41 : compS Try.prog 41 (anOf ans 41) = some a41 := by kernel_rfl
theorem s42 : compS Try.prog 42 (anOf ans 42) = some a42 := by kernel_rfl
theorem s43 : compS Try.prog 43 (anOf ans 43) = some a43 := by kernel_rfl
theorem s44 : compS Try.prog 44 (anOf ans 44) = some a44 := by kernel_rfl
theorem s45 : compS Try.prog 45 (anOf ans 45) = some a45 := by kernel_rfl
theorem s46 : compS Try.prog 46 (anOf ans 46) = some a46 := by kernel_rfl
theorem s47 : compS Try.prog 47 (anOf ans 47) = some a47 := by kernel_rfl
theorem s48 : compS Try.prog 48 (anOf ans 48) = some a48 := by kernel_rfl
theorem s49 : compS Try.prog 49 (anOf ans 49) = some a49 := by kernel_rfl
def clones : List (Nat × Nat × Nat) := []
theorem clones_ok : ∀ f sz bytes, (f, sz, bytes) ∈ clones → 0 < sz ∧ ∃ an, compS Try.prog f an = some (cloneAF sz bytes) := by
  intro f sz bytes h
  cases h
noncomputable abbrev call : Phi := callU (progOf Try.prog (anOf ans)) (clonePr clones)
end Go.Proofs.Ythijgiinafanfaa
