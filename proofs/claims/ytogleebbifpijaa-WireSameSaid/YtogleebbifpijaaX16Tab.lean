import Derived.Test.YtogleebbifpijaaVic
import Derived.Test.YtogleebbifpijaaChecked
import Derived.KernelRfl
set_option linter.unusedSimpArgs false
set_option linter.unusedVariables false
namespace Go.Proofs.Ytogleebbifpijaa
open Go.Vi
/-! 3: wagoner/wagonerlaw16.WireTells; loops: [] -/
def a3 : AF := ⟨70,
 (.seq
  (rg [
    o 2 (.box (.t 0)),
    o 4 (.mv (kb false))])
  (.seq
   (.seq
    (rg [
      o 13 (.ld (some 15) (.t 2)),
      o 14 (.callp 7 [(.t 13)]),
      o 15 (.un .not (.t 14)),
      o 16 (.mv (.t 15)),
      og 17 16 false (.mv (.t 1)),
      og 18 16 false (.len true (.t 17)),
      og 19 16 false (.bin .gtr (.t 18) (kc 2000)),
      o 20 (.pick (.t 16) (kb true) (.t 19))])
    (.cond (.t 20)
     (.seq
      (rg [
        o 21 (.callp 8 []),
        o 4 (.mv (.t 21))])
      .ret)
     .skip))
   (.seq
    (rg [
      o 23 (.ld (some 15) (.t 2)),
      o 24 (.callp 9 [(.t 23)]),
      o 22 (.mv (.t 24)),
      o 25 (.ext (.t 22) 0),
      o 26 (.ext (.t 22) 1),
      o 5 (.mv (.t 25)),
      o 6 (.mv (.t 26))])
    (.seq
     (rg [
       o 28 (.ld (some 15) (.t 2)),
       o 29 (.callp 10 [(.t 28)]),
       o 27 (.mv (.t 29)),
       o 30 (.ext (.t 27) 0),
       o 31 (.ext (.t 27) 1),
       o 7 (.mv (.t 30)),
       o 8 (.mv (.t 31))])
     (.seq
      (rg [
        o 33 (.mv (.t 1)),
        o 34 (.callp 11 [(.t 33)]),
        o 32 (.mv (.t 34)),
        o 35 (.ext (.t 32) 0),
        o 36 (.ext (.t 32) 1),
        o 9 (.alloc [.d (.i .i64 0), .d (.i .i64 0), .d (.i .i64 0), .d (.i .i64 0), .d (.i .i64 0), .d (.i .i64 0), .d (.i .i64 0), .d (.i .i64 0), .d (.i .i64 0), .d (.i .i64 0), .d (.i .i64 0), .d (.i .i64 0), .d (.i .u32 0), .d (.s []), .ns]),
        on (.st 15 (.t 9) (.t 35)),
        o 10 (.mv (.t 36))])
      (.seq
       (rg [
         o 38 (.mv (.t 1)),
         o 39 (.callp 12 [(.t 38)]),
         o 37 (.mv (.t 39)),
         o 40 (.ext (.t 37) 0),
         o 41 (.ext (.t 37) 1),
         o 11 (.alloc [.d (.i .i64 0), .d (.i .i64 0), .d (.i .i64 0), .d (.i .i64 0), .d (.i .i64 0), .d (.i .i64 0), .d (.i .i64 0), .d (.i .i64 0), .d (.i .i64 0), .d (.i .i64 0), .d (.i .i64 0), .d (.i .i64 0), .d (.i .u32 0), .d (.s []), .ns]),
         on (.st 15 (.t 11) (.t 40)),
         o 12 (.mv (.t 41))])
       (.seq
        (rg [
          o 42 (.callp 8 []),
          o 43 (.mv (.t 42)),
          og 44 43 true (.ld (some 15) (.t 2)),
          og 45 43 true (.callp 13 [(.t 44)]),
          og 46 43 true (.ld (some 15) (.t 2)),
          og 47 43 true (.callp 14 [(.t 46)]),
          og 48 43 true (.eqb false (.t 45) (.t 47)),
          o 49 (.pick (.t 43) (.t 48) (kb false)),
          o 50 (.mv (.t 49)),
          og 51 50 true (.mv (.t 5)),
          og 52 50 true (.mv (.t 7)),
          og 53 50 true (.bin .eql (.t 51) (.t 52)),
          o 54 (.pick (.t 50) (.t 53) (kb false)),
          o 55 (.mv (.t 54)),
          og 56 55 true (.mv (.t 6)),
          og 57 55 true (.mv (.t 8)),
          og 58 55 true (.bin .eql (.t 56) (.t 57)),
          o 59 (.pick (.t 55) (.t 58) (kb false)),
          o 60 (.mv (.t 59)),
          og 61 60 true (.ld (some 15) (.t 9)),
          og 62 60 true (.ld (some 15) (.t 11)),
          og 63 60 true (.callp 15 [(.t 61), (.t 62)]),
          o 64 (.pick (.t 60) (.t 63) (kb false)),
          o 65 (.mv (.t 64)),
          og 66 65 true (.mv (.t 10)),
          og 67 65 true (.mv (.t 12)),
          og 68 65 true (.bin .eql (.t 66) (.t 67)),
          o 69 (.pick (.t 65) (.t 68) (kb false)),
          o 4 (.mv (.t 69))])
        .ret))))))),
 [.t 4], false⟩
/-! 4: wagoner/wagonerlaw16.WireFramed; loops: [] -/
def a4 : AF := ⟨62,
 (.seq
  (rg [
    o 4 (.mv (kb false))])
  (.seq
   (rg [
     o 12 (.mv (.t 0)),
     o 13 (.callp 16 [(.t 12)]),
     o 11 (.mv (.t 13)),
     o 14 (.ext (.t 11) 0),
     o 15 (.ext (.t 11) 1),
     o 5 (.mv (.t 14)),
     o 6 (.mv (.t 15))])
   (.seq
    (.seq
     (rg [
       o 16 (.mv (.t 6)),
       o 17 (.bin .neq (.t 16) (kc 0)),
       o 18 (.mv (.t 17)),
       og 19 18 false (.mv (.t 0)),
       og 20 18 false (.len true (.t 19)),
       og 21 18 false (.bin .gtr (.t 20) (kc 500)),
       o 22 (.pick (.t 18) (kb true) (.t 21)),
       o 23 (.mv (.t 22)),
       og 24 23 false (.mv (.t 1)),
       og 25 23 false (.len true (.t 24)),
       og 26 23 false (.bin .gtr (.t 25) (kc 100)),
       o 27 (.pick (.t 23) (kb true) (.t 26))])
     (.cond (.t 27)
      (.seq
       (rg [
         o 28 (.callp 8 []),
         o 4 (.mv (.t 28))])
       .ret)
      .skip))
    (.seq
     (rg [
       o 30 (.mv (.t 5)),
       o 31 (.mv (.t 1)),
       o 32 (.bin .add (.t 30) (.t 31)),
       o 33 (.callp 11 [(.t 32)]),
       o 29 (.mv (.t 33)),
       o 34 (.ext (.t 29) 0),
       o 35 (.ext (.t 29) 1),
       o 7 (.alloc [.d (.i .i64 0), .d (.i .i64 0), .d (.i .i64 0), .d (.i .i64 0), .d (.i .i64 0), .d (.i .i64 0), .d (.i .i64 0), .d (.i .i64 0), .d (.i .i64 0), .d (.i .i64 0), .d (.i .i64 0), .d (.i .i64 0), .d (.i .u32 0), .d (.s []), .ns]),
       on (.st 15 (.t 7) (.t 34)),
       o 8 (.mv (.t 35))])
     (.seq
      (rg [
        o 37 (.mv (.t 5)),
        o 38 (.mv (.t 1)),
        o 39 (.bin .add (.t 37) (.t 38)),
        o 40 (.callp 12 [(.t 39)]),
        o 36 (.mv (.t 40)),
        o 41 (.ext (.t 36) 0),
        o 42 (.ext (.t 36) 1),
        o 9 (.alloc [.d (.i .i64 0), .d (.i .i64 0), .d (.i .i64 0), .d (.i .i64 0), .d (.i .i64 0), .d (.i .i64 0), .d (.i .i64 0), .d (.i .i64 0), .d (.i .i64 0), .d (.i .i64 0), .d (.i .i64 0), .d (.i .i64 0), .d (.i .u32 0), .d (.s []), .ns]),
        on (.st 15 (.t 9) (.t 41)),
        o 10 (.mv (.t 42))])
      (.seq
       (rg [
         o 43 (.callp 8 []),
         o 44 (.mv (.t 43)),
         og 45 44 true (.ld (some 15) (.t 7)),
         og 46 44 true (.ld (some 15) (.t 9)),
         og 47 44 true (.callp 15 [(.t 45), (.t 46)]),
         o 48 (.pick (.t 44) (.t 47) (kb false)),
         o 49 (.mv (.t 48)),
         og 50 49 true (.mv (.t 8)),
         og 51 49 true (.mv (.t 10)),
         og 52 49 true (.bin .eql (.t 50) (.t 51)),
         o 53 (.pick (.t 49) (.t 52) (kb false)),
         o 54 (.mv (.t 53)),
         og 55 54 true (.mv (.t 1)),
         og 56 54 true (.bin .eql (.t 55) (ks [])),
         og 57 54 true (.mv (.t 56)),
         og 58 57 false (.mv (.t 8)),
         og 59 57 false (.bin .eql (.t 58) (kc 3)),
         og 60 54 true (.pick (.t 57) (kb true) (.t 59)),
         o 61 (.pick (.t 54) (.t 60) (kb false)),
         o 4 (.mv (.t 61))])
       .ret)))))),
 [.t 4], false⟩
/-! 5: wagoner/wagonerlaw16.WireBack; loops: [] -/
def a5 : AF := ⟨111,
 (.seq
  (rg [
    o 3 (.box (.t 0)),
    o 6 (.mv (kb false))])
  (.seq
   (.seq
    (rg [
      o 17 (.ld (some 15) (.t 3)),
      o 18 (.callp 7 [(.t 17)]),
      o 19 (.un .not (.t 18))])
    (.cond (.t 19)
     (.seq
      (rg [
        o 20 (.callp 8 []),
        o 6 (.mv (.t 20))])
      .ret)
     .skip))
   (.seq
    (rg [
      o 22 (.ld (some 15) (.t 3)),
      o 23 (.callp 9 [(.t 22)]),
      o 21 (.mv (.t 23)),
      o 24 (.ext (.t 21) 0),
      o 25 (.ext (.t 21) 1),
      o 7 (.mv (.t 24)),
      o 8 (.mv (.t 25))])
    (.seq
     (.seq
      (rg [
        o 26 (.ld (some 15) (.t 3)),
        o 27 (.callp 13 [(.t 26)]),
        o 28 (.un .not (.t 27))])
      (.cond (.t 28)
       (.seq
        (rg [
          o 29 (.callp 8 []),
          o 30 (.mv (.t 29)),
          og 31 30 true (.mv (.t 8)),
          og 32 30 true (.bin .eql (.t 31) (kc 1)),
          o 33 (.pick (.t 30) (.t 32) (kb false)),
          o 34 (.mv (.t 33)),
          og 35 34 true (.mv (.t 7)),
          og 36 34 true (.bin .eql (.t 35) (ks [])),
          o 37 (.pick (.t 34) (.t 36) (kb false)),
          o 6 (.mv (.t 37))])
        .ret)
       .skip))
     (.seq
      (rg [
        o 39 (.mv (.t 7)),
        o 40 (.callp 11 [(.t 39)]),
        o 38 (.mv (.t 40)),
        o 41 (.ext (.t 38) 0),
        o 42 (.ext (.t 38) 1),
        o 9 (.alloc [.d (.i .i64 0), .d (.i .i64 0), .d (.i .i64 0), .d (.i .i64 0), .d (.i .i64 0), .d (.i .i64 0), .d (.i .i64 0), .d (.i .i64 0), .d (.i .i64 0), .d (.i .i64 0), .d (.i .i64 0), .d (.i .i64 0), .d (.i .u32 0), .d (.s []), .ns]),
        on (.st 15 (.t 9) (.t 41)),
        o 10 (.mv (.t 42))])
      (.seq
       (.seq
        (rg [
          o 43 (.mv (.t 8)),
          o 44 (.bin .neq (.t 43) (kc 0)),
          o 45 (.mv (.t 44)),
          og 46 45 false (.mv (.t 10)),
          og 47 45 false (.bin .neq (.t 46) (kc 0)),
          o 48 (.pick (.t 45) (kb true) (.t 47)),
          o 49 (.mv (.t 48)),
          og 50 49 false (.mv (.t 7)),
          og 51 49 false (.len true (.t 50)),
          og 52 49 false (.bin .eql (.t 51) (kc 0)),
          o 53 (.pick (.t 49) (kb true) (.t 52)),
          o 54 (.mv (.t 53)),
          og 55 54 false (.ld (some 15) (.t 3)),
          og 56 54 false (.ld (some 15) (.t 9)),
          og 57 54 false (.callp 15 [(.t 55), (.t 56)]),
          og 58 54 false (.un .not (.t 57)),
          o 59 (.pick (.t 54) (kb true) (.t 58))])
        (.cond (.t 59)
         (.seq
          (rg [
            o 6 (.mv (kb false))])
          .ret)
         .skip))
       (.seq
        (rg [
          o 61 (.mv (.t 7)),
          o 62 (.mv (.t 1)),
          o 63 (.cvi .i64 (.t 62)),
          o 64 (.mv (.t 7)),
          o 65 (.len true (.t 64)),
          o 66 (.bin .rem (.t 63) (.t 65)),
          o 67 (.sls (.t 61) none (some (.t 66))),
          o 68 (.callp 11 [(.t 67)]),
          o 60 (.mv (.t 68)),
          o 69 (.ext (.t 60) 0),
          o 70 (.ext (.t 60) 1),
          o 11 (.alloc [.d (.i .i64 0), .d (.i .i64 0), .d (.i .i64 0), .d (.i .i64 0), .d (.i .i64 0), .d (.i .i64 0), .d (.i .i64 0), .d (.i .i64 0), .d (.i .i64 0), .d (.i .i64 0), .d (.i .i64 0), .d (.i .i64 0), .d (.i .u32 0), .d (.s []), .ns]),
          on (.st 15 (.t 11) (.t 69)),
          o 12 (.mv (.t 70))])
        (.seq
         (rg [
           o 71 (.mv (.t 7)),
           o 72 (.s2b (.t 71)),
           o 13 (.mv (.t 72))])
         (.seq
          (rg [
            o 73 (.mv (.t 7)),
            o 74 (.len true (.t 73)),
            o 75 (.bin .sub (.t 74) (kc 1)),
            o 76 (.mv (.t 1)),
            o 77 (.cvi .i64 (.t 76)),
            o 78 (.mv (.t 7)),
            o 79 (.len true (.t 78)),
            o 80 (.mm false (kc 7) (.t 79)),
            o 81 (.bin .rem (.t 77) (.t 80)),
            o 82 (.bin .sub (.t 75) (.t 81)),
            o 14 (.mv (.t 82))])
          (.seq
           (rg [
             o 83 (.mv (.t 13)),
             o 84 (.mv (.t 14)),
             o 85 (.mv (.t 13)),
             o 86 (.mv (.t 14)),
             o 87 (.ia 1 (.t 85) (.t 86)),
             o 88 (.ld none (.t 87)),
             o 89 (.mv (.t 2)),
             o 90 (.bin .xor (.t 88) (.t 89)),
             o 91 (.ia 1 (.t 83) (.t 84)),
             on (.st 1 (.t 91) (.t 90))])
           (.seq
            (rg [
              o 93 (.mv (.t 13)),
              o 94 (.b2s (.t 93)),
              o 95 (.callp 11 [(.t 94)]),
              o 92 (.mv (.t 95)),
              o 96 (.ext (.t 92) 0),
              o 97 (.ext (.t 92) 1),
              o 15 (.alloc [.d (.i .i64 0), .d (.i .i64 0), .d (.i .i64 0), .d (.i .i64 0), .d (.i .i64 0), .d (.i .i64 0), .d (.i .i64 0), .d (.i .i64 0), .d (.i .i64 0), .d (.i .i64 0), .d (.i .i64 0), .d (.i .i64 0), .d (.i .u32 0), .d (.s []), .ns]),
              on (.st 15 (.t 15) (.t 96)),
              o 16 (.mv (.t 97))])
            (.seq
             (rg [
               o 98 (.callp 8 []),
               o 99 (.mv (.t 98)),
               og 100 99 true (.mv (.t 12)),
               og 101 99 true (.bin .eql (.t 100) (kc 2)),
               o 102 (.pick (.t 99) (.t 101) (kb false)),
               o 103 (.mv (.t 102)),
               og 104 103 true (.mv (.t 2)),
               og 105 103 true (.bin .eql (.t 104) (kx (.d (.i .u8 0)))),
               og 106 103 true (.mv (.t 105)),
               og 107 106 false (.mv (.t 16)),
               og 108 106 false (.bin .eql (.t 107) (kc 4)),
               og 109 103 true (.pick (.t 106) (kb true) (.t 108)),
               o 110 (.pick (.t 103) (.t 109) (kb false)),
               o 6 (.mv (.t 110))])
             .ret)))))))))))),
 [.t 6], false⟩
/-! 6: wagoner/wagonerlaw16.WireSame; loops: [] -/
def a6 : AF := ⟨57,
 (.seq
  (rg [
    o 2 (.box (.t 0)),
    o 3 (.box (.t 1)),
    o 4 (.mv (kb false))])
  (.seq
   (.seq
    (rg [
      o 7 (.ld (some 15) (.t 2)),
      o 8 (.callp 7 [(.t 7)]),
      o 9 (.un .not (.t 8)),
      o 10 (.mv (.t 9)),
      og 11 10 false (.ld (some 15) (.t 3)),
      og 12 10 false (.callp 7 [(.t 11)]),
      og 13 10 false (.un .not (.t 12)),
      o 14 (.pick (.t 10) (kb true) (.t 13))])
    (.cond (.t 14)
     (.seq
      (rg [
        o 15 (.callp 8 []),
        o 4 (.mv (.t 15))])
      .ret)
     .skip))
   (.seq
    (rg [
      o 16 (.ld (some 15) (.t 2)),
      o 5 (.alloc [.d (.i .i64 0), .d (.i .i64 0), .d (.i .i64 0), .d (.i .i64 0), .d (.i .i64 0), .d (.i .i64 0), .d (.i .i64 0), .d (.i .i64 0), .d (.i .i64 0), .d (.i .i64 0), .d (.i .i64 0), .d (.i .i64 0), .d (.i .u32 0), .d (.s []), .ns]),
      on (.st 15 (.t 5) (.t 16))])
    (.seq
     (rg [
       o 17 (.fa 5 (.t 2)),
       o 18 (.ld none (.t 17)),
       o 19 (.bin .xor (.t 18) (kc 1)),
       o 20 (.fa 5 (.t 5)),
       on (.st 1 (.t 20) (.t 19))])
     (.seq
      (rg [
        o 21 (.ld (some 15) (.t 2)),
        o 6 (.alloc [.d (.i .i64 0), .d (.i .i64 0), .d (.i .i64 0), .d (.i .i64 0), .d (.i .i64 0), .d (.i .i64 0), .d (.i .i64 0), .d (.i .i64 0), .d (.i .i64 0), .d (.i .i64 0), .d (.i .i64 0), .d (.i .i64 0), .d (.i .u32 0), .d (.s []), .ns]),
        on (.st 15 (.t 6) (.t 21))])
      (.seq
       (rg [
         o 22 (.bsl 3 [] []),
         o 23 (.fa 14 (.t 2)),
         o 24 (.ld none (.t 23)),
         o 25 (.app false 3 32 (.t 22) (.t 24)),
         o 26 (.build [.d (.i .i64 0), .d (.i .i64 0), .d (.s [])] []),
         o 27 (.bsl 3 [[.i .i64 0, .i .i64 0, .s []]] [(0, (.t 26))]),
         oz 28 (.app false 3 32 (.t 25) (.t 27)),
         o 29 (.fa 14 (.t 6)),
         on (.st 1 (.t 29) (.t 28))])
       (.seq
        (rg [
          o 30 (.callp 8 []),
          o 31 (.mv (.t 30)),
          og 32 31 true (.ld (some 15) (.t 2)),
          og 33 31 true (.ld (some 15) (.t 2)),
          og 34 31 true (.callp 17 [(.t 32), (.t 33)]),
          o 35 (.pick (.t 31) (.t 34) (kb false)),
          o 36 (.mv (.t 35)),
          og 37 36 true (.ld (some 15) (.t 2)),
          og 38 36 true (.ld (some 15) (.t 3)),
          og 39 36 true (.callp 17 [(.t 37), (.t 38)]),
          og 40 36 true (.ld (some 15) (.t 2)),
          og 41 36 true (.ld (some 15) (.t 3)),
          og 42 36 true (.callp 15 [(.t 40), (.t 41)]),
          og 43 36 true (.eqb false (.t 39) (.t 42)),
          o 44 (.pick (.t 36) (.t 43) (kb false)),
          o 45 (.mv (.t 44)),
          og 46 45 true (.ld (some 15) (.t 2)),
          og 47 45 true (.ld (some 15) (.t 5)),
          og 48 45 true (.callp 17 [(.t 46), (.t 47)]),
          og 49 45 true (.un .not (.t 48)),
          o 50 (.pick (.t 45) (.t 49) (kb false)),
          o 51 (.mv (.t 50)),
          og 52 51 true (.ld (some 15) (.t 2)),
          og 53 51 true (.ld (some 15) (.t 6)),
          og 54 51 true (.callp 17 [(.t 52), (.t 53)]),
          og 55 51 true (.un .not (.t 54)),
          o 56 (.pick (.t 51) (.t 55) (kb false)),
          o 4 (.mv (.t 56))])
        .ret))))))),
 [.t 4], false⟩
/-! 7: wagoner/wagonerlaw16.small; loops: [] -/
def a7 : AF := ⟨12,
 (.seq
  (rg [
    o 1 (.box (.t 0)),
    o 2 (.mv (kb false))])
  (.seq
   (rg [
     o 3 (.fa 14 (.t 1)),
     o 4 (.ld none (.t 3)),
     o 5 (.callp 18 [(.t 4), (kc 70)]),
     o 6 (.mv (.t 5)),
     og 7 6 true (.fa 13 (.t 1)),
     og 8 6 true (.ld none (.t 7)),
     og 9 6 true (.len true (.t 8)),
     og 10 6 true (.bin .leq (.t 9) (kc 5000)),
     o 11 (.pick (.t 6) (.t 10) (kb false)),
     o 2 (.mv (.t 11))])
   .ret)),
 [.t 2], false⟩
/-! 8: wagoner/wagonerlaw16.awake; loops: [] -/
def a8 : AF := ⟨38,
 (.seq
  (rg [
    o 0 (.mv (kb false))])
  (.seq
   (rg [
     o 6 (.build [.d (.i .i64 0), .d (.i .i64 0), .d (.i .i64 0), .d (.i .i64 0), .d (.i .i64 0), .d (.i .i64 0), .d (.i .i64 0), .d (.i .i64 0), .d (.i .i64 0), .d (.i .i64 0), .d (.i .i64 0), .d (.i .i64 0), .d (.i .u32 0), .d (.s []), .ns] [(0, 1, (kc 1)), (1, 1, (kc 1)), (3, 1, (kc 1)), (5, 1, (kc 1)), (7, 1, (kc 100))]),
     o 1 (.alloc [.d (.i .i64 0), .d (.i .i64 0), .d (.i .i64 0), .d (.i .i64 0), .d (.i .i64 0), .d (.i .i64 0), .d (.i .i64 0), .d (.i .i64 0), .d (.i .i64 0), .d (.i .i64 0), .d (.i .i64 0), .d (.i .i64 0), .d (.i .u32 0), .d (.s []), .ns]),
     on (.st 15 (.t 1) (.t 6))])
   (.seq
    (rg [
      o 8 (.ld (some 15) (.t 1)),
      o 9 (.callp 9 [(.t 8)]),
      o 7 (.mv (.t 9)),
      o 10 (.ext (.t 7) 0),
      o 11 (.ext (.t 7) 1),
      o 2 (.mv (.t 10)),
      o 3 (.mv (.t 11))])
    (.seq
     (rg [
       o 13 (.mv (.t 2)),
       o 14 (.callp 11 [(.t 13)]),
       o 12 (.mv (.t 14)),
       o 15 (.ext (.t 12) 0),
       o 16 (.ext (.t 12) 1),
       o 4 (.alloc [.d (.i .i64 0), .d (.i .i64 0), .d (.i .i64 0), .d (.i .i64 0), .d (.i .i64 0), .d (.i .i64 0), .d (.i .i64 0), .d (.i .i64 0), .d (.i .i64 0), .d (.i .i64 0), .d (.i .i64 0), .d (.i .i64 0), .d (.i .u32 0), .d (.s []), .ns]),
       on (.st 15 (.t 4) (.t 15)),
       o 5 (.mv (.t 16))])
     (.seq
      (rg [
        o 17 (.mv (.t 3)),
        o 18 (.bin .eql (.t 17) (kc 0)),
        o 19 (.mv (.t 18)),
        og 20 19 true (.mv (.t 5)),
        og 21 19 true (.bin .eql (.t 20) (kc 0)),
        o 22 (.pick (.t 19) (.t 21) (kb false)),
        o 23 (.mv (.t 22)),
        og 24 23 true (.mv (.t 2)),
        og 25 23 true (.len true (.t 24)),
        og 26 23 true (.bin .eql (.t 25) (kc 15)),
        o 27 (.pick (.t 23) (.t 26) (kb false)),
        o 28 (.mv (.t 27)),
        og 29 28 true (.ld (some 15) (.t 1)),
        og 30 28 true (.ld (some 15) (.t 4)),
        og 31 28 true (.callp 17 [(.t 29), (.t 30)]),
        o 32 (.pick (.t 28) (.t 31) (kb false)),
        o 33 (.mv (.t 32)),
        og 34 33 true (.fa 7 (.t 4)),
        og 35 33 true (.ld none (.t 34)),
        og 36 33 true (.bin .eql (.t 35) (kc 100)),
        o 37 (.pick (.t 33) (.t 36) (kb false)),
        o 0 (.mv (.t 37))])
      .ret))))),
 [.t 0], false⟩
/-! 9: wagoner/wire.Put; loops: [[4, 53, 54, 55]] -/
def a9_0 : AC :=
 (.seq
  (rg [
    o 56 (.bin .lss (.t 55) (.t 54))])
  (.seq
   (.cond (.t 56)
    .skip
    (.exit 1))
   (.seq
    (.block 2
     (.seq
      (rg [
        o 57 (.ia 3 (.t 53) (.t 55)),
        o 58 (.ld (some 3) (.t 57)),
        o 6 (.alloc [.d (.i .i64 0), .d (.i .i64 0), .d (.s [])]),
        on (.st 3 (.t 6) (.t 58))])
      (.seq
       (rg [
         o 59 (.mv (.t 4)),
         o 60 (.fa 1 (.t 6)),
         o 61 (.ld none (.t 60)),
         o 62 (.fa 2 (.t 6)),
         o 63 (.ld none (.t 62)),
         o 64 (.len true (.t 63)),
         o 65 (.bsl 1 [[.i .i64 0], [.i .i64 0]] [(0, (.t 61)), (1, (.t 64))]),
         o 66 (.call 19 [(.t 59), (.t 65)])])
       (rg [
         o 67 (.mv (.t 4)),
         o 68 (.fa 2 (.t 6)),
         o 69 (.ld none (.t 68)),
         o 70 (.call 20 [(.t 67), (.t 69)])]))))
    (rg [
      o 71 (.bin .add (.t 55) (kc 1)),
      o 55 (.mv (.t 71))]))))
def a9 : AF := ⟨98,
 (.seq
  (rg [
    o 1 (.box (.t 0)),
    o 2 (.mv (ks [])),
    o 3 (.mv (kc 0))])
  (.seq
   (.seq
    (rg [
      o 7 (.ld (some 15) (.t 1)),
      o 8 (.callp 13 [(.t 7)]),
      o 9 (.un .not (.t 8))])
    (.cond (.t 9)
     (.seq
      (rg [
        o 2 (.mv (ks [])),
        o 3 (.mv (kc 1))])
      .ret)
     .skip))
   (.seq
    (rg [
      o 10 (.build [.ns] []),
      o 11 (.box (.t 10)),
      o 4 (.mv (.t 11))])
    (.seq
     (rg [
       o 12 (.mv (.t 4)),
       o 13 (.fa 0 (.t 1)),
       o 14 (.ld none (.t 13)),
       o 15 (.fa 1 (.t 1)),
       o 16 (.ld none (.t 15)),
       o 17 (.fa 2 (.t 1)),
       o 18 (.ld none (.t 17)),
       o 19 (.fa 3 (.t 1)),
       o 20 (.ld none (.t 19)),
       o 21 (.fa 4 (.t 1)),
       o 22 (.ld none (.t 21)),
       o 23 (.fa 5 (.t 1)),
       o 24 (.ld none (.t 23)),
       o 25 (.fa 6 (.t 1)),
       o 26 (.ld none (.t 25)),
       o 27 (.bsl 1 (List.replicate 7 [.i .i64 0]) [(0, (.t 14)), (1, (.t 16)), (2, (.t 18)), (3, (.t 20)), (4, (.t 22)), (5, (.t 24)), (6, (.t 26))]),
       o 28 (.call 19 [(.t 12), (.t 27)])])
     (.seq
      (.seq
       (rg [
         o 29 (.fa 0 (.t 1)),
         o 30 (.ld none (.t 29))])
       (.block 0
        (.seq
         (rg [
           o 32 (.bin .eql (.t 30) (kc 1)),
           o 31 (.mv (.t 32))])
         (.cond (.t 31)
          (rg [
            o 33 (.mv (.t 4)),
            o 34 (.fa 7 (.t 1)),
            o 35 (.ld none (.t 34)),
            o 36 (.fa 9 (.t 1)),
            o 37 (.ld none (.t 36)),
            o 38 (.fa 10 (.t 1)),
            o 39 (.ld none (.t 38)),
            o 40 (.bsl 1 (List.replicate 3 [.i .i64 0]) [(0, (.t 35)), (1, (.t 37)), (2, (.t 39))]),
            o 41 (.call 19 [(.t 33), (.t 40)])])
          (.seq
           (rg [
             o 43 (.bin .eql (.t 30) (kc 2)),
             o 42 (.mv (.t 43))])
           (.cond (.t 42)
            (.seq
             (rg [
               o 44 (.mv (.t 4)),
               o 45 (.fa 8 (.t 1)),
               o 46 (.ld none (.t 45)),
               o 47 (.fa 14 (.t 1)),
               o 48 (.ld none (.t 47)),
               o 49 (.len false (.t 48)),
               o 50 (.bsl 1 [[.i .i64 0], [.i .i64 0]] [(0, (.t 46)), (1, (.t 49))]),
               o 51 (.call 19 [(.t 44), (.t 50)])])
             (.seq
              (rg [
                o 52 (.fa 14 (.t 1)),
                o 53 (.ld none (.t 52)),
                o 54 (.len false (.t 53)),
                o 55 (.mv (kc 0))])
              (.block 1
               (.loop [4, 53, 54, 55] a9_0))))
            (.seq
             (rg [
               o 73 (.bin .eql (.t 30) (kc 3)),
               o 72 (.mv (.t 73))])
             (.cond (.t 72)
              (.seq
               (rg [
                 o 74 (.mv (.t 4)),
                 o 75 (.fa 11 (.t 1)),
                 o 76 (.ld none (.t 75)),
                 o 77 (.fa 10 (.t 1)),
                 o 78 (.ld none (.t 77)),
                 o 79 (.bsl 1 [[.i .i64 0], [.i .i64 0]] [(0, (.t 76)), (1, (.t 78))]),
                 o 80 (.call 19 [(.t 74), (.t 79)])])
               (.seq
                (rg [
                  o 81 (.mv (.t 4)),
                  o 82 (.fa 12 (.t 1)),
                  o 83 (.ld none (.t 82)),
                  o 84 (.callp 21 [(.t 83)]),
                  o 85 (.call 20 [(.t 81), (.t 84)])])
                (rg [
                  o 86 (.mv (.t 4)),
                  o 87 (.fa 13 (.t 1)),
                  o 88 (.ld none (.t 87)),
                  o 89 (.call 20 [(.t 86), (.t 88)])])))
              .skip))))))))
      (.seq
       (rg [
         o 90 (.mv (.t 4)),
         o 91 (.nck (.t 90)),
         o 92 (.fa 0 (.t 91)),
         o 93 (.ld none (.t 92)),
         o 94 (.b2s (.t 93)),
         o 95 (.callp 22 [(.t 94)]),
         o 96 (.ext (.t 95) 0),
         o 97 (.ext (.t 95) 1),
         o 2 (.mv (.t 96)),
         o 3 (.mv (.t 97))])
       .ret)))))),
 [.t 2, .t 3], false⟩
/-! 10: wagoner/wagonerref16.Put; loops: [[1, 4, 5]] -/
def a10_0 : AC :=
 (.seq
  (.seq
   (rg [
     o 65 (.mv (.t 5)),
     o 66 (.fa 14 (.t 1)),
     o 67 (.ld none (.t 66)),
     o 68 (.len false (.t 67)),
     o 69 (.bin .lss (.t 65) (.t 68))])
   (.cond (.t 69)
    .skip
    (.exit 1)))
  (.seq
   (.block 2
    (rd [
      o 72 (.mv (.t 4)),
      o 73 (.fa 14 (.t 1)),
      od 74 [1] (.ld none (.t 73)),
      o 75 (.mv (.t 5)),
      od 76 [3, 1, 2] (.ia 3 (.t 74) (.t 75)),
      od 77 [2, 1, 3, 4] (.fa 1 (.t 76)),
      od 78 [4, 3, 1, 2, 5] (.ld none (.t 77)),
      o 79 (.fa 14 (.t 1)),
      od 80 [7] (.ld none (.t 79)),
      o 81 (.mv (.t 5)),
      od 82 [9, 7, 8] (.ia 3 (.t 80) (.t 81)),
      od 83 [8, 7, 9, 10] (.fa 2 (.t 82)),
      od 84 [10, 9, 7, 8, 11] (.ld none (.t 83)),
      od 85 [11, 8, 7, 9, 10, 12] (.len true (.t 84)),
      od 86 [12, 10, 9, 7, 8, 11, 13, 5, 2, 1, 3, 4, 6] (.bsl 1 [[.i .i64 0], [.i .i64 0]] [(0, (.t 78)), (1, (.t 85))]),
      od 87 [6, 4, 3, 1, 2, 5, 13, 11, 8, 7, 9, 10, 12, 14] (.callz 23 [(.t 86)]),
      od 88 [14, 12, 10, 9, 7, 8, 11, 13, 5, 2, 1, 3, 4, 6, 15, 0] (.bin .add (.t 72) (.t 87)),
      o 89 (.fa 14 (.t 1)),
      od 90 [17] (.ld none (.t 89)),
      o 91 (.mv (.t 5)),
      od 92 [19, 17, 18] (.ia 3 (.t 90) (.t 91)),
      od 93 [18, 17, 19, 20] (.fa 2 (.t 92)),
      od 94 [20, 19, 17, 18, 21] (.ld none (.t 93)),
      od 95 [21, 18, 17, 19, 20, 22, 0, 15, 6, 4, 3, 1, 2, 5, 13, 11, 8, 7, 9, 10, 12, 14, 16] (.bin .add (.t 88) (.t 94)),
      od 4 [16, 14, 12, 10, 9, 7, 8, 11, 13, 5, 2, 1, 3, 4, 6, 15, 0, 22, 20, 19, 17, 18, 21, 23] (.mv (.t 95))]))
   (rg [
     o 70 (.mv (.t 5)),
     o 71 (.bin .add (.t 70) (kc 1)),
     o 5 (.mv (.t 71))])))
def a10 : AF := ⟨100,
 (.seq
  (rg [
    o 1 (.box (.t 0)),
    o 2 (.mv (ks [])),
    o 3 (.mv (kc 0))])
  (.seq
   (.seq
    (rg [
      o 6 (.ld (some 15) (.t 1)),
      o 7 (.callp 14 [(.t 6)]),
      o 8 (.un .not (.t 7))])
    (.cond (.t 8)
     (.seq
      (rg [
        o 2 (.mv (ks [])),
        o 3 (.mv (kc 1))])
      .ret)
     .skip))
   (.seq
    (rg [
      o 9 (.fa 0 (.t 1)),
      o 10 (.ld none (.t 9)),
      o 11 (.fa 1 (.t 1)),
      o 12 (.ld none (.t 11)),
      o 13 (.fa 2 (.t 1)),
      o 14 (.ld none (.t 13)),
      o 15 (.fa 3 (.t 1)),
      o 16 (.ld none (.t 15)),
      o 17 (.fa 4 (.t 1)),
      o 18 (.ld none (.t 17)),
      o 19 (.fa 5 (.t 1)),
      o 20 (.ld none (.t 19)),
      o 21 (.fa 6 (.t 1)),
      o 22 (.ld none (.t 21)),
      o 23 (.bsl 1 (List.replicate 7 [.i .i64 0]) [(0, (.t 10)), (1, (.t 12)), (2, (.t 14)), (3, (.t 16)), (4, (.t 18)), (5, (.t 20)), (6, (.t 22))]),
      o 24 (.callz 23 [(.t 23)]),
      o 4 (.mv (.t 24))])
    (.seq
     (.seq
      (rg [
        o 25 (.fa 0 (.t 1)),
        o 26 (.ld none (.t 25))])
      (.block 0
       (.seq
        (rg [
          o 43 (.bin .eql (.t 26) (kc 1)),
          o 42 (.mv (.t 43))])
        (.cond (.t 42)
         (rg [
           o 44 (.mv (.t 4)),
           o 45 (.fa 7 (.t 1)),
           o 46 (.ld none (.t 45)),
           o 47 (.fa 9 (.t 1)),
           o 48 (.ld none (.t 47)),
           o 49 (.fa 10 (.t 1)),
           o 50 (.ld none (.t 49)),
           o 51 (.bsl 1 (List.replicate 3 [.i .i64 0]) [(0, (.t 46)), (1, (.t 48)), (2, (.t 50))]),
           o 52 (.callz 23 [(.t 51)]),
           o 53 (.bin .add (.t 44) (.t 52)),
           o 4 (.mv (.t 53))])
         (.seq
          (rg [
            o 55 (.bin .eql (.t 26) (kc 2)),
            o 54 (.mv (.t 55))])
          (.cond (.t 54)
           (.seq
            (rg [
              o 56 (.mv (.t 4)),
              o 57 (.fa 8 (.t 1)),
              o 58 (.ld none (.t 57)),
              o 59 (.fa 14 (.t 1)),
              o 60 (.ld none (.t 59)),
              o 61 (.len false (.t 60)),
              o 62 (.bsl 1 [[.i .i64 0], [.i .i64 0]] [(0, (.t 58)), (1, (.t 61))]),
              o 63 (.callz 23 [(.t 62)]),
              o 64 (.bin .add (.t 56) (.t 63)),
              o 4 (.mv (.t 64))])
            (.seq
             (rg [
               o 5 (.mv (kc 0))])
             (.block 1
              (.loop [1, 4, 5] a10_0))))
           (rd [
             o 27 (.mv (.t 4)),
             o 28 (.fa 11 (.t 1)),
             od 29 [1] (.ld none (.t 28)),
             o 30 (.fa 10 (.t 1)),
             od 31 [3] (.ld none (.t 30)),
             od 32 [3, 4, 1, 2] (.bsl 1 [[.i .i64 0], [.i .i64 0]] [(0, (.t 29)), (1, (.t 31))]),
             od 33 [2, 1, 4, 3, 5] (.callz 23 [(.t 32)]),
             od 34 [5, 3, 4, 1, 2, 6, 0] (.bin .add (.t 27) (.t 33)),
             o 35 (.fa 12 (.t 1)),
             od 36 [8] (.ld none (.t 35)),
             od 37 [5, 3, 4, 1, 2, 6, 8, 9] (.callp 24 [(.t 36)]),
             od 38 [9, 8, 10, 0, 6, 2, 1, 4, 3, 5, 7] (.bin .add (.t 34) (.t 37)),
             o 39 (.fa 13 (.t 1)),
             od 40 [12] (.ld none (.t 39)),
             od 41 [12, 13, 7, 5, 3, 4, 1, 2, 6, 0, 10, 8, 9, 11] (.bin .add (.t 38) (.t 40)),
             od 4 [11, 9, 8, 10, 0, 6, 2, 1, 4, 3, 5, 7, 13, 12, 14] (.mv (.t 41))])))))))
     (.seq
      (rg [
        o 96 (.mv (.t 4)),
        o 97 (.callp 16 [(.t 96)]),
        o 98 (.ext (.t 97) 0),
        o 99 (.ext (.t 97) 1),
        o 2 (.mv (.t 98)),
        o 3 (.mv (.t 99))])
      .ret))))),
 [.t 2, .t 3], false⟩
/-! 11: wagoner/wire.Get; loops: [[2, 7, 8, 35, 36, 37]] -/
def a11_0 : AC :=
 (.seq
  (rg [
    o 38 (.bin .lss (.t 37) (.t 36))])
  (.seq
   (.cond (.t 38)
    .skip
    (.exit 0))
   (.seq
    (.block 1
     (.seq
      (rg [
        o 39 (.ia 1 (.t 35) (.t 37)),
        o 40 (.ld none (.t 39)),
        o 10 (.mv (.t 40))])
      (rg [
        o 41 (.mv (.t 10)),
        o 42 (.mv (.t 7)),
        o 43 (.call 26 [(.t 42)]),
        o 44 (.nck (.t 41)),
        on (.st 1 (.t 44) (.t 43))])))
    (rg [
      o 45 (.bin .add (.t 37) (kc 1)),
      o 37 (.mv (.t 45))]))))
def a11 : AF := ⟨106,
 (.seq
  (rg [
    o 2 (.alloc [.d (.i .i64 0), .d (.i .i64 0), .d (.i .i64 0), .d (.i .i64 0), .d (.i .i64 0), .d (.i .i64 0), .d (.i .i64 0), .d (.i .i64 0), .d (.i .i64 0), .d (.i .i64 0), .d (.i .i64 0), .d (.i .i64 0), .d (.i .u32 0), .d (.s []), .ns]),
    o 3 (.mv (kc 0))])
  (.seq
   (rg [
     o 12 (.mv (.t 0)),
     o 13 (.callp 25 [(.t 12), (kc 0)]),
     o 11 (.mv (.t 13)),
     o 14 (.ext (.t 11) 0),
     o 15 (.ext (.t 11) 1),
     o 16 (.ext (.t 11) 2),
     o 4 (.mv (.t 14)),
     o 5 (.mv (.t 15)),
     o 6 (.mv (.t 16))])
   (.seq
    (.seq
     (rg [
       o 17 (.mv (.t 6)),
       o 18 (.bin .neq (.t 17) (kc 0))])
     (.cond (.t 18)
      (.seq
       (rg [
         o 19 (.build [.d (.i .i64 0), .d (.i .i64 0), .d (.i .i64 0), .d (.i .i64 0), .d (.i .i64 0), .d (.i .i64 0), .d (.i .i64 0), .d (.i .i64 0), .d (.i .i64 0), .d (.i .i64 0), .d (.i .i64 0), .d (.i .i64 0), .d (.i .u32 0), .d (.s []), .ns] []),
         o 20 (.mv (.t 6)),
         on (.st 15 (.t 2) (.t 19)),
         o 3 (.mv (.t 20))])
       .ret)
      .skip))
    (.seq
     (rg [
       o 21 (.mv (.t 4)),
       o 22 (.mv (.t 5)),
       o 23 (.mv (.t 0)),
       o 24 (.len true (.t 23)),
       o 25 (.bin .neq (.t 22) (.t 24)),
       o 26 (.build [.d (.s []), .d (.b false)] [(0, 1, (.t 21)), (1, 1, (.t 25))]),
       o 27 (.box (.t 26)),
       o 7 (.mv (.t 27))])
     (.seq
      (rg [
        o 8 (.alloc [.d (.i .i64 0), .d (.i .i64 0), .d (.i .i64 0), .d (.i .i64 0), .d (.i .i64 0), .d (.i .i64 0), .d (.i .i64 0), .d (.i .i64 0), .d (.i .i64 0), .d (.i .i64 0), .d (.i .i64 0), .d (.i .i64 0), .d (.i .u32 0), .d (.s []), .ns])])
      (.seq
       (.seq
        (rg [
          o 28 (.fa 0 (.t 8)),
          o 29 (.fa 1 (.t 8)),
          o 30 (.fa 2 (.t 8)),
          o 31 (.fa 3 (.t 8)),
          o 32 (.fa 4 (.t 8)),
          o 33 (.fa 5 (.t 8)),
          o 34 (.fa 6 (.t 8)),
          o 35 (.bsp [.np, .np, .np, .np, .np, .np, .np] [(0, 1, (.t 28)), (1, 1, (.t 29)), (2, 1, (.t 30)), (3, 1, (.t 31)), (4, 1, (.t 32)), (5, 1, (.t 33)), (6, 1, (.t 34))]),
          o 36 (.len false (.t 35)),
          o 37 (.mv (kc 0))])
        (.block 0
         (.loop [2, 7, 8, 35, 36, 37] a11_0)))
       (.seq
        (.seq
         (rg [
           o 46 (.fa 0 (.t 8)),
           o 47 (.ld none (.t 46))])
         (.block 2
          (.seq
           (rg [
             o 49 (.bin .eql (.t 47) (kc 1)),
             o 48 (.mv (.t 49))])
           (.cond (.t 48)
            (rg [
              o 50 (.mv (.t 7)),
              o 51 (.call 26 [(.t 50)]),
              o 52 (.mv (.t 7)),
              o 53 (.call 26 [(.t 52)]),
              o 54 (.mv (.t 7)),
              o 55 (.call 26 [(.t 54)]),
              o 56 (.fa 7 (.t 8)),
              on (.st 1 (.t 56) (.t 51)),
              o 57 (.fa 9 (.t 8)),
              on (.st 1 (.t 57) (.t 53)),
              o 58 (.fa 10 (.t 8)),
              on (.st 1 (.t 58) (.t 55))])
            (.seq
             (rg [
               o 60 (.bin .eql (.t 47) (kc 2)),
               o 59 (.mv (.t 60))])
             (.cond (.t 59)
              (.seq
               (rg [
                 o 61 (.mv (.t 7)),
                 o 62 (.call 26 [(.t 61)]),
                 o 63 (.fa 8 (.t 8)),
                 on (.st 1 (.t 63) (.t 62))])
               (rg [
                 o 64 (.mv (.t 7)),
                 o 65 (.fa 6 (.t 8)),
                 o 66 (.ld none (.t 65)),
                 o 67 (.call 27 [(.t 64), (.t 66)]),
                 o 68 (.fa 14 (.t 8)),
                 on (.st 1 (.t 68) (.t 67))]))
              (.seq
               (rg [
                 o 70 (.bin .eql (.t 47) (kc 3)),
                 o 69 (.mv (.t 70))])
               (.cond (.t 69)
                (.seq
                 (rg [
                   o 71 (.mv (.t 7)),
                   o 72 (.call 26 [(.t 71)]),
                   o 73 (.mv (.t 7)),
                   o 74 (.call 26 [(.t 73)]),
                   o 75 (.fa 11 (.t 8)),
                   on (.st 1 (.t 75) (.t 72)),
                   o 76 (.fa 10 (.t 8)),
                   on (.st 1 (.t 76) (.t 74))])
                 (.seq
                  (rg [
                    o 77 (.mv (.t 7)),
                    o 78 (.call 28 [(.t 77)]),
                    o 79 (.fa 12 (.t 8)),
                    on (.st 1 (.t 79) (.t 78))])
                  (rg [
                    o 80 (.mv (.t 7)),
                    o 81 (.mv (.t 7)),
                    o 82 (.nck (.t 81)),
                    o 83 (.fa 0 (.t 82)),
                    o 84 (.ld none (.t 83)),
                    o 85 (.fa 13 (.t 8)),
                    on (.st 1 (.t 85) (.t 84)),
                    o 86 (.nck (.t 80)),
                    o 87 (.fa 0 (.t 86)),
                    on (.st 1 (.t 87) (ks []))])))
                .skip))))))))
        (.seq
         (.seq
          (rg [
            o 88 (.mv (.t 7)),
            o 89 (.nck (.t 88)),
            o 90 (.fa 1 (.t 89)),
            o 91 (.ld none (.t 90)),
            o 92 (.mv (.t 91)),
            og 93 92 false (.mv (.t 7)),
            og 94 92 false (.nck (.t 93)),
            og 95 92 false (.fa 0 (.t 94)),
            og 96 92 false (.ld none (.t 95)),
            og 97 92 false (.bin .neq (.t 96) (ks [])),
            o 98 (.pick (.t 92) (kb true) (.t 97)),
            o 99 (.mv (.t 98)),
            og 100 99 false (.ld (some 15) (.t 8)),
            og 101 99 false (.callp 13 [(.t 100)]),
            og 102 99 false (.un .not (.t 101)),
            o 103 (.pick (.t 99) (kb true) (.t 102))])
          (.cond (.t 103)
           (.seq
            (rg [
              o 104 (.build [.d (.i .i64 0), .d (.i .i64 0), .d (.i .i64 0), .d (.i .i64 0), .d (.i .i64 0), .d (.i .i64 0), .d (.i .i64 0), .d (.i .i64 0), .d (.i .i64 0), .d (.i .i64 0), .d (.i .i64 0), .d (.i .i64 0), .d (.i .u32 0), .d (.s []), .ns] []),
              on (.st 15 (.t 2) (.t 104)),
              o 3 (.mv (kc 3))])
            .ret)
           .skip))
         (.seq
          (rg [
            o 105 (.ld (some 15) (.t 8)),
            on (.st 15 (.t 2) (.t 105)),
            o 3 (.mv (kc 0))])
          .ret))))))))),
 [.c (some 15) 2, .t 3], false⟩
/-! 12: wagoner/wagonerref16.Get; loops: [] -/
def a12 : AF := ⟨39,
 (.seq
  (rg [
    o 2 (.alloc [.d (.i .i64 0), .d (.i .i64 0), .d (.i .i64 0), .d (.i .i64 0), .d (.i .i64 0), .d (.i .i64 0), .d (.i .i64 0), .d (.i .i64 0), .d (.i .i64 0), .d (.i .i64 0), .d (.i .i64 0), .d (.i .i64 0), .d (.i .u32 0), .d (.s []), .ns]),
    o 3 (.mv (kc 0))])
  (.seq
   (rg [
     o 10 (.mv (.t 0)),
     o 11 (.callp 29 [(.t 10), (kc 0)]),
     o 9 (.mv (.t 11)),
     o 12 (.ext (.t 9) 0),
     o 13 (.ext (.t 9) 1),
     o 14 (.ext (.t 9) 2),
     o 4 (.mv (.t 12)),
     o 5 (.mv (.t 13)),
     o 6 (.mv (.t 14))])
   (.seq
    (.seq
     (rg [
       o 15 (.mv (.t 6)),
       o 16 (.bin .neq (.t 15) (kc 0))])
     (.cond (.t 16)
      (.seq
       (rg [
         o 17 (.build [.d (.i .i64 0), .d (.i .i64 0), .d (.i .i64 0), .d (.i .i64 0), .d (.i .i64 0), .d (.i .i64 0), .d (.i .i64 0), .d (.i .i64 0), .d (.i .i64 0), .d (.i .i64 0), .d (.i .i64 0), .d (.i .i64 0), .d (.i .u32 0), .d (.s []), .ns] []),
         o 18 (.mv (.t 6)),
         on (.st 15 (.t 2) (.t 17)),
         o 3 (.mv (.t 18))])
       .ret)
      .skip))
    (.seq
     (rg [
       o 20 (.mv (.t 4)),
       o 21 (.callp 30 [(.t 20)]),
       o 19 (.mv (.t 21)),
       o 22 (.ext (.t 19) 0),
       o 23 (.ext (.t 19) 1),
       o 7 (.alloc [.d (.i .i64 0), .d (.i .i64 0), .d (.i .i64 0), .d (.i .i64 0), .d (.i .i64 0), .d (.i .i64 0), .d (.i .i64 0), .d (.i .i64 0), .d (.i .i64 0), .d (.i .i64 0), .d (.i .i64 0), .d (.i .i64 0), .d (.i .u32 0), .d (.s []), .ns]),
       on (.st 15 (.t 7) (.t 22)),
       o 8 (.mv (.t 23))])
     (.seq
      (.seq
       (rg [
         o 24 (.mv (.t 8)),
         o 25 (.un .not (.t 24)),
         o 26 (.mv (.t 25)),
         og 27 26 false (.mv (.t 5)),
         og 28 26 false (.mv (.t 0)),
         og 29 26 false (.len true (.t 28)),
         og 30 26 false (.bin .neq (.t 27) (.t 29)),
         o 31 (.pick (.t 26) (kb true) (.t 30)),
         o 32 (.mv (.t 31)),
         og 33 32 false (.ld (some 15) (.t 7)),
         og 34 32 false (.callp 14 [(.t 33)]),
         og 35 32 false (.un .not (.t 34)),
         o 36 (.pick (.t 32) (kb true) (.t 35))])
       (.cond (.t 36)
        (.seq
         (rg [
           o 37 (.build [.d (.i .i64 0), .d (.i .i64 0), .d (.i .i64 0), .d (.i .i64 0), .d (.i .i64 0), .d (.i .i64 0), .d (.i .i64 0), .d (.i .i64 0), .d (.i .i64 0), .d (.i .i64 0), .d (.i .i64 0), .d (.i .i64 0), .d (.i .u32 0), .d (.s []), .ns] []),
           on (.st 15 (.t 2) (.t 37)),
           o 3 (.mv (kc 3))])
         .ret)
        .skip))
      (.seq
       (rg [
         o 38 (.ld (some 15) (.t 7)),
         on (.st 15 (.t 2) (.t 38)),
         o 3 (.mv (kc 0))])
       .ret)))))),
 [.c (some 15) 2, .t 3], false⟩
/-! 13: wagoner/wire.Right; loops: [] -/
def a13 : AF := ⟨153,
 (.seq
  (rg [
    o 1 (.box (.t 0)),
    o 2 (.mv (kb false))])
  (.seq
   (.seq
    (rg [
      o 4 (.fa 1 (.t 1)),
      o 5 (.ld none (.t 4)),
      o 6 (.fa 2 (.t 1)),
      o 7 (.ld none (.t 6)),
      o 8 (.bsl 1 [[.i .i64 0], [.i .i64 0]] [(0, (.t 5)), (1, (.t 7))]),
      o 9 (.callz 31 [(kc 7), (.t 8)]),
      o 10 (.un .not (.t 9)),
      o 11 (.mv (.t 10)),
      og 12 11 false (.fa 1 (.t 1)),
      og 13 11 false (.ld none (.t 12)),
      og 14 11 false (.fa 2 (.t 1)),
      og 15 11 false (.ld none (.t 14)),
      og 16 11 false (.bin .eql (.t 13) (.t 15)),
      o 17 (.pick (.t 11) (kb true) (.t 16)),
      o 18 (.mv (.t 17)),
      og 19 18 false (.fa 3 (.t 1)),
      og 20 18 false (.ld none (.t 19)),
      og 21 18 false (.bin .lss (.t 20) (kc 1)),
      o 22 (.pick (.t 18) (kb true) (.t 21)),
      o 23 (.mv (.t 22)),
      og 24 23 false (.fa 3 (.t 1)),
      og 25 23 false (.ld none (.t 24)),
      og 26 23 false (.fa 4 (.t 1)),
      og 27 23 false (.ld none (.t 26)),
      og 28 23 false (.fa 5 (.t 1)),
      og 29 23 false (.ld none (.t 28)),
      og 30 23 false (.fa 6 (.t 1)),
      og 31 23 false (.ld none (.t 30)),
      og 32 23 false (.fa 8 (.t 1)),
      og 33 23 false (.ld none (.t 32)),
      og 34 23 false (.fa 9 (.t 1)),
      og 35 23 false (.ld none (.t 34)),
      og 36 23 false (.bsl 1 (List.replicate 6 [.i .i64 0]) [(0, (.t 25)), (1, (.t 27)), (2, (.t 29)), (3, (.t 31)), (4, (.t 33)), (5, (.t 35))]),
      og 37 23 false (.callz 31 [(kc 1099511627776), (.t 36)]),
      og 38 23 false (.un .not (.t 37)),
      o 39 (.pick (.t 23) (kb true) (.t 38)),
      o 40 (.mv (.t 39)),
      og 41 40 false (.fa 7 (.t 1)),
      og 42 40 false (.ld none (.t 41)),
      og 43 40 false (.fa 10 (.t 1)),
      og 44 40 false (.ld none (.t 43)),
      og 45 40 false (.fa 11 (.t 1)),
      og 46 40 false (.ld none (.t 45)),
      og 47 40 false (.bsl 1 (List.replicate 3 [.i .i64 0]) [(0, (.t 42)), (1, (.t 44)), (2, (.t 46))]),
      og 48 40 false (.callz 31 [(kc 65536), (.t 47)]),
      og 49 40 false (.un .not (.t 48)),
      o 50 (.pick (.t 40) (kb true) (.t 49))])
    (.cond (.t 50)
     (.seq
      (rg [
        o 2 (.mv (kb false))])
      .ret)
     .skip))
   (.seq
    (rg [
      o 51 (.fa 14 (.t 1)),
      o 52 (.ld none (.t 51)),
      o 53 (.len false (.t 52)),
      o 54 (.bin .eql (.t 53) (kc 0)),
      o 3 (.mv (.t 54))])
    (.seq
     (.seq
      (rg [
        o 55 (.fa 0 (.t 1)),
        o 56 (.ld none (.t 55))])
      (.block 0
       (.seq
        (rg [
          o 58 (.bin .eql (.t 56) (kc 1)),
          o 57 (.mv (.t 58))])
        (.cond (.t 57)
         (.seq
          (rg [
            o 59 (.mv (.t 3)),
            o 60 (.mv (.t 59)),
            og 61 60 true (.fa 8 (.t 1)),
            og 62 60 true (.ld none (.t 61)),
            og 63 60 true (.bin .eql (.t 62) (kc 0)),
            o 64 (.pick (.t 60) (.t 63) (kb false)),
            o 65 (.mv (.t 64)),
            og 66 65 true (.fa 11 (.t 1)),
            og 67 65 true (.ld none (.t 66)),
            og 68 65 true (.bin .eql (.t 67) (kc 0)),
            o 69 (.pick (.t 65) (.t 68) (kb false)),
            o 70 (.mv (.t 69)),
            og 71 70 true (.fa 12 (.t 1)),
            og 72 70 true (.ld none (.t 71)),
            og 73 70 true (.bin .eql (.t 72) (kx (.d (.i .u32 0)))),
            o 74 (.pick (.t 70) (.t 73) (kb false)),
            o 75 (.mv (.t 74)),
            og 76 75 true (.fa 13 (.t 1)),
            og 77 75 true (.ld none (.t 76)),
            og 78 75 true (.bin .eql (.t 77) (ks [])),
            o 79 (.pick (.t 75) (.t 78) (kb false)),
            o 2 (.mv (.t 79))])
          .ret)
         (.seq
          (rg [
            o 81 (.bin .eql (.t 56) (kc 2)),
            o 80 (.mv (.t 81))])
          (.cond (.t 80)
           (.seq
            (rg [
              o 82 (.fa 14 (.t 1)),
              o 83 (.ld none (.t 82)),
              o 84 (.fa 6 (.t 1)),
              o 85 (.ld none (.t 84)),
              o 86 (.callp 32 [(.t 83), (.t 85)]),
              o 87 (.mv (.t 86)),
              og 88 87 true (.fa 7 (.t 1)),
              og 89 87 true (.ld none (.t 88)),
              og 90 87 true (.bin .eql (.t 89) (kc 0)),
              o 91 (.pick (.t 87) (.t 90) (kb false)),
              o 92 (.mv (.t 91)),
              og 93 92 true (.fa 9 (.t 1)),
              og 94 92 true (.ld none (.t 93)),
              og 95 92 true (.bin .eql (.t 94) (kc 0)),
              o 96 (.pick (.t 92) (.t 95) (kb false)),
              o 97 (.mv (.t 96)),
              og 98 97 true (.fa 10 (.t 1)),
              og 99 97 true (.ld none (.t 98)),
              og 100 97 true (.bin .eql (.t 99) (kc 0)),
              o 101 (.pick (.t 97) (.t 100) (kb false)),
              o 102 (.mv (.t 101)),
              og 103 102 true (.fa 11 (.t 1)),
              og 104 102 true (.ld none (.t 103)),
              og 105 102 true (.bin .eql (.t 104) (kc 0)),
              o 106 (.pick (.t 102) (.t 105) (kb false)),
              o 107 (.mv (.t 106)),
              og 108 107 true (.fa 12 (.t 1)),
              og 109 107 true (.ld none (.t 108)),
              og 110 107 true (.bin .eql (.t 109) (kx (.d (.i .u32 0)))),
              o 111 (.pick (.t 107) (.t 110) (kb false)),
              o 112 (.mv (.t 111)),
              og 113 112 true (.fa 13 (.t 1)),
              og 114 112 true (.ld none (.t 113)),
              og 115 112 true (.bin .eql (.t 114) (ks [])),
              o 116 (.pick (.t 112) (.t 115) (kb false)),
              o 2 (.mv (.t 116))])
            .ret)
           (.seq
            (rg [
              o 118 (.bin .eql (.t 56) (kc 3)),
              o 117 (.mv (.t 118))])
            (.cond (.t 117)
             (.seq
              (rg [
                o 119 (.mv (.t 3)),
                o 120 (.mv (.t 119)),
                og 121 120 true (.fa 7 (.t 1)),
                og 122 120 true (.ld none (.t 121)),
                og 123 120 true (.bin .eql (.t 122) (kc 0)),
                o 124 (.pick (.t 120) (.t 123) (kb false)),
                o 125 (.mv (.t 124)),
                og 126 125 true (.fa 8 (.t 1)),
                og 127 125 true (.ld none (.t 126)),
                og 128 125 true (.bin .eql (.t 127) (kc 0)),
                o 129 (.pick (.t 125) (.t 128) (kb false)),
                o 130 (.mv (.t 129)),
                og 131 130 true (.fa 9 (.t 1)),
                og 132 130 true (.ld none (.t 131)),
                og 133 130 true (.bin .eql (.t 132) (kc 0)),
                o 134 (.pick (.t 130) (.t 133) (kb false)),
                o 135 (.mv (.t 134)),
                og 136 135 true (.fa 11 (.t 1)),
                og 137 135 true (.ld none (.t 136)),
                og 138 135 true (.bin .gtr (.t 137) (kc 0)),
                o 139 (.pick (.t 135) (.t 138) (kb false)),
                o 140 (.mv (.t 139)),
                og 141 140 true (.fa 10 (.t 1)),
                og 142 140 true (.ld none (.t 141)),
                og 143 140 true (.fa 11 (.t 1)),
                og 144 140 true (.ld none (.t 143)),
                og 145 140 true (.bin .leq (.t 142) (.t 144)),
                o 146 (.pick (.t 140) (.t 145) (kb false)),
                o 147 (.mv (.t 146)),
                og 148 147 true (.fa 13 (.t 1)),
                og 149 147 true (.ld none (.t 148)),
                og 150 147 true (.len true (.t 149)),
                og 151 147 true (.bin .leq (.t 150) (kc 4096)),
                o 152 (.pick (.t 147) (.t 151) (kb false)),
                o 2 (.mv (.t 152))])
              .ret)
             .skip))))))))
     (.seq
      (rg [
        o 2 (.mv (kb false))])
      .ret))))),
 [.t 2], false⟩
/-! 14: wagoner/wagonerref16.Right; loops: [[1, 4]] -/
def a14_0 : AC :=
 (.seq
  (.seq
   (rg [
     o 121 (.mv (.t 4)),
     o 122 (.fa 14 (.t 1)),
     o 123 (.ld none (.t 122)),
     o 124 (.len false (.t 123)),
     o 125 (.bin .lss (.t 121) (.t 124))])
   (.cond (.t 125)
    .skip
    (.exit 1)))
  (.seq
   (.block 2
    (.seq
     (rg [
       o 128 (.fa 14 (.t 1)),
       o 129 (.ld none (.t 128)),
       o 130 (.mv (.t 4)),
       o 131 (.ia 3 (.t 129) (.t 130)),
       o 132 (.ld (some 3) (.t 131)),
       o 133 (.callp 34 [(.t 132)]),
       o 134 (.un .not (.t 133)),
       o 135 (.mv (.t 134)),
       og 136 135 false (.fa 14 (.t 1)),
       og 137 135 false (.ld none (.t 136)),
       og 138 135 false (.mv (.t 4)),
       og 139 135 false (.ia 3 (.t 137) (.t 138)),
       og 140 135 false (.fa 0 (.t 139)),
       og 141 135 false (.ld none (.t 140)),
       og 142 135 false (.fa 6 (.t 1)),
       og 143 135 false (.ld none (.t 142)),
       og 144 135 false (.mv (.t 4)),
       og 145 135 false (.bin .add (.t 143) (.t 144)),
       og 146 135 false (.bin .neq (.t 141) (.t 145)),
       o 147 (.pick (.t 135) (kb true) (.t 146))])
     (.cond (.t 147)
      (.seq
       (rg [
         o 2 (.mv (kb false))])
       .ret)
      .skip)))
   (rg [
     o 126 (.mv (.t 4)),
     o 127 (.bin .add (.t 126) (kc 1)),
     o 4 (.mv (.t 127))])))
def a14 : AF := ⟨188,
 (.seq
  (rg [
    o 1 (.box (.t 0)),
    o 2 (.mv (kb false))])
  (.seq
   (.seq
    (rg [
      o 5 (.fa 1 (.t 1)),
      o 6 (.ld none (.t 5)),
      o 7 (.callp 33 [(.t 6), (kc 7)]),
      o 8 (.un .not (.t 7)),
      o 9 (.mv (.t 8)),
      og 10 9 false (.fa 2 (.t 1)),
      og 11 9 false (.ld none (.t 10)),
      og 12 9 false (.callp 33 [(.t 11), (kc 7)]),
      og 13 9 false (.un .not (.t 12)),
      o 14 (.pick (.t 9) (kb true) (.t 13)),
      o 15 (.mv (.t 14)),
      og 16 15 false (.fa 1 (.t 1)),
      og 17 15 false (.ld none (.t 16)),
      og 18 15 false (.fa 2 (.t 1)),
      og 19 15 false (.ld none (.t 18)),
      og 20 15 false (.bin .eql (.t 17) (.t 19)),
      o 21 (.pick (.t 15) (kb true) (.t 20)),
      o 22 (.mv (.t 21)),
      og 23 22 false (.fa 3 (.t 1)),
      og 24 22 false (.ld none (.t 23)),
      og 25 22 false (.bin .lss (.t 24) (kc 1)),
      o 26 (.pick (.t 22) (kb true) (.t 25)),
      o 27 (.mv (.t 26)),
      og 28 27 false (.fa 3 (.t 1)),
      og 29 27 false (.ld none (.t 28)),
      og 30 27 false (.callp 33 [(.t 29), (kc 1099511627776)]),
      og 31 27 false (.un .not (.t 30)),
      o 32 (.pick (.t 27) (kb true) (.t 31)),
      o 33 (.mv (.t 32)),
      og 34 33 false (.fa 4 (.t 1)),
      og 35 33 false (.ld none (.t 34)),
      og 36 33 false (.callp 33 [(.t 35), (kc 1099511627776)]),
      og 37 33 false (.un .not (.t 36)),
      o 38 (.pick (.t 33) (kb true) (.t 37)),
      o 39 (.mv (.t 38)),
      og 40 39 false (.fa 5 (.t 1)),
      og 41 39 false (.ld none (.t 40)),
      og 42 39 false (.callp 33 [(.t 41), (kc 1099511627776)]),
      og 43 39 false (.un .not (.t 42)),
      o 44 (.pick (.t 39) (kb true) (.t 43)),
      o 45 (.mv (.t 44)),
      og 46 45 false (.fa 6 (.t 1)),
      og 47 45 false (.ld none (.t 46)),
      og 48 45 false (.callp 33 [(.t 47), (kc 1099511627776)]),
      og 49 45 false (.un .not (.t 48)),
      o 50 (.pick (.t 45) (kb true) (.t 49))])
    (.cond (.t 50)
     (.seq
      (rg [
        o 2 (.mv (kb false))])
      .ret)
     .skip))
   (.seq
    (rg [
      o 51 (.fa 0 (.t 1)),
      o 52 (.ld none (.t 51)),
      o 53 (.fa 1 (.t 1)),
      o 54 (.ld none (.t 53)),
      o 55 (.fa 2 (.t 1)),
      o 56 (.ld none (.t 55)),
      o 57 (.fa 3 (.t 1)),
      o 58 (.ld none (.t 57)),
      o 59 (.fa 4 (.t 1)),
      o 60 (.ld none (.t 59)),
      o 61 (.fa 5 (.t 1)),
      o 62 (.ld none (.t 61)),
      o 63 (.fa 6 (.t 1)),
      o 64 (.ld none (.t 63)),
      o 65 (.build [.d (.i .i64 0), .d (.i .i64 0), .d (.i .i64 0), .d (.i .i64 0), .d (.i .i64 0), .d (.i .i64 0), .d (.i .i64 0), .d (.i .i64 0), .d (.i .i64 0), .d (.i .i64 0), .d (.i .i64 0), .d (.i .i64 0), .d (.i .u32 0), .d (.s []), .ns] [(0, 1, (.t 52)), (1, 1, (.t 54)), (2, 1, (.t 56)), (3, 1, (.t 58)), (4, 1, (.t 60)), (5, 1, (.t 62)), (6, 1, (.t 64))]),
      o 3 (.alloc [.d (.i .i64 0), .d (.i .i64 0), .d (.i .i64 0), .d (.i .i64 0), .d (.i .i64 0), .d (.i .i64 0), .d (.i .i64 0), .d (.i .i64 0), .d (.i .i64 0), .d (.i .i64 0), .d (.i .i64 0), .d (.i .i64 0), .d (.i .u32 0), .d (.s []), .ns]),
      on (.st 15 (.t 3) (.t 65))])
    (.seq
     (.seq
      (rg [
        o 66 (.fa 0 (.t 1)),
        o 67 (.ld none (.t 66))])
      (.block 0
       (.seq
        (rg [
          o 69 (.bin .eql (.t 67) (kc 1)),
          o 68 (.mv (.t 69))])
        (.cond (.t 68)
         (.seq
          (rd [
            o 70 (.fa 7 (.t 1)),
            od 71 [0] (.ld none (.t 70)),
            o 72 (.fa 9 (.t 1)),
            od 73 [2] (.ld none (.t 72)),
            o 74 (.fa 10 (.t 1)),
            od 75 [4] (.ld none (.t 74)),
            od 76 [1, 0] (.fa 7 (.t 3)),
            ⟨none, .st 1 (.t 76) (.t 71), none, [0, 1, 6], false⟩,
            od 77 [7, 6, 3, 2, 1, 0] (.fa 9 (.t 3)),
            ⟨none, .st 1 (.t 77) (.t 73), none, [0, 1, 2, 3, 6, 7, 8], false⟩,
            od 78 [9, 8, 7, 6, 5, 4, 3, 2, 1, 0] (.fa 10 (.t 3)),
            ⟨none, .st 1 (.t 78) (.t 75), none, [0, 1, 2, 3, 4, 5, 6, 7, 8, 9, 10], false⟩])
          (.seq
           (rg [
             o 79 (.ld (some 15) (.t 3)),
             o 80 (.ld (some 15) (.t 1)),
             o 81 (.callp 15 [(.t 79), (.t 80)]),
             o 82 (.mv (.t 81)),
             og 83 82 true (.fa 7 (.t 1)),
             og 84 82 true (.ld none (.t 83)),
             og 85 82 true (.callp 33 [(.t 84), (kc 65536)]),
             o 86 (.pick (.t 82) (.t 85) (kb false)),
             o 87 (.mv (.t 86)),
             og 88 87 true (.fa 9 (.t 1)),
             og 89 87 true (.ld none (.t 88)),
             og 90 87 true (.callp 33 [(.t 89), (kc 1099511627776)]),
             o 91 (.pick (.t 87) (.t 90) (kb false)),
             o 92 (.mv (.t 91)),
             og 93 92 true (.fa 10 (.t 1)),
             og 94 92 true (.ld none (.t 93)),
             og 95 92 true (.callp 33 [(.t 94), (kc 65536)]),
             o 96 (.pick (.t 92) (.t 95) (kb false)),
             o 2 (.mv (.t 96))])
           .ret))
         (.seq
          (rg [
            o 98 (.bin .eql (.t 67) (kc 2)),
            o 97 (.mv (.t 98))])
          (.cond (.t 97)
           (.seq
            (rd [
              o 99 (.fa 8 (.t 1)),
              od 100 [0] (.ld none (.t 99)),
              o 101 (.fa 14 (.t 1)),
              od 102 [2] (.ld none (.t 101)),
              od 103 [1, 0] (.fa 8 (.t 3)),
              ⟨none, .st 1 (.t 103) (.t 100), none, [0, 1, 4], false⟩,
              od 104 [5, 4, 3, 2, 1, 0] (.fa 14 (.t 3)),
              ⟨none, .st 1 (.t 104) (.t 102), none, [0, 1, 2, 3, 4, 5, 6], false⟩])
            (.seq
             (.seq
              (rg [
                o 105 (.ld (some 15) (.t 3)),
                o 106 (.ld (some 15) (.t 1)),
                o 107 (.callp 15 [(.t 105), (.t 106)]),
                o 108 (.un .not (.t 107)),
                o 109 (.mv (.t 108)),
                og 110 109 false (.fa 8 (.t 1)),
                og 111 109 false (.ld none (.t 110)),
                og 112 109 false (.callp 33 [(.t 111), (kc 1099511627776)]),
                og 113 109 false (.un .not (.t 112)),
                o 114 (.pick (.t 109) (kb true) (.t 113)),
                o 115 (.mv (.t 114)),
                og 116 115 false (.fa 14 (.t 1)),
                og 117 115 false (.ld none (.t 116)),
                og 118 115 false (.len false (.t 117)),
                og 119 115 false (.bin .gtr (.t 118) (kc 64)),
                o 120 (.pick (.t 115) (kb true) (.t 119))])
              (.cond (.t 120)
               (.seq
                (rg [
                  o 2 (.mv (kb false))])
                .ret)
               .skip))
             (.seq
              (.seq
               (rg [
                 o 4 (.mv (kc 0))])
               (.block 1
                (.loop [1, 4] a14_0)))
              (.seq
               (rg [
                 o 2 (.mv (kb true))])
               .ret))))
           (.seq
            (rg [
              o 149 (.bin .eql (.t 67) (kc 3)),
              o 148 (.mv (.t 149))])
            (.cond (.t 148)
             (.seq
              (rd [
                o 150 (.fa 11 (.t 1)),
                od 151 [0] (.ld none (.t 150)),
                o 152 (.fa 12 (.t 1)),
                od 153 [2] (.ld none (.t 152)),
                o 154 (.fa 10 (.t 1)),
                od 155 [4] (.ld none (.t 154)),
                o 156 (.fa 13 (.t 1)),
                od 157 [6] (.ld none (.t 156)),
                od 158 [1, 0] (.fa 11 (.t 3)),
                ⟨none, .st 1 (.t 158) (.t 151), none, [0, 1, 8], false⟩,
                od 159 [9, 8, 3, 2, 1, 0] (.fa 12 (.t 3)),
                ⟨none, .st 1 (.t 159) (.t 153), none, [0, 1, 2, 3, 8, 9, 10], false⟩,
                od 160 [11, 10, 9, 8, 5, 4, 3, 2, 1, 0] (.fa 10 (.t 3)),
                ⟨none, .st 1 (.t 160) (.t 155), none, [0, 1, 2, 3, 4, 5, 8, 9, 10, 11, 12], false⟩,
                od 161 [13, 12, 11, 10, 9, 8, 7, 6, 5, 4, 3, 2, 1, 0] (.fa 13 (.t 3)),
                ⟨none, .st 1 (.t 161) (.t 157), none, [0, 1, 2, 3, 4, 5, 6, 7, 8, 9, 10, 11, 12, 13, 14], false⟩])
              (.seq
               (rg [
                 o 162 (.ld (some 15) (.t 3)),
                 o 163 (.ld (some 15) (.t 1)),
                 o 164 (.callp 15 [(.t 162), (.t 163)]),
                 o 165 (.mv (.t 164)),
                 og 166 165 true (.fa 11 (.t 1)),
                 og 167 165 true (.ld none (.t 166)),
                 og 168 165 true (.bin .geq (.t 167) (kc 1)),
                 o 169 (.pick (.t 165) (.t 168) (kb false)),
                 o 170 (.mv (.t 169)),
                 og 171 170 true (.fa 11 (.t 1)),
                 og 172 170 true (.ld none (.t 171)),
                 og 173 170 true (.callp 33 [(.t 172), (kc 65536)]),
                 o 174 (.pick (.t 170) (.t 173) (kb false)),
                 o 175 (.mv (.t 174)),
                 og 176 175 true (.fa 10 (.t 1)),
                 og 177 175 true (.ld none (.t 176)),
                 og 178 175 true (.fa 11 (.t 1)),
                 og 179 175 true (.ld none (.t 178)),
                 og 180 175 true (.callp 33 [(.t 177), (.t 179)]),
                 o 181 (.pick (.t 175) (.t 180) (kb false)),
                 o 182 (.mv (.t 181)),
                 og 183 182 true (.fa 13 (.t 1)),
                 og 184 182 true (.ld none (.t 183)),
                 og 185 182 true (.len true (.t 184)),
                 og 186 182 true (.bin .leq (.t 185) (kc 4096)),
                 o 187 (.pick (.t 182) (.t 186) (kb false)),
                 o 2 (.mv (.t 187))])
               .ret))
             .skip))))))))
     (.seq
      (rg [
        o 2 (.mv (kb false))])
      .ret))))),
 [.t 2], false⟩
/-! 15: wagoner/wagonerref16.Same; loops: [] -/
def a15 : AF := ⟨108,
 (.seq
  (rg [
    o 2 (.box (.t 0)),
    o 3 (.box (.t 1)),
    o 4 (.mv (kb false))])
  (.seq
   (rg [
     o 5 (.fa 0 (.t 2)),
     o 6 (.ld none (.t 5)),
     o 7 (.fa 0 (.t 3)),
     o 8 (.ld none (.t 7)),
     o 9 (.bin .eql (.t 6) (.t 8)),
     o 10 (.mv (.t 9)),
     og 11 10 true (.fa 1 (.t 2)),
     og 12 10 true (.ld none (.t 11)),
     og 13 10 true (.fa 1 (.t 3)),
     og 14 10 true (.ld none (.t 13)),
     og 15 10 true (.bin .eql (.t 12) (.t 14)),
     o 16 (.pick (.t 10) (.t 15) (kb false)),
     o 17 (.mv (.t 16)),
     og 18 17 true (.fa 2 (.t 2)),
     og 19 17 true (.ld none (.t 18)),
     og 20 17 true (.fa 2 (.t 3)),
     og 21 17 true (.ld none (.t 20)),
     og 22 17 true (.bin .eql (.t 19) (.t 21)),
     o 23 (.pick (.t 17) (.t 22) (kb false)),
     o 24 (.mv (.t 23)),
     og 25 24 true (.fa 3 (.t 2)),
     og 26 24 true (.ld none (.t 25)),
     og 27 24 true (.fa 3 (.t 3)),
     og 28 24 true (.ld none (.t 27)),
     og 29 24 true (.bin .eql (.t 26) (.t 28)),
     o 30 (.pick (.t 24) (.t 29) (kb false)),
     o 31 (.mv (.t 30)),
     og 32 31 true (.fa 4 (.t 2)),
     og 33 31 true (.ld none (.t 32)),
     og 34 31 true (.fa 4 (.t 3)),
     og 35 31 true (.ld none (.t 34)),
     og 36 31 true (.bin .eql (.t 33) (.t 35)),
     o 37 (.pick (.t 31) (.t 36) (kb false)),
     o 38 (.mv (.t 37)),
     og 39 38 true (.fa 5 (.t 2)),
     og 40 38 true (.ld none (.t 39)),
     og 41 38 true (.fa 5 (.t 3)),
     og 42 38 true (.ld none (.t 41)),
     og 43 38 true (.bin .eql (.t 40) (.t 42)),
     o 44 (.pick (.t 38) (.t 43) (kb false)),
     o 45 (.mv (.t 44)),
     og 46 45 true (.fa 6 (.t 2)),
     og 47 45 true (.ld none (.t 46)),
     og 48 45 true (.fa 6 (.t 3)),
     og 49 45 true (.ld none (.t 48)),
     og 50 45 true (.bin .eql (.t 47) (.t 49)),
     o 51 (.pick (.t 45) (.t 50) (kb false)),
     o 52 (.mv (.t 51)),
     og 53 52 true (.fa 7 (.t 2)),
     og 54 52 true (.ld none (.t 53)),
     og 55 52 true (.fa 7 (.t 3)),
     og 56 52 true (.ld none (.t 55)),
     og 57 52 true (.bin .eql (.t 54) (.t 56)),
     o 58 (.pick (.t 52) (.t 57) (kb false)),
     o 59 (.mv (.t 58)),
     og 60 59 true (.fa 8 (.t 2)),
     og 61 59 true (.ld none (.t 60)),
     og 62 59 true (.fa 8 (.t 3)),
     og 63 59 true (.ld none (.t 62)),
     og 64 59 true (.bin .eql (.t 61) (.t 63)),
     o 65 (.pick (.t 59) (.t 64) (kb false)),
     o 66 (.mv (.t 65)),
     og 67 66 true (.fa 9 (.t 2)),
     og 68 66 true (.ld none (.t 67)),
     og 69 66 true (.fa 9 (.t 3)),
     og 70 66 true (.ld none (.t 69)),
     og 71 66 true (.bin .eql (.t 68) (.t 70)),
     o 72 (.pick (.t 66) (.t 71) (kb false)),
     o 73 (.mv (.t 72)),
     og 74 73 true (.fa 10 (.t 2)),
     og 75 73 true (.ld none (.t 74)),
     og 76 73 true (.fa 10 (.t 3)),
     og 77 73 true (.ld none (.t 76)),
     og 78 73 true (.bin .eql (.t 75) (.t 77)),
     o 79 (.pick (.t 73) (.t 78) (kb false)),
     o 80 (.mv (.t 79)),
     og 81 80 true (.fa 11 (.t 2)),
     og 82 80 true (.ld none (.t 81)),
     og 83 80 true (.fa 11 (.t 3)),
     og 84 80 true (.ld none (.t 83)),
     og 85 80 true (.bin .eql (.t 82) (.t 84)),
     o 86 (.pick (.t 80) (.t 85) (kb false)),
     o 87 (.mv (.t 86)),
     og 88 87 true (.fa 12 (.t 2)),
     og 89 87 true (.ld none (.t 88)),
     og 90 87 true (.fa 12 (.t 3)),
     og 91 87 true (.ld none (.t 90)),
     og 92 87 true (.bin .eql (.t 89) (.t 91)),
     o 93 (.pick (.t 87) (.t 92) (kb false)),
     o 94 (.mv (.t 93)),
     og 95 94 true (.fa 13 (.t 2)),
     og 96 94 true (.ld none (.t 95)),
     og 97 94 true (.fa 13 (.t 3)),
     og 98 94 true (.ld none (.t 97)),
     og 99 94 true (.bin .eql (.t 96) (.t 98)),
     o 100 (.pick (.t 94) (.t 99) (kb false)),
     o 101 (.mv (.t 100)),
     og 102 101 true (.fa 14 (.t 2)),
     og 103 101 true (.ld none (.t 102)),
     og 104 101 true (.fa 14 (.t 3)),
     og 105 101 true (.ld none (.t 104)),
     og 106 101 true (.callp 35 [(.t 103), (.t 105)]),
     o 107 (.pick (.t 101) (.t 106) (kb false)),
     o 4 (.mv (.t 107))])
   .ret)),
 [.t 4], false⟩
/-! 16: wagoner/wagonerref03.Put; loops: [] -/
def a16 : AF := ⟨25,
 (.seq
  (rg [
    o 2 (.mv (ks [])),
    o 3 (.mv (kc 0))])
  (.seq
   (.seq
    (rg [
      o 5 (.mv (.t 0)),
      o 6 (.len true (.t 5)),
      o 7 (.bin .lss (.t 6) (kc 1)),
      o 8 (.mv (.t 7)),
      og 9 8 false (.mv (.t 0)),
      og 10 8 false (.len true (.t 9)),
      og 11 8 false (.bin .gtr (.t 10) (kc 65536)),
      o 12 (.pick (.t 8) (kb true) (.t 11))])
    (.cond (.t 12)
     (.seq
      (rg [
        o 2 (.mv (ks [])),
        o 3 (.mv (kc 5))])
      .ret)
     .skip))
   (.seq
    (rg [
      o 13 (.mv (.t 0)),
      o 14 (.len true (.t 13)),
      o 15 (.callp 36 [(.t 14)]),
      o 4 (.mv (.t 15))])
    (.seq
     (rg [
       o 16 (.mv (.t 4)),
       o 17 (.mv (.t 4)),
       o 18 (.mv (.t 0)),
       o 19 (.bin .add (.t 17) (.t 18)),
       o 20 (.callp 37 [(.t 19)]),
       o 21 (.callp 24 [(.t 20)]),
       o 22 (.bin .add (.t 16) (.t 21)),
       o 23 (.mv (.t 0)),
       o 24 (.bin .add (.t 22) (.t 23)),
       o 2 (.mv (.t 24)),
       o 3 (.mv (kc 0))])
     .ret)))),
 [.t 2, .t 3], false⟩
/-! 17: wagoner/wire.Same; loops: [] -/
def a17 : AF := ⟨17,
 (.seq
  (rg [
    o 2 (.box (.t 0)),
    o 3 (.box (.t 1)),
    o 4 (.mv (kb false))])
  (.seq
   (rg [
     o 5 (.ld (some 15) (.t 2)),
     o 6 (.callp 38 [(.t 5)]),
     o 7 (.ld (some 15) (.t 3)),
     o 8 (.callp 38 [(.t 7)]),
     o 9 (.eqa false [0, 0, 0, 0, 0, 0, 0, 0, 0, 0, 0, 0, 0, 2] (.t 6) (.t 8)),
     o 10 (.mv (.t 9)),
     og 11 10 true (.fa 14 (.t 2)),
     og 12 10 true (.ld none (.t 11)),
     og 13 10 true (.fa 14 (.t 3)),
     og 14 10 true (.ld none (.t 13)),
     og 15 10 true (.callp 39 [(.t 12), (.t 14)]),
     o 16 (.pick (.t 10) (.t 15) (kb false)),
     o 4 (.mv (.t 16))])
   .ret)),
 [.t 4], false⟩
/-! 18: wagoner/wagonerref04.Few; loops: [[0, 5]] -/
def a18_0 : AC :=
 (.seq
  (.seq
   (rg [
     o 10 (.mv (.t 5)),
     o 11 (.mv (.t 0)),
     o 12 (.len false (.t 11)),
     o 13 (.bin .lss (.t 10) (.t 12))])
   (.cond (.t 13)
    .skip
    (.exit 0)))
  (.seq
   (.block 1
    (.seq
     (rg [
       o 16 (.mv (.t 0)),
       o 17 (.mv (.t 5)),
       o 18 (.ia 3 (.t 16) (.t 17)),
       o 19 (.fa 2 (.t 18)),
       o 20 (.ld none (.t 19)),
       o 21 (.len true (.t 20)),
       o 22 (.bin .gtr (.t 21) (kc 300))])
     (.cond (.t 22)
      (.seq
       (rg [
         o 4 (.mv (kb false))])
       .ret)
      .skip)))
   (rg [
     o 14 (.mv (.t 5)),
     o 15 (.bin .add (.t 14) (kc 1)),
     o 5 (.mv (.t 15))])))
def a18 : AF := ⟨23,
 (.seq
  (rg [
    o 4 (.mv (kb false))])
  (.seq
   (.seq
    (rg [
      o 6 (.mv (.t 0)),
      o 7 (.len false (.t 6)),
      o 8 (.mv (.t 1)),
      o 9 (.bin .gtr (.t 7) (.t 8))])
    (.cond (.t 9)
     (.seq
      (rg [
        o 4 (.mv (kb false))])
      .ret)
     .skip))
   (.seq
    (.seq
     (rg [
       o 5 (.mv (kc 0))])
     (.block 0
      (.loop [0, 5] a18_0)))
    (.seq
     (rg [
       o 4 (.mv (kb true))])
     .ret)))),
 [.t 4], false⟩
/-! 19: (*wagoner/wire.writer).numbers; loops: [[0, 6, 7, 8]] -/
def a19_0 : AC :=
 (.seq
  (rg [
    o 9 (.bin .lss (.t 8) (.t 7))])
  (.seq
   (.cond (.t 9)
    .skip
    (.exit 0))
   (.seq
    (.block 1
     (.seq
      (rg [
        o 10 (.ia 1 (.t 6) (.t 8)),
        o 11 (.ld none (.t 10)),
        o 5 (.mv (.t 11))])
      (rg [
        o 12 (.mv (.t 0)),
        o 13 (.mv (.t 0)),
        o 14 (.nck (.t 13)),
        o 15 (.fa 0 (.t 14)),
        o 16 (.ld none (.t 15)),
        o 17 (.mv (.t 5)),
        o 18 (.callp 40 [(.t 17)]),
        o 19 (.app true 1 1 (.t 16) (.t 18)),
        o 20 (.nck (.t 12)),
        o 21 (.fa 0 (.t 20)),
        on (.st 1 (.t 21) (.t 19))])))
    (rg [
      o 22 (.bin .add (.t 8) (kc 1)),
      o 8 (.mv (.t 22))]))))
def a19 : AF := ⟨23,
 (.seq
  (rg [
    o 6 (.mv (.t 1)),
    o 7 (.len false (.t 6)),
    o 8 (.mv (kc 0))])
  (.block 0
   (.loop [0, 6, 7, 8] a19_0))),
 [], false⟩
/-! 20: (*wagoner/wire.writer).text; loops: [] -/
def a20 : AF := ⟨13,
 (rg [
   o 4 (.mv (.t 0)),
   o 5 (.mv (.t 0)),
   o 6 (.nck (.t 5)),
   o 7 (.fa 0 (.t 6)),
   o 8 (.ld none (.t 7)),
   o 9 (.mv (.t 1)),
   o 10 (.app true 1 1 (.t 8) (.t 9)),
   o 11 (.nck (.t 4)),
   o 12 (.fa 0 (.t 11)),
   on (.st 1 (.t 12) (.t 10))]),
 [], false⟩
/-! 21: wagoner/crc.Four; loops: [] -/
def a21 : AF := ⟨16,
 (.seq
  (rg [
    o 2 (.mv (ks []))])
  (.seq
   (rg [
     o 3 (.mv (.t 0)),
     o 4 (.cvi .u8 (.t 3)),
     o 5 (.mv (.t 0)),
     o 6 (.bin .shr (.t 5) (kx (.d (.i .u64 8)))),
     o 7 (.cvi .u8 (.t 6)),
     o 8 (.mv (.t 0)),
     o 9 (.bin .shr (.t 8) (kx (.d (.i .u64 16)))),
     o 10 (.cvi .u8 (.t 9)),
     o 11 (.mv (.t 0)),
     o 12 (.bin .shr (.t 11) (kx (.d (.i .u64 24)))),
     o 13 (.cvi .u8 (.t 12)),
     o 14 (.bsl 1 (List.replicate 4 [.i .u8 0]) [(0, (.t 4)), (1, (.t 7)), (2, (.t 10)), (3, (.t 13))]),
     o 15 (.b2s (.t 14)),
     o 2 (.mv (.t 15))])
   .ret)),
 [.t 2], false⟩
/-! 22: wagoner/frame.Put; loops: [] -/
def a22 : AF := ⟨21,
 (.seq
  (rg [
    o 2 (.mv (ks [])),
    o 3 (.mv (kc 0))])
  (.seq
   (.seq
    (rg [
      o 5 (.mv (.t 0)),
      o 6 (.len true (.t 5)),
      o 7 (.callp 41 [(.t 6)]),
      o 8 (.un .not (.t 7))])
    (.cond (.t 8)
     (.seq
      (rg [
        o 2 (.mv (ks [])),
        o 3 (.mv (kc 5))])
      .ret)
     .skip))
   (.seq
    (rg [
      o 9 (.mv (.t 0)),
      o 10 (.len true (.t 9)),
      o 11 (.callp 40 [(.t 10)]),
      o 4 (.mv (.t 11))])
    (.seq
     (rg [
       o 12 (.mv (.t 4)),
       o 13 (.mv (.t 4)),
       o 14 (.mv (.t 0)),
       o 15 (.bsl 1 [[.s []], [.s []]] [(0, (.t 13)), (1, (.t 14))]),
       o 16 (.callz 42 [(.t 15)]),
       o 17 (.callp 21 [(.t 16)]),
       o 18 (.bin .add (.t 12) (.t 17)),
       o 19 (.mv (.t 0)),
       o 20 (.bin .add (.t 18) (.t 19)),
       o 2 (.mv (.t 20)),
       o 3 (.mv (kc 0))])
     .ret)))),
 [.t 2, .t 3], false⟩
/-! 23: wagoner/wagonerref16.numbers; loops: [[0, 3, 4]] -/
def a23_0 : AC :=
 (.seq
  (.seq
   (rg [
     o 5 (.mv (.t 4)),
     o 6 (.mv (.t 0)),
     o 7 (.len false (.t 6)),
     o 8 (.bin .lss (.t 5) (.t 7))])
   (.cond (.t 8)
    .skip
    (.exit 0)))
  (.seq
   (.block 1
    (rg [
      o 11 (.mv (.t 3)),
      o 12 (.mv (.t 0)),
      o 13 (.mv (.t 4)),
      o 14 (.ia 1 (.t 12) (.t 13)),
      o 15 (.ld none (.t 14)),
      o 16 (.callp 36 [(.t 15)]),
      o 17 (.bin .add (.t 11) (.t 16)),
      o 3 (.mv (.t 17))]))
   (rg [
     o 9 (.mv (.t 4)),
     o 10 (.bin .add (.t 9) (kc 1)),
     o 4 (.mv (.t 10))])))
def a23 : AF := ⟨19,
 (.seq
  (rg [
    o 2 (.mv (ks []))])
  (.seq
   (rg [
     o 3 (.mv (ks []))])
   (.seq
    (.seq
     (rg [
       o 4 (.mv (kc 0))])
     (.block 0
      (.loop [0, 3, 4] a23_0)))
    (.seq
     (rg [
       o 18 (.mv (.t 3)),
       o 2 (.mv (.t 18))])
     .ret)))),
 [.t 2], false⟩
/-! 24: wagoner/wagonerref02.Four; loops: [] -/
def a24 : AF := ⟨16,
 (.seq
  (rg [
    o 2 (.mv (ks []))])
  (.seq
   (rg [
     o 3 (.mv (.t 0)),
     o 4 (.cvi .u8 (.t 3)),
     o 5 (.mv (.t 0)),
     o 6 (.bin .shr (.t 5) (kx (.d (.i .u64 8)))),
     o 7 (.cvi .u8 (.t 6)),
     o 8 (.mv (.t 0)),
     o 9 (.bin .shr (.t 8) (kx (.d (.i .u64 16)))),
     o 10 (.cvi .u8 (.t 9)),
     o 11 (.mv (.t 0)),
     o 12 (.bin .shr (.t 11) (kx (.d (.i .u64 24)))),
     o 13 (.cvi .u8 (.t 12)),
     o 14 (.bsl 1 (List.replicate 4 [.i .u8 0]) [(0, (.t 4)), (1, (.t 7)), (2, (.t 10)), (3, (.t 13))]),
     o 15 (.b2s (.t 14)),
     o 2 (.mv (.t 15))])
   .ret)),
 [.t 2], false⟩
/-! 25: wagoner/frame.Next; loops: [] -/
def a25 : AF := ⟨73,
 (.seq
  (rg [
    o 4 (.mv (ks [])),
    o 5 (.mv (kc 0)),
    o 6 (.mv (kc 0))])
  (.seq
   (.seq
    (rg [
      o 12 (.mv (.t 1)),
      o 13 (.bin .lss (.t 12) (kc 0)),
      o 14 (.mv (.t 13)),
      og 15 14 false (.mv (.t 1)),
      og 16 14 false (.mv (.t 0)),
      og 17 14 false (.len true (.t 16)),
      og 18 14 false (.bin .geq (.t 15) (.t 17)),
      o 19 (.pick (.t 14) (kb true) (.t 18)),
      o 20 (.mv (.t 19)),
      og 21 20 false (.mv (.t 0)),
      og 22 20 false (.mv (.t 1)),
      og 23 20 false (.sls (.t 21) (some (.t 22)) none),
      og 24 20 false (.callp 43 [(.t 23)]),
      o 25 (.pick (.t 20) (kb true) (.t 24))])
    (.cond (.t 25)
     (.seq
      (rg [
        o 4 (.mv (ks [])),
        o 5 (.mv (kc 0)),
        o 6 (.mv (kc 2))])
      .ret)
     .skip))
   (.seq
    (rg [
      o 27 (.mv (.t 0)),
      o 28 (.mv (.t 1)),
      o 29 (.callp 44 [(.t 27), (.t 28)]),
      o 26 (.mv (.t 29)),
      o 30 (.ext (.t 26) 0),
      o 31 (.ext (.t 26) 1),
      o 32 (.ext (.t 26) 2),
      o 7 (.mv (.t 30)),
      o 8 (.mv (.t 31)),
      o 9 (.mv (.t 32))])
    (.seq
     (.seq
      (rg [
        o 33 (.mv (.t 9)),
        o 34 (.un .not (.t 33)),
        o 35 (.mv (.t 34)),
        og 36 35 false (.mv (.t 7)),
        og 37 35 false (.callp 41 [(.t 36)]),
        og 38 35 false (.un .not (.t 37)),
        o 39 (.pick (.t 35) (kb true) (.t 38))])
      (.cond (.t 39)
       (.seq
        (rg [
          o 4 (.mv (ks [])),
          o 5 (.mv (kc 0)),
          o 6 (.mv (kc 3))])
        .ret)
       .skip))
     (.seq
      (rg [
        o 40 (.mv (.t 0)),
        o 41 (.mv (.t 1)),
        o 42 (.mv (.t 8)),
        o 43 (.sls (.t 40) (some (.t 41)) (some (.t 42))),
        o 10 (.mv (.t 43))])
      (.seq
       (rg [
         o 44 (.mv (.t 8)),
         o 45 (.bin .add (.t 44) (kc 4)),
         o 8 (.mv (.t 45))])
       (.seq
        (.seq
         (rg [
           o 46 (.mv (.t 7)),
           o 47 (.mv (.t 0)),
           o 48 (.len true (.t 47)),
           o 49 (.mv (.t 8)),
           o 50 (.bin .sub (.t 48) (.t 49)),
           o 51 (.bin .gtr (.t 46) (.t 50))])
         (.cond (.t 51)
          (.seq
           (rg [
             o 4 (.mv (ks [])),
             o 5 (.mv (kc 0)),
             o 6 (.mv (kc 2))])
           .ret)
          .skip))
        (.seq
         (rg [
           o 52 (.mv (.t 0)),
           o 53 (.mv (.t 8)),
           o 54 (.mv (.t 8)),
           o 55 (.mv (.t 7)),
           o 56 (.bin .add (.t 54) (.t 55)),
           o 57 (.sls (.t 52) (some (.t 53)) (some (.t 56))),
           o 11 (.mv (.t 57))])
         (.seq
          (.seq
           (rg [
             o 58 (.mv (.t 10)),
             o 59 (.mv (.t 11)),
             o 60 (.bsl 1 [[.s []], [.s []]] [(0, (.t 58)), (1, (.t 59))]),
             o 61 (.callz 42 [(.t 60)]),
             o 62 (.callp 21 [(.t 61)]),
             o 63 (.mv (.t 0)),
             o 64 (.mv (.t 8)),
             o 65 (.bin .sub (.t 64) (kc 4)),
             o 66 (.mv (.t 8)),
             o 67 (.sls (.t 63) (some (.t 65)) (some (.t 66))),
             o 68 (.bin .neq (.t 62) (.t 67))])
           (.cond (.t 68)
            (.seq
             (rg [
               o 4 (.mv (ks [])),
               o 5 (.mv (kc 0)),
               o 6 (.mv (kc 4))])
             .ret)
            .skip))
          (.seq
           (rg [
             o 69 (.mv (.t 11)),
             o 70 (.mv (.t 8)),
             o 71 (.mv (.t 7)),
             o 72 (.bin .add (.t 70) (.t 71)),
             o 4 (.mv (.t 69)),
             o 5 (.mv (.t 72)),
             o 6 (.mv (kc 0))])
           .ret)))))))))),
 [.t 4, .t 5, .t 6], false⟩
/-! 26: (*wagoner/wire.reader).number; loops: [] -/
def a26 : AF := ⟨36,
 (.seq
  (rg [
    o 2 (.mv (kc 0))])
  (.seq
   (rg [
     o 7 (.mv (.t 0)),
     o 8 (.nck (.t 7)),
     o 9 (.fa 0 (.t 8)),
     o 10 (.ld none (.t 9)),
     o 11 (.callp 44 [(.t 10), (kc 0)]),
     o 6 (.mv (.t 11)),
     o 12 (.ext (.t 6) 0),
     o 13 (.ext (.t 6) 1),
     o 14 (.ext (.t 6) 2),
     o 3 (.mv (.t 12)),
     o 4 (.mv (.t 13)),
     o 5 (.mv (.t 14))])
   (.seq
    (.seq
     (rg [
       o 15 (.mv (.t 5)),
       o 16 (.un .not (.t 15)),
       o 17 (.mv (.t 16)),
       og 18 17 false (.mv (.t 0)),
       og 19 17 false (.nck (.t 18)),
       og 20 17 false (.fa 1 (.t 19)),
       og 21 17 false (.ld none (.t 20)),
       o 22 (.pick (.t 17) (kb true) (.t 21))])
     (.cond (.t 22)
      (.seq
       (rg [
         o 23 (.mv (.t 0)),
         o 24 (.nck (.t 23)),
         o 25 (.fa 1 (.t 24)),
         on (.st 1 (.t 25) (kb true))])
       (.seq
        (rg [
          o 2 (.mv (kc 0))])
        .ret))
      .skip))
    (.seq
     (rg [
       o 26 (.mv (.t 0)),
       o 27 (.mv (.t 0)),
       o 28 (.nck (.t 27)),
       o 29 (.fa 0 (.t 28)),
       o 30 (.ld none (.t 29)),
       o 31 (.mv (.t 4)),
       o 32 (.sls (.t 30) (some (.t 31)) none),
       o 33 (.nck (.t 26)),
       o 34 (.fa 0 (.t 33)),
       on (.st 1 (.t 34) (.t 32))])
     (.seq
      (rg [
        o 35 (.mv (.t 3)),
        o 2 (.mv (.t 35))])
      .ret))))),
 [.t 2], false⟩
/-! 27: (*wagoner/wire.reader).records; loops: [[0, 1, 5, 6, 7]] -/
def a27_0 : AC :=
 (.seq
  (.seq
   (rg [
     o 16 (.mv (.t 7)),
     o 17 (.mv (.t 5)),
     o 18 (.bin .lss (.t 16) (.t 17)),
     o 19 (.mv (.t 18)),
     og 20 19 true (.mv (.t 0)),
     og 21 19 true (.nck (.t 20)),
     og 22 19 true (.fa 1 (.t 21)),
     og 23 19 true (.ld none (.t 22)),
     og 24 19 true (.un .not (.t 23)),
     o 25 (.pick (.t 19) (.t 24) (kb false))])
   (.cond (.t 25)
    .skip
    (.exit 0)))
  (.seq
   (.block 1
    (.seq
     (rg [
       o 28 (.mv (.t 1)),
       o 29 (.mv (.t 7)),
       o 30 (.bin .add (.t 28) (.t 29)),
       o 31 (.mv (.t 0)),
       o 32 (.call 26 [(.t 31)]),
       o 33 (.build [.d (.i .i64 0), .d (.i .i64 0), .d (.s [])] [(0, 1, (.t 30)), (1, 1, (.t 32))]),
       o 8 (.alloc [.d (.i .i64 0), .d (.i .i64 0), .d (.s [])]),
       on (.st 3 (.t 8) (.t 33))])
     (.seq
      (rg [
        o 34 (.mv (.t 0)),
        o 35 (.mv (.t 0)),
        o 36 (.call 26 [(.t 35)]),
        o 37 (.call 45 [(.t 34), (.t 36)]),
        o 38 (.fa 2 (.t 8)),
        on (.st 1 (.t 38) (.t 37))])
      (rg [
        o 39 (.mv (.t 6)),
        o 40 (.ld (some 3) (.t 8)),
        o 41 (.bsl 3 [[.i .i64 0, .i .i64 0, .s []]] [(0, (.t 40))]),
        o 42 (.app false 3 32 (.t 39) (.t 41)),
        o 6 (.mv (.t 42))]))))
   (rg [
     o 26 (.mv (.t 7)),
     o 27 (.bin .add (.t 26) (kc 1)),
     o 7 (.mv (.t 27))])))
def a27 : AF := ⟨44,
 (.seq
  (rg [
    oz 4 (.mv (kx (.ns)))])
  (.seq
   (rg [
     o 9 (.mv (.t 0)),
     o 10 (.call 26 [(.t 9)]),
     o 5 (.mv (.t 10))])
   (.seq
    (.seq
     (rg [
       o 11 (.mv (.t 5)),
       o 12 (.bin .gtr (.t 11) (kc 64))])
     (.cond (.t 12)
      (rg [
        o 13 (.mv (.t 0)),
        o 14 (.nck (.t 13)),
        o 15 (.fa 1 (.t 14)),
        on (.st 1 (.t 15) (kb true))])
      .skip))
    (.seq
     (rg [
       o 6 (.own 3)])
     (.seq
      (.seq
       (rg [
         o 7 (.mv (kc 0))])
       (.block 0
        (.loop [0, 1, 5, 6, 7] a27_0)))
      (.seq
       (rg [
         o 43 (.mv (.t 6)),
         o 4 (.mv (.t 43))])
       .ret)))))),
 [.t 4], false⟩
/-! 28: (*wagoner/wire.reader).four; loops: [[3, 4, 9, 10]] -/
def a28_0 : AC :=
 (.seq
  (rg [
    o 11 (.bin .lss (.t 10) (.t 9))])
  (.seq
   (.cond (.t 11)
    .skip
    (.exit 0))
   (.seq
    (.block 1
     (.seq
      (rg [
        o 12 (.mv (.t 10)),
        o 5 (.mv (.t 12))])
      (rg [
        o 13 (.mv (.t 4)),
        o 14 (.mv (.t 3)),
        o 15 (.mv (.t 5)),
        o 16 (.ixs (.t 14) (.t 15)),
        o 17 (.cvi .u32 (.t 16)),
        o 18 (.mv (.t 5)),
        o 19 (.bin .mul (kc 8) (.t 18)),
        o 20 (.cvi .u64 (.t 19)),
        o 21 (.bin .shl (.t 17) (.t 20)),
        o 22 (.bin .or (.t 13) (.t 21)),
        o 4 (.mv (.t 22))])))
    (rg [
      o 23 (.bin .add (.t 10) (kc 1)),
      o 10 (.mv (.t 23))]))))
def a28 : AF := ⟨25,
 (.seq
  (rg [
    o 2 (.mv (kx (.d (.i .u32 0))))])
  (.seq
   (rg [
     o 6 (.mv (.t 0)),
     o 7 (.call 45 [(.t 6), (kc 4)]),
     o 3 (.mv (.t 7))])
   (.seq
    (rg [
      o 4 (.mv (kx (.d (.i .u32 0))))])
    (.seq
     (.seq
      (rg [
        o 8 (.mv (.t 3)),
        o 9 (.len true (.t 8)),
        o 10 (.mv (kc 0))])
      (.block 0
       (.loop [3, 4, 9, 10] a28_0)))
     (.seq
      (rg [
        o 24 (.mv (.t 4)),
        o 2 (.mv (.t 24))])
      .ret))))),
 [.t 2], false⟩
/-! 29: wagoner/wagonerref03.Next; loops: [] -/
def a29 : AF := ⟨77,
 (.seq
  (rg [
    o 4 (.mv (ks [])),
    o 5 (.mv (kc 0)),
    o 6 (.mv (kc 0))])
  (.seq
   (.seq
    (rg [
      o 13 (.mv (.t 1)),
      o 14 (.bin .lss (.t 13) (kc 0)),
      o 15 (.mv (.t 14)),
      og 16 15 false (.mv (.t 1)),
      og 17 15 false (.mv (.t 0)),
      og 18 15 false (.len true (.t 17)),
      og 19 15 false (.bin .geq (.t 16) (.t 18)),
      o 20 (.pick (.t 15) (kb true) (.t 19)),
      o 21 (.mv (.t 20)),
      og 22 21 false (.mv (.t 0)),
      og 23 21 false (.mv (.t 1)),
      og 24 21 false (.callp 46 [(.t 22), (.t 23)]),
      o 25 (.pick (.t 21) (kb true) (.t 24))])
    (.cond (.t 25)
     (.seq
      (rg [
        o 4 (.mv (ks [])),
        o 5 (.mv (kc 0)),
        o 6 (.mv (kc 2))])
      .ret)
     .skip))
   (.seq
    (rg [
      o 27 (.mv (.t 0)),
      o 28 (.mv (.t 1)),
      o 29 (.callp 47 [(.t 27), (.t 28)]),
      o 26 (.mv (.t 29)),
      o 30 (.ext (.t 26) 0),
      o 31 (.ext (.t 26) 1),
      o 32 (.ext (.t 26) 2),
      o 7 (.mv (.t 30)),
      o 8 (.mv (.t 31)),
      o 9 (.mv (.t 32))])
    (.seq
     (.seq
      (rg [
        o 33 (.mv (.t 9)),
        o 34 (.un .not (.t 33)),
        o 35 (.mv (.t 34)),
        og 36 35 false (.mv (.t 7)),
        og 37 35 false (.bin .lss (.t 36) (kc 1)),
        o 38 (.pick (.t 35) (kb true) (.t 37)),
        o 39 (.mv (.t 38)),
        og 40 39 false (.mv (.t 7)),
        og 41 39 false (.bin .gtr (.t 40) (kc 65536)),
        o 42 (.pick (.t 39) (kb true) (.t 41))])
      (.cond (.t 42)
       (.seq
        (rg [
          o 4 (.mv (ks [])),
          o 5 (.mv (kc 0)),
          o 6 (.mv (kc 3))])
        .ret)
       .skip))
     (.seq
      (.seq
       (rg [
         o 43 (.mv (.t 0)),
         o 44 (.len true (.t 43)),
         o 45 (.mv (.t 8)),
         o 46 (.bin .sub (.t 44) (.t 45)),
         o 47 (.mv (.t 7)),
         o 48 (.bin .add (kc 4) (.t 47)),
         o 49 (.bin .lss (.t 46) (.t 48))])
       (.cond (.t 49)
        (.seq
         (rg [
           o 4 (.mv (ks [])),
           o 5 (.mv (kc 0)),
           o 6 (.mv (kc 2))])
         .ret)
        .skip))
      (.seq
       (rg [
         o 50 (.mv (.t 0)),
         o 51 (.mv (.t 8)),
         o 52 (.bin .add (.t 51) (kc 4)),
         o 53 (.mv (.t 8)),
         o 54 (.bin .add (.t 53) (kc 4)),
         o 55 (.mv (.t 7)),
         o 56 (.bin .add (.t 54) (.t 55)),
         o 57 (.sls (.t 50) (some (.t 52)) (some (.t 56))),
         o 10 (.mv (.t 57))])
       (.seq
        (.seq
         (rg [
           o 59 (.mv (.t 10)),
           o 60 (.callp 16 [(.t 59)]),
           o 58 (.mv (.t 60)),
           o 61 (.ext (.t 58) 0),
           o 62 (.ext (.t 58) 1),
           o 11 (.mv (.t 61)),
           o 12 (.mv (.t 62))])
         (.seq
          (rg [
            o 63 (.mv (.t 11)),
            o 64 (.mv (.t 0)),
            o 65 (.mv (.t 1)),
            o 66 (.mv (.t 8)),
            o 67 (.bin .add (.t 66) (kc 4)),
            o 68 (.mv (.t 7)),
            o 69 (.bin .add (.t 67) (.t 68)),
            o 70 (.sls (.t 64) (some (.t 65)) (some (.t 69))),
            o 71 (.bin .neq (.t 63) (.t 70))])
          (.cond (.t 71)
           (.seq
            (rg [
              o 4 (.mv (ks [])),
              o 5 (.mv (kc 0)),
              o 6 (.mv (kc 4))])
            .ret)
           .skip)))
        (.seq
         (rg [
           o 72 (.mv (.t 10)),
           o 73 (.mv (.t 8)),
           o 74 (.bin .add (.t 73) (kc 4)),
           o 75 (.mv (.t 7)),
           o 76 (.bin .add (.t 74) (.t 75)),
           o 4 (.mv (.t 72)),
           o 5 (.mv (.t 76)),
           o 6 (.mv (kc 0))])
         .ret)))))))),
 [.t 4, .t 5, .t 6], false⟩
/-! 30: wagoner/wagonerref16.body; loops: [[0, 2, 4, 5, 6, 7], [0, 2, 4, 5, 10, 11]] -/
def a30_0 : AC :=
 (.seq
  (.seq
   (rg [
     o 87 (.mv (.t 7)),
     o 88 (.mv (.t 6)),
     o 89 (.bin .lss (.t 87) (.t 88)),
     o 90 (.mv (.t 89)),
     og 91 90 true (.mv (.t 7)),
     og 92 90 true (.bin .lss (.t 91) (kc 65)),
     o 93 (.pick (.t 90) (.t 92) (kb false)),
     o 94 (.mv (.t 93)),
     og 95 94 true (.mv (.t 4)),
     og 96 94 true (.nck (.t 95)),
     og 97 94 true (.fa 2 (.t 96)),
     og 98 94 true (.ld none (.t 97)),
     og 99 94 true (.un .not (.t 98)),
     o 100 (.pick (.t 94) (.t 99) (kb false))])
   (.cond (.t 100)
    .skip
    (.exit 3)))
  (.seq
   (.block 4
    (.seq
     (rg [
       o 103 (.mv (.t 4)),
       o 104 (.call 48 [(.t 103)]),
       o 105 (.mv (.t 4)),
       o 106 (.call 48 [(.t 105)]),
       o 8 (.mv (.t 104)),
       o 9 (.mv (.t 106))])
     (rd [
       o 107 (.fa 14 (.t 5)),
       od 108 [0] (.ld none (.t 107)),
       o 109 (.fa 6 (.t 5)),
       od 110 [2] (.ld none (.t 109)),
       o 111 (.mv (.t 7)),
       od 112 [4, 2, 3] (.bin .add (.t 110) (.t 111)),
       o 113 (.mv (.t 8)),
       o 114 (.mv (.t 4)),
       o 115 (.mv (.t 9)),
       od 116 [8, 7] (.call 49 [(.t 114), (.t 115)]),
       od 117 [7, 8, 9, 6, 3, 2, 4, 5] (.build [.d (.i .i64 0), .d (.i .i64 0), .d (.s [])] [(0, 1, (.t 112)), (1, 1, (.t 113)), (2, 1, (.t 116))]),
       od 118 [5, 4, 2, 3, 6, 9, 8, 7, 10] (.bsl 3 [[.i .i64 0, .i .i64 0, .s []]] [(0, (.t 117))]),
       od 119 [10, 7, 8, 9, 6, 3, 2, 4, 5, 11, 0, 1] (.app false 3 32 (.t 108) (.t 118)),
       od 120 [12, 11, 10, 9, 8, 7, 6, 5, 4, 3, 2, 1, 0] (.fa 14 (.t 5)),
       ⟨none, .st 1 (.t 120) (.t 119), none, [0, 1, 2, 3, 4, 5, 6, 7, 8, 9, 10, 11, 12, 13], false⟩])))
   (rg [
     o 101 (.mv (.t 7)),
     o 102 (.bin .add (.t 101) (kc 1)),
     o 7 (.mv (.t 102))])))
def a30_1 : AC :=
 (.seq
  (.seq
   (rg [
     o 43 (.mv (.t 11)),
     o 44 (.bin .geq (.t 43) (kc 0))])
   (.cond (.t 44)
    .skip
    (.exit 1)))
  (.seq
   (.block 2
    (rg [
      o 47 (.fa 12 (.t 5)),
      o 48 (.ld none (.t 47)),
      o 49 (.bin .mul (.t 48) (kx (.d (.i .u32 256)))),
      o 50 (.mv (.t 10)),
      o 51 (.mv (.t 11)),
      o 52 (.ixs (.t 50) (.t 51)),
      o 53 (.cvi .u32 (.t 52)),
      o 54 (.bin .add (.t 49) (.t 53)),
      o 55 (.fa 12 (.t 5)),
      on (.st 1 (.t 55) (.t 54))]))
   (rg [
     o 45 (.mv (.t 11)),
     o 46 (.bin .sub (.t 45) (kc 1)),
     o 11 (.mv (.t 46))])))
def a30 : AF := ⟨139,
 (.seq
  (rg [
    o 2 (.alloc [.d (.i .i64 0), .d (.i .i64 0), .d (.i .i64 0), .d (.i .i64 0), .d (.i .i64 0), .d (.i .i64 0), .d (.i .i64 0), .d (.i .i64 0), .d (.i .i64 0), .d (.i .i64 0), .d (.i .i64 0), .d (.i .i64 0), .d (.i .u32 0), .d (.s []), .ns]),
    o 3 (.mv (kb false))])
  (.seq
   (rg [
     o 12 (.mv (.t 0)),
     o 13 (.build [.d (.s []), .d (.i .i64 0), .d (.b false)] [(0, 1, (.t 12))]),
     o 14 (.box (.t 13)),
     o 4 (.mv (.t 14))])
   (.seq
    (rg [
      o 15 (.mv (.t 4)),
      o 16 (.call 48 [(.t 15)]),
      o 17 (.mv (.t 4)),
      o 18 (.call 48 [(.t 17)]),
      o 19 (.mv (.t 4)),
      o 20 (.call 48 [(.t 19)]),
      o 21 (.mv (.t 4)),
      o 22 (.call 48 [(.t 21)]),
      o 23 (.mv (.t 4)),
      o 24 (.call 48 [(.t 23)]),
      o 25 (.mv (.t 4)),
      o 26 (.call 48 [(.t 25)]),
      o 27 (.mv (.t 4)),
      o 28 (.call 48 [(.t 27)]),
      o 29 (.build [.d (.i .i64 0), .d (.i .i64 0), .d (.i .i64 0), .d (.i .i64 0), .d (.i .i64 0), .d (.i .i64 0), .d (.i .i64 0), .d (.i .i64 0), .d (.i .i64 0), .d (.i .i64 0), .d (.i .i64 0), .d (.i .i64 0), .d (.i .u32 0), .d (.s []), .ns] [(0, 1, (.t 16)), (1, 1, (.t 18)), (2, 1, (.t 20)), (3, 1, (.t 22)), (4, 1, (.t 24)), (5, 1, (.t 26)), (6, 1, (.t 28))]),
      o 5 (.alloc [.d (.i .i64 0), .d (.i .i64 0), .d (.i .i64 0), .d (.i .i64 0), .d (.i .i64 0), .d (.i .i64 0), .d (.i .i64 0), .d (.i .i64 0), .d (.i .i64 0), .d (.i .i64 0), .d (.i .i64 0), .d (.i .i64 0), .d (.i .u32 0), .d (.s []), .ns]),
      on (.st 15 (.t 5) (.t 29))])
    (.seq
     (.seq
      (rg [
        o 30 (.fa 0 (.t 5)),
        o 31 (.ld none (.t 30))])
      (.block 0
       (.seq
        (rg [
          o 70 (.bin .eql (.t 31) (kc 1)),
          o 69 (.mv (.t 70))])
        (.cond (.t 69)
         (rg [
           o 71 (.mv (.t 4)),
           o 72 (.call 48 [(.t 71)]),
           o 73 (.mv (.t 4)),
           o 74 (.call 48 [(.t 73)]),
           o 75 (.mv (.t 4)),
           o 76 (.call 48 [(.t 75)]),
           o 77 (.fa 7 (.t 5)),
           on (.st 1 (.t 77) (.t 72)),
           o 78 (.fa 9 (.t 5)),
           on (.st 1 (.t 78) (.t 74)),
           o 79 (.fa 10 (.t 5)),
           on (.st 1 (.t 79) (.t 76))])
         (.seq
          (rg [
            o 81 (.bin .eql (.t 31) (kc 2)),
            o 80 (.mv (.t 81))])
          (.cond (.t 80)
           (.seq
            (rg [
              o 82 (.mv (.t 4)),
              o 83 (.call 48 [(.t 82)]),
              o 84 (.fa 8 (.t 5)),
              on (.st 1 (.t 84) (.t 83))])
            (.seq
             (rg [
               o 85 (.mv (.t 4)),
               o 86 (.call 48 [(.t 85)]),
               o 6 (.mv (.t 86))])
             (.seq
              (.seq
               (rg [
                 o 7 (.mv (kc 0))])
               (.block 3
                (.loop [0, 2, 4, 5, 6, 7] a30_0)))
              (.seq
               (rg [
                 o 121 (.mv (.t 6)),
                 o 122 (.bin .gtr (.t 121) (kc 64))])
               (.cond (.t 122)
                (.seq
                 (rg [
                   o 123 (.build [.d (.i .i64 0), .d (.i .i64 0), .d (.i .i64 0), .d (.i .i64 0), .d (.i .i64 0), .d (.i .i64 0), .d (.i .i64 0), .d (.i .i64 0), .d (.i .i64 0), .d (.i .i64 0), .d (.i .i64 0), .d (.i .i64 0), .d (.i .u32 0), .d (.s []), .ns] []),
                   on (.st 15 (.t 2) (.t 123)),
                   o 3 (.mv (kb false))])
                 .ret)
                .skip)))))
           (.seq
            (rg [
              o 32 (.mv (.t 4)),
              o 33 (.call 48 [(.t 32)]),
              o 34 (.mv (.t 4)),
              o 35 (.call 48 [(.t 34)]),
              o 36 (.fa 11 (.t 5)),
              on (.st 1 (.t 36) (.t 33)),
              o 37 (.fa 10 (.t 5)),
              on (.st 1 (.t 37) (.t 35))])
            (.seq
             (rg [
               o 38 (.mv (.t 4)),
               o 39 (.call 49 [(.t 38), (kc 4)]),
               o 10 (.mv (.t 39))])
             (.seq
              (.seq
               (rg [
                 o 40 (.mv (.t 10)),
                 o 41 (.len true (.t 40)),
                 o 42 (.bin .sub (.t 41) (kc 1)),
                 o 11 (.mv (.t 42))])
               (.block 1
                (.loop [0, 2, 4, 5, 10, 11] a30_1)))
              (rg [
                o 56 (.mv (.t 4)),
                o 57 (.mv (.t 4)),
                o 58 (.nck (.t 57)),
                o 59 (.fa 0 (.t 58)),
                o 60 (.ld none (.t 59)),
                o 61 (.len true (.t 60)),
                o 62 (.mv (.t 4)),
                o 63 (.nck (.t 62)),
                o 64 (.fa 1 (.t 63)),
                o 65 (.ld none (.t 64)),
                o 66 (.bin .sub (.t 61) (.t 65)),
                o 67 (.call 49 [(.t 56), (.t 66)]),
                o 68 (.fa 13 (.t 5)),
                on (.st 1 (.t 68) (.t 67))]))))))))))
     (.seq
      (rd [
        o 124 (.ld (some 15) (.t 5)),
        o 125 (.mv (.t 4)),
        od 126 [1] (.nck (.t 125)),
        od 127 [1, 2] (.fa 2 (.t 126)),
        od 128 [2, 1, 3] (.ld none (.t 127)),
        od 129 [3, 1, 2, 4] (.un .not (.t 128)),
        od 130 [4, 2, 1, 3, 5] (.mv (.t 129)),
        ogd 131 130 true [5, 3, 1, 2, 4, 6] (.mv (.t 4)),
        ogd 132 130 true [6, 4, 2, 1, 3, 5, 7] (.nck (.t 131)),
        ogd 133 130 true [7, 5, 3, 1, 2, 4, 6, 8] (.fa 1 (.t 132)),
        ogd 134 130 true [8, 6, 4, 2, 1, 3, 5, 7, 9] (.ld none (.t 133)),
        ogd 135 130 true [5, 3, 1, 2, 4, 6] (.mv (.t 0)),
        ogd 136 130 true [6, 4, 2, 1, 3, 5, 11] (.len true (.t 135)),
        ogd 137 130 true [11, 12, 9, 7, 5, 3, 1, 2, 4, 6, 8, 10] (.bin .eql (.t 134) (.t 136)),
        od 138 [10, 8, 7, 9, 12, 11, 13, 5, 3, 1, 2, 4, 6] (.pick (.t 130) (.t 137) (kb false)),
        ⟨none, .st 15 (.t 2) (.t 124), none, [5, 3, 1, 2, 4, 6, 0], false⟩,
        od 3 [0, 15, 6, 4, 2, 1, 3, 5, 13, 11, 12, 9, 7, 8, 10, 14] (.mv (.t 138))])
      .ret))))),
 [.c (some 15) 2, .t 3], false⟩
/-! 31: wagoner/wire.fits; loops: [[0, 7, 8, 9]] -/
def a31_0 : AC :=
 (.seq
  (rg [
    o 10 (.bin .lss (.t 9) (.t 8))])
  (.seq
   (.cond (.t 10)
    .skip
    (.exit 0))
   (.seq
    (.block 1
     (.seq
      (rg [
        o 11 (.ia 1 (.t 7) (.t 9)),
        o 12 (.ld none (.t 11)),
        o 6 (.mv (.t 12))])
      (.seq
       (rg [
         o 13 (.mv (.t 6)),
         o 14 (.bin .lss (.t 13) (kc 0)),
         o 15 (.mv (.t 14)),
         og 16 15 false (.mv (.t 6)),
         og 17 15 false (.mv (.t 0)),
         og 18 15 false (.bin .gtr (.t 16) (.t 17)),
         o 19 (.pick (.t 15) (kb true) (.t 18))])
       (.cond (.t 19)
        (.seq
         (rg [
           o 4 (.mv (kb false))])
         .ret)
        .skip))))
    (rg [
      o 20 (.bin .add (.t 9) (kc 1)),
      o 9 (.mv (.t 20))]))))
def a31 : AF := ⟨21,
 (.seq
  (rg [
    o 4 (.mv (kb false))])
  (.seq
   (.seq
    (rg [
      o 7 (.mv (.t 1)),
      o 8 (.len false (.t 7)),
      o 9 (.mv (kc 0))])
    (.block 0
     (.loop [0, 7, 8, 9] a31_0)))
   (.seq
    (rg [
      o 4 (.mv (kb true))])
    .ret))),
 [.t 4], false⟩
/-! 32: wagoner/wire.row; loops: [[0, 1, 7, 8, 9]] -/
def a32_0 : AC :=
 (.seq
  (rg [
    o 10 (.bin .lss (.t 9) (.t 8))])
  (.seq
   (.cond (.t 10)
    .skip
    (.exit 0))
   (.seq
    (.block 1
     (.seq
      (rg [
        o 11 (.mv (.t 9)),
        o 12 (.ia 3 (.t 7) (.t 9)),
        o 13 (.ld (some 3) (.t 12)),
        o 6 (.alloc [.d (.i .i64 0), .d (.i .i64 0), .d (.s [])]),
        o 5 (.mv (.t 11)),
        on (.st 3 (.t 6) (.t 13))])
      (.seq
       (rg [
         o 14 (.ld (some 3) (.t 6)),
         o 15 (.callp 50 [(.t 14)]),
         o 16 (.un .not (.t 15)),
         o 17 (.mv (.t 16)),
         og 18 17 false (.fa 0 (.t 6)),
         og 19 17 false (.ld none (.t 18)),
         og 20 17 false (.mv (.t 1)),
         og 21 17 false (.mv (.t 5)),
         og 22 17 false (.bin .add (.t 20) (.t 21)),
         og 23 17 false (.bin .neq (.t 19) (.t 22)),
         o 24 (.pick (.t 17) (kb true) (.t 23))])
       (.cond (.t 24)
        (.seq
         (rg [
           o 4 (.mv (kb false))])
         .ret)
        .skip))))
    (rg [
      o 25 (.bin .add (.t 9) (kc 1)),
      o 9 (.mv (.t 25))]))))
def a32 : AF := ⟨29,
 (.seq
  (rg [
    o 4 (.mv (kb false))])
  (.seq
   (.seq
    (rg [
      o 7 (.mv (.t 0)),
      o 8 (.len false (.t 7)),
      o 9 (.mv (kc 0))])
    (.block 0
     (.loop [0, 1, 7, 8, 9] a32_0)))
   (.seq
    (rg [
      o 26 (.mv (.t 0)),
      o 27 (.len false (.t 26)),
      o 28 (.bin .leq (.t 27) (kc 64)),
      o 4 (.mv (.t 28))])
    .ret))),
 [.t 4], false⟩
/-! 33: wagoner/wagonerref16.within; loops: [] -/
def a33 : AF := ⟨12,
 (.seq
  (rg [
    o 4 (.mv (kb false))])
  (.seq
   (rg [
     o 5 (.mv (.t 0)),
     o 6 (.bin .geq (.t 5) (kc 0)),
     o 7 (.mv (.t 6)),
     og 8 7 true (.mv (.t 0)),
     og 9 7 true (.mv (.t 1)),
     og 10 7 true (.bin .leq (.t 8) (.t 9)),
     o 11 (.pick (.t 7) (.t 10) (kb false)),
     o 4 (.mv (.t 11))])
   .ret)),
 [.t 4], false⟩
/-! 34: wagoner/wagonerref04.Right; loops: [] -/
def a34 : AF := ⟨17,
 (.seq
  (rg [
    o 1 (.box (.t 0)),
    o 2 (.mv (kb false))])
  (.seq
   (rg [
     o 3 (.fa 0 (.t 1)),
     o 4 (.ld none (.t 3)),
     o 5 (.callp 51 [(.t 4)]),
     o 6 (.mv (.t 5)),
     og 7 6 true (.fa 1 (.t 1)),
     og 8 6 true (.ld none (.t 7)),
     og 9 6 true (.callp 51 [(.t 8)]),
     o 10 (.pick (.t 6) (.t 9) (kb false)),
     o 11 (.mv (.t 10)),
     og 12 11 true (.fa 2 (.t 1)),
     og 13 11 true (.ld none (.t 12)),
     og 14 11 true (.len true (.t 13)),
     og 15 11 true (.bin .leq (.t 14) (kc 64)),
     o 16 (.pick (.t 11) (.t 15) (kb false)),
     o 2 (.mv (.t 16))])
   .ret)),
 [.t 2], false⟩
/-! 35: wagoner/wagonerref04.Same; loops: [[0, 1, 5]] -/
def a35_0 : AC :=
 (.seq
  (.seq
   (rg [
     o 11 (.mv (.t 5)),
     o 12 (.mv (.t 0)),
     o 13 (.len false (.t 12)),
     o 14 (.bin .lss (.t 11) (.t 13))])
   (.cond (.t 14)
    .skip
    (.exit 0)))
  (.seq
   (.block 1
    (.seq
     (rg [
       o 17 (.mv (.t 0)),
       o 18 (.mv (.t 5)),
       o 19 (.ia 3 (.t 17) (.t 18)),
       o 20 (.ld (some 3) (.t 19)),
       o 21 (.mv (.t 1)),
       o 22 (.mv (.t 5)),
       o 23 (.ia 3 (.t 21) (.t 22)),
       o 24 (.ld (some 3) (.t 23)),
       o 25 (.eqa true [0, 0, 2] (.t 20) (.t 24))])
     (.cond (.t 25)
      (.seq
       (rg [
         o 4 (.mv (kb false))])
       .ret)
      .skip)))
   (rg [
     o 15 (.mv (.t 5)),
     o 16 (.bin .add (.t 15) (kc 1)),
     o 5 (.mv (.t 16))])))
def a35 : AF := ⟨26,
 (.seq
  (rg [
    o 4 (.mv (kb false))])
  (.seq
   (.seq
    (rg [
      o 6 (.mv (.t 0)),
      o 7 (.len false (.t 6)),
      o 8 (.mv (.t 1)),
      o 9 (.len false (.t 8)),
      o 10 (.bin .neq (.t 7) (.t 9))])
    (.cond (.t 10)
     (.seq
      (rg [
        o 4 (.mv (kb false))])
      .ret)
     .skip))
   (.seq
    (.seq
     (rg [
       o 5 (.mv (kc 0))])
     (.block 0
      (.loop [0, 1, 5] a35_0)))
    (.seq
     (rg [
       o 4 (.mv (kb true))])
     .ret)))),
 [.t 4], false⟩
/-! 36: wagoner/wagonerref01.Put; loops: [[0, 3]] -/
def a36_0 : AC :=
 (.seq
  (.seq
   (rg [
     o 6 (.mv (.t 0)),
     o 7 (.bin .geq (.t 6) (kc 128))])
   (.cond (.t 7)
    .skip
    (.exit 0)))
  (.block 1
   (.seq
    (rg [
      o 8 (.mv (.t 3)),
      o 9 (.mv (.t 0)),
      o 10 (.bin .rem (.t 9) (kc 128)),
      o 11 (.bin .add (kc 128) (.t 10)),
      o 12 (.cvi .u8 (.t 11)),
      o 13 (.bsl 1 [[.i .u8 0]] [(0, (.t 12))]),
      o 14 (.b2s (.t 13)),
      o 15 (.bin .add (.t 8) (.t 14)),
      o 3 (.mv (.t 15))])
    (rg [
      o 16 (.mv (.t 0)),
      o 17 (.bin .quo (.t 16) (kc 128)),
      o 0 (.mv (.t 17))]))))
def a36 : AF := ⟨24,
 (.seq
  (rg [
    o 2 (.mv (ks []))])
  (.seq
   (.seq
    (rg [
      o 4 (.mv (.t 0)),
      o 5 (.bin .lss (.t 4) (kc 0))])
    (.cond (.t 5)
     (.seq
      (rg [
        o 2 (.mv (ks []))])
      .ret)
     .skip))
   (.seq
    (rg [
      o 3 (.mv (ks []))])
    (.seq
     (.block 0
      (.loop [0, 3] a36_0))
     (.seq
      (rg [
        o 18 (.mv (.t 3)),
        o 19 (.mv (.t 0)),
        o 20 (.cvi .u8 (.t 19)),
        o 21 (.bsl 1 [[.i .u8 0]] [(0, (.t 20))]),
        o 22 (.b2s (.t 21)),
        o 23 (.bin .add (.t 18) (.t 22)),
        o 2 (.mv (.t 23))])
      .ret))))),
 [.t 2], false⟩
/-! 37: wagoner/wagonerref02.Of; loops: [] -/
def a37 : AF := ⟨5,
 (.seq
  (rg [
    o 2 (.mv (kx (.d (.i .u32 0))))])
  (.seq
   (rg [
     o 3 (.mv (.t 0)),
     o 4 (.callp 52 [(kx (.d (.i .u32 0))), (.t 3)]),
     o 2 (.mv (.t 4))])
   .ret)),
 [.t 2], false⟩
/-! 38: wagoner/wire.bare; loops: [] -/
def a38 : AF := ⟨32,
 (.seq
  (rg [
    o 1 (.box (.t 0)),
    o 2 (.alloc [.d (.i .i64 0), .d (.i .i64 0), .d (.i .i64 0), .d (.i .i64 0), .d (.i .i64 0), .d (.i .i64 0), .d (.i .i64 0), .d (.i .i64 0), .d (.i .i64 0), .d (.i .i64 0), .d (.i .i64 0), .d (.i .i64 0), .d (.i .u32 0), .d (.s [])])])
  (.seq
   (rg [
     o 3 (.fa 0 (.t 1)),
     o 4 (.ld none (.t 3)),
     o 5 (.fa 1 (.t 1)),
     o 6 (.ld none (.t 5)),
     o 7 (.fa 2 (.t 1)),
     o 8 (.ld none (.t 7)),
     o 9 (.fa 3 (.t 1)),
     o 10 (.ld none (.t 9)),
     o 11 (.fa 4 (.t 1)),
     o 12 (.ld none (.t 11)),
     o 13 (.fa 5 (.t 1)),
     o 14 (.ld none (.t 13)),
     o 15 (.fa 6 (.t 1)),
     o 16 (.ld none (.t 15)),
     o 17 (.fa 7 (.t 1)),
     o 18 (.ld none (.t 17)),
     o 19 (.fa 8 (.t 1)),
     o 20 (.ld none (.t 19)),
     o 21 (.fa 9 (.t 1)),
     o 22 (.ld none (.t 21)),
     o 23 (.fa 10 (.t 1)),
     o 24 (.ld none (.t 23)),
     o 25 (.fa 11 (.t 1)),
     o 26 (.ld none (.t 25)),
     o 27 (.fa 12 (.t 1)),
     o 28 (.ld none (.t 27)),
     o 29 (.fa 13 (.t 1)),
     o 30 (.ld none (.t 29)),
     o 31 (.build [.d (.i .i64 0), .d (.i .i64 0), .d (.i .i64 0), .d (.i .i64 0), .d (.i .i64 0), .d (.i .i64 0), .d (.i .i64 0), .d (.i .i64 0), .d (.i .i64 0), .d (.i .i64 0), .d (.i .i64 0), .d (.i .i64 0), .d (.i .u32 0), .d (.s [])] [(0, 1, (.t 4)), (1, 1, (.t 6)), (2, 1, (.t 8)), (3, 1, (.t 10)), (4, 1, (.t 12)), (5, 1, (.t 14)), (6, 1, (.t 16)), (7, 1, (.t 18)), (8, 1, (.t 20)), (9, 1, (.t 22)), (10, 1, (.t 24)), (11, 1, (.t 26)), (12, 1, (.t 28)), (13, 1, (.t 30))]),
     on (.st 14 (.t 2) (.t 31))])
   .ret)),
 [.c (some 14) 2], false⟩
/-! 39: wagoner/wire.rows; loops: [[0, 1, 12, 13]] -/
def a39_0 : AC :=
 (.seq
  (rg [
    o 14 (.bin .lss (.t 13) (.t 12))])
  (.seq
   (.cond (.t 14)
    .skip
    (.exit 0))
   (.seq
    (.block 1
     (.seq
      (rg [
        o 15 (.mv (.t 13)),
        o 5 (.mv (.t 15))])
      (.seq
       (rg [
         o 16 (.mv (.t 0)),
         o 17 (.mv (.t 5)),
         o 18 (.ia 3 (.t 16) (.t 17)),
         o 19 (.ld (some 3) (.t 18)),
         o 20 (.mv (.t 1)),
         o 21 (.mv (.t 5)),
         o 22 (.ia 3 (.t 20) (.t 21)),
         o 23 (.ld (some 3) (.t 22)),
         o 24 (.eqa true [0, 0, 2] (.t 19) (.t 23))])
       (.cond (.t 24)
        (.seq
         (rg [
           o 4 (.mv (kb false))])
         .ret)
        .skip))))
    (rg [
      o 25 (.bin .add (.t 13) (kc 1)),
      o 13 (.mv (.t 25))]))))
def a39 : AF := ⟨26,
 (.seq
  (rg [
    o 4 (.mv (kb false))])
  (.seq
   (.seq
    (rg [
      o 6 (.mv (.t 0)),
      o 7 (.len false (.t 6)),
      o 8 (.mv (.t 1)),
      o 9 (.len false (.t 8)),
      o 10 (.bin .neq (.t 7) (.t 9))])
    (.cond (.t 10)
     (.seq
      (rg [
        o 4 (.mv (kb false))])
      .ret)
     .skip))
   (.seq
    (.seq
     (rg [
       o 11 (.mv (.t 0)),
       o 12 (.len false (.t 11)),
       o 13 (.mv (kc 0))])
     (.block 0
      (.loop [0, 1, 12, 13] a39_0)))
    (.seq
     (rg [
       o 4 (.mv (kb true))])
     .ret)))),
 [.t 4], false⟩
/-! 40: wagoner/varint.Put; loops: [[0, 3, 9, 10]] -/
def a40_0 : AC :=
 (.seq
  (rg [
    o 11 (.bin .lss (.t 10) (.t 9))])
  (.seq
   (.cond (.t 11)
    .skip
    (.exit 0))
   (.seq
    (.block 1
     (.seq
      (rg [
        o 12 (.mv (.t 10)),
        o 4 (.mv (.t 12))])
      (rg [
        o 13 (.mv (.t 3)),
        o 14 (.mv (.t 4)),
        o 15 (.mv (.t 0)),
        o 16 (.mv (.t 4)),
        o 17 (.bin .mul (kc 7) (.t 16)),
        o 18 (.cvi .u64 (.t 17)),
        o 19 (.bin .shr (.t 15) (.t 18)),
        o 20 (.cvi .u8 (.t 19)),
        o 21 (.bin .or (.t 20) (kx (.d (.i .u8 128)))),
        o 22 (.ia 1 (.t 13) (.t 14)),
        on (.st 1 (.t 22) (.t 21))])))
    (rg [
      o 23 (.bin .add (.t 10) (kc 1)),
      o 10 (.mv (.t 23))]))))
def a40 : AF := ⟨37,
 (.seq
  (rg [
    o 2 (.mv (ks []))])
  (.seq
   (rg [
     o 5 (.mv (.t 0)),
     o 6 (.callp 53 [(.t 5)]),
     o 7 (.mks 1 1 [.i .u8 0] (.t 6) (.t 6)),
     o 3 (.mv (.t 7))])
   (.seq
    (.seq
     (rg [
       o 8 (.mv (.t 3)),
       o 9 (.len false (.t 8)),
       o 10 (.mv (kc 0))])
     (.block 0
      (.loop [0, 3, 9, 10] a40_0)))
    (.seq
     (.seq
      (rg [
        o 24 (.mv (.t 3)),
        o 25 (.len false (.t 24)),
        o 26 (.bin .gtr (.t 25) (kc 0))])
      (.cond (.t 26)
       (rg [
         o 27 (.mv (.t 3)),
         o 28 (.mv (.t 3)),
         o 29 (.len false (.t 28)),
         o 30 (.bin .sub (.t 29) (kc 1)),
         o 31 (.ia 1 (.t 27) (.t 30)),
         o 32 (.ld none (.t 31)),
         o 33 (.bin .and (.t 32) (kx (.d (.i .u8 127)))),
         o 34 (.ia 1 (.t 27) (.t 30)),
         on (.st 1 (.t 34) (.t 33))])
       .skip))
     (.seq
      (rg [
        o 35 (.mv (.t 3)),
        o 36 (.b2s (.t 35)),
        o 2 (.mv (.t 36))])
      .ret))))),
 [.t 2], false⟩
/-! 41: wagoner/frame.fits; loops: [] -/
def a41 : AF := ⟨9,
 (.seq
  (rg [
    o 2 (.mv (kb false))])
  (.seq
   (rg [
     o 3 (.mv (.t 0)),
     o 4 (.bin .geq (.t 3) (kc 1)),
     o 5 (.mv (.t 4)),
     og 6 5 true (.mv (.t 0)),
     og 7 5 true (.bin .leq (.t 6) (kc 65536)),
     o 8 (.pick (.t 5) (.t 7) (kb false)),
     o 2 (.mv (.t 8))])
   .ret)),
 [.t 2], false⟩
/-! 42: wagoner/crc.Sum; loops: [[3, 6, 7, 8]] -/
def a42_0 : AC :=
 (.seq
  (rg [
    o 9 (.bin .lss (.t 8) (.t 7))])
  (.seq
   (.cond (.t 9)
    .skip
    (.exit 0))
   (.seq
    (.block 1
     (.seq
      (rg [
        o 10 (.ia 1 (.t 6) (.t 8)),
        o 11 (.ld none (.t 10)),
        o 5 (.mv (.t 11))])
      (rg [
        o 12 (.mv (.t 3)),
        o 13 (.mv (.t 5)),
        o 14 (.callp 54 [(.t 12), (.t 13)]),
        o 3 (.mv (.t 14))])))
    (rg [
      o 15 (.bin .add (.t 8) (kc 1)),
      o 8 (.mv (.t 15))]))))
def a42 : AF := ⟨17,
 (.seq
  (rg [
    o 2 (.mv (kx (.d (.i .u32 0))))])
  (.seq
   (rg [
     o 3 (.mv (kx (.d (.i .u32 0))))])
   (.seq
    (.seq
     (rg [
       o 6 (.mv (.t 0)),
       o 7 (.len false (.t 6)),
       o 8 (.mv (kc 0))])
     (.block 0
      (.loop [3, 6, 7, 8] a42_0)))
    (.seq
     (rg [
       o 16 (.mv (.t 3)),
       o 2 (.mv (.t 16))])
     .ret)))),
 [.t 2], false⟩
/-! 43: wagoner/frame.open; loops: [[0, 8, 9]] -/
def a43_0 : AC :=
 (.seq
  (rg [
    o 10 (.bin .lss (.t 9) (.t 8))])
  (.seq
   (.cond (.t 10)
    .skip
    (.exit 0))
   (.seq
    (.block 1
     (.seq
      (rg [
        o 11 (.mv (.t 9)),
        o 3 (.mv (.t 11))])
      (.seq
       (rg [
         o 12 (.mv (.t 0)),
         o 13 (.mv (.t 3)),
         o 14 (.ixs (.t 12) (.t 13)),
         o 15 (.bin .lss (.t 14) (kx (.d (.i .u8 128))))])
       (.cond (.t 15)
        (.seq
         (rg [
           o 2 (.mv (kb false))])
         .ret)
        .skip))))
    (rg [
      o 16 (.bin .add (.t 9) (kc 1)),
      o 9 (.mv (.t 16))]))))
def a43 : AF := ⟨17,
 (.seq
  (rg [
    o 2 (.mv (kb false))])
  (.seq
   (.seq
    (rg [
      o 4 (.mv (.t 0)),
      o 5 (.len true (.t 4)),
      o 6 (.bin .gtr (.t 5) (kc 8))])
    (.cond (.t 6)
     (.seq
      (rg [
        o 2 (.mv (kb false))])
      .ret)
     .skip))
   (.seq
    (.seq
     (rg [
       o 7 (.mv (.t 0)),
       o 8 (.len true (.t 7)),
       o 9 (.mv (kc 0))])
     (.block 0
      (.loop [0, 8, 9] a43_0)))
    (.seq
     (rg [
       o 2 (.mv (kb true))])
     .ret)))),
 [.t 2], false⟩
/-! 44: wagoner/varint.Read; loops: [[0, 1, 7, 8]] -/
def a44_0 : AC :=
 (.seq
  (.seq
   (rg [
     o 12 (.mv (.t 8)),
     o 13 (.bin .lss (.t 12) (kc 9)),
     o 14 (.mv (.t 13)),
     og 15 14 true (.mv (.t 8)),
     og 16 14 true (.mv (.t 0)),
     og 17 14 true (.len true (.t 16)),
     og 18 14 true (.mv (.t 1)),
     og 19 14 true (.bin .sub (.t 17) (.t 18)),
     og 20 14 true (.bin .lss (.t 15) (.t 19)),
     o 21 (.pick (.t 14) (.t 20) (kb false))])
   (.cond (.t 21)
    .skip
    (.exit 0)))
  (.seq
   (.block 1
    (.seq
     (rg [
       o 24 (.mv (.t 0)),
       o 25 (.mv (.t 1)),
       o 26 (.mv (.t 8)),
       o 27 (.bin .add (.t 25) (.t 26)),
       o 28 (.ixs (.t 24) (.t 27)),
       o 9 (.mv (.t 28))])
     (.seq
      (rg [
        o 29 (.mv (.t 7)),
        o 30 (.mv (.t 9)),
        o 31 (.bin .and (.t 30) (kx (.d (.i .u8 127)))),
        o 32 (.cvi .i64 (.t 31)),
        o 33 (.mv (.t 8)),
        o 34 (.bin .mul (kc 7) (.t 33)),
        o 35 (.cvi .u64 (.t 34)),
        o 36 (.bin .shl (.t 32) (.t 35)),
        o 37 (.bin .or (.t 29) (.t 36)),
        o 7 (.mv (.t 37))])
      (.block 2
       (.seq
        (rg [
          o 44 (.mv (.t 9)),
          o 45 (.bin .geq (.t 44) (kx (.d (.i .u8 128)))),
          o 43 (.mv (.t 45))])
        (.cond (.t 43)
         .skip
         (.seq
          (rg [
            o 47 (.mv (.t 9)),
            o 48 (.bin .eql (.t 47) (kx (.d (.i .u8 0)))),
            o 49 (.mv (.t 48)),
            og 50 49 true (.mv (.t 8)),
            og 51 49 true (.bin .gtr (.t 50) (kc 0)),
            o 52 (.pick (.t 49) (.t 51) (kb false)),
            o 46 (.mv (.t 52))])
          (.cond (.t 46)
           (.exit 0)
           (.seq
            (rg [
              o 38 (.mv (.t 7)),
              o 39 (.mv (.t 1)),
              o 40 (.mv (.t 8)),
              o 41 (.bin .add (.t 39) (.t 40)),
              o 42 (.bin .add (.t 41) (kc 1)),
              o 4 (.mv (.t 38)),
              o 5 (.mv (.t 42)),
              o 6 (.mv (kb true))])
            .ret)))))))))
   (rg [
     o 22 (.mv (.t 8)),
     o 23 (.bin .add (.t 22) (kc 1)),
     o 8 (.mv (.t 23))])))
def a44 : AF := ⟨53,
 (.seq
  (rg [
    o 4 (.mv (kc 0)),
    o 5 (.mv (kc 0)),
    o 6 (.mv (kb false))])
  (.seq
   (.seq
    (rg [
      o 10 (.mv (.t 1)),
      o 11 (.bin .lss (.t 10) (kc 0))])
    (.cond (.t 11)
     (.seq
      (rg [
        o 4 (.mv (kc 0)),
        o 5 (.mv (kc 0)),
        o 6 (.mv (kb false))])
      .ret)
     .skip))
   (.seq
    (rg [
      o 7 (.mv (kc 0))])
    (.seq
     .skip
     (.seq
      (.seq
       (rg [
         o 8 (.mv (kc 0))])
       (.block 0
        (.loop [0, 1, 7, 8] a44_0)))
      (.seq
       (rg [
         o 4 (.mv (kc 0)),
         o 5 (.mv (kc 0)),
         o 6 (.mv (kb false))])
       .ret)))))),
 [.t 4, .t 5, .t 6], false⟩
/-! 45: (*wagoner/wire.reader).text; loops: [] -/
def a45 : AF := ⟨38,
 (.seq
  (rg [
    o 4 (.mv (ks []))])
  (.seq
   (.seq
    (rg [
      o 6 (.mv (.t 0)),
      o 7 (.nck (.t 6)),
      o 8 (.fa 1 (.t 7)),
      o 9 (.ld none (.t 8)),
      o 10 (.mv (.t 9)),
      og 11 10 false (.mv (.t 1)),
      og 12 10 false (.mv (.t 0)),
      og 13 10 false (.nck (.t 12)),
      og 14 10 false (.fa 0 (.t 13)),
      og 15 10 false (.ld none (.t 14)),
      og 16 10 false (.len true (.t 15)),
      og 17 10 false (.bin .gtr (.t 11) (.t 16)),
      o 18 (.pick (.t 10) (kb true) (.t 17))])
    (.cond (.t 18)
     (.seq
      (rg [
        o 19 (.mv (.t 0)),
        o 20 (.nck (.t 19)),
        o 21 (.fa 1 (.t 20)),
        on (.st 1 (.t 21) (kb true))])
      (.seq
       (rg [
         o 4 (.mv (ks []))])
       .ret))
     .skip))
   (.seq
    (rg [
      o 22 (.mv (.t 0)),
      o 23 (.nck (.t 22)),
      o 24 (.fa 0 (.t 23)),
      o 25 (.ld none (.t 24)),
      o 26 (.mv (.t 1)),
      o 27 (.sls (.t 25) none (some (.t 26))),
      o 5 (.mv (.t 27))])
    (.seq
     (rg [
       o 28 (.mv (.t 0)),
       o 29 (.mv (.t 0)),
       o 30 (.nck (.t 29)),
       o 31 (.fa 0 (.t 30)),
       o 32 (.ld none (.t 31)),
       o 33 (.mv (.t 1)),
       o 34 (.sls (.t 32) (some (.t 33)) none),
       o 35 (.nck (.t 28)),
       o 36 (.fa 0 (.t 35)),
       on (.st 1 (.t 36) (.t 34))])
     (.seq
      (rg [
        o 37 (.mv (.t 5)),
        o 4 (.mv (.t 37))])
      .ret))))),
 [.t 4], false⟩
/-! 46: wagoner/wagonerref03.ends; loops: [[0, 1, 5]] -/
def a46_0 : AC :=
 (.seq
  (.seq
   (rg [
     o 7 (.mv (.t 5)),
     o 8 (.mv (.t 0)),
     o 9 (.len true (.t 8)),
     o 10 (.bin .lss (.t 7) (.t 9))])
   (.cond (.t 10)
    .skip
    (.exit 0)))
  (.seq
   (.block 1
    (.seq
     (rg [
       o 13 (.mv (.t 0)),
       o 14 (.mv (.t 5)),
       o 15 (.ixs (.t 13) (.t 14)),
       o 16 (.bin .lss (.t 15) (kx (.d (.i .u8 128))))])
     (.cond (.t 16)
      (.seq
       (rg [
         o 4 (.mv (kb false))])
       .ret)
      .skip)))
   (rg [
     o 11 (.mv (.t 5)),
     o 12 (.bin .add (.t 11) (kc 1)),
     o 5 (.mv (.t 12))])))
def a46 : AF := ⟨22,
 (.seq
  (rg [
    o 4 (.mv (kb false))])
  (.seq
   (.seq
    (rg [
      o 6 (.mv (.t 1)),
      o 5 (.mv (.t 6))])
    (.block 0
     (.loop [0, 1, 5] a46_0)))
   (.seq
    (rg [
      o 17 (.mv (.t 0)),
      o 18 (.len true (.t 17)),
      o 19 (.mv (.t 1)),
      o 20 (.bin .sub (.t 18) (.t 19)),
      o 21 (.bin .leq (.t 20) (kc 8)),
      o 4 (.mv (.t 21))])
    .ret))),
 [.t 4], false⟩
/-! 47: wagoner/wagonerref01.Read; loops: [[0, 1, 7, 8, 9]] -/
def a47_0 : AC :=
 (.seq
  (.seq
   (rg [
     o 19 (.mv (.t 9)),
     o 20 (.bin .lss (.t 19) (kc 9)),
     o 21 (.mv (.t 20)),
     og 22 21 true (.mv (.t 9)),
     og 23 21 true (.mv (.t 0)),
     og 24 21 true (.len true (.t 23)),
     og 25 21 true (.mv (.t 1)),
     og 26 21 true (.bin .sub (.t 24) (.t 25)),
     og 27 21 true (.bin .lss (.t 22) (.t 26)),
     o 28 (.pick (.t 21) (.t 27) (kb false))])
   (.cond (.t 28)
    .skip
    (.exit 0)))
  (.seq
   (.block 1
    (.seq
     (rg [
       o 31 (.mv (.t 0)),
       o 32 (.mv (.t 1)),
       o 33 (.mv (.t 9)),
       o 34 (.bin .add (.t 32) (.t 33)),
       o 35 (.ixs (.t 31) (.t 34)),
       o 36 (.cvi .i64 (.t 35)),
       o 10 (.mv (.t 36))])
     (.seq
      (rg [
        o 37 (.mv (.t 7)),
        o 38 (.mv (.t 10)),
        o 39 (.bin .rem (.t 38) (kc 128)),
        o 40 (.mv (.t 8)),
        o 41 (.bin .mul (.t 39) (.t 40)),
        o 42 (.bin .add (.t 37) (.t 41)),
        o 7 (.mv (.t 42))])
      (.seq
       (.seq
        (rg [
          o 43 (.mv (.t 10)),
          o 44 (.bin .lss (.t 43) (kc 128))])
        (.cond (.t 44)
         (.seq
          (.seq
           (rg [
             o 45 (.mv (.t 7)),
             o 46 (.callp 36 [(.t 45)]),
             o 47 (.mv (.t 0)),
             o 48 (.mv (.t 1)),
             o 49 (.mv (.t 1)),
             o 50 (.mv (.t 9)),
             o 51 (.bin .add (.t 49) (.t 50)),
             o 52 (.bin .add (.t 51) (kc 1)),
             o 53 (.sls (.t 47) (some (.t 48)) (some (.t 52))),
             o 54 (.bin .neq (.t 46) (.t 53))])
           (.cond (.t 54)
            (.seq
             (rg [
               o 4 (.mv (kc 0)),
               o 5 (.mv (kc 0)),
               o 6 (.mv (kb false))])
             .ret)
            .skip))
          (.seq
           (rg [
             o 55 (.mv (.t 7)),
             o 56 (.mv (.t 1)),
             o 57 (.mv (.t 9)),
             o 58 (.bin .add (.t 56) (.t 57)),
             o 59 (.bin .add (.t 58) (kc 1)),
             o 4 (.mv (.t 55)),
             o 5 (.mv (.t 59)),
             o 6 (.mv (kb true))])
           .ret))
         .skip))
       (.seq
        (rg [
          o 60 (.mv (.t 9)),
          o 61 (.bin .lss (.t 60) (kc 8))])
        (.cond (.t 61)
         (rg [
           o 62 (.mv (.t 8)),
           o 63 (.bin .mul (.t 62) (kc 128)),
           o 8 (.mv (.t 63))])
         .skip))))))
   (rg [
     o 29 (.mv (.t 9)),
     o 30 (.bin .add (.t 29) (kc 1)),
     o 9 (.mv (.t 30))])))
def a47 : AF := ⟨64,
 (.seq
  (rg [
    o 4 (.mv (kc 0)),
    o 5 (.mv (kc 0)),
    o 6 (.mv (kb false))])
  (.seq
   (.seq
    (rg [
      o 11 (.mv (.t 1)),
      o 12 (.bin .lss (.t 11) (kc 0)),
      o 13 (.mv (.t 12)),
      og 14 13 false (.mv (.t 1)),
      og 15 13 false (.mv (.t 0)),
      og 16 13 false (.len true (.t 15)),
      og 17 13 false (.bin .geq (.t 14) (.t 16)),
      o 18 (.pick (.t 13) (kb true) (.t 17))])
    (.cond (.t 18)
     (.seq
      (rg [
        o 4 (.mv (kc 0)),
        o 5 (.mv (kc 0)),
        o 6 (.mv (kb false))])
      .ret)
     .skip))
   (.seq
    (rg [
      o 7 (.mv (kc 0)),
      o 8 (.mv (kc 1))])
    (.seq
     (.seq
      (rg [
        o 9 (.mv (kc 0))])
      (.block 0
       (.loop [0, 1, 7, 8, 9] a47_0)))
     (.seq
      (rg [
        o 4 (.mv (kc 0)),
        o 5 (.mv (kc 0)),
        o 6 (.mv (kb false))])
      .ret))))),
 [.t 4, .t 5, .t 6], false⟩
/-! 48: (*wagoner/wagonerref16.Cur).Number; loops: [] -/
def a48 : AF := ⟨33,
 (.seq
  (rg [
    o 2 (.mv (kc 0))])
  (.seq
   (.seq
    (rg [
      o 6 (.mv (.t 0)),
      o 7 (.nck (.t 6)),
      o 8 (.fa 2 (.t 7)),
      o 9 (.ld none (.t 8))])
    (.cond (.t 9)
     (.seq
      (rg [
        o 2 (.mv (kc 0))])
      .ret)
     .skip))
   (.seq
    (rg [
      o 11 (.mv (.t 0)),
      o 12 (.nck (.t 11)),
      o 13 (.fa 0 (.t 12)),
      o 14 (.ld none (.t 13)),
      o 15 (.mv (.t 0)),
      o 16 (.nck (.t 15)),
      o 17 (.fa 1 (.t 16)),
      o 18 (.ld none (.t 17)),
      o 19 (.callp 47 [(.t 14), (.t 18)]),
      o 10 (.mv (.t 19)),
      o 20 (.ext (.t 10) 0),
      o 21 (.ext (.t 10) 1),
      o 22 (.ext (.t 10) 2),
      o 3 (.mv (.t 20)),
      o 4 (.mv (.t 21)),
      o 5 (.mv (.t 22))])
    (.seq
     (.seq
      (rg [
        o 23 (.mv (.t 5)),
        o 24 (.un .not (.t 23))])
      (.cond (.t 24)
       (.seq
        (rg [
          o 25 (.mv (.t 0)),
          o 26 (.nck (.t 25)),
          o 27 (.fa 2 (.t 26)),
          on (.st 1 (.t 27) (kb true))])
        (.seq
         (rg [
           o 2 (.mv (kc 0))])
         .ret))
       .skip))
     (.seq
      (rg [
        o 28 (.mv (.t 0)),
        o 29 (.mv (.t 4)),
        o 30 (.nck (.t 28)),
        o 31 (.fa 1 (.t 30)),
        on (.st 1 (.t 31) (.t 29))])
      (.seq
       (rg [
         o 32 (.mv (.t 3)),
         o 2 (.mv (.t 32))])
       .ret)))))),
 [.t 2], false⟩
/-! 49: (*wagoner/wagonerref16.Cur).Text; loops: [] -/
def a49 : AF := ⟨52,
 (.seq
  (rg [
    o 4 (.mv (ks []))])
  (.seq
   (.seq
    (rg [
      o 6 (.mv (.t 0)),
      o 7 (.nck (.t 6)),
      o 8 (.fa 2 (.t 7)),
      o 9 (.ld none (.t 8)),
      o 10 (.mv (.t 9)),
      og 11 10 false (.mv (.t 1)),
      og 12 10 false (.mv (.t 0)),
      og 13 10 false (.nck (.t 12)),
      og 14 10 false (.fa 0 (.t 13)),
      og 15 10 false (.ld none (.t 14)),
      og 16 10 false (.len true (.t 15)),
      og 17 10 false (.mv (.t 0)),
      og 18 10 false (.nck (.t 17)),
      og 19 10 false (.fa 1 (.t 18)),
      og 20 10 false (.ld none (.t 19)),
      og 21 10 false (.bin .sub (.t 16) (.t 20)),
      og 22 10 false (.bin .gtr (.t 11) (.t 21)),
      o 23 (.pick (.t 10) (kb true) (.t 22))])
    (.cond (.t 23)
     (.seq
      (rg [
        o 24 (.mv (.t 0)),
        o 25 (.nck (.t 24)),
        o 26 (.fa 2 (.t 25)),
        on (.st 1 (.t 26) (kb true))])
      (.seq
       (rg [
         o 4 (.mv (ks []))])
       .ret))
     .skip))
   (.seq
    (rg [
      o 27 (.mv (.t 0)),
      o 28 (.nck (.t 27)),
      o 29 (.fa 0 (.t 28)),
      o 30 (.ld none (.t 29)),
      o 31 (.mv (.t 0)),
      o 32 (.nck (.t 31)),
      o 33 (.fa 1 (.t 32)),
      o 34 (.ld none (.t 33)),
      o 35 (.mv (.t 0)),
      o 36 (.nck (.t 35)),
      o 37 (.fa 1 (.t 36)),
      o 38 (.ld none (.t 37)),
      o 39 (.mv (.t 1)),
      o 40 (.bin .add (.t 38) (.t 39)),
      o 41 (.sls (.t 30) (some (.t 34)) (some (.t 40))),
      o 5 (.mv (.t 41))])
    (.seq
     (rg [
       o 42 (.mv (.t 0)),
       o 43 (.mv (.t 0)),
       o 44 (.nck (.t 43)),
       o 45 (.fa 1 (.t 44)),
       o 46 (.ld none (.t 45)),
       o 47 (.mv (.t 1)),
       o 48 (.bin .add (.t 46) (.t 47)),
       o 49 (.nck (.t 42)),
       o 50 (.fa 1 (.t 49)),
       on (.st 1 (.t 50) (.t 48))])
     (.seq
      (rg [
        o 51 (.mv (.t 5)),
        o 4 (.mv (.t 51))])
      .ret))))),
 [.t 4], false⟩
/-! 50: wagoner/record.Right; loops: [] -/
def a50 : AF := ⟨6,
 (.seq
  (rg [
    o 1 (.box (.t 0)),
    o 2 (.mv (kb false))])
  (.seq
   (rg [
     o 3 (.ld (some 3) (.t 1)),
     o 4 (.callp 55 [(.t 3)]),
     o 5 (.bin .eql (.t 4) (kc 0)),
     o 2 (.mv (.t 5))])
   .ret)),
 [.t 2], false⟩
/-! 51: wagoner/wagonerref04.within; loops: [] -/
def a51 : AF := ⟨9,
 (.seq
  (rg [
    o 2 (.mv (kb false))])
  (.seq
   (rg [
     o 3 (.mv (.t 0)),
     o 4 (.bin .geq (.t 3) (kc 0)),
     o 5 (.mv (.t 4)),
     og 6 5 true (.mv (.t 0)),
     og 7 5 true (.bin .leq (.t 6) (kc 1099511627776)),
     o 8 (.pick (.t 5) (.t 7) (kb false)),
     o 2 (.mv (.t 8))])
   .ret)),
 [.t 2], false⟩
/-! 52: wagoner/wagonerref02.On; loops: [[1, 5, 6], [1, 5, 6, 7]] -/
def a52_1 : AC :=
 (.seq
  (.seq
   (rg [
     o 23 (.mv (.t 7)),
     o 24 (.bin .lss (.t 23) (kc 8))])
   (.cond (.t 24)
    .skip
    (.exit 2)))
  (.seq
   (.block 3
    (.seq
     (rg [
       o 27 (.mv (.t 5)),
       o 28 (.bin .rem (.t 27) (kx (.d (.i .u32 2)))),
       o 29 (.bin .eql (.t 28) (kx (.d (.i .u32 1)))),
       o 8 (.mv (.t 29))])
     (.seq
      (rg [
        o 30 (.mv (.t 5)),
        o 31 (.bin .quo (.t 30) (kx (.d (.i .u32 2)))),
        o 5 (.mv (.t 31))])
      (.seq
       (rg [
         o 32 (.mv (.t 8))])
       (.cond (.t 32)
        (rg [
          o 33 (.mv (.t 5)),
          o 34 (.bin .xor (.t 33) (kx (.d (.i .u32 2197175160)))),
          o 5 (.mv (.t 34))])
        .skip)))))
   (rg [
     o 25 (.mv (.t 7)),
     o 26 (.bin .add (.t 25) (kc 1)),
     o 7 (.mv (.t 26))])))
def a52_0 : AC :=
 (.seq
  (.seq
   (rg [
     o 11 (.mv (.t 6)),
     o 12 (.mv (.t 1)),
     o 13 (.len true (.t 12)),
     o 14 (.bin .lss (.t 11) (.t 13))])
   (.cond (.t 14)
    .skip
    (.exit 0)))
  (.seq
   (.block 1
    (.seq
     (rg [
       o 17 (.mv (.t 5)),
       o 18 (.mv (.t 1)),
       o 19 (.mv (.t 6)),
       o 20 (.ixs (.t 18) (.t 19)),
       o 21 (.cvi .u32 (.t 20)),
       o 22 (.bin .xor (.t 17) (.t 21)),
       o 5 (.mv (.t 22))])
     (.seq
      (rg [
        o 7 (.mv (kc 0))])
      (.block 2
       (.loop [1, 5, 6, 7] a52_1)))))
   (rg [
     o 15 (.mv (.t 6)),
     o 16 (.bin .add (.t 15) (kc 1)),
     o 6 (.mv (.t 16))])))
def a52 : AF := ⟨37,
 (.seq
  (rg [
    o 4 (.mv (kx (.d (.i .u32 0))))])
  (.seq
   (rg [
     o 9 (.mv (.t 0)),
     o 10 (.un .xor (.t 9)),
     o 5 (.mv (.t 10))])
   (.seq
    (.seq
     (rg [
       o 6 (.mv (kc 0))])
     (.block 0
      (.loop [1, 5, 6] a52_0)))
    (.seq
     (rg [
       o 35 (.mv (.t 5)),
       o 36 (.un .xor (.t 35)),
       o 4 (.mv (.t 36))])
     .ret)))),
 [.t 4], false⟩
/-! 53: wagoner/varint.Len; loops: [] -/
def a53 : AF := ⟨11,
 (.seq
  (rg [
    o 2 (.mv (kc 0))])
  (.seq
   (.seq
    (rg [
      o 3 (.mv (.t 0)),
      o 4 (.bin .lss (.t 3) (kc 0))])
    (.cond (.t 4)
     (.seq
      (rg [
        o 2 (.mv (kc 0))])
      .ret)
     .skip))
   (.seq
    (rg [
      o 5 (.mv (.t 0)),
      o 6 (.cvi .u64 (.t 5)),
      o 7 (.callp 56 [(.t 6)]),
      o 8 (.bin .add (.t 7) (kc 6)),
      o 9 (.bin .quo (.t 8) (kc 7)),
      o 10 (.mm true (kc 1) (.t 9)),
      o 2 (.mv (.t 10))])
    .ret))),
 [.t 2], false⟩
/-! 54: wagoner/crc.On; loops: [[1, 5, 6, 12, 13]] -/
def a54_0 : AC :=
 (.seq
  (rg [
    o 14 (.bin .lss (.t 13) (.t 12))])
  (.seq
   (.cond (.t 14)
    .skip
    (.exit 0))
   (.seq
    (.block 1
     (.seq
      (rg [
        o 15 (.mv (.t 13)),
        o 7 (.mv (.t 15))])
      (.seq
       (rg [
         o 16 (.mv (.t 6)),
         o 17 (.mv (.t 1)),
         o 18 (.mv (.t 7)),
         o 19 (.ixs (.t 17) (.t 18)),
         o 20 (.cvi .u32 (.t 19)),
         o 21 (.bin .xor (.t 16) (.t 20)),
         o 6 (.mv (.t 21))])
       (.seq
        (rg [
          o 22 (.mv (.t 6)),
          o 23 (.bin .shr (.t 22) (kx (.d (.i .u64 4)))),
          o 24 (.mv (.t 6)),
          o 25 (.bin .and (.t 24) (kx (.d (.i .u32 15)))),
          o 26 (.iar 16 1 (.t 5) (.t 25)),
          o 27 (.ld none (.t 26)),
          o 28 (.bin .xor (.t 23) (.t 27)),
          o 6 (.mv (.t 28))])
        (rg [
          o 29 (.mv (.t 6)),
          o 30 (.bin .shr (.t 29) (kx (.d (.i .u64 4)))),
          o 31 (.mv (.t 6)),
          o 32 (.bin .and (.t 31) (kx (.d (.i .u32 15)))),
          o 33 (.iar 16 1 (.t 5) (.t 32)),
          o 34 (.ld none (.t 33)),
          o 35 (.bin .xor (.t 30) (.t 34)),
          o 6 (.mv (.t 35))])))))
    (rg [
      o 36 (.bin .add (.t 13) (kc 1)),
      o 13 (.mv (.t 36))]))))
def a54 : AF := ⟨39,
 (.seq
  (rg [
    o 4 (.mv (kx (.d (.i .u32 0))))])
  (.seq
   (rg [
     o 8 (.callp 57 []),
     o 5 (.alloc [.d (.i .u32 0), .d (.i .u32 0), .d (.i .u32 0), .d (.i .u32 0), .d (.i .u32 0), .d (.i .u32 0), .d (.i .u32 0), .d (.i .u32 0), .d (.i .u32 0), .d (.i .u32 0), .d (.i .u32 0), .d (.i .u32 0), .d (.i .u32 0), .d (.i .u32 0), .d (.i .u32 0), .d (.i .u32 0)]),
     on (.st 16 (.t 5) (.t 8))])
   (.seq
    (rg [
      o 9 (.mv (.t 0)),
      o 10 (.un .xor (.t 9)),
      o 6 (.mv (.t 10))])
    (.seq
     (.seq
      (rg [
        o 11 (.mv (.t 1)),
        o 12 (.len true (.t 11)),
        o 13 (.mv (kc 0))])
      (.block 0
       (.loop [1, 5, 6, 12, 13] a54_0)))
     (.seq
      (rg [
        o 37 (.mv (.t 6)),
        o 38 (.un .xor (.t 37)),
        o 4 (.mv (.t 38))])
      .ret))))),
 [.t 4], false⟩
/-! 55: wagoner/record.check; loops: [] -/
def a55 : AF := ⟨17,
 (.seq
  (rg [
    o 1 (.box (.t 0)),
    o 2 (.mv (kc 0))])
  (.seq
   (.block 0
    (.seq
     (rg [
       o 4 (.fa 0 (.t 1)),
       o 5 (.ld none (.t 4)),
       o 6 (.callp 58 [(.t 5)]),
       o 7 (.mv (.t 6)),
       og 8 7 false (.fa 1 (.t 1)),
       og 9 7 false (.ld none (.t 8)),
       og 10 7 false (.callp 58 [(.t 9)]),
       o 11 (.pick (.t 7) (kb true) (.t 10)),
       o 3 (.mv (.t 11))])
     (.cond (.t 3)
      (.seq
       (rg [
         o 2 (.mv (kc 6))])
       .ret)
      (.seq
       (rg [
         o 13 (.fa 2 (.t 1)),
         o 14 (.ld none (.t 13)),
         o 15 (.len true (.t 14)),
         o 16 (.bin .gtr (.t 15) (kc 64)),
         o 12 (.mv (.t 16))])
       (.cond (.t 12)
        (.seq
         (rg [
           o 2 (.mv (kc 5))])
         .ret)
        .skip)))))
   (.seq
    (rg [
      o 2 (.mv (kc 0))])
    .ret))),
 [.t 2], false⟩
/-! 56: math/bits.Len64; loops: [] -/
def a56 : AF := ⟨25,
 (.seq
  (rg [
    o 2 (.mv (kc 0))])
  (.seq
   (.seq
    (rg [
      o 3 (.mv (.t 0)),
      o 4 (.bin .geq (.t 3) (kx (.d (.i .u64 4294967296))))])
    (.cond (.t 4)
     (.seq
      (rg [
        o 5 (.mv (.t 0)),
        o 6 (.bin .shr (.t 5) (kx (.d (.i .u64 32)))),
        o 0 (.mv (.t 6))])
      (rg [
        o 2 (.mv (kc 32))]))
     .skip))
   (.seq
    (.seq
     (rg [
       o 7 (.mv (.t 0)),
       o 8 (.bin .geq (.t 7) (kx (.d (.i .u64 65536))))])
     (.cond (.t 8)
      (.seq
       (rg [
         o 9 (.mv (.t 0)),
         o 10 (.bin .shr (.t 9) (kx (.d (.i .u64 16)))),
         o 0 (.mv (.t 10))])
       (rg [
         o 11 (.mv (.t 2)),
         o 12 (.bin .add (.t 11) (kc 16)),
         o 2 (.mv (.t 12))]))
      .skip))
    (.seq
     (.seq
      (rg [
        o 13 (.mv (.t 0)),
        o 14 (.bin .geq (.t 13) (kx (.d (.i .u64 256))))])
      (.cond (.t 14)
       (.seq
        (rg [
          o 15 (.mv (.t 0)),
          o 16 (.bin .shr (.t 15) (kx (.d (.i .u64 8)))),
          o 0 (.mv (.t 16))])
        (rg [
          o 17 (.mv (.t 2)),
          o 18 (.bin .add (.t 17) (kc 8)),
          o 2 (.mv (.t 18))]))
       .skip))
     (.seq
      (rg [
        o 19 (.mv (.t 2)),
        o 20 (.mv (.t 0)),
        o 21 (.cvi .u8 (.t 20)),
        o 22 (.ixs (ks [0, 1, 2, 2, 3, 3, 3, 3, 4, 4, 4, 4, 4, 4, 4, 4, 5, 5, 5, 5, 5, 5, 5, 5, 5, 5, 5, 5, 5, 5, 5, 5, 6, 6, 6, 6, 6, 6, 6, 6, 6, 6, 6, 6, 6, 6, 6, 6, 6, 6, 6, 6, 6, 6, 6, 6, 6, 6, 6, 6, 6, 6, 6, 6, 7, 7, 7, 7, 7, 7, 7, 7, 7, 7, 7, 7, 7, 7, 7, 7, 7, 7, 7, 7, 7, 7, 7, 7, 7, 7, 7, 7, 7, 7, 7, 7, 7, 7, 7, 7, 7, 7, 7, 7, 7, 7, 7, 7, 7, 7, 7, 7, 7, 7, 7, 7, 7, 7, 7, 7, 7, 7, 7, 7, 7, 7, 7, 7, 8, 8, 8, 8, 8, 8, 8, 8, 8, 8, 8, 8, 8, 8, 8, 8, 8, 8, 8, 8, 8, 8, 8, 8, 8, 8, 8, 8, 8, 8, 8, 8, 8, 8, 8, 8, 8, 8, 8, 8, 8, 8, 8, 8, 8, 8, 8, 8, 8, 8, 8, 8, 8, 8, 8, 8, 8, 8, 8, 8, 8, 8, 8, 8, 8, 8, 8, 8, 8, 8, 8, 8, 8, 8, 8, 8, 8, 8, 8, 8, 8, 8, 8, 8, 8, 8, 8, 8, 8, 8, 8, 8, 8, 8, 8, 8, 8, 8, 8, 8, 8, 8, 8, 8, 8, 8, 8, 8, 8, 8, 8, 8, 8, 8, 8, 8, 8, 8, 8, 8, 8, 8, 8, 8, 8, 8, 8, 8]) (.t 21)),
        o 23 (.cvi .i64 (.t 22)),
        o 24 (.bin .add (.t 19) (.t 23)),
        o 2 (.mv (.t 24))])
      .ret))))),
 [.t 2], false⟩
/-! 57: wagoner/crc.table; loops: [[0, 1, 4], [0, 1, 2, 3, 4, 9]] -/
def a57_1 : AC :=
 (.seq
  (rg [
    o 10 (.bin .lss (.t 9) (kc 4))])
  (.seq
   (.cond (.t 10)
    .skip
    (.exit 2))
   (.seq
    (.block 3
     (rg [
       o 11 (.mv (.t 3)),
       o 12 (.bin .shr (.t 11) (kx (.d (.i .u64 1)))),
       o 13 (.mv (.t 3)),
       o 14 (.bin .and (.t 13) (kx (.d (.i .u32 1)))),
       o 15 (.un .neg (.t 14)),
       o 16 (.bin .and (kx (.d (.i .u32 2197175160))) (.t 15)),
       o 17 (.bin .xor (.t 12) (.t 16)),
       o 3 (.mv (.t 17))]))
    (rg [
      o 18 (.bin .add (.t 9) (kc 1)),
      o 9 (.mv (.t 18))]))))
def a57_0 : AC :=
 (.seq
  (rg [
    o 5 (.bin .lss (.t 4) (kc 16))])
  (.seq
   (.cond (.t 5)
    .skip
    (.exit 0))
   (.seq
    (.block 1
     (.seq
      (rg [
        o 6 (.mv (.t 4)),
        o 2 (.mv (.t 6))])
      (.seq
       (rg [
         o 7 (.mv (.t 2)),
         o 8 (.cvi .u32 (.t 7)),
         o 3 (.mv (.t 8))])
       (.seq
        (.seq
         (rg [
           o 9 (.mv (kc 0))])
         (.block 2
          (.loop [0, 1, 2, 3, 4, 9] a57_1)))
        (rg [
          o 19 (.mv (.t 2)),
          o 20 (.mv (.t 3)),
          o 21 (.iar 16 1 (.t 1) (.t 19)),
          on (.st 1 (.t 21) (.t 20))])))))
    (rg [
      o 22 (.bin .add (.t 4) (kc 1)),
      o 4 (.mv (.t 22))]))))
def a57 : AF := ⟨24,
 (.seq
  (rg [
    o 0 (.alloc [.d (.i .u32 0), .d (.i .u32 0), .d (.i .u32 0), .d (.i .u32 0), .d (.i .u32 0), .d (.i .u32 0), .d (.i .u32 0), .d (.i .u32 0), .d (.i .u32 0), .d (.i .u32 0), .d (.i .u32 0), .d (.i .u32 0), .d (.i .u32 0), .d (.i .u32 0), .d (.i .u32 0), .d (.i .u32 0)])])
  (.seq
   (rg [
     o 1 (.alloc [.d (.i .u32 0), .d (.i .u32 0), .d (.i .u32 0), .d (.i .u32 0), .d (.i .u32 0), .d (.i .u32 0), .d (.i .u32 0), .d (.i .u32 0), .d (.i .u32 0), .d (.i .u32 0), .d (.i .u32 0), .d (.i .u32 0), .d (.i .u32 0), .d (.i .u32 0), .d (.i .u32 0), .d (.i .u32 0)])])
   (.seq
    (.seq
     (rg [
       o 4 (.mv (kc 0))])
     (.block 0
      (.loop [0, 1, 4] a57_0)))
    (.seq
     (rg [
       o 23 (.ld (some 16) (.t 1)),
       on (.st 16 (.t 0) (.t 23))])
     .ret)))),
 [.c (some 16) 0], false⟩
/-! 58: wagoner/record.far; loops: [] -/
def a58 : AF := ⟨6,
 (.seq
  (rg [
    o 2 (.mv (kb false))])
  (.seq
   (rg [
     o 3 (.mv (.t 0)),
     o 4 (.cvi .u64 (.t 3)),
     o 5 (.bin .gtr (.t 4) (kx (.d (.i .u64 1099511627776)))),
     o 2 (.mv (.t 5))])
   .ret)),
 [.t 2], false⟩
def ans : List (Nat × Ann) := [
  (3, ⟨[], [], false, false⟩),
  (4, ⟨[], [], false, false⟩),
  (5, ⟨[], [], false, false⟩),
  (6, ⟨[(6, 6, 2)], [], false, false⟩),
  (7, ⟨[], [], false, false⟩),
  (8, ⟨[], [], false, false⟩),
  (9, ⟨[(4, 16, 8), (7, 8, 8), (9, 7, 8), (13, 7, 8), (14, 3, 8), (17, 6, 8), (18, 4, 8), (19, 3, 8)], [[4, 53, 54, 55]], false, false⟩),
  (10, ⟨[(3, 15, 9), (7, 8, 9), (9, 7, 9), (13, 15, 9), (5, 6, 9)], [[1, 4, 5]], false, false⟩),
  (11, ⟨[(9, 2, 8), (13, 1, 8), (13, 3, 8), (13, 5, 8), (15, 1, 8), (16, 3, 8), (18, 1, 8), (18, 3, 8), (19, 1, 8)], [[2, 7, 8, 35, 36, 37]], false, false⟩),
  (12, ⟨[], [], false, false⟩),
  (13, ⟨[(1, 5, 9), (1, 33, 9), (1, 44, 9)], [], false, false⟩),
  (14, ⟨[], [[1, 4]], false, false⟩),
  (15, ⟨[], [], false, false⟩),
  (16, ⟨[], [], false, false⟩),
  (17, ⟨[], [], false, false⟩),
  (18, ⟨[], [[0, 5]], false, false⟩),
  (19, ⟨[], [[0, 6, 7, 8]], false, false⟩),
  (20, ⟨[], [], false, false⟩),
  (21, ⟨[], [], false, false⟩),
  (22, ⟨[(4, 4, 9)], [], false, false⟩),
  (23, ⟨[], [[0, 3, 4]], false, false⟩),
  (24, ⟨[], [], false, false⟩),
  (25, ⟨[(11, 3, 9)], [], false, false⟩),
  (26, ⟨[], [], false, false⟩),
  (27, ⟨[(1, 1, 8), (8, 4, 8), (9, 2, 8), (9, 3, 8), (0, 0, 2), (4, 0, 103)], [[0, 1, 5, 6, 7]], false, false⟩),
  (28, ⟨[(1, 1, 8)], [[3, 4, 9, 10]], false, false⟩),
  (29, ⟨[], [], false, false⟩),
  (30, ⟨[(2, 1, 8), (2, 3, 8), (2, 5, 8), (2, 7, 8), (2, 9, 8), (2, 11, 8), (2, 13, 8), (12, 1, 8), (12, 3, 8), (12, 5, 8), (14, 1, 8), (15, 1, 8), (19, 1, 8), (19, 3, 8), (20, 9, 8), (4, 1, 8), (4, 3, 8), (5, 1, 8), (10, 11, 8)], [[0, 2, 4, 5, 6, 7], [0, 2, 4, 5, 10, 11]], false, false⟩),
  (31, ⟨[], [[0, 7, 8, 9]], false, false⟩),
  (32, ⟨[], [[0, 1, 7, 8, 9]], false, false⟩),
  (33, ⟨[], [], false, false⟩),
  (34, ⟨[], [], false, false⟩),
  (35, ⟨[], [[0, 1, 5]], false, false⟩),
  (36, ⟨[], [[0, 3]], false, false⟩),
  (37, ⟨[], [], false, false⟩),
  (38, ⟨[], [], false, false⟩),
  (39, ⟨[], [[0, 1, 12, 13]], false, false⟩),
  (40, ⟨[], [[0, 3, 9, 10]], false, false⟩),
  (41, ⟨[], [], false, false⟩),
  (42, ⟨[], [[3, 6, 7, 8]], false, false⟩),
  (43, ⟨[], [[0, 8, 9]], false, false⟩),
  (44, ⟨[], [[0, 1, 7, 8]], false, false⟩),
  (45, ⟨[], [], false, false⟩),
  (46, ⟨[], [[0, 1, 5]], false, false⟩),
  (47, ⟨[], [[0, 1, 7, 8, 9]], false, false⟩),
  (48, ⟨[], [], false, false⟩),
  (49, ⟨[], [], false, false⟩),
  (50, ⟨[], [], false, false⟩),
  (51, ⟨[], [], false, false⟩),
  (52, ⟨[], [[1, 5, 6], [1, 5, 6, 7]], false, false⟩),
  (53, ⟨[], [], false, false⟩),
  (54, ⟨[], [[1, 5, 6, 12, 13]], false, false⟩),
  (55, ⟨[], [], false, false⟩),
  (56, ⟨[], [], false, false⟩),
  (57, ⟨[], [[0, 1, 4], [0, 1, 2, 3, 4, 9]], false, false⟩),
  (58, ⟨[], [], false, false⟩)]
theorem s3 : compS Try.prog 3 (anOf ans 3) = some a3 := by kernel_rfl
theorem s4 : compS Try.prog 4 (anOf ans 4) = some a4 := by kernel_rfl
theorem s5 : compS Try.prog 5 (anOf ans 5) = some a5 := by kernel_rfl
theorem s6 : compS Try.prog 6 (anOf ans 6) = some a6 := by kernel_rfl
theorem s7 : compS Try.prog 7 (anOf ans 7) = some a7 := by kernel_rfl
theorem s8 : compS Try.prog 8 (anOf ans 8) = some a8 := by kernel_rfl
theorem s9 : compS Try.prog 9 (anOf ans 9) = some a9 := by kernel_rfl
theorem s10 : compS Try.prog 10 (anOf ans 10) = some a10 := by kernel_rfl
theorem s11 : compS Try.prog 11 (anOf ans 11) = some a11 := by kernel_rfl
theorem s12 : compS Try.prog 12 (anOf ans 12) = some a12 := by kernel_rfl
theorem s13 : compS Try.prog 13 (anOf ans 13) = some a13 := by kernel_rfl
theorem s14 : compS Try.prog 14 (anOf ans 14) = some a14 := by kernel_rfl
theorem s15 : compS Try.prog 15 (anOf ans 15) = some a15 := by kernel_rfl
theorem s16 : compS Try.prog 16 (anOf ans 16) = some a16 := by kernel_rfl
theorem s17 : compS Try.prog 17 (anOf ans 17) = some a17 := by kernel_rfl
theorem s18 : compS Try.prog 18 (anOf ans 18) = some a18 := by kernel_rfl
theorem s19 : compS Try.prog 19 (anOf ans 19) = some a19 := by kernel_rfl
theorem s20 : compS Try.prog 20 (anOf ans 20) = some a20 := by kernel_rfl
theorem s21 : compS Try.prog 21 (anOf ans 21) = some a21 := by kernel_rfl
theorem s22 : compS Try.prog 22 (anOf ans 22) = some a22 := by kernel_rfl
theorem s23 : compS Try.prog 23 (anOf ans 23) = some a23 := by kernel_rfl
theorem s24 : compS Try.prog 24 (anOf ans 24) = some a24 := by kernel_rfl
theorem s25 : compS Try.prog 25 (anOf ans 25) = some a25 := by kernel_rfl
theorem s26 : compS Try.prog 26 (anOf ans 26) = some a26 := by kernel_rfl
theorem s27 : compS Try.prog 27 (anOf ans 27) = some a27 := by kernel_rfl
theorem s28 : compS Try.prog 28 (anOf ans 28) = some a28 := by kernel_rfl
theorem s29 : compS Try.prog 29 (anOf ans 29) = some a29 := by kernel_rfl
theorem s30 : compS Try.prog 30 (anOf ans 30) = some a30 := by kernel_rfl
theorem s31 : compS Try.prog 31 (anOf ans 31) = some a31 := by kernel_rfl
theorem s32 : compS Try.prog 32 (anOf ans 32) = some a32 := by kernel_rfl
theorem s33 : compS Try.prog 33 (anOf ans 33) = some a33 := by kernel_rfl
theorem s34 : compS Try.prog 34 (anOf ans 34) = some a34 := by kernel_rfl
theorem s35 : compS Try.prog 35 (anOf ans 35) = some a35 := by kernel_rfl
theorem s36 : compS Try.prog 36 (anOf ans 36) = some a36 := by kernel_rfl
theorem s37 : compS Try.prog 37 (anOf ans 37) = some a37 := by kernel_rfl
theorem s38 : compS Try.prog 38 (anOf ans 38) = some a38 := by kernel_rfl
theorem s39 : compS Try.prog 39 (anOf ans 39) = some a39 := by kernel_rfl
theorem s40 : compS Try.prog 40 (anOf ans 40) = some a40 := by kernel_rfl
theorem s41 : compS Try.prog 41 (anOf ans 41) = some a41 := by kernel_rfl
theorem s42 : compS Try.prog 42 (anOf ans 42) = some a42 := by kernel_rfl
theorem s43 : compS Try.prog 43 (anOf ans 43) = some a43 := by kernel_rfl
theorem s44 : compS Try.prog 44 (anOf ans 44) = some a44 := by kernel_rfl
theorem s45 : compS Try.prog 45 (anOf ans 45) = some a45 := by kernel_rfl
theorem s46 : compS Try.prog 46 (anOf ans 46) = some a46 := by kernel_rfl
theorem s47 : compS Try.prog 47 (anOf ans 47) = some a47 := by kernel_rfl
theorem s48 : compS Try.prog 48 (anOf ans 48) = some a48 := by kernel_rfl
theorem s49 : compS Try.prog 49 (anOf ans 49) = some a49 := by kernel_rfl
theorem s50 : compS Try.prog 50 (anOf ans 50) = some a50 := by kernel_rfl
theorem s51 : compS Try.prog 51 (anOf ans 51) = some a51 := by kernel_rfl
theorem s52 : compS Try.prog 52 (anOf ans 52) = some a52 := by kernel_rfl
theorem s53 : compS Try.prog 53 (anOf ans 53) = some a53 := by kernel_rfl
theorem s54 : compS Try.prog 54 (anOf ans 54) = some a54 := by kernel_rfl
theorem s55 : compS Try.prog 55 (anOf ans 55) = some a55 := by kernel_rfl
theorem s56 : compS Try.prog 56 (anOf ans 56) = some a56 := by kernel_rfl
theorem s57 : compS Try.prog 57 (anOf ans 57) = some a57 := by kernel_rfl
theorem s58 : compS Try.prog 58 (anOf ans 58) = some a58 := by kernel_rfl
def clones : List (Nat × Nat × Nat) := []
theorem clones_ok : ∀ f sz bytes, (f, sz, bytes) ∈ clones → 0 < sz ∧ ∃ an, compS Try.prog f an = some (cloneAF sz bytes) := by
  intro f sz bytes h
  cases h
noncomputable abbrev call : Phi := callU (progOf Try.prog (anOf ans)) (clonePr clones)
end Go.Proofs.Ytogleebbifpijaa
