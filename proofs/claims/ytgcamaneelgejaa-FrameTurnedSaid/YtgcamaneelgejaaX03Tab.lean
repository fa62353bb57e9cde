import Derived.Test.YtgcamaneelgejaaVib
import Derived.Test.YtgcamaneelgejaaChecked
import Derived.KernelRfl
set_option linter.unusedSimpArgs false
set_option linter.unusedVariables false
namespace Go.Proofs.Ytgcamaneelgejaa
open Go.Vi
/-! 3: wagoner/wagonerlaw03.FrameTells; loops: [] -/
def a3 : AF := ⟨92,
 (.seq
  (rg [
    o 6 (.mv (kb false))])
  (.seq
   (.seq
    (rg [
      o 17 (.mv (.t 0)),
      o 18 (.len true (.t 17)),
      o 19 (.bin .gtr (.t 18) (kc 70000)),
      o 20 (.mv (.t 19)),
      og 21 20 false (.mv (.t 1)),
      og 22 20 false (.len true (.t 21)),
      og 23 20 false (.bin .gtr (.t 22) (kc 2000)),
      o 24 (.pick (.t 20) (kb true) (.t 23))])
    (.cond (.t 24)
     (.seq
      (rg [
        o 25 (.callp 8 []),
        o 6 (.mv (.t 25))])
      .ret)
     .skip))
   (.seq
    (rg [
      o 27 (.mv (.t 0)),
      o 28 (.callp 9 [(.t 27)]),
      o 26 (.mv (.t 28)),
      o 29 (.ext (.t 26) 0),
      o 30 (.ext (.t 26) 1),
      o 7 (.mv (.t 29)),
      o 8 (.mv (.t 30))])
    (.seq
     (rg [
       o 32 (.mv (.t 0)),
       o 33 (.callp 10 [(.t 32)]),
       o 31 (.mv (.t 33)),
       o 34 (.ext (.t 31) 0),
       o 35 (.ext (.t 31) 1),
       o 9 (.mv (.t 34)),
       o 10 (.mv (.t 35))])
     (.seq
      (rg [
        o 37 (.mv (.t 1)),
        o 38 (.mv (.t 2)),
        o 39 (.callp 11 [(.t 37), (.t 38)]),
        o 36 (.mv (.t 39)),
        o 40 (.ext (.t 36) 0),
        o 41 (.ext (.t 36) 1),
        o 42 (.ext (.t 36) 2),
        o 11 (.mv (.t 40)),
        o 12 (.mv (.t 41)),
        o 13 (.mv (.t 42))])
      (.seq
       (rg [
         o 44 (.mv (.t 1)),
         o 45 (.mv (.t 2)),
         o 46 (.callp 12 [(.t 44), (.t 45)]),
         o 43 (.mv (.t 46)),
         o 47 (.ext (.t 43) 0),
         o 48 (.ext (.t 43) 1),
         o 49 (.ext (.t 43) 2),
         o 14 (.mv (.t 47)),
         o 15 (.mv (.t 48)),
         o 16 (.mv (.t 49))])
       (.seq
        (rg [
          o 50 (.callp 8 []),
          o 51 (.mv (.t 50)),
          og 52 51 true (.mv (.t 7)),
          og 53 51 true (.mv (.t 9)),
          og 54 51 true (.bin .eql (.t 52) (.t 53)),
          o 55 (.pick (.t 51) (.t 54) (kb false)),
          o 56 (.mv (.t 55)),
          og 57 56 true (.mv (.t 8)),
          og 58 56 true (.mv (.t 10)),
          og 59 56 true (.bin .eql (.t 57) (.t 58)),
          o 60 (.pick (.t 56) (.t 59) (kb false)),
          o 61 (.mv (.t 60)),
          og 62 61 true (.mv (.t 11)),
          og 63 61 true (.mv (.t 14)),
          og 64 61 true (.bin .eql (.t 62) (.t 63)),
          o 65 (.pick (.t 61) (.t 64) (kb false)),
          o 66 (.mv (.t 65)),
          og 67 66 true (.mv (.t 12)),
          og 68 66 true (.mv (.t 15)),
          og 69 66 true (.bin .eql (.t 67) (.t 68)),
          o 70 (.pick (.t 66) (.t 69) (kb false)),
          o 71 (.mv (.t 70)),
          og 72 71 true (.mv (.t 13)),
          og 73 71 true (.mv (.t 16)),
          og 74 71 true (.bin .eql (.t 72) (.t 73)),
          o 75 (.pick (.t 71) (.t 74) (kb false)),
          o 76 (.mv (.t 75)),
          og 77 76 true (.mv (.t 0)),
          og 78 76 true (.len true (.t 77)),
          og 79 76 true (.callp 13 [(.t 78)]),
          og 80 76 true (.mv (.t 0)),
          og 81 76 true (.len true (.t 80)),
          og 82 76 true (.callp 14 [(.t 81)]),
          og 83 76 true (.bin .eql (.t 79) (.t 82)),
          o 84 (.pick (.t 76) (.t 83) (kb false)),
          o 85 (.mv (.t 84)),
          og 86 85 true (.mv (.t 2)),
          og 87 85 true (.callp 13 [(.t 86)]),
          og 88 85 true (.mv (.t 2)),
          og 89 85 true (.callp 14 [(.t 88)]),
          og 90 85 true (.bin .eql (.t 87) (.t 89)),
          o 91 (.pick (.t 85) (.t 90) (kb false)),
          o 6 (.mv (.t 91))])
        .ret))))))),
 [.t 6], false⟩
/-! 4: wagoner/wagonerlaw03.FrameTurned; loops: [] -/
def a4 : AF := ⟨75,
 (.seq
  (rg [
    o 6 (.mv (kb false))])
  (.seq
   (rg [
     o 15 (.mv (.t 0)),
     o 16 (.callp 9 [(.t 15)]),
     o 14 (.mv (.t 16)),
     o 17 (.ext (.t 14) 0),
     o 18 (.ext (.t 14) 1),
     o 7 (.mv (.t 17)),
     o 8 (.mv (.t 18))])
   (.seq
    (.seq
     (rg [
       o 19 (.mv (.t 0)),
       o 20 (.len true (.t 19)),
       o 21 (.bin .gtr (.t 20) (kc 300)),
       o 22 (.mv (.t 21)),
       og 23 22 false (.mv (.t 8)),
       og 24 22 false (.bin .neq (.t 23) (kc 0)),
       o 25 (.pick (.t 22) (kb true) (.t 24)),
       o 26 (.mv (.t 25)),
       og 27 26 false (.mv (.t 2)),
       og 28 26 false (.bin .eql (.t 27) (kx (.d (.i .u8 0)))),
       o 29 (.pick (.t 26) (kb true) (.t 28)),
       o 30 (.mv (.t 29)),
       og 31 30 false (.mv (.t 7)),
       og 32 30 false (.len true (.t 31)),
       og 33 30 false (.mv (.t 0)),
       og 34 30 false (.len true (.t 33)),
       og 35 30 false (.bin .add (.t 34) (kc 5)),
       og 36 30 false (.bin .lss (.t 32) (.t 35)),
       o 37 (.pick (.t 30) (kb true) (.t 36))])
     (.cond (.t 37)
      (.seq
       (rg [
         o 38 (.callp 8 []),
         o 6 (.mv (.t 38))])
       .ret)
      .skip))
    (.seq
     (rg [
       o 39 (.mv (.t 7)),
       o 40 (.s2b (.t 39)),
       o 9 (.mv (.t 40))])
     (.seq
      (rg [
        o 41 (.mv (.t 7)),
        o 42 (.len true (.t 41)),
        o 43 (.mv (.t 0)),
        o 44 (.len true (.t 43)),
        o 45 (.bin .sub (.t 42) (.t 44)),
        o 46 (.bin .sub (.t 45) (kc 4)),
        o 47 (.mv (.t 1)),
        o 48 (.cvi .i64 (.t 47)),
        o 49 (.mv (.t 0)),
        o 50 (.len true (.t 49)),
        o 51 (.bin .add (.t 50) (kc 4)),
        o 52 (.bin .rem (.t 48) (.t 51)),
        o 53 (.bin .add (.t 46) (.t 52)),
        o 10 (.mv (.t 53))])
      (.seq
       (rg [
         o 54 (.mv (.t 9)),
         o 55 (.mv (.t 10)),
         o 56 (.mv (.t 9)),
         o 57 (.mv (.t 10)),
         o 58 (.ia 1 (.t 56) (.t 57)),
         o 59 (.ld none (.t 58)),
         o 60 (.mv (.t 2)),
         o 61 (.bin .xor (.t 59) (.t 60)),
         o 62 (.ia 1 (.t 54) (.t 55)),
         on (.st 1 (.t 62) (.t 61))])
       (.seq
        (rg [
          o 64 (.mv (.t 9)),
          o 65 (.b2s (.t 64)),
          o 66 (.callp 11 [(.t 65), (kc 0)]),
          o 63 (.mv (.t 66)),
          o 67 (.ext (.t 63) 0),
          o 68 (.ext (.t 63) 1),
          o 69 (.ext (.t 63) 2),
          o 11 (.mv (.t 67)),
          o 12 (.mv (.t 68)),
          o 13 (.mv (.t 69))])
        (.seq
         (rg [
           o 70 (.callp 8 []),
           o 71 (.mv (.t 70)),
           og 72 71 true (.mv (.t 13)),
           og 73 71 true (.bin .eql (.t 72) (kc 4)),
           o 74 (.pick (.t 71) (.t 73) (kb false)),
           o 6 (.mv (.t 74))])
         .ret)))))))),
 [.t 6], false⟩
/-! 5: wagoner/wagonerlaw03.FrameAll; loops: [] -/
def a5 : AF := ⟨41,
 (.seq
  (rg [
    o 2 (.mv (kb false))])
  (.seq
   (.seq
    (rg [
      o 9 (.mv (.t 0)),
      o 10 (.len true (.t 9)),
      o 11 (.bin .gtr (.t 10) (kc 2000))])
    (.cond (.t 11)
     (.seq
      (rg [
        o 12 (.callp 8 []),
        o 2 (.mv (.t 12))])
      .ret)
     .skip))
   (.seq
    (rg [
      o 14 (.mv (.t 0)),
      o 15 (.callp 15 [(.t 14)]),
      o 13 (.mv (.t 15)),
      o 16 (.ext (.t 13) 0),
      o 17 (.ext (.t 13) 1),
      o 18 (.ext (.t 13) 2),
      o 3 (.mv (.t 16)),
      o 4 (.mv (.t 17)),
      o 5 (.mv (.t 18))])
    (.seq
     (rg [
       o 20 (.mv (.t 0)),
       o 21 (.callp 16 [(.t 20)]),
       o 19 (.mv (.t 21)),
       o 22 (.ext (.t 19) 0),
       o 23 (.ext (.t 19) 1),
       o 24 (.ext (.t 19) 2),
       o 6 (.mv (.t 22)),
       o 7 (.mv (.t 23)),
       o 8 (.mv (.t 24))])
     (.seq
      (rg [
        o 25 (.callp 8 []),
        o 26 (.mv (.t 25)),
        og 27 26 true (.mv (.t 3)),
        og 28 26 true (.mv (.t 6)),
        og 29 26 true (.callp 17 [(.t 27), (.t 28)]),
        o 30 (.pick (.t 26) (.t 29) (kb false)),
        o 31 (.mv (.t 30)),
        og 32 31 true (.mv (.t 4)),
        og 33 31 true (.mv (.t 7)),
        og 34 31 true (.bin .eql (.t 32) (.t 33)),
        o 35 (.pick (.t 31) (.t 34) (kb false)),
        o 36 (.mv (.t 35)),
        og 37 36 true (.mv (.t 5)),
        og 38 36 true (.mv (.t 8)),
        og 39 36 true (.bin .eql (.t 37) (.t 38)),
        o 40 (.pick (.t 36) (.t 39) (kb false)),
        o 2 (.mv (.t 40))])
      .ret))))),
 [.t 2], false⟩
/-! 6: wagoner/wagonerlaw03.FrameBack; loops: [[0, 3, 4, 9]] -/
def a6_0 : AC :=
 (.seq
  (.seq
   (rg [
     o 42 (.mv (.t 9)),
     o 43 (.mv (.t 0)),
     o 44 (.len false (.t 43)),
     o 45 (.bin .lss (.t 42) (.t 44))])
   (.cond (.t 45)
    .skip
    (.exit 0)))
  (.seq
   (.block 1
    (.seq
     (rg [
       o 49 (.mv (.t 3)),
       o 50 (.mv (.t 4)),
       o 51 (.mv (.t 9)),
       o 52 (.ia 1 (.t 50) (.t 51)),
       o 53 (.ld none (.t 52)),
       o 54 (.callp 11 [(.t 49), (.t 53)]),
       o 48 (.mv (.t 54)),
       o 55 (.ext (.t 48) 0),
       o 56 (.ext (.t 48) 1),
       o 57 (.ext (.t 48) 2),
       o 10 (.mv (.t 55)),
       o 11 (.mv (.t 56)),
       o 12 (.mv (.t 57))])
     (.seq
      (rg [
        o 58 (.mv (.t 10)),
        o 59 (.mv (.t 0)),
        o 60 (.mv (.t 9)),
        o 61 (.ia 1 (.t 59) (.t 60)),
        o 62 (.ld none (.t 61)),
        o 63 (.bin .neq (.t 58) (.t 62)),
        o 64 (.mv (.t 63)),
        og 65 64 false (.mv (.t 11)),
        og 66 64 false (.mv (.t 4)),
        og 67 64 false (.mv (.t 9)),
        og 68 64 false (.bin .add (.t 67) (kc 1)),
        og 69 64 false (.ia 1 (.t 66) (.t 68)),
        og 70 64 false (.ld none (.t 69)),
        og 71 64 false (.bin .neq (.t 65) (.t 70)),
        o 72 (.pick (.t 64) (kb true) (.t 71)),
        o 73 (.mv (.t 72)),
        og 74 73 false (.mv (.t 12)),
        og 75 73 false (.bin .neq (.t 74) (kc 0)),
        o 76 (.pick (.t 73) (kb true) (.t 75)),
        o 77 (.mv (.t 76)),
        og 78 77 false (.mv (.t 11)),
        og 79 77 false (.mv (.t 4)),
        og 80 77 false (.mv (.t 9)),
        og 81 77 false (.ia 1 (.t 79) (.t 80)),
        og 82 77 false (.ld none (.t 81)),
        og 83 77 false (.bin .sub (.t 78) (.t 82)),
        og 84 77 false (.mv (.t 10)),
        og 85 77 false (.len true (.t 84)),
        og 86 77 false (.callp 13 [(.t 85)]),
        og 87 77 false (.bin .neq (.t 83) (.t 86)),
        o 88 (.pick (.t 77) (kb true) (.t 87))])
      (.cond (.t 88)
       (.seq
        (rg [
          o 2 (.mv (kb false))])
        .ret)
       .skip))))
   (rg [
     o 46 (.mv (.t 9)),
     o 47 (.bin .add (.t 46) (kc 1)),
     o 9 (.mv (.t 47))])))
def a6 : AF := ⟨90,
 (.seq
  (rg [
    o 2 (.mv (kb false))])
  (.seq
   (rg [
     o 14 (.mv (.t 0)),
     o 15 (.callp 18 [(.t 14)]),
     o 13 (.mv (.t 15)),
     o 16 (.ext (.t 13) 0),
     o 17 (.ext (.t 13) 1),
     o 18 (.ext (.t 13) 2),
     o 3 (.mv (.t 16)),
     o 4 (.mv (.t 17)),
     o 5 (.mv (.t 18))])
   (.seq
    (.seq
     (rg [
       o 19 (.mv (.t 5)),
       o 20 (.un .not (.t 19))])
     (.cond (.t 20)
      (.seq
       (rg [
         o 21 (.callp 8 []),
         o 2 (.mv (.t 21))])
       .ret)
      .skip))
    (.seq
     (rg [
       o 23 (.mv (.t 3)),
       o 24 (.callp 15 [(.t 23)]),
       o 22 (.mv (.t 24)),
       o 25 (.ext (.t 22) 0),
       o 26 (.ext (.t 22) 1),
       o 27 (.ext (.t 22) 2),
       o 6 (.mv (.t 25)),
       o 7 (.mv (.t 26)),
       o 8 (.mv (.t 27))])
     (.seq
      (.seq
       (rg [
         o 28 (.mv (.t 0)),
         o 29 (.mv (.t 6)),
         o 30 (.callp 17 [(.t 28), (.t 29)]),
         o 31 (.un .not (.t 30)),
         o 32 (.mv (.t 31)),
         og 33 32 false (.mv (.t 7)),
         og 34 32 false (.mv (.t 3)),
         og 35 32 false (.len true (.t 34)),
         og 36 32 false (.bin .neq (.t 33) (.t 35)),
         o 37 (.pick (.t 32) (kb true) (.t 36)),
         o 38 (.mv (.t 37)),
         og 39 38 false (.mv (.t 8)),
         og 40 38 false (.bin .neq (.t 39) (kc 0)),
         o 41 (.pick (.t 38) (kb true) (.t 40))])
       (.cond (.t 41)
        (.seq
         (rg [
           o 2 (.mv (kb false))])
         .ret)
        .skip))
      (.seq
       (.seq
        (rg [
          o 9 (.mv (kc 0))])
        (.block 0
         (.loop [0, 3, 4, 9] a6_0)))
       (.seq
        (rg [
          o 89 (.callp 8 []),
          o 2 (.mv (.t 89))])
        .ret))))))),
 [.t 2], false⟩
/-! 7: wagoner/wagonerlaw03.FrameCut; loops: [[0, 5, 6, 8, 9]] -/
def a7_0 : AC :=
 (.seq
  (.seq
   (rg [
     o 29 (.mv (.t 9)),
     o 30 (.bin .add (.t 29) (kc 1)),
     o 31 (.mv (.t 6)),
     o 32 (.len false (.t 31)),
     o 33 (.bin .lss (.t 30) (.t 32)),
     o 34 (.mv (.t 33)),
     og 35 34 true (.mv (.t 6)),
     og 36 34 true (.mv (.t 9)),
     og 37 34 true (.bin .add (.t 36) (kc 1)),
     og 38 34 true (.ia 1 (.t 35) (.t 37)),
     og 39 34 true (.ld none (.t 38)),
     og 40 34 true (.mv (.t 8)),
     og 41 34 true (.bin .leq (.t 39) (.t 40)),
     o 42 (.pick (.t 34) (.t 41) (kb false))])
   (.cond (.t 42)
    .skip
    (.exit 0)))
  (.block 1
   (rg [
     o 43 (.mv (.t 9)),
     o 44 (.bin .add (.t 43) (kc 1)),
     o 9 (.mv (.t 44))])))
def a7 : AF := ⟨80,
 (.seq
  (rg [
    o 4 (.mv (kb false))])
  (.seq
   (rg [
     o 15 (.mv (.t 0)),
     o 16 (.callp 18 [(.t 15)]),
     o 14 (.mv (.t 16)),
     o 17 (.ext (.t 14) 0),
     o 18 (.ext (.t 14) 1),
     o 19 (.ext (.t 14) 2),
     o 5 (.mv (.t 17)),
     o 6 (.mv (.t 18)),
     o 7 (.mv (.t 19))])
   (.seq
    (.seq
     (rg [
       o 20 (.mv (.t 7)),
       o 21 (.un .not (.t 20))])
     (.cond (.t 21)
      (.seq
       (rg [
         o 22 (.callp 8 []),
         o 4 (.mv (.t 22))])
       .ret)
      .skip))
    (.seq
     (rg [
       o 23 (.mv (.t 1)),
       o 24 (.cvi .i64 (.t 23)),
       o 25 (.mv (.t 5)),
       o 26 (.len true (.t 25)),
       o 27 (.bin .add (.t 26) (kc 1)),
       o 28 (.bin .rem (.t 24) (.t 27)),
       o 8 (.mv (.t 28))])
     (.seq
      (rg [
        o 9 (.mv (kc 0))])
      (.seq
       (.block 0
        (.loop [0, 5, 6, 8, 9] a7_0))
       (.seq
        (rg [
          o 46 (.mv (.t 5)),
          o 47 (.mv (.t 8)),
          o 48 (.sls (.t 46) none (some (.t 47))),
          o 49 (.callp 15 [(.t 48)]),
          o 45 (.mv (.t 49)),
          o 50 (.ext (.t 45) 0),
          o 51 (.ext (.t 45) 1),
          o 52 (.ext (.t 45) 2),
          o 10 (.mv (.t 50)),
          o 11 (.mv (.t 51)),
          o 12 (.mv (.t 52))])
        (.seq
         (rg [
           o 13 (.mv (kc 2))])
         (.seq
          (.seq
           (rg [
             o 53 (.mv (.t 6)),
             o 54 (.mv (.t 9)),
             o 55 (.ia 1 (.t 53) (.t 54)),
             o 56 (.ld none (.t 55)),
             o 57 (.mv (.t 8)),
             o 58 (.bin .eql (.t 56) (.t 57))])
           (.cond (.t 58)
            (rg [
              o 13 (.mv (kc 0))])
            .skip))
          (.seq
           (rg [
             o 59 (.callp 8 []),
             o 60 (.mv (.t 59)),
             og 61 60 true (.mv (.t 10)),
             og 62 60 true (.mv (.t 0)),
             og 63 60 true (.mv (.t 9)),
             og 64 60 true (.slc 1 (.t 62) none (some (.t 63)) none),
             og 65 60 true (.callp 17 [(.t 61), (.t 64)]),
             o 66 (.pick (.t 60) (.t 65) (kb false)),
             o 67 (.mv (.t 66)),
             og 68 67 true (.mv (.t 11)),
             og 69 67 true (.mv (.t 6)),
             og 70 67 true (.mv (.t 9)),
             og 71 67 true (.ia 1 (.t 69) (.t 70)),
             og 72 67 true (.ld none (.t 71)),
             og 73 67 true (.bin .eql (.t 68) (.t 72)),
             o 74 (.pick (.t 67) (.t 73) (kb false)),
             o 75 (.mv (.t 74)),
             og 76 75 true (.mv (.t 12)),
             og 77 75 true (.mv (.t 13)),
             og 78 75 true (.bin .eql (.t 76) (.t 77)),
             o 79 (.pick (.t 75) (.t 78) (kb false)),
             o 4 (.mv (.t 79))])
           .ret)))))))))),
 [.t 4], false⟩
/-! 8: wagoner/wagonerlaw03.awake; loops: [] -/
def a8 : AF := ⟨41,
 (.seq
  (rg [
    o 0 (.mv (kb false))])
  (.seq
   (rg [
     o 7 (.callp 9 [(ks [97])]),
     o 6 (.mv (.t 7)),
     o 8 (.ext (.t 6) 0),
     o 9 (.ext (.t 6) 1),
     o 1 (.mv (.t 8)),
     o 2 (.mv (.t 9))])
   (.seq
    (rg [
      o 11 (.mv (.t 1)),
      o 12 (.bin .add (ks [120]) (.t 11)),
      o 13 (.bin .add (.t 12) (ks [121])),
      o 14 (.callp 11 [(.t 13), (kc 1)]),
      o 10 (.mv (.t 14)),
      o 15 (.ext (.t 10) 0),
      o 16 (.ext (.t 10) 1),
      o 17 (.ext (.t 10) 2),
      o 3 (.mv (.t 15)),
      o 4 (.mv (.t 16)),
      o 5 (.mv (.t 17))])
    (.seq
     (rg [
       o 18 (.mv (.t 2)),
       o 19 (.bin .eql (.t 18) (kc 0)),
       o 20 (.mv (.t 19)),
       og 21 20 true (.mv (.t 5)),
       og 22 20 true (.bin .eql (.t 21) (kc 0)),
       o 23 (.pick (.t 20) (.t 22) (kb false)),
       o 24 (.mv (.t 23)),
       og 25 24 true (.mv (.t 1)),
       og 26 24 true (.len true (.t 25)),
       og 27 24 true (.bin .eql (.t 26) (kc 6)),
       o 28 (.pick (.t 24) (.t 27) (kb false)),
       o 29 (.mv (.t 28)),
       og 30 29 true (.mv (.t 3)),
       og 31 29 true (.bin .eql (.t 30) (ks [97])),
       o 32 (.pick (.t 29) (.t 31) (kb false)),
       o 33 (.mv (.t 32)),
       og 34 33 true (.mv (.t 4)),
       og 35 33 true (.bin .eql (.t 34) (kc 7)),
       o 36 (.pick (.t 33) (.t 35) (kb false)),
       o 37 (.mv (.t 36)),
       og 38 37 true (.callp 13 [(kc 1)]),
       og 39 37 true (.bin .eql (.t 38) (kc 6)),
       o 40 (.pick (.t 37) (.t 39) (kb false)),
       o 0 (.mv (.t 40))])
     .ret)))),
 [.t 0], false⟩
/-! 9: wagoner/frame.Put; loops: [] -/
def a9 : AF := ⟨21,
 (.seq
  (rg [
    o 2 (.mv (ks [])),
    o 3 (.mv (kc 0))])
  (.seq
   (.seq
    (rg [
      o 5 (.mv (.t 0)),
      o 6 (.len true (.t 5)),
      o 7 (.callp 19 [(.t 6)]),
      o 8 (.un .not (.t 7))])
    (.cond (.t 8)
     (.seq
      (rg [
        o 2 (.mv (ks [])),
        o 3 (.mv (kc 5))])
      .ret)
     .skip))
   (.seq
    (rg [
      o 9 (.mv (.t 0)),
      o 10 (.len true (.t 9)),
      o 11 (.callp 20 [(.t 10)]),
      o 4 (.mv (.t 11))])
    (.seq
     (rg [
       o 12 (.mv (.t 4)),
       o 13 (.mv (.t 4)),
       o 14 (.mv (.t 0)),
       o 15 (.bsl 1 [[.s []], [.s []]] [(0, (.t 13)), (1, (.t 14))]),
       o 16 (.callz 22 [(.t 15)]),
       o 17 (.callp 21 [(.t 16)]),
       o 18 (.bin .add (.t 12) (.t 17)),
       o 19 (.mv (.t 0)),
       o 20 (.bin .add (.t 18) (.t 19)),
       o 2 (.mv (.t 20)),
       o 3 (.mv (kc 0))])
     .ret)))),
 [.t 2, .t 3], false⟩
/-! 10: wagoner/wagonerref03.Put; loops: [] -/
def a10 : AF := ⟨25,
 (.seq
  (rg [
    o 2 (.mv (ks [])),
    o 3 (.mv (kc 0))])
  (.seq
   (.seq
    (rg [
      o 5 (.mv (.t 0)),
      o 6 (.len true (.t 5)),
      o 7 (.bin .lss (.t 6) (kc 1)),
      o 8 (.mv (.t 7)),
      og 9 8 false (.mv (.t 0)),
      og 10 8 false (.len true (.t 9)),
      og 11 8 false (.bin .gtr (.t 10) (kc 65536)),
      o 12 (.pick (.t 8) (kb true) (.t 11))])
    (.cond (.t 12)
     (.seq
      (rg [
        o 2 (.mv (ks [])),
        o 3 (.mv (kc 5))])
      .ret)
     .skip))
   (.seq
    (rg [
      o 13 (.mv (.t 0)),
      o 14 (.len true (.t 13)),
      o 15 (.callp 23 [(.t 14)]),
      o 4 (.mv (.t 15))])
    (.seq
     (rg [
       o 16 (.mv (.t 4)),
       o 17 (.mv (.t 4)),
       o 18 (.mv (.t 0)),
       o 19 (.bin .add (.t 17) (.t 18)),
       o 20 (.callp 25 [(.t 19)]),
       o 21 (.callp 24 [(.t 20)]),
       o 22 (.bin .add (.t 16) (.t 21)),
       o 23 (.mv (.t 0)),
       o 24 (.bin .add (.t 22) (.t 23)),
       o 2 (.mv (.t 24)),
       o 3 (.mv (kc 0))])
     .ret)))),
 [.t 2, .t 3], false⟩
/-! 11: wagoner/frame.Next; loops: [] -/
def a11 : AF := ⟨73,
 (.seq
  (rg [
    o 4 (.mv (ks [])),
    o 5 (.mv (kc 0)),
    o 6 (.mv (kc 0))])
  (.seq
   (.seq
    (rg [
      o 12 (.mv (.t 1)),
      o 13 (.bin .lss (.t 12) (kc 0)),
      o 14 (.mv (.t 13)),
      og 15 14 false (.mv (.t 1)),
      og 16 14 false (.mv (.t 0)),
      og 17 14 false (.len true (.t 16)),
      og 18 14 false (.bin .geq (.t 15) (.t 17)),
      o 19 (.pick (.t 14) (kb true) (.t 18)),
      o 20 (.mv (.t 19)),
      og 21 20 false (.mv (.t 0)),
      og 22 20 false (.mv (.t 1)),
      og 23 20 false (.sls (.t 21) (some (.t 22)) none),
      og 24 20 false (.callp 26 [(.t 23)]),
      o 25 (.pick (.t 20) (kb true) (.t 24))])
    (.cond (.t 25)
     (.seq
      (rg [
        o 4 (.mv (ks [])),
        o 5 (.mv (kc 0)),
        o 6 (.mv (kc 2))])
      .ret)
     .skip))
   (.seq
    (rg [
      o 27 (.mv (.t 0)),
      o 28 (.mv (.t 1)),
      o 29 (.callp 27 [(.t 27), (.t 28)]),
      o 26 (.mv (.t 29)),
      o 30 (.ext (.t 26) 0),
      o 31 (.ext (.t 26) 1),
      o 32 (.ext (.t 26) 2),
      o 7 (.mv (.t 30)),
      o 8 (.mv (.t 31)),
      o 9 (.mv (.t 32))])
    (.seq
     (.seq
      (rg [
        o 33 (.mv (.t 9)),
        o 34 (.un .not (.t 33)),
        o 35 (.mv (.t 34)),
        og 36 35 false (.mv (.t 7)),
        og 37 35 false (.callp 19 [(.t 36)]),
        og 38 35 false (.un .not (.t 37)),
        o 39 (.pick (.t 35) (kb true) (.t 38))])
      (.cond (.t 39)
       (.seq
        (rg [
          o 4 (.mv (ks [])),
          o 5 (.mv (kc 0)),
          o 6 (.mv (kc 3))])
        .ret)
       .skip))
     (.seq
      (rg [
        o 40 (.mv (.t 0)),
        o 41 (.mv (.t 1)),
        o 42 (.mv (.t 8)),
        o 43 (.sls (.t 40) (some (.t 41)) (some (.t 42))),
        o 10 (.mv (.t 43))])
      (.seq
       (rg [
         o 44 (.mv (.t 8)),
         o 45 (.bin .add (.t 44) (kc 4)),
         o 8 (.mv (.t 45))])
       (.seq
        (.seq
         (rg [
           o 46 (.mv (.t 7)),
           o 47 (.mv (.t 0)),
           o 48 (.len true (.t 47)),
           o 49 (.mv (.t 8)),
           o 50 (.bin .sub (.t 48) (.t 49)),
           o 51 (.bin .gtr (.t 46) (.t 50))])
         (.cond (.t 51)
          (.seq
           (rg [
             o 4 (.mv (ks [])),
             o 5 (.mv (kc 0)),
             o 6 (.mv (kc 2))])
           .ret)
          .skip))
        (.seq
         (rg [
           o 52 (.mv (.t 0)),
           o 53 (.mv (.t 8)),
           o 54 (.mv (.t 8)),
           o 55 (.mv (.t 7)),
           o 56 (.bin .add (.t 54) (.t 55)),
           o 57 (.sls (.t 52) (some (.t 53)) (some (.t 56))),
           o 11 (.mv (.t 57))])
         (.seq
          (.seq
           (rg [
             o 58 (.mv (.t 10)),
             o 59 (.mv (.t 11)),
             o 60 (.bsl 1 [[.s []], [.s []]] [(0, (.t 58)), (1, (.t 59))]),
             o 61 (.callz 22 [(.t 60)]),
             o 62 (.callp 21 [(.t 61)]),
             o 63 (.mv (.t 0)),
             o 64 (.mv (.t 8)),
             o 65 (.bin .sub (.t 64) (kc 4)),
             o 66 (.mv (.t 8)),
             o 67 (.sls (.t 63) (some (.t 65)) (some (.t 66))),
             o 68 (.bin .neq (.t 62) (.t 67))])
           (.cond (.t 68)
            (.seq
             (rg [
               o 4 (.mv (ks [])),
               o 5 (.mv (kc 0)),
               o 6 (.mv (kc 4))])
             .ret)
            .skip))
          (.seq
           (rg [
             o 69 (.mv (.t 11)),
             o 70 (.mv (.t 8)),
             o 71 (.mv (.t 7)),
             o 72 (.bin .add (.t 70) (.t 71)),
             o 4 (.mv (.t 69)),
             o 5 (.mv (.t 72)),
             o 6 (.mv (kc 0))])
           .ret)))))))))),
 [.t 4, .t 5, .t 6], false⟩
/-! 12: wagoner/wagonerref03.Next; loops: [] -/
def a12 : AF := ⟨77,
 (.seq
  (rg [
    o 4 (.mv (ks [])),
    o 5 (.mv (kc 0)),
    o 6 (.mv (kc 0))])
  (.seq
   (.seq
    (rg [
      o 13 (.mv (.t 1)),
      o 14 (.bin .lss (.t 13) (kc 0)),
      o 15 (.mv (.t 14)),
      og 16 15 false (.mv (.t 1)),
      og 17 15 false (.mv (.t 0)),
      og 18 15 false (.len true (.t 17)),
      og 19 15 false (.bin .geq (.t 16) (.t 18)),
      o 20 (.pick (.t 15) (kb true) (.t 19)),
      o 21 (.mv (.t 20)),
      og 22 21 false (.mv (.t 0)),
      og 23 21 false (.mv (.t 1)),
      og 24 21 false (.callp 28 [(.t 22), (.t 23)]),
      o 25 (.pick (.t 21) (kb true) (.t 24))])
    (.cond (.t 25)
     (.seq
      (rg [
        o 4 (.mv (ks [])),
        o 5 (.mv (kc 0)),
        o 6 (.mv (kc 2))])
      .ret)
     .skip))
   (.seq
    (rg [
      o 27 (.mv (.t 0)),
      o 28 (.mv (.t 1)),
      o 29 (.callp 29 [(.t 27), (.t 28)]),
      o 26 (.mv (.t 29)),
      o 30 (.ext (.t 26) 0),
      o 31 (.ext (.t 26) 1),
      o 32 (.ext (.t 26) 2),
      o 7 (.mv (.t 30)),
      o 8 (.mv (.t 31)),
      o 9 (.mv (.t 32))])
    (.seq
     (.seq
      (rg [
        o 33 (.mv (.t 9)),
        o 34 (.un .not (.t 33)),
        o 35 (.mv (.t 34)),
        og 36 35 false (.mv (.t 7)),
        og 37 35 false (.bin .lss (.t 36) (kc 1)),
        o 38 (.pick (.t 35) (kb true) (.t 37)),
        o 39 (.mv (.t 38)),
        og 40 39 false (.mv (.t 7)),
        og 41 39 false (.bin .gtr (.t 40) (kc 65536)),
        o 42 (.pick (.t 39) (kb true) (.t 41))])
      (.cond (.t 42)
       (.seq
        (rg [
          o 4 (.mv (ks [])),
          o 5 (.mv (kc 0)),
          o 6 (.mv (kc 3))])
        .ret)
       .skip))
     (.seq
      (.seq
       (rg [
         o 43 (.mv (.t 0)),
         o 44 (.len true (.t 43)),
         o 45 (.mv (.t 8)),
         o 46 (.bin .sub (.t 44) (.t 45)),
         o 47 (.mv (.t 7)),
         o 48 (.bin .add (kc 4) (.t 47)),
         o 49 (.bin .lss (.t 46) (.t 48))])
       (.cond (.t 49)
        (.seq
         (rg [
           o 4 (.mv (ks [])),
           o 5 (.mv (kc 0)),
           o 6 (.mv (kc 2))])
         .ret)
        .skip))
      (.seq
       (rg [
         o 50 (.mv (.t 0)),
         o 51 (.mv (.t 8)),
         o 52 (.bin .add (.t 51) (kc 4)),
         o 53 (.mv (.t 8)),
         o 54 (.bin .add (.t 53) (kc 4)),
         o 55 (.mv (.t 7)),
         o 56 (.bin .add (.t 54) (.t 55)),
         o 57 (.sls (.t 50) (some (.t 52)) (some (.t 56))),
         o 10 (.mv (.t 57))])
       (.seq
        (.seq
         (rg [
           o 59 (.mv (.t 10)),
           o 60 (.callp 10 [(.t 59)]),
           o 58 (.mv (.t 60)),
           o 61 (.ext (.t 58) 0),
           o 62 (.ext (.t 58) 1),
           o 11 (.mv (.t 61)),
           o 12 (.mv (.t 62))])
         (.seq
          (rg [
            o 63 (.mv (.t 11)),
            o 64 (.mv (.t 0)),
            o 65 (.mv (.t 1)),
            o 66 (.mv (.t 8)),
            o 67 (.bin .add (.t 66) (kc 4)),
            o 68 (.mv (.t 7)),
            o 69 (.bin .add (.t 67) (.t 68)),
            o 70 (.sls (.t 64) (some (.t 65)) (some (.t 69))),
            o 71 (.bin .neq (.t 63) (.t 70))])
          (.cond (.t 71)
           (.seq
            (rg [
              o 4 (.mv (ks [])),
              o 5 (.mv (kc 0)),
              o 6 (.mv (kc 4))])
            .ret)
           .skip)))
        (.seq
         (rg [
           o 72 (.mv (.t 10)),
           o 73 (.mv (.t 8)),
           o 74 (.bin .add (.t 73) (kc 4)),
           o 75 (.mv (.t 7)),
           o 76 (.bin .add (.t 74) (.t 75)),
           o 4 (.mv (.t 72)),
           o 5 (.mv (.t 76)),
           o 6 (.mv (kc 0))])
         .ret)))))))),
 [.t 4, .t 5, .t 6], false⟩
/-! 13: wagoner/frame.Size; loops: [] -/
def a13 : AF := ⟨11,
 (.seq
  (rg [
    o 2 (.mv (kc 0))])
  (.seq
   (.seq
    (rg [
      o 3 (.mv (.t 0)),
      o 4 (.callp 19 [(.t 3)]),
      o 5 (.un .not (.t 4))])
    (.cond (.t 5)
     (.seq
      (rg [
        o 2 (.mv (kc 0))])
      .ret)
     .skip))
   (.seq
    (rg [
      o 6 (.mv (.t 0)),
      o 7 (.callp 30 [(.t 6)]),
      o 8 (.bin .add (.t 7) (kc 4)),
      o 9 (.mv (.t 0)),
      o 10 (.bin .add (.t 8) (.t 9)),
      o 2 (.mv (.t 10))])
    .ret))),
 [.t 2], false⟩
/-! 14: wagoner/wagonerref03.Size; loops: [] -/
def a14 : AF := ⟨14,
 (.seq
  (rg [
    o 2 (.mv (kc 0))])
  (.seq
   (.seq
    (rg [
      o 3 (.mv (.t 0)),
      o 4 (.bin .lss (.t 3) (kc 1)),
      o 5 (.mv (.t 4)),
      og 6 5 false (.mv (.t 0)),
      og 7 5 false (.bin .gtr (.t 6) (kc 65536)),
      o 8 (.pick (.t 5) (kb true) (.t 7))])
    (.cond (.t 8)
     (.seq
      (rg [
        o 2 (.mv (kc 0))])
      .ret)
     .skip))
   (.seq
    (rg [
      o 9 (.mv (.t 0)),
      o 10 (.callp 31 [(.t 9)]),
      o 11 (.bin .add (.t 10) (kc 4)),
      o 12 (.mv (.t 0)),
      o 13 (.bin .add (.t 11) (.t 12)),
      o 2 (.mv (.t 13))])
    .ret))),
 [.t 2], false⟩
/-! 15: wagoner/frame.All; loops: [[0, 5, 6]] -/
def a15_0 : AC :=
 (.seq
  (.seq
   (rg [
     o 10 (.mv (.t 6)),
     o 11 (.mv (.t 0)),
     o 12 (.len true (.t 11)),
     o 13 (.bin .lss (.t 10) (.t 12))])
   (.cond (.t 13)
    .skip
    (.exit 0)))
  (.block 1
   (.seq
    (rg [
      o 15 (.mv (.t 0)),
      o 16 (.mv (.t 6)),
      o 17 (.callp 11 [(.t 15), (.t 16)]),
      o 14 (.mv (.t 17)),
      o 18 (.ext (.t 14) 0),
      o 19 (.ext (.t 14) 1),
      o 20 (.ext (.t 14) 2),
      o 7 (.mv (.t 18)),
      o 8 (.mv (.t 19)),
      o 9 (.mv (.t 20))])
    (.seq
     (.seq
      (rg [
        o 21 (.mv (.t 9)),
        o 22 (.bin .neq (.t 21) (kc 0))])
      (.cond (.t 22)
       (.seq
        (rg [
          o 23 (.mv (.t 5)),
          o 24 (.mv (.t 6)),
          o 25 (.mv (.t 9)),
          o 2 (.mv (.t 23)),
          o 3 (.mv (.t 24)),
          o 4 (.mv (.t 25))])
        .ret)
       .skip))
     (rg [
       o 26 (.mv (.t 5)),
       o 27 (.mv (.t 7)),
       o 28 (.bsl 1 [[.s []]] [(0, (.t 27))]),
       o 29 (.app false 1 16 (.t 26) (.t 28)),
       o 30 (.mv (.t 8)),
       o 5 (.mv (.t 29)),
       o 6 (.mv (.t 30))])))))
def a15 : AF := ⟨34,
 (.seq
  (rg [
    oz 2 (.mv (kx (.ns))),
    o 3 (.mv (kc 0)),
    o 4 (.mv (kc 0))])
  (.seq
   (rg [
     o 5 (.own 1)])
   (.seq
    (.seq
     (rg [
       o 6 (.mv (kc 0))])
     (.block 0
      (.loop [0, 5, 6] a15_0)))
    (.seq
     (rg [
       o 31 (.mv (.t 5)),
       o 32 (.mv (.t 0)),
       o 33 (.len true (.t 32)),
       o 2 (.mv (.t 31)),
       o 3 (.mv (.t 33)),
       o 4 (.mv (kc 0))])
     .ret)))),
 [.t 2, .t 3, .t 4], false⟩
/-! 16: wagoner/wagonerref03.All; loops: [[0, 5, 6]] -/
def a16_0 : AC :=
 (.seq
  (.seq
   (rg [
     o 10 (.mv (.t 6)),
     o 11 (.mv (.t 0)),
     o 12 (.len true (.t 11)),
     o 13 (.bin .lss (.t 10) (.t 12))])
   (.cond (.t 13)
    .skip
    (.exit 0)))
  (.block 1
   (.seq
    (rg [
      o 15 (.mv (.t 0)),
      o 16 (.mv (.t 6)),
      o 17 (.callp 12 [(.t 15), (.t 16)]),
      o 14 (.mv (.t 17)),
      o 18 (.ext (.t 14) 0),
      o 19 (.ext (.t 14) 1),
      o 20 (.ext (.t 14) 2),
      o 7 (.mv (.t 18)),
      o 8 (.mv (.t 19)),
      o 9 (.mv (.t 20))])
    (.seq
     (.seq
      (rg [
        o 21 (.mv (.t 9)),
        o 22 (.bin .neq (.t 21) (kc 0))])
      (.cond (.t 22)
       (.seq
        (rg [
          o 23 (.mv (.t 5)),
          o 24 (.mv (.t 6)),
          o 25 (.mv (.t 9)),
          o 2 (.mv (.t 23)),
          o 3 (.mv (.t 24)),
          o 4 (.mv (.t 25))])
        .ret)
       .skip))
     (.seq
      (rg [
        o 26 (.mv (.t 5)),
        o 27 (.mv (.t 7)),
        o 28 (.bsl 1 [[.s []]] [(0, (.t 27))]),
        o 29 (.app false 1 16 (.t 26) (.t 28)),
        o 5 (.mv (.t 29))])
      (rg [
        o 30 (.mv (.t 8)),
        o 6 (.mv (.t 30))]))))))
def a16 : AF := ⟨33,
 (.seq
  (rg [
    oz 2 (.mv (kx (.ns))),
    o 3 (.mv (kc 0)),
    o 4 (.mv (kc 0))])
  (.seq
   (rg [
     o 5 (.own 1)])
   (.seq
    (rg [
      o 6 (.mv (kc 0))])
    (.seq
     (.block 0
      (.loop [0, 5, 6] a16_0))
     (.seq
      (rg [
        o 31 (.mv (.t 5)),
        o 32 (.mv (.t 6)),
        o 2 (.mv (.t 31)),
        o 3 (.mv (.t 32)),
        o 4 (.mv (kc 0))])
      .ret))))),
 [.t 2, .t 3, .t 4], false⟩
/-! 17: wagoner/wagonerref03.Same; loops: [[0, 1, 5]] -/
def a17_0 : AC :=
 (.seq
  (.seq
   (rg [
     o 11 (.mv (.t 5)),
     o 12 (.mv (.t 0)),
     o 13 (.len false (.t 12)),
     o 14 (.bin .lss (.t 11) (.t 13))])
   (.cond (.t 14)
    .skip
    (.exit 0)))
  (.seq
   (.block 1
    (.seq
     (rg [
       o 17 (.mv (.t 0)),
       o 18 (.mv (.t 5)),
       o 19 (.ia 1 (.t 17) (.t 18)),
       o 20 (.ld none (.t 19)),
       o 21 (.mv (.t 1)),
       o 22 (.mv (.t 5)),
       o 23 (.ia 1 (.t 21) (.t 22)),
       o 24 (.ld none (.t 23)),
       o 25 (.bin .neq (.t 20) (.t 24))])
     (.cond (.t 25)
      (.seq
       (rg [
         o 4 (.mv (kb false))])
       .ret)
      .skip)))
   (rg [
     o 15 (.mv (.t 5)),
     o 16 (.bin .add (.t 15) (kc 1)),
     o 5 (.mv (.t 16))])))
def a17 : AF := ⟨26,
 (.seq
  (rg [
    o 4 (.mv (kb false))])
  (.seq
   (.seq
    (rg [
      o 6 (.mv (.t 0)),
      o 7 (.len false (.t 6)),
      o 8 (.mv (.t 1)),
      o 9 (.len false (.t 8)),
      o 10 (.bin .neq (.t 7) (.t 9))])
    (.cond (.t 10)
     (.seq
      (rg [
        o 4 (.mv (kb false))])
      .ret)
     .skip))
   (.seq
    (.seq
     (rg [
       o 5 (.mv (kc 0))])
     (.block 0
      (.loop [0, 1, 5] a17_0)))
    (.seq
     (rg [
       o 4 (.mv (kb true))])
     .ret)))),
 [.t 4], false⟩
/-! 18: wagoner/wagonerlaw03.row; loops: [[0, 5, 6, 7]] -/
def a18_0 : AC :=
 (.seq
  (.seq
   (rg [
     o 14 (.mv (.t 7)),
     o 15 (.mv (.t 0)),
     o 16 (.len false (.t 15)),
     o 17 (.bin .lss (.t 14) (.t 16))])
   (.cond (.t 17)
    .skip
    (.exit 0)))
  (.seq
   (.block 1
    (.seq
     (rg [
       o 21 (.mv (.t 0)),
       o 22 (.mv (.t 7)),
       o 23 (.ia 1 (.t 21) (.t 22)),
       o 24 (.ld none (.t 23)),
       o 25 (.callp 9 [(.t 24)]),
       o 20 (.mv (.t 25)),
       o 26 (.ext (.t 20) 0),
       o 27 (.ext (.t 20) 1),
       o 8 (.mv (.t 26)),
       o 9 (.mv (.t 27))])
     (.seq
      (.seq
       (rg [
         o 28 (.mv (.t 0)),
         o 29 (.mv (.t 7)),
         o 30 (.ia 1 (.t 28) (.t 29)),
         o 31 (.ld none (.t 30)),
         o 32 (.len true (.t 31)),
         o 33 (.bin .gtr (.t 32) (kc 300)),
         o 34 (.mv (.t 33)),
         og 35 34 false (.mv (.t 9)),
         og 36 34 false (.bin .neq (.t 35) (kc 0)),
         o 37 (.pick (.t 34) (kb true) (.t 36))])
       (.cond (.t 37)
        (.seq
         (rg [
           o 2 (.mv (ks [])),
           oz 3 (.mv (kx (.ns))),
           o 4 (.mv (kb false))])
         .ret)
        .skip))
      (.seq
       (rg [
         o 38 (.mv (.t 5)),
         o 39 (.mv (.t 8)),
         o 40 (.bin .add (.t 38) (.t 39)),
         o 5 (.mv (.t 40))])
       (rg [
         o 41 (.mv (.t 6)),
         o 42 (.mv (.t 5)),
         o 43 (.len true (.t 42)),
         o 44 (.bsl 1 [[.i .i64 0]] [(0, (.t 43))]),
         o 45 (.app false 1 8 (.t 41) (.t 44)),
         o 6 (.mv (.t 45))])))))
   (rg [
     o 18 (.mv (.t 7)),
     o 19 (.bin .add (.t 18) (kc 1)),
     o 7 (.mv (.t 19))])))
def a18 : AF := ⟨48,
 (.seq
  (rg [
    o 2 (.mv (ks [])),
    oz 3 (.mv (kx (.ns))),
    o 4 (.mv (kb false))])
  (.seq
   (rg [
     o 5 (.mv (ks []))])
   (.seq
    (rg [
      o 10 (.bsl 1 [[.i .i64 0]] [(0, (kc 0))]),
      o 6 (.mv (.t 10))])
    (.seq
     (.seq
      (rg [
        o 11 (.mv (.t 0)),
        o 12 (.len false (.t 11)),
        o 13 (.bin .gtr (.t 12) (kc 20))])
      (.cond (.t 13)
       (.seq
        (rg [
          o 2 (.mv (ks [])),
          oz 3 (.mv (kx (.ns))),
          o 4 (.mv (kb false))])
        .ret)
       .skip))
     (.seq
      (.seq
       (rg [
         o 7 (.mv (kc 0))])
       (.block 0
        (.loop [0, 5, 6, 7] a18_0)))
      (.seq
       (rg [
         o 46 (.mv (.t 5)),
         o 47 (.mv (.t 6)),
         o 2 (.mv (.t 46)),
         o 3 (.mv (.t 47)),
         o 4 (.mv (kb true))])
       .ret)))))),
 [.t 2, .t 3, .t 4], false⟩
/-! 19: wagoner/frame.fits; loops: [] -/
def a19 : AF := ⟨9,
 (.seq
  (rg [
    o 2 (.mv (kb false))])
  (.seq
   (rg [
     o 3 (.mv (.t 0)),
     o 4 (.bin .geq (.t 3) (kc 1)),
     o 5 (.mv (.t 4)),
     og 6 5 true (.mv (.t 0)),
     og 7 5 true (.bin .leq (.t 6) (kc 65536)),
     o 8 (.pick (.t 5) (.t 7) (kb false)),
     o 2 (.mv (.t 8))])
   .ret)),
 [.t 2], false⟩
/-! 20: wagoner/varint.Put; loops: [[0, 3, 9, 10]] -/
def a20_0 : AC :=
 (.seq
  (rg [
    o 11 (.bin .lss (.t 10) (.t 9))])
  (.seq
   (.cond (.t 11)
    .skip
    (.exit 0))
   (.seq
    (.block 1
     (.seq
      (rg [
        o 12 (.mv (.t 10)),
        o 4 (.mv (.t 12))])
      (rg [
        o 13 (.mv (.t 3)),
        o 14 (.mv (.t 4)),
        o 15 (.mv (.t 0)),
        o 16 (.mv (.t 4)),
        o 17 (.bin .mul (kc 7) (.t 16)),
        o 18 (.cvi .u64 (.t 17)),
        o 19 (.bin .shr (.t 15) (.t 18)),
        o 20 (.cvi .u8 (.t 19)),
        o 21 (.bin .or (.t 20) (kx (.d (.i .u8 128)))),
        o 22 (.ia 1 (.t 13) (.t 14)),
        on (.st 1 (.t 22) (.t 21))])))
    (rg [
      o 23 (.bin .add (.t 10) (kc 1)),
      o 10 (.mv (.t 23))]))))
def a20 : AF := ⟨37,
 (.seq
  (rg [
    o 2 (.mv (ks []))])
  (.seq
   (rg [
     o 5 (.mv (.t 0)),
     o 6 (.callp 30 [(.t 5)]),
     o 7 (.mks 1 1 [.i .u8 0] (.t 6) (.t 6)),
     o 3 (.mv (.t 7))])
   (.seq
    (.seq
     (rg [
       o 8 (.mv (.t 3)),
       o 9 (.len false (.t 8)),
       o 10 (.mv (kc 0))])
     (.block 0
      (.loop [0, 3, 9, 10] a20_0)))
    (.seq
     (.seq
      (rg [
        o 24 (.mv (.t 3)),
        o 25 (.len false (.t 24)),
        o 26 (.bin .gtr (.t 25) (kc 0))])
      (.cond (.t 26)
       (rg [
         o 27 (.mv (.t 3)),
         o 28 (.mv (.t 3)),
         o 29 (.len false (.t 28)),
         o 30 (.bin .sub (.t 29) (kc 1)),
         o 31 (.ia 1 (.t 27) (.t 30)),
         o 32 (.ld none (.t 31)),
         o 33 (.bin .and (.t 32) (kx (.d (.i .u8 127)))),
         o 34 (.ia 1 (.t 27) (.t 30)),
         on (.st 1 (.t 34) (.t 33))])
       .skip))
     (.seq
      (rg [
        o 35 (.mv (.t 3)),
        o 36 (.b2s (.t 35)),
        o 2 (.mv (.t 36))])
      .ret))))),
 [.t 2], false⟩
/-! 21: wagoner/crc.Four; loops: [] -/
def a21 : AF := ⟨16,
 (.seq
  (rg [
    o 2 (.mv (ks []))])
  (.seq
   (rg [
     o 3 (.mv (.t 0)),
     o 4 (.cvi .u8 (.t 3)),
     o 5 (.mv (.t 0)),
     o 6 (.bin .shr (.t 5) (kx (.d (.i .u64 8)))),
     o 7 (.cvi .u8 (.t 6)),
     o 8 (.mv (.t 0)),
     o 9 (.bin .shr (.t 8) (kx (.d (.i .u64 16)))),
     o 10 (.cvi .u8 (.t 9)),
     o 11 (.mv (.t 0)),
     o 12 (.bin .shr (.t 11) (kx (.d (.i .u64 24)))),
     o 13 (.cvi .u8 (.t 12)),
     o 14 (.bsl 1 (List.replicate 4 [.i .u8 0]) [(0, (.t 4)), (1, (.t 7)), (2, (.t 10)), (3, (.t 13))]),
     o 15 (.b2s (.t 14)),
     o 2 (.mv (.t 15))])
   .ret)),
 [.t 2], false⟩
/-! 22: wagoner/crc.Sum; loops: [[3, 6, 7, 8]] -/
def a22_0 : AC :=
 (.seq
  (rg [
    o 9 (.bin .lss (.t 8) (.t 7))])
  (.seq
   (.cond (.t 9)
    .skip
    (.exit 0))
   (.seq
    (.block 1
     (.seq
      (rg [
        o 10 (.ia 1 (.t 6) (.t 8)),
        o 11 (.ld none (.t 10)),
        o 5 (.mv (.t 11))])
      (rg [
        o 12 (.mv (.t 3)),
        o 13 (.mv (.t 5)),
        o 14 (.callp 32 [(.t 12), (.t 13)]),
        o 3 (.mv (.t 14))])))
    (rg [
      o 15 (.bin .add (.t 8) (kc 1)),
      o 8 (.mv (.t 15))]))))
def a22 : AF := ⟨17,
 (.seq
  (rg [
    o 2 (.mv (kx (.d (.i .u32 0))))])
  (.seq
   (rg [
     o 3 (.mv (kx (.d (.i .u32 0))))])
   (.seq
    (.seq
     (rg [
       o 6 (.mv (.t 0)),
       o 7 (.len false (.t 6)),
       o 8 (.mv (kc 0))])
     (.block 0
      (.loop [3, 6, 7, 8] a22_0)))
    (.seq
     (rg [
       o 16 (.mv (.t 3)),
       o 2 (.mv (.t 16))])
     .ret)))),
 [.t 2], false⟩
/-! 23: wagoner/wagonerref01.Put; loops: [[0, 3]] -/
def a23_0 : AC :=
 (.seq
  (.seq
   (rg [
     o 6 (.mv (.t 0)),
     o 7 (.bin .geq (.t 6) (kc 128))])
   (.cond (.t 7)
    .skip
    (.exit 0)))
  (.block 1
   (.seq
    (rg [
      o 8 (.mv (.t 3)),
      o 9 (.mv (.t 0)),
      o 10 (.bin .rem (.t 9) (kc 128)),
      o 11 (.bin .add (kc 128) (.t 10)),
      o 12 (.cvi .u8 (.t 11)),
      o 13 (.bsl 1 [[.i .u8 0]] [(0, (.t 12))]),
      o 14 (.b2s (.t 13)),
      o 15 (.bin .add (.t 8) (.t 14)),
      o 3 (.mv (.t 15))])
    (rg [
      o 16 (.mv (.t 0)),
      o 17 (.bin .quo (.t 16) (kc 128)),
      o 0 (.mv (.t 17))]))))
def a23 : AF := ⟨24,
 (.seq
  (rg [
    o 2 (.mv (ks []))])
  (.seq
   (.seq
    (rg [
      o 4 (.mv (.t 0)),
      o 5 (.bin .lss (.t 4) (kc 0))])
    (.cond (.t 5)
     (.seq
      (rg [
        o 2 (.mv (ks []))])
      .ret)
     .skip))
   (.seq
    (rg [
      o 3 (.mv (ks []))])
    (.seq
     (.block 0
      (.loop [0, 3] a23_0))
     (.seq
      (rg [
        o 18 (.mv (.t 3)),
        o 19 (.mv (.t 0)),
        o 20 (.cvi .u8 (.t 19)),
        o 21 (.bsl 1 [[.i .u8 0]] [(0, (.t 20))]),
        o 22 (.b2s (.t 21)),
        o 23 (.bin .add (.t 18) (.t 22)),
        o 2 (.mv (.t 23))])
      .ret))))),
 [.t 2], false⟩
/-! 24: wagoner/wagonerref02.Four; loops: [] -/
def a24 : AF := ⟨16,
 (.seq
  (rg [
    o 2 (.mv (ks []))])
  (.seq
   (rg [
     o 3 (.mv (.t 0)),
     o 4 (.cvi .u8 (.t 3)),
     o 5 (.mv (.t 0)),
     o 6 (.bin .shr (.t 5) (kx (.d (.i .u64 8)))),
     o 7 (.cvi .u8 (.t 6)),
     o 8 (.mv (.t 0)),
     o 9 (.bin .shr (.t 8) (kx (.d (.i .u64 16)))),
     o 10 (.cvi .u8 (.t 9)),
     o 11 (.mv (.t 0)),
     o 12 (.bin .shr (.t 11) (kx (.d (.i .u64 24)))),
     o 13 (.cvi .u8 (.t 12)),
     o 14 (.bsl 1 (List.replicate 4 [.i .u8 0]) [(0, (.t 4)), (1, (.t 7)), (2, (.t 10)), (3, (.t 13))]),
     o 15 (.b2s (.t 14)),
     o 2 (.mv (.t 15))])
   .ret)),
 [.t 2], false⟩
/-! 25: wagoner/wagonerref02.Of; loops: [] -/
def a25 : AF := ⟨5,
 (.seq
  (rg [
    o 2 (.mv (kx (.d (.i .u32 0))))])
  (.seq
   (rg [
     o 3 (.mv (.t 0)),
     o 4 (.callp 33 [(kx (.d (.i .u32 0))), (.t 3)]),
     o 2 (.mv (.t 4))])
   .ret)),
 [.t 2], false⟩
/-! 26: wagoner/frame.open; loops: [[0, 8, 9]] -/
def a26_0 : AC :=
 (.seq
  (rg [
    o 10 (.bin .lss (.t 9) (.t 8))])
  (.seq
   (.cond (.t 10)
    .skip
    (.exit 0))
   (.seq
    (.block 1
     (.seq
      (rg [
        o 11 (.mv (.t 9)),
        o 3 (.mv (.t 11))])
      (.seq
       (rg [
         o 12 (.mv (.t 0)),
         o 13 (.mv (.t 3)),
         o 14 (.ixs (.t 12) (.t 13)),
         o 15 (.bin .lss (.t 14) (kx (.d (.i .u8 128))))])
       (.cond (.t 15)
        (.seq
         (rg [
           o 2 (.mv (kb false))])
         .ret)
        .skip))))
    (rg [
      o 16 (.bin .add (.t 9) (kc 1)),
      o 9 (.mv (.t 16))]))))
def a26 : AF := ⟨17,
 (.seq
  (rg [
    o 2 (.mv (kb false))])
  (.seq
   (.seq
    (rg [
      o 4 (.mv (.t 0)),
      o 5 (.len true (.t 4)),
      o 6 (.bin .gtr (.t 5) (kc 8))])
    (.cond (.t 6)
     (.seq
      (rg [
        o 2 (.mv (kb false))])
      .ret)
     .skip))
   (.seq
    (.seq
     (rg [
       o 7 (.mv (.t 0)),
       o 8 (.len true (.t 7)),
       o 9 (.mv (kc 0))])
     (.block 0
      (.loop [0, 8, 9] a26_0)))
    (.seq
     (rg [
       o 2 (.mv (kb true))])
     .ret)))),
 [.t 2], false⟩
/-! 27: wagoner/varint.Read; loops: [[0, 1, 7, 8]] -/
def a27_0 : AC :=
 (.seq
  (.seq
   (rg [
     o 12 (.mv (.t 8)),
     o 13 (.bin .lss (.t 12) (kc 9)),
     o 14 (.mv (.t 13)),
     og 15 14 true (.mv (.t 8)),
     og 16 14 true (.mv (.t 0)),
     og 17 14 true (.len true (.t 16)),
     og 18 14 true (.mv (.t 1)),
     og 19 14 true (.bin .sub (.t 17) (.t 18)),
     og 20 14 true (.bin .lss (.t 15) (.t 19)),
     o 21 (.pick (.t 14) (.t 20) (kb false))])
   (.cond (.t 21)
    .skip
    (.exit 0)))
  (.seq
   (.block 1
    (.seq
     (rg [
       o 24 (.mv (.t 0)),
       o 25 (.mv (.t 1)),
       o 26 (.mv (.t 8)),
       o 27 (.bin .add (.t 25) (.t 26)),
       o 28 (.ixs (.t 24) (.t 27)),
       o 9 (.mv (.t 28))])
     (.seq
      (rg [
        o 29 (.mv (.t 7)),
        o 30 (.mv (.t 9)),
        o 31 (.bin .and (.t 30) (kx (.d (.i .u8 127)))),
        o 32 (.cvi .i64 (.t 31)),
        o 33 (.mv (.t 8)),
        o 34 (.bin .mul (kc 7) (.t 33)),
        o 35 (.cvi .u64 (.t 34)),
        o 36 (.bin .shl (.t 32) (.t 35)),
        o 37 (.bin .or (.t 29) (.t 36)),
        o 7 (.mv (.t 37))])
      (.block 2
       (.seq
        (rg [
          o 44 (.mv (.t 9)),
          o 45 (.bin .geq (.t 44) (kx (.d (.i .u8 128)))),
          o 43 (.mv (.t 45))])
        (.cond (.t 43)
         .skip
         (.seq
          (rg [
            o 47 (.mv (.t 9)),
            o 48 (.bin .eql (.t 47) (kx (.d (.i .u8 0)))),
            o 49 (.mv (.t 48)),
            og 50 49 true (.mv (.t 8)),
            og 51 49 true (.bin .gtr (.t 50) (kc 0)),
            o 52 (.pick (.t 49) (.t 51) (kb false)),
            o 46 (.mv (.t 52))])
          (.cond (.t 46)
           (.exit 0)
           (.seq
            (rg [
              o 38 (.mv (.t 7)),
              o 39 (.mv (.t 1)),
              o 40 (.mv (.t 8)),
              o 41 (.bin .add (.t 39) (.t 40)),
              o 42 (.bin .add (.t 41) (kc 1)),
              o 4 (.mv (.t 38)),
              o 5 (.mv (.t 42)),
              o 6 (.mv (kb true))])
            .ret)))))))))
   (rg [
     o 22 (.mv (.t 8)),
     o 23 (.bin .add (.t 22) (kc 1)),
     o 8 (.mv (.t 23))])))
def a27 : AF := ⟨53,
 (.seq
  (rg [
    o 4 (.mv (kc 0)),
    o 5 (.mv (kc 0)),
    o 6 (.mv (kb false))])
  (.seq
   (.seq
    (rg [
      o 10 (.mv (.t 1)),
      o 11 (.bin .lss (.t 10) (kc 0))])
    (.cond (.t 11)
     (.seq
      (rg [
        o 4 (.mv (kc 0)),
        o 5 (.mv (kc 0)),
        o 6 (.mv (kb false))])
      .ret)
     .skip))
   (.seq
    (rg [
      o 7 (.mv (kc 0))])
    (.seq
     .skip
     (.seq
      (.seq
       (rg [
         o 8 (.mv (kc 0))])
       (.block 0
        (.loop [0, 1, 7, 8] a27_0)))
      (.seq
       (rg [
         o 4 (.mv (kc 0)),
         o 5 (.mv (kc 0)),
         o 6 (.mv (kb false))])
       .ret)))))),
 [.t 4, .t 5, .t 6], false⟩
/-! 28: wagoner/wagonerref03.ends; loops: [[0, 1, 5]] -/
def a28_0 : AC :=
 (.seq
  (.seq
   (rg [
     o 7 (.mv (.t 5)),
     o 8 (.mv (.t 0)),
     o 9 (.len true (.t 8)),
     o 10 (.bin .lss (.t 7) (.t 9))])
   (.cond (.t 10)
    .skip
    (.exit 0)))
  (.seq
   (.block 1
    (.seq
     (rg [
       o 13 (.mv (.t 0)),
       o 14 (.mv (.t 5)),
       o 15 (.ixs (.t 13) (.t 14)),
       o 16 (.bin .lss (.t 15) (kx (.d (.i .u8 128))))])
     (.cond (.t 16)
      (.seq
       (rg [
         o 4 (.mv (kb false))])
       .ret)
      .skip)))
   (rg [
     o 11 (.mv (.t 5)),
     o 12 (.bin .add (.t 11) (kc 1)),
     o 5 (.mv (.t 12))])))
def a28 : AF := ⟨22,
 (.seq
  (rg [
    o 4 (.mv (kb false))])
  (.seq
   (.seq
    (rg [
      o 6 (.mv (.t 1)),
      o 5 (.mv (.t 6))])
    (.block 0
     (.loop [0, 1, 5] a28_0)))
   (.seq
    (rg [
      o 17 (.mv (.t 0)),
      o 18 (.len true (.t 17)),
      o 19 (.mv (.t 1)),
      o 20 (.bin .sub (.t 18) (.t 19)),
      o 21 (.bin .leq (.t 20) (kc 8)),
      o 4 (.mv (.t 21))])
    .ret))),
 [.t 4], false⟩
/-! 29: wagoner/wagonerref01.Read; loops: [[0, 1, 7, 8, 9]] -/
def a29_0 : AC :=
 (.seq
  (.seq
   (rg [
     o 19 (.mv (.t 9)),
     o 20 (.bin .lss (.t 19) (kc 9)),
     o 21 (.mv (.t 20)),
     og 22 21 true (.mv (.t 9)),
     og 23 21 true (.mv (.t 0)),
     og 24 21 true (.len true (.t 23)),
     og 25 21 true (.mv (.t 1)),
     og 26 21 true (.bin .sub (.t 24) (.t 25)),
     og 27 21 true (.bin .lss (.t 22) (.t 26)),
     o 28 (.pick (.t 21) (.t 27) (kb false))])
   (.cond (.t 28)
    .skip
    (.exit 0)))
  (.seq
   (.block 1
    (.seq
     (rg [
       o 31 (.mv (.t 0)),
       o 32 (.mv (.t 1)),
       o 33 (.mv (.t 9)),
       o 34 (.bin .add (.t 32) (.t 33)),
       o 35 (.ixs (.t 31) (.t 34)),
       o 36 (.cvi .i64 (.t 35)),
       o 10 (.mv (.t 36))])
     (.seq
      (rg [
        o 37 (.mv (.t 7)),
        o 38 (.mv (.t 10)),
        o 39 (.bin .rem (.t 38) (kc 128)),
        o 40 (.mv (.t 8)),
        o 41 (.bin .mul (.t 39) (.t 40)),
        o 42 (.bin .add (.t 37) (.t 41)),
        o 7 (.mv (.t 42))])
      (.seq
       (.seq
        (rg [
          o 43 (.mv (.t 10)),
          o 44 (.bin .lss (.t 43) (kc 128))])
        (.cond (.t 44)
         (.seq
          (.seq
           (rg [
             o 45 (.mv (.t 7)),
             o 46 (.callp 23 [(.t 45)]),
             o 47 (.mv (.t 0)),
             o 48 (.mv (.t 1)),
             o 49 (.mv (.t 1)),
             o 50 (.mv (.t 9)),
             o 51 (.bin .add (.t 49) (.t 50)),
             o 52 (.bin .add (.t 51) (kc 1)),
             o 53 (.sls (.t 47) (some (.t 48)) (some (.t 52))),
             o 54 (.bin .neq (.t 46) (.t 53))])
           (.cond (.t 54)
            (.seq
             (rg [
               o 4 (.mv (kc 0)),
               o 5 (.mv (kc 0)),
               o 6 (.mv (kb false))])
             .ret)
            .skip))
          (.seq
           (rg [
             o 55 (.mv (.t 7)),
             o 56 (.mv (.t 1)),
             o 57 (.mv (.t 9)),
             o 58 (.bin .add (.t 56) (.t 57)),
             o 59 (.bin .add (.t 58) (kc 1)),
             o 4 (.mv (.t 55)),
             o 5 (.mv (.t 59)),
             o 6 (.mv (kb true))])
           .ret))
         .skip))
       (.seq
        (rg [
          o 60 (.mv (.t 9)),
          o 61 (.bin .lss (.t 60) (kc 8))])
        (.cond (.t 61)
         (rg [
           o 62 (.mv (.t 8)),
           o 63 (.bin .mul (.t 62) (kc 128)),
           o 8 (.mv (.t 63))])
         .skip))))))
   (rg [
     o 29 (.mv (.t 9)),
     o 30 (.bin .add (.t 29) (kc 1)),
     o 9 (.mv (.t 30))])))
def a29 : AF := ⟨64,
 (.seq
  (rg [
    o 4 (.mv (kc 0)),
    o 5 (.mv (kc 0)),
    o 6 (.mv (kb false))])
  (.seq
   (.seq
    (rg [
      o 11 (.mv (.t 1)),
      o 12 (.bin .lss (.t 11) (kc 0)),
      o 13 (.mv (.t 12)),
      og 14 13 false (.mv (.t 1)),
      og 15 13 false (.mv (.t 0)),
      og 16 13 false (.len true (.t 15)),
      og 17 13 false (.bin .geq (.t 14) (.t 16)),
      o 18 (.pick (.t 13) (kb true) (.t 17))])
    (.cond (.t 18)
     (.seq
      (rg [
        o 4 (.mv (kc 0)),
        o 5 (.mv (kc 0)),
        o 6 (.mv (kb false))])
      .ret)
     .skip))
   (.seq
    (rg [
      o 7 (.mv (kc 0)),
      o 8 (.mv (kc 1))])
    (.seq
     (.seq
      (rg [
        o 9 (.mv (kc 0))])
      (.block 0
       (.loop [0, 1, 7, 8, 9] a29_0)))
     (.seq
      (rg [
        o 4 (.mv (kc 0)),
        o 5 (.mv (kc 0)),
        o 6 (.mv (kb false))])
      .ret))))),
 [.t 4, .t 5, .t 6], false⟩
/-! 30: wagoner/varint.Len; loops: [] -/
def a30 : AF := ⟨11,
 (.seq
  (rg [
    o 2 (.mv (kc 0))])
  (.seq
   (.seq
    (rg [
      o 3 (.mv (.t 0)),
      o 4 (.bin .lss (.t 3) (kc 0))])
    (.cond (.t 4)
     (.seq
      (rg [
        o 2 (.mv (kc 0))])
      .ret)
     .skip))
   (.seq
    (rg [
      o 5 (.mv (.t 0)),
      o 6 (.cvi .u64 (.t 5)),
      o 7 (.callp 34 [(.t 6)]),
      o 8 (.bin .add (.t 7) (kc 6)),
      o 9 (.bin .quo (.t 8) (kc 7)),
      o 10 (.mm true (kc 1) (.t 9)),
      o 2 (.mv (.t 10))])
    .ret))),
 [.t 2], false⟩
/-! 31: wagoner/wagonerref01.Len; loops: [] -/
def a31 : AF := ⟨6,
 (.seq
  (rg [
    o 2 (.mv (kc 0))])
  (.seq
   (rg [
     o 3 (.mv (.t 0)),
     o 4 (.callp 23 [(.t 3)]),
     o 5 (.len true (.t 4)),
     o 2 (.mv (.t 5))])
   .ret)),
 [.t 2], false⟩
/-! 32: wagoner/crc.On; loops: [[1, 5, 6, 12, 13]] -/
def a32_0 : AC :=
 (.seq
  (rg [
    o 14 (.bin .lss (.t 13) (.t 12))])
  (.seq
   (.cond (.t 14)
    .skip
    (.exit 0))
   (.seq
    (.block 1
     (.seq
      (rg [
        o 15 (.mv (.t 13)),
        o 7 (.mv (.t 15))])
      (.seq
       (rg [
         o 16 (.mv (.t 6)),
         o 17 (.mv (.t 1)),
         o 18 (.mv (.t 7)),
         o 19 (.ixs (.t 17) (.t 18)),
         o 20 (.cvi .u32 (.t 19)),
         o 21 (.bin .xor (.t 16) (.t 20)),
         o 6 (.mv (.t 21))])
       (.seq
        (rg [
          o 22 (.mv (.t 6)),
          o 23 (.bin .shr (.t 22) (kx (.d (.i .u64 4)))),
          o 24 (.mv (.t 6)),
          o 25 (.bin .and (.t 24) (kx (.d (.i .u32 15)))),
          o 26 (.iar 16 1 (.t 5) (.t 25)),
          o 27 (.ld none (.t 26)),
          o 28 (.bin .xor (.t 23) (.t 27)),
          o 6 (.mv (.t 28))])
        (rg [
          o 29 (.mv (.t 6)),
          o 30 (.bin .shr (.t 29) (kx (.d (.i .u64 4)))),
          o 31 (.mv (.t 6)),
          o 32 (.bin .and (.t 31) (kx (.d (.i .u32 15)))),
          o 33 (.iar 16 1 (.t 5) (.t 32)),
          o 34 (.ld none (.t 33)),
          o 35 (.bin .xor (.t 30) (.t 34)),
          o 6 (.mv (.t 35))])))))
    (rg [
      o 36 (.bin .add (.t 13) (kc 1)),
      o 13 (.mv (.t 36))]))))
def a32 : AF := ⟨39,
 (.seq
  (rg [
    o 4 (.mv (kx (.d (.i .u32 0))))])
  (.seq
   (rg [
     o 8 (.callp 35 []),
     o 5 (.alloc [.d (.i .u32 0), .d (.i .u32 0), .d (.i .u32 0), .d (.i .u32 0), .d (.i .u32 0), .d (.i .u32 0), .d (.i .u32 0), .d (.i .u32 0), .d (.i .u32 0), .d (.i .u32 0), .d (.i .u32 0), .d (.i .u32 0), .d (.i .u32 0), .d (.i .u32 0), .d (.i .u32 0), .d (.i .u32 0)]),
     on (.st 16 (.t 5) (.t 8))])
   (.seq
    (rg [
      o 9 (.mv (.t 0)),
      o 10 (.un .xor (.t 9)),
      o 6 (.mv (.t 10))])
    (.seq
     (.seq
      (rg [
        o 11 (.mv (.t 1)),
        o 12 (.len true (.t 11)),
        o 13 (.mv (kc 0))])
      (.block 0
       (.loop [1, 5, 6, 12, 13] a32_0)))
     (.seq
      (rg [
        o 37 (.mv (.t 6)),
        o 38 (.un .xor (.t 37)),
        o 4 (.mv (.t 38))])
      .ret))))),
 [.t 4], false⟩
/-! 33: wagoner/wagonerref02.On; loops: [[1, 5, 6], [1, 5, 6, 7]] -/
def a33_1 : AC :=
 (.seq
  (.seq
   (rg [
     o 23 (.mv (.t 7)),
     o 24 (.bin .lss (.t 23) (kc 8))])
   (.cond (.t 24)
    .skip
    (.exit 2)))
  (.seq
   (.block 3
    (.seq
     (rg [
       o 27 (.mv (.t 5)),
       o 28 (.bin .rem (.t 27) (kx (.d (.i .u32 2)))),
       o 29 (.bin .eql (.t 28) (kx (.d (.i .u32 1)))),
       o 8 (.mv (.t 29))])
     (.seq
      (rg [
        o 30 (.mv (.t 5)),
        o 31 (.bin .quo (.t 30) (kx (.d (.i .u32 2)))),
        o 5 (.mv (.t 31))])
      (.seq
       (rg [
         o 32 (.mv (.t 8))])
       (.cond (.t 32)
        (rg [
          o 33 (.mv (.t 5)),
          o 34 (.bin .xor (.t 33) (kx (.d (.i .u32 2197175160)))),
          o 5 (.mv (.t 34))])
        .skip)))))
   (rg [
     o 25 (.mv (.t 7)),
     o 26 (.bin .add (.t 25) (kc 1)),
     o 7 (.mv (.t 26))])))
def a33_0 : AC :=
 (.seq
  (.seq
   (rg [
     o 11 (.mv (.t 6)),
     o 12 (.mv (.t 1)),
     o 13 (.len true (.t 12)),
     o 14 (.bin .lss (.t 11) (.t 13))])
   (.cond (.t 14)
    .skip
    (.exit 0)))
  (.seq
   (.block 1
    (.seq
     (rg [
       o 17 (.mv (.t 5)),
       o 18 (.mv (.t 1)),
       o 19 (.mv (.t 6)),
       o 20 (.ixs (.t 18) (.t 19)),
       o 21 (.cvi .u32 (.t 20)),
       o 22 (.bin .xor (.t 17) (.t 21)),
       o 5 (.mv (.t 22))])
     (.seq
      (rg [
        o 7 (.mv (kc 0))])
      (.block 2
       (.loop [1, 5, 6, 7] a33_1)))))
   (rg [
     o 15 (.mv (.t 6)),
     o 16 (.bin .add (.t 15) (kc 1)),
     o 6 (.mv (.t 16))])))
def a33 : AF := ⟨37,
 (.seq
  (rg [
    o 4 (.mv (kx (.d (.i .u32 0))))])
  (.seq
   (rg [
     o 9 (.mv (.t 0)),
     o 10 (.un .xor (.t 9)),
     o 5 (.mv (.t 10))])
   (.seq
    (.seq
     (rg [
       o 6 (.mv (kc 0))])
     (.block 0
      (.loop [1, 5, 6] a33_0)))
    (.seq
     (rg [
       o 35 (.mv (.t 5)),
       o 36 (.un .xor (.t 35)),
       o 4 (.mv (.t 36))])
     .ret)))),
 [.t 4], false⟩
/-! 34: math/bits.Len64; loops: [] -/
def a34 : AF := ⟨25,
 (.seq
  (rg [
    o 2 (.mv (kc 0))])
  (.seq
   (.seq
    (rg [
      o 3 (.mv (.t 0)),
      o 4 (.bin .geq (.t 3) (kx (.d (.i .u64 4294967296))))])
    (.cond (.t 4)
     (.seq
      (rg [
        o 5 (.mv (.t 0)),
        o 6 (.bin .shr (.t 5) (kx (.d (.i .u64 32)))),
        o 0 (.mv (.t 6))])
      (rg [
        o 2 (.mv (kc 32))]))
     .skip))
   (.seq
    (.seq
     (rg [
       o 7 (.mv (.t 0)),
       o 8 (.bin .geq (.t 7) (kx (.d (.i .u64 65536))))])
     (.cond (.t 8)
      (.seq
       (rg [
         o 9 (.mv (.t 0)),
         o 10 (.bin .shr (.t 9) (kx (.d (.i .u64 16)))),
         o 0 (.mv (.t 10))])
       (rg [
         o 11 (.mv (.t 2)),
         o 12 (.bin .add (.t 11) (kc 16)),
         o 2 (.mv (.t 12))]))
      .skip))
    (.seq
     (.seq
      (rg [
        o 13 (.mv (.t 0)),
        o 14 (.bin .geq (.t 13) (kx (.d (.i .u64 256))))])
      (.cond (.t 14)
       (.seq
        (rg [
          o 15 (.mv (.t 0)),
          o 16 (.bin .shr (.t 15) (kx (.d (.i .u64 8)))),
          o 0 (.mv (.t 16))])
        (rg [
          o 17 (.mv (.t 2)),
          o 18 (.bin .add (.t 17) (kc 8)),
          o 2 (.mv (.t 18))]))
       .skip))
     (.seq
      (rg [
        o 19 (.mv (.t 2)),
        o 20 (.mv (.t 0)),
        o 21 (.cvi .u8 (.t 20)),
        o 22 (.ixs (ks [0, 1, 2, 2, 3, 3, 3, 3, 4, 4, 4, 4, 4, 4, 4, 4, 5, 5, 5, 5, 5, 5, 5, 5, 5, 5, 5, 5, 5, 5, 5, 5, 6, 6, 6, 6, 6, 6, 6, 6, 6, 6, 6, 6, 6, 6, 6, 6, 6, 6, 6, 6, 6, 6, 6, 6, 6, 6, 6, 6, 6, 6, 6, 6, 7, 7, 7, 7, 7, 7, 7, 7, 7, 7, 7, 7, 7, 7, 7, 7, 7, 7, 7, 7, 7, 7, 7, 7, 7, 7, 7, 7, 7, 7, 7, 7, 7, 7, 7, 7, 7, 7, 7, 7, 7, 7, 7, 7, 7, 7, 7, 7, 7, 7, 7, 7, 7, 7, 7, 7, 7, 7, 7, 7, 7, 7, 7, 7, 8, 8, 8, 8, 8, 8, 8, 8, 8, 8, 8, 8, 8, 8, 8, 8, 8, 8, 8, 8, 8, 8, 8, 8, 8, 8, 8, 8, 8, 8, 8, 8, 8, 8, 8, 8, 8, 8, 8, 8, 8, 8, 8, 8, 8, 8, 8, 8, 8, 8, 8, 8, 8, 8, 8, 8, 8, 8, 8, 8, 8, 8, 8, 8, 8, 8, 8, 8, 8, 8, 8, 8, 8, 8, 8, 8, 8, 8, 8, 8, 8, 8, 8, 8, 8, 8, 8, 8, 8, 8, 8, 8, 8, 8, 8, 8, 8, 8, 8, 8, 8, 8, 8, 8, 8, 8, 8, 8, 8, 8, 8, 8, 8, 8, 8, 8, 8, 8, 8, 8, 8, 8, 8, 8, 8, 8, 8, 8]) (.t 21)),
        o 23 (.cvi .i64 (.t 22)),
        o 24 (.bin .add (.t 19) (.t 23)),
        o 2 (.mv (.t 24))])
      .ret))))),
 [.t 2], false⟩
/-! 35: wagoner/crc.table; loops: [[0, 1, 4], [0, 1, 2, 3, 4, 9]] -/
def a35_1 : AC :=
 (.seq
  (rg [
    o 10 (.bin .lss (.t 9) (kc 4))])
  (.seq
   (.cond (.t 10)
    .skip
    (.exit 2))
   (.seq
    (.block 3
     (rg [
       o 11 (.mv (.t 3)),
       o 12 (.bin .shr (.t 11) (kx (.d (.i .u64 1)))),
       o 13 (.mv (.t 3)),
       o 14 (.bin .and (.t 13) (kx (.d (.i .u32 1)))),
       o 15 (.un .neg (.t 14)),
       o 16 (.bin .and (kx (.d (.i .u32 2197175160))) (.t 15)),
       o 17 (.bin .xor (.t 12) (.t 16)),
       o 3 (.mv (.t 17))]))
    (rg [
      o 18 (.bin .add (.t 9) (kc 1)),
      o 9 (.mv (.t 18))]))))
def a35_0 : AC :=
 (.seq
  (rg [
    o 5 (.bin .lss (.t 4) (kc 16))])
  (.seq
   (.cond (.t 5)
    .skip
    (.exit 0))
   (.seq
    (.block 1
     (.seq
      (rg [
        o 6 (.mv (.t 4)),
        o 2 (.mv (.t 6))])
      (.seq
       (rg [
         o 7 (.mv (.t 2)),
         o 8 (.cvi .u32 (.t 7)),
         o 3 (.mv (.t 8))])
       (.seq
        (.seq
         (rg [
           o 9 (.mv (kc 0))])
         (.block 2
          (.loop [0, 1, 2, 3, 4, 9] a35_1)))
        (rg [
          o 19 (.mv (.t 2)),
          o 20 (.mv (.t 3)),
          o 21 (.iar 16 1 (.t 1) (.t 19)),
          on (.st 1 (.t 21) (.t 20))])))))
    (rg [
      o 22 (.bin .add (.t 4) (kc 1)),
      o 4 (.mv (.t 22))]))))
def a35 : AF := ⟨24,
 (.seq
  (rg [
    o 0 (.alloc [.d (.i .u32 0), .d (.i .u32 0), .d (.i .u32 0), .d (.i .u32 0), .d (.i .u32 0), .d (.i .u32 0), .d (.i .u32 0), .d (.i .u32 0), .d (.i .u32 0), .d (.i .u32 0), .d (.i .u32 0), .d (.i .u32 0), .d (.i .u32 0), .d (.i .u32 0), .d (.i .u32 0), .d (.i .u32 0)])])
  (.seq
   (rg [
     o 1 (.alloc [.d (.i .u32 0), .d (.i .u32 0), .d (.i .u32 0), .d (.i .u32 0), .d (.i .u32 0), .d (.i .u32 0), .d (.i .u32 0), .d (.i .u32 0), .d (.i .u32 0), .d (.i .u32 0), .d (.i .u32 0), .d (.i .u32 0), .d (.i .u32 0), .d (.i .u32 0), .d (.i .u32 0), .d (.i .u32 0)])])
   (.seq
    (.seq
     (rg [
       o 4 (.mv (kc 0))])
     (.block 0
      (.loop [0, 1, 4] a35_0)))
    (.seq
     (rg [
       o 23 (.ld (some 16) (.t 1)),
       on (.st 16 (.t 0) (.t 23))])
     .ret)))),
 [.c (some 16) 0], false⟩
def ans : List (Nat × Ann) := [
  (3, ⟨[], [], false, false⟩),
  (4, ⟨[], [], false, false⟩),
  (5, ⟨[], [], false, false⟩),
  (6, ⟨[], [[0, 3, 4, 9]], false, false⟩),
  (7, ⟨[], [[0, 5, 6, 8, 9]], false, false⟩),
  (8, ⟨[], [], false, false⟩),
  (9, ⟨[(4, 4, 9)], [], false, false⟩),
  (10, ⟨[], [], false, false⟩),
  (11, ⟨[(11, 3, 9)], [], false, false⟩),
  (12, ⟨[], [], false, false⟩),
  (13, ⟨[], [], false, false⟩),
  (14, ⟨[], [], false, false⟩),
  (15, ⟨[(0, 0, 2), (1, 0, 101)], [[0, 5, 6]], false, false⟩),
  (16, ⟨[(0, 0, 2), (1, 0, 101)], [[0, 5, 6]], false, false⟩),
  (17, ⟨[], [[0, 1, 5]], false, false⟩),
  (18, ⟨[(0, 1, 2), (4, 1, 2), (10, 1, 2)], [[0, 5, 6, 7]], false, false⟩),
  (19, ⟨[], [], false, false⟩),
  (20, ⟨[], [[0, 3, 9, 10]], false, false⟩),
  (21, ⟨[], [], false, false⟩),
  (22, ⟨[], [[3, 6, 7, 8]], false, false⟩),
  (23, ⟨[], [[0, 3]], false, false⟩),
  (24, ⟨[], [], false, false⟩),
  (25, ⟨[], [], false, false⟩),
  (26, ⟨[], [[0, 8, 9]], false, false⟩),
  (27, ⟨[], [[0, 1, 7, 8]], false, false⟩),
  (28, ⟨[], [[0, 1, 5]], false, false⟩),
  (29, ⟨[], [[0, 1, 7, 8, 9]], false, false⟩),
  (30, ⟨[], [], false, false⟩),
  (31, ⟨[], [], false, false⟩),
  (32, ⟨[], [[1, 5, 6, 12, 13]], false, false⟩),
  (33, ⟨[], [[1, 5, 6], [1, 5, 6, 7]], false, false⟩),
  (34, ⟨[], [], false, false⟩),
  (35, ⟨[], [[0, 1, 4], [0, 1, 2, 3, 4, 9]], false, false⟩)]
theorem s3 : compS Try.prog 3 (anOf ans 3) = some a3 := by kernel_rfl
theorem s4 : compS Try.prog 4 (anOf ans 4) = some a4 := by kernel_rfl
theorem s5 : compS Try.prog 5 (anOf ans 5) = some a5 := by kernel_rfl
theorem s6 : compS Try.prog 6 (anOf ans 6) = some a6 := by kernel_rfl
theorem s7 : compS Try.prog 7 (anOf ans 7) = some a7 := by kernel_rfl
theorem s8 : compS Try.prog 8 (anOf ans 8) = some a8 := by kernel_rfl
theorem s9 : compS Try.prog 9 (anOf ans 9) = some a9 := by kernel_rfl
theorem s10 : compS Try.prog 10 (anOf ans 10) = some a10 := by kernel_rfl
theorem s11 : compS Try.prog 11 (anOf ans 11) = some a11 := by kernel_rfl
theorem s12 : compS Try.prog 12 (anOf ans 12) = some a12 := by kernel_rfl
theorem s13 : compS Try.prog 13 (anOf ans 13) = some a13 := by kernel_rfl
theorem s14 : compS Try.prog 14 (anOf ans 14) = some a14 := by kernel_rfl
theorem s15 : compS Try.prog 15 (anOf ans 15) = some a15 := by kernel_rfl
theorem s16 : compS Try.prog 16 (anOf ans 16) = some a16 := by kernel_rfl
theorem s17 : compS Try.prog 17 (anOf ans 17) = some a17 := by kernel_rfl
theorem s18 : compS Try.prog 18 (anOf ans 18) = some a18 := by kernel_rfl
theorem s19 : compS Try.prog 19 (anOf ans 19) = some a19 := by kernel_rfl
theorem s20 : compS Try.prog 20 (anOf ans 20) = some a20 := by kernel_rfl
theorem s21 : compS Try.prog 21 (anOf ans 21) = some a21 := by kernel_rfl
theorem s22 : compS Try.prog 22 (anOf ans 22) = some a22 := by kernel_rfl
theorem s23 : compS Try.prog 23 (anOf ans 23) = some a23 := by kernel_rfl
theorem s24 : compS Try.prog 24 (anOf ans 24) = some a24 := by kernel_rfl
theorem s25 : compS Try.prog 25 (anOf ans 25) = some a25 := by kernel_rfl
theorem s26 : compS Try.prog 26 (anOf ans 26) = some a26 := by kernel_rfl
theorem s27 : compS Try.prog 27 (anOf ans 27) = some a27 := by kernel_rfl
theorem s28 : compS Try.prog 28 (anOf ans 28) = some a28 := by kernel_rfl
theorem s29 : compS Try.prog 29 (anOf ans 29) = some a29 := by kernel_rfl
theorem s30 : compS Try.prog 30 (anOf ans 30) = some a30 := by kernel_rfl
theorem s31 : compS Try.prog 31 (anOf ans 31) = some a31 := by kernel_rfl
theorem s32 : compS Try.prog 32 (anOf ans 32) = some a32 := by kernel_rfl
theorem s33 : compS Try.prog 33 (anOf ans 33) = some a33 := by kernel_rfl
theorem s34 : compS Try.prog 34 (anOf ans 34) = some a34 := by kernel_rfl
theorem s35 : compS Try.prog 35 (anOf ans 35) = some a35 := by kernel_rfl
def clones : List (Nat × Nat × Nat) := []
theorem clones_ok : ∀ f sz bytes, (f, sz, bytes) ∈ clones → 0 < sz ∧ ∃ an, compS Try.prog f an = some (cloneAF sz bytes) := by
  intro f sz bytes h
  cases h
noncomputable abbrev call : Phi := callU (progOf Try.prog (anOf ans)) (clonePr clones)
end Go.Proofs.Ytgcamaneelgejaa
