import Derived.Test.YtgfkmjmffhcgdaaGreatH02
import Derived.Test.YtgfkmjmffhcgdaaGreatChecked
import Derived.KernelRfl
set_option linter.unusedSimpArgs false
set_option linter.unusedVariables false
namespace Go.Proofs.YtgfkmjmffhcgdaaGreat
open Go.Vi
def a3 : AF := ⟨30,
 (.seq
  (rg [
    o 1 (.box (.t 0)),
    o 2 (.mv (kb false))])
  (.seq
   (rg [
     o 6 (.ld (some 15) (.t 1)),
     o 7 (.call 4 [(.t 6)]),
     oz 5 (.mv (.t 7)),
     o 8 (.ext (.t 5) 0),
     o 9 (.ext (.t 5) 1),
     o 3 (.mv (.t 8)),
     o 4 (.mv (.t 9))])
   (.seq
    (.seq
     (rg [
       o 10 (.ld (some 15) (.t 1)),
       o 11 (.callp 5 [(.t 10)])])
     (.cond (.t 11)
      (.seq
       (rg [
         o 12 (.callp 6 []),
         o 13 (.mv (.t 12)),
         og 14 13 true (.mv (.t 4)),
         og 15 13 true (.bin .eql (.t 14) (kc 0)),
         o 16 (.pick (.t 13) (.t 15) (kb false)),
         o 17 (.mv (.t 16)),
         og 18 17 true (.mv (.t 3)),
         og 19 17 true (.nilc 1 true (.t 18)),
         o 20 (.pick (.t 17) (.t 19) (kb false)),
         o 2 (.mv (.t 20))])
       .ret)
      .skip))
    (.seq
     (rg [
       o 21 (.callp 6 []),
       o 22 (.mv (.t 21)),
       og 23 22 true (.mv (.t 4)),
       og 24 22 true (.bin .eql (.t 23) (kc 1)),
       o 25 (.pick (.t 22) (.t 24) (kb false)),
       o 26 (.mv (.t 25)),
       og 27 26 true (.mv (.t 3)),
       og 28 26 true (.nilc 1 false (.t 27)),
       o 29 (.pick (.t 26) (.t 28) (kb false)),
       o 2 (.mv (.t 29))])
     .ret)))),
 [.t 2], false⟩
def a4 : AF := ⟨10,
 (.seq
  (rg [
    o 1 (.box (.t 0)),
    o 2 (.mv (kx (.np))),
    o 3 (.mv (kc 0))])
  (.seq
   (.seq
    (rg [
      o 4 (.ld (some 15) (.t 1)),
      o 5 (.callp 7 [(.t 4)]),
      o 6 (.un .not (.t 5))])
    (.cond (.t 6)
     (.seq
      (rg [
        o 2 (.mv (kx (.np))),
        o 3 (.mv (kc 1))])
      .ret)
     .skip))
   (.seq
    (rg [
      o 7 (.ld (some 15) (.t 1)),
      o 8 (.build [.d (.i .i64 0), .d (.i .i64 0), .d (.i .i64 0), .d (.i .i64 0), .d (.i .i64 0), .d (.i .i64 0), .d (.i .i64 0), .d (.i .i64 0), .d (.i .i64 0), .d (.i .i64 0), .d (.i .i64 0), .d (.i .i64 0), .d (.i .i64 0), .d (.i .i64 0), .d (.i .i64 0), .d (.i .u32 0), .d (.i .i32 0), .d (.i .u32 0), .d (.i .i32 0), .d (.i .u32 0), .d (.i .i64 0), .d (.i .i64 0), .d (.i .i64 0), .d (.i .i64 0), .d (.i .i64 0), .d (.i .i64 0), .d (.i .i64 0), .d (.i .i64 0), .d (.i .i64 0), .d (.i .i64 0), .d (.i .i64 0), .d (.i .i64 0), .d (.i .i64 0), .d (.i .i64 0), .d (.i .i64 0), .d (.i .i64 0), .ns, .ns, .ns, .ns, .ns, .d (.i .i64 0), .d (.i .u32 0), .d (.i .i64 0), .d (.i .i64 0), .d (.i .i64 0)] [(0, 15, (.t 7))]),
      o 9 (.box (.t 8)),
      o 2 (.mv (.t 9)),
      o 3 (.mv (kc 0))])
    .ret))),
 [.t 2, .t 3], true⟩
def a5 : AF := ⟨80,
 (.seq
  (rg [
    o 1 (.box (.t 0)),
    o 2 (.mv (kb false))])
  (.seq
   (rg [
     o 3 (.fa 0 (.t 1)),
     o 4 (.ld none (.t 3)),
     o 5 (.callp 8 [(.t 4), (kc 1), (kc 8)]),
     o 6 (.mv (.t 5)),
     og 7 6 true (.fa 1 (.t 1)),
     og 8 6 true (.ld none (.t 7)),
     og 9 6 true (.callp 8 [(.t 8), (kc 20), (kc 65536)]),
     o 10 (.pick (.t 6) (.t 9) (kb false)),
     o 11 (.mv (.t 10)),
     og 12 11 true (.fa 2 (.t 1)),
     og 13 11 true (.ld none (.t 12)),
     og 14 11 true (.callp 8 [(.t 13), (kc 0), (kc 1048576)]),
     o 15 (.pick (.t 11) (.t 14) (kb false)),
     o 16 (.mv (.t 15)),
     og 17 16 true (.fa 3 (.t 1)),
     og 18 16 true (.ld none (.t 17)),
     og 19 16 true (.callp 8 [(.t 18), (kc 1), (kc 1048576)]),
     o 20 (.pick (.t 16) (.t 19) (kb false)),
     o 21 (.mv (.t 20)),
     og 22 21 true (.fa 4 (.t 1)),
     og 23 21 true (.ld none (.t 22)),
     og 24 21 true (.callp 8 [(.t 23), (kc 100), (kc 4096)]),
     o 25 (.pick (.t 21) (.t 24) (kb false)),
     o 26 (.mv (.t 25)),
     og 27 26 true (.fa 5 (.t 1)),
     og 28 26 true (.ld none (.t 27)),
     og 29 26 true (.callp 8 [(.t 28), (kc 1), (kc 8)]),
     o 30 (.pick (.t 26) (.t 29) (kb false)),
     o 31 (.mv (.t 30)),
     og 32 31 true (.fa 6 (.t 1)),
     og 33 31 true (.ld none (.t 32)),
     og 34 31 true (.fa 4 (.t 1)),
     og 35 31 true (.ld none (.t 34)),
     og 36 31 true (.callp 8 [(.t 33), (.t 35), (kc 65536)]),
     o 37 (.pick (.t 31) (.t 36) (kb false)),
     o 38 (.mv (.t 37)),
     og 39 38 true (.fa 7 (.t 1)),
     og 40 38 true (.ld none (.t 39)),
     og 41 38 true (.callp 8 [(.t 40), (kc 0), (kc 8)]),
     o 42 (.pick (.t 38) (.t 41) (kb false)),
     o 43 (.mv (.t 42)),
     og 44 43 true (.fa 8 (.t 1)),
     og 45 43 true (.ld none (.t 44)),
     og 46 43 true (.callp 8 [(.t 45), (kc 16), (kc 4096)]),
     o 47 (.pick (.t 43) (.t 46) (kb false)),
     o 48 (.mv (.t 47)),
     og 49 48 true (.fa 9 (.t 1)),
     og 50 48 true (.ld none (.t 49)),
     og 51 48 true (.callp 8 [(.t 50), (kc 1), (kc 64)]),
     o 52 (.pick (.t 48) (.t 51) (kb false)),
     o 53 (.mv (.t 52)),
     og 54 53 true (.fa 10 (.t 1)),
     og 55 53 true (.ld none (.t 54)),
     og 56 53 true (.callp 8 [(.t 55), (kc 1), (kc 64)]),
     o 57 (.pick (.t 53) (.t 56) (kb false)),
     o 58 (.mv (.t 57)),
     og 59 58 true (.fa 11 (.t 1)),
     og 60 58 true (.ld none (.t 59)),
     og 61 58 true (.callp 8 [(.t 60), (kc 1), (kc 64)]),
     o 62 (.pick (.t 58) (.t 61) (kb false)),
     o 63 (.mv (.t 62)),
     og 64 63 true (.fa 12 (.t 1)),
     og 65 63 true (.ld none (.t 64)),
     og 66 63 true (.fa 11 (.t 1)),
     og 67 63 true (.ld none (.t 66)),
     og 68 63 true (.callp 8 [(.t 65), (.t 67), (kc 1024)]),
     o 69 (.pick (.t 63) (.t 68) (kb false)),
     o 70 (.mv (.t 69)),
     og 71 70 true (.fa 13 (.t 1)),
     og 72 70 true (.ld none (.t 71)),
     og 73 70 true (.callp 8 [(.t 72), (kc 1), (kc 4096)]),
     o 74 (.pick (.t 70) (.t 73) (kb false)),
     o 75 (.mv (.t 74)),
     og 76 75 true (.fa 14 (.t 1)),
     og 77 75 true (.ld none (.t 76)),
     og 78 75 true (.callp 8 [(.t 77), (kc 1), (kc 1099511627776)]),
     o 79 (.pick (.t 75) (.t 78) (kb false)),
     o 2 (.mv (.t 79))])
   .ret)),
 [.t 2], false⟩
def a6 : AF := ⟨33,
 (.seq
  (rg [
    o 0 (.mv (kb false))])
  (.seq
   (rg [
     o 6 (.build [.d (.i .u8 0), .d (.i .u8 0), .d (.i .u8 0), .d (.i .u8 0), .d (.i .u8 0), .d (.i .u8 0), .d (.i .u8 0), .d (.i .u8 0), .d (.i .u8 0), .d (.i .u8 0), .d (.i .u8 0), .d (.i .u8 0)] []),
     o 7 (.callp 9 [(.t 6)]),
     o 8 (.call 4 [(.t 7)]),
     oz 5 (.mv (.t 8)),
     o 9 (.ext (.t 5) 0),
     o 10 (.ext (.t 5) 1),
     o 1 (.mv (.t 9)),
     o 2 (.mv (.t 10))])
   (.seq
    (.seq
     (rg [
       o 11 (.mv (.t 2)),
       o 12 (.bin .neq (.t 11) (kc 0)),
       o 13 (.mv (.t 12)),
       og 14 13 false (.mv (.t 1)),
       og 15 13 false (.nilc 1 false (.t 14)),
       o 16 (.pick (.t 13) (kb true) (.t 15))])
     (.cond (.t 16)
      (.seq
       (rg [
         o 0 (.mv (kb false))])
       .ret)
      .skip))
    (.seq
     (rg [
       o 17 (.mv (.t 1)),
       o 18 (.call 10 [(.t 17)]),
       o 19 (.mv (.t 1)),
       o 20 (.call 10 [(.t 19)]),
       o 3 (.mv (.t 18)),
       o 4 (.mv (.t 20))])
     (.seq
      (rg [
        o 21 (.mv (.t 3)),
        o 22 (.mv (.t 21)),
        og 23 22 true (.mv (.t 4)),
        og 24 22 true (.un .not (.t 23)),
        o 25 (.pick (.t 22) (.t 24) (kb false)),
        o 26 (.mv (.t 25)),
        og 27 26 true (.mv (.t 1)),
        og 28 26 true (.build [.d (.i .i64 0), .d (.i .i64 0), .d (.i .i64 0), .d (.i .i64 0), .d (.s []), .ns] [(0, 1, (kc 9))]),
        og 29 26 true (.call 11 [(.t 27), (.t 28)]),
        og 30 26 true (.fld none 0 (.t 29)),
        og 31 26 true (.bin .eql (.t 30) (kc 10)),
        o 32 (.pick (.t 26) (.t 31) (kb false)),
        o 0 (.mv (.t 32))])
      .ret))))),
 [.t 0], false⟩
def a7_0 : AC :=
 (.seq
  (rg [
    o 57 (.bin .lss (.t 56) (.t 55))])
  (.seq
   (.cond (.t 57)
    .skip
    (.exit 0))
   (.seq
    (.block 1
     (.seq
      (rg [
        o 58 (.ia 3 (.t 54) (.t 56)),
        o 59 (.ld (some 3) (.t 58)),
        o 4 (.alloc [.d (.i .i64 0), .d (.i .i64 0), .d (.i .i64 0)]),
        on (.st 3 (.t 4) (.t 59))])
      (.seq
       (rg [
         o 60 (.fa 0 (.t 4)),
         o 61 (.ld none (.t 60)),
         o 62 (.fa 1 (.t 4)),
         o 63 (.ld none (.t 62)),
         o 64 (.bin .lss (.t 61) (.t 63)),
         o 65 (.mv (.t 64)),
         og 66 65 false (.fa 0 (.t 4)),
         og 67 65 false (.ld none (.t 66)),
         og 68 65 false (.fa 2 (.t 4)),
         og 69 65 false (.ld none (.t 68)),
         og 70 65 false (.bin .gtr (.t 67) (.t 69)),
         o 71 (.pick (.t 65) (kb true) (.t 70))])
       (.cond (.t 71)
        (.seq
         (rg [
           o 2 (.mv (kb false))])
         .ret)
        .skip))))
    (rg [
      o 72 (.bin .add (.t 56) (kc 1)),
      o 56 (.mv (.t 72))]))))
def a7 : AF := ⟨73,
 (.seq
  (rg [
    o 1 (.box (.t 0)),
    o 2 (.mv (kb false))])
  (.seq
   (.seq
    (rg [
      o 5 (.fa 0 (.t 1)),
      o 6 (.ld none (.t 5)),
      o 7 (.build [.d (.i .i64 0), .d (.i .i64 0), .d (.i .i64 0)] [(0, 1, (.t 6)), (1, 1, (kc 1)), (2, 1, (kc 8))]),
      o 8 (.fa 1 (.t 1)),
      o 9 (.ld none (.t 8)),
      o 10 (.build [.d (.i .i64 0), .d (.i .i64 0), .d (.i .i64 0)] [(0, 1, (.t 9)), (1, 1, (kc 20)), (2, 1, (kc 65536))]),
      o 11 (.fa 2 (.t 1)),
      o 12 (.ld none (.t 11)),
      o 13 (.build [.d (.i .i64 0), .d (.i .i64 0), .d (.i .i64 0)] [(0, 1, (.t 12)), (1, 1, (kc 0)), (2, 1, (kc 1048576))]),
      o 14 (.fa 3 (.t 1)),
      o 15 (.ld none (.t 14)),
      o 16 (.build [.d (.i .i64 0), .d (.i .i64 0), .d (.i .i64 0)] [(0, 1, (.t 15)), (1, 1, (kc 1)), (2, 1, (kc 1048576))]),
      o 17 (.fa 4 (.t 1)),
      o 18 (.ld none (.t 17)),
      o 19 (.build [.d (.i .i64 0), .d (.i .i64 0), .d (.i .i64 0)] [(0, 1, (.t 18)), (1, 1, (kc 100)), (2, 1, (kc 4096))]),
      o 20 (.fa 5 (.t 1)),
      o 21 (.ld none (.t 20)),
      o 22 (.build [.d (.i .i64 0), .d (.i .i64 0), .d (.i .i64 0)] [(0, 1, (.t 21)), (1, 1, (kc 1)), (2, 1, (kc 8))]),
      o 23 (.fa 6 (.t 1)),
      o 24 (.ld none (.t 23)),
      o 25 (.fa 4 (.t 1)),
      o 26 (.ld none (.t 25)),
      o 27 (.build [.d (.i .i64 0), .d (.i .i64 0), .d (.i .i64 0)] [(0, 1, (.t 24)), (1, 1, (.t 26)), (2, 1, (kc 65536))]),
      o 28 (.fa 7 (.t 1)),
      o 29 (.ld none (.t 28)),
      o 30 (.build [.d (.i .i64 0), .d (.i .i64 0), .d (.i .i64 0)] [(0, 1, (.t 29)), (1, 1, (kc 0)), (2, 1, (kc 8))]),
      o 31 (.fa 8 (.t 1)),
      o 32 (.ld none (.t 31)),
      o 33 (.build [.d (.i .i64 0), .d (.i .i64 0), .d (.i .i64 0)] [(0, 1, (.t 32)), (1, 1, (kc 16)), (2, 1, (kc 4096))]),
      o 34 (.fa 9 (.t 1)),
      o 35 (.ld none (.t 34)),
      o 36 (.build [.d (.i .i64 0), .d (.i .i64 0), .d (.i .i64 0)] [(0, 1, (.t 35)), (1, 1, (kc 1)), (2, 1, (kc 64))]),
      o 37 (.fa 10 (.t 1)),
      o 38 (.ld none (.t 37)),
      o 39 (.build [.d (.i .i64 0), .d (.i .i64 0), .d (.i .i64 0)] [(0, 1, (.t 38)), (1, 1, (kc 1)), (2, 1, (kc 64))]),
      o 40 (.fa 11 (.t 1)),
      o 41 (.ld none (.t 40)),
      o 42 (.build [.d (.i .i64 0), .d (.i .i64 0), .d (.i .i64 0)] [(0, 1, (.t 41)), (1, 1, (kc 1)), (2, 1, (kc 64))]),
      o 43 (.fa 12 (.t 1)),
      o 44 (.ld none (.t 43)),
      o 45 (.fa 11 (.t 1)),
      o 46 (.ld none (.t 45)),
      o 47 (.build [.d (.i .i64 0), .d (.i .i64 0), .d (.i .i64 0)] [(0, 1, (.t 44)), (1, 1, (.t 46)), (2, 1, (kc 1024))]),
      o 48 (.fa 13 (.t 1)),
      o 49 (.ld none (.t 48)),
      o 50 (.build [.d (.i .i64 0), .d (.i .i64 0), .d (.i .i64 0)] [(0, 1, (.t 49)), (1, 1, (kc 1)), (2, 1, (kc 4096))]),
      o 51 (.fa 14 (.t 1)),
      o 52 (.ld none (.t 51)),
      o 53 (.build [.d (.i .i64 0), .d (.i .i64 0), .d (.i .i64 0)] [(0, 1, (.t 52)), (1, 1, (kc 1)), (2, 1, (kc 1099511627776))]),
      o 54 (.bsl 3 (List.replicate 15 [.i .i64 0, .i .i64 0, .i .i64 0]) [(0, (.t 7)), (1, (.t 10)), (2, (.t 13)), (3, (.t 16)), (4, (.t 19)), (5, (.t 22)), (6, (.t 27)), (7, (.t 30)), (8, (.t 33)), (9, (.t 36)), (10, (.t 39)), (11, (.t 42)), (12, (.t 47)), (13, (.t 50)), (14, (.t 53))]),
      o 55 (.len false (.t 54)),
      o 56 (.mv (kc 0))])
    (.block 0
     (.loop [54, 55, 56] a7_0)))
   (.seq
    (rg [
      o 2 (.mv (kb true))])
    .ret))),
 [.t 2], false⟩
def a8 : AF := ⟨15,
 (.seq
  (rg [
    o 6 (.mv (kb false))])
  (.seq
   (rg [
     o 7 (.mv (.t 0)),
     o 8 (.mv (.t 1)),
     o 9 (.bin .geq (.t 7) (.t 8)),
     o 10 (.mv (.t 9)),
     og 11 10 true (.mv (.t 0)),
     og 12 10 true (.mv (.t 2)),
     og 13 10 true (.bin .leq (.t 11) (.t 12)),
     o 14 (.pick (.t 10) (.t 13) (kb false)),
     o 6 (.mv (.t 14))])
   .ret)),
 [.t 6], false⟩
def a9 : AF := ⟨90,
 (.seq
  (rg [
    o 1 (.box (.t 0)),
    o 2 (.alloc [.d (.i .i64 0), .d (.i .i64 0), .d (.i .i64 0), .d (.i .i64 0), .d (.i .i64 0), .d (.i .i64 0), .d (.i .i64 0), .d (.i .i64 0), .d (.i .i64 0), .d (.i .i64 0), .d (.i .i64 0), .d (.i .i64 0), .d (.i .i64 0), .d (.i .i64 0), .d (.i .i64 0)])])
  (.seq
   (rg [
     o 4 (.iar 12 1 (.t 1) (kc 0)),
     o 5 (.ld none (.t 4)),
     o 6 (.bin .rem (.t 5) (kx (.d (.i .u8 4)))),
     o 7 (.cvi .i64 (.t 6)),
     o 8 (.bin .add (kc 1) (.t 7)),
     o 9 (.iar 12 1 (.t 1) (kc 1)),
     o 10 (.ld none (.t 9)),
     o 11 (.bin .rem (.t 10) (kx (.d (.i .u8 80)))),
     o 12 (.cvi .i64 (.t 11)),
     o 13 (.bin .add (kc 20) (.t 12)),
     o 14 (.iar 12 1 (.t 1) (kc 2)),
     o 15 (.ld none (.t 14)),
     o 16 (.cvi .i64 (.t 15)),
     o 17 (.iar 12 1 (.t 1) (kc 3)),
     o 18 (.ld none (.t 17)),
     o 19 (.bin .rem (.t 18) (kx (.d (.i .u8 40)))),
     o 20 (.cvi .i64 (.t 19)),
     o 21 (.bin .add (kc 1) (.t 20)),
     o 22 (.iar 12 1 (.t 1) (kc 4)),
     o 23 (.ld none (.t 22)),
     o 24 (.bin .rem (.t 23) (kx (.d (.i .u8 100)))),
     o 25 (.cvi .i64 (.t 24)),
     o 26 (.bin .add (kc 100) (.t 25)),
     o 27 (.iar 12 1 (.t 1) (kc 5)),
     o 28 (.ld none (.t 27)),
     o 29 (.bin .rem (.t 28) (kx (.d (.i .u8 4)))),
     o 30 (.cvi .i64 (.t 29)),
     o 31 (.bin .add (kc 1) (.t 30)),
     o 32 (.iar 12 1 (.t 1) (kc 6)),
     o 33 (.ld none (.t 32)),
     o 34 (.bin .rem (.t 33) (kx (.d (.i .u8 4)))),
     o 35 (.cvi .i64 (.t 34)),
     o 36 (.iar 12 1 (.t 1) (kc 7)),
     o 37 (.ld none (.t 36)),
     o 38 (.bin .rem (.t 37) (kx (.d (.i .u8 40)))),
     o 39 (.cvi .i64 (.t 38)),
     o 40 (.bin .add (kc 16) (.t 39)),
     o 41 (.iar 12 1 (.t 1) (kc 8)),
     o 42 (.ld none (.t 41)),
     o 43 (.bin .rem (.t 42) (kx (.d (.i .u8 8)))),
     o 44 (.cvi .i64 (.t 43)),
     o 45 (.bin .add (kc 1) (.t 44)),
     o 46 (.iar 12 1 (.t 1) (kc 9)),
     o 47 (.ld none (.t 46)),
     o 48 (.bin .rem (.t 47) (kx (.d (.i .u8 6)))),
     o 49 (.cvi .i64 (.t 48)),
     o 50 (.bin .add (kc 1) (.t 49)),
     o 51 (.iar 12 1 (.t 1) (kc 10)),
     o 52 (.ld none (.t 51)),
     o 53 (.bin .rem (.t 52) (kx (.d (.i .u8 3)))),
     o 54 (.cvi .i64 (.t 53)),
     o 55 (.bin .add (kc 1) (.t 54)),
     o 56 (.iar 12 1 (.t 1) (kc 11)),
     o 57 (.ld none (.t 56)),
     o 58 (.bin .rem (.t 57) (kx (.d (.i .u8 20)))),
     o 59 (.cvi .i64 (.t 58)),
     o 60 (.bin .add (kc 1) (.t 59)),
     o 61 (.build [.d (.i .i64 0), .d (.i .i64 0), .d (.i .i64 0), .d (.i .i64 0), .d (.i .i64 0), .d (.i .i64 0), .d (.i .i64 0), .d (.i .i64 0), .d (.i .i64 0), .d (.i .i64 0), .d (.i .i64 0), .d (.i .i64 0), .d (.i .i64 0), .d (.i .i64 0), .d (.i .i64 0)] [(0, 1, (.t 8)), (1, 1, (.t 13)), (2, 1, (.t 16)), (3, 1, (.t 21)), (4, 1, (.t 26)), (5, 1, (.t 31)), (7, 1, (.t 35)), (8, 1, (.t 40)), (9, 1, (.t 45)), (10, 1, (.t 50)), (11, 1, (.t 55)), (13, 1, (.t 60)), (14, 1, (kc 1099511627776))]),
     o 3 (.alloc [.d (.i .i64 0), .d (.i .i64 0), .d (.i .i64 0), .d (.i .i64 0), .d (.i .i64 0), .d (.i .i64 0), .d (.i .i64 0), .d (.i .i64 0), .d (.i .i64 0), .d (.i .i64 0), .d (.i .i64 0), .d (.i .i64 0), .d (.i .i64 0), .d (.i .i64 0), .d (.i .i64 0)]),
     on (.st 15 (.t 3) (.t 61))])
   (.seq
    (rg [
      o 62 (.fa 4 (.t 3)),
      o 63 (.ld none (.t 62)),
      o 64 (.iar 12 1 (.t 1) (kc 5)),
      o 65 (.ld none (.t 64)),
      o 66 (.cvi .i64 (.t 65)),
      o 67 (.bin .add (.t 63) (.t 66)),
      o 68 (.fa 6 (.t 3)),
      on (.st 1 (.t 68) (.t 67))])
    (.seq
     (rg [
       o 69 (.fa 11 (.t 3)),
       o 70 (.ld none (.t 69)),
       o 71 (.iar 12 1 (.t 1) (kc 10)),
       o 72 (.ld none (.t 71)),
       o 73 (.bin .rem (.t 72) (kx (.d (.i .u8 5)))),
       o 74 (.cvi .i64 (.t 73)),
       o 75 (.bin .add (.t 70) (.t 74)),
       o 76 (.fa 12 (.t 3)),
       on (.st 1 (.t 76) (.t 75))])
     (.seq
      (.seq
       (rg [
         o 77 (.iar 12 1 (.t 1) (kc 8)),
         o 78 (.ld none (.t 77)),
         o 79 (.bin .gtr (.t 78) (kx (.d (.i .u8 240))))])
       (.cond (.t 79)
        (.seq
         (rg [
           o 80 (.iar 12 1 (.t 1) (kc 3)),
           o 81 (.ld none (.t 80)),
           o 82 (.bin .rem (.t 81) (kx (.d (.i .u8 30)))),
           o 83 (.cvi .i64 (.t 82)),
           o 84 (.fa 14 (.t 3)),
           on (.st 1 (.t 84) (.t 83))])
         (rg [
           o 85 (.fa 14 (.t 3)),
           o 86 (.ld none (.t 85)),
           o 87 (.mm true (.t 86) (kc 1)),
           o 88 (.fa 14 (.t 3)),
           on (.st 1 (.t 88) (.t 87))]))
        .skip))
      (.seq
       (rg [
         o 89 (.ld (some 15) (.t 3)),
         on (.st 15 (.t 2) (.t 89))])
       .ret)))))),
 [.c (some 15) 2], false⟩
def a10 : AF := ⟨7,
 (.seq
  (rg [
    o 2 (.mv (kb false))])
  (.seq
   (rg [
     o 3 (.mv (.t 0)),
     o 4 (.nck (.t 3)),
     o 5 (.fa 42 (.t 4)),
     o 6 (.call 12 [(.t 5), (kb false), (kb true)]),
     oz 2 (.mv (.t 6))])
   .ret)),
 [.t 2], false⟩
def ans : List (Nat × Ann) := [
  (3, ⟨[(1, 1, 8), (1, 2, 2)], [], false, false⟩),
  (4, ⟨[], [], true, false⟩),
  (5, ⟨[], [], false, false⟩),
  (6, ⟨[(1, 2, 8), (4, 1, 8), (4, 3, 8), (5, 8, 8), (1, 3, 2)], [], false, false⟩),
  (7, ⟨[], [[54, 55, 56]], false, false⟩),
  (8, ⟨[], [], false, false⟩),
  (9, ⟨[], [], false, false⟩),
  (10, ⟨[(1, 3, 8), (1, 4, 2)], [], false, false⟩),
  (11, ⟨[], [], true, true⟩),
  (12, ⟨[], [], true, true⟩)]
theorem s3 : compS Tryz.prog 3 (anOf ans 3) = some a3 := by kernel_rfl
theorem s4 : compS Tryz.prog 4 (anOf ans 4) = some a4 := by kernel_rfl
theorem s5 : compS Tryz.prog 5 (anOf ans 5) = some a5 := by kernel_rfl
theorem s6 : compS Tryz.prog 6 (anOf ans 6) = some a6 := by kernel_rfl
theorem s7 : compS Tryz.prog 7 (anOf ans 7) = some a7 := by kernel_rfl
theorem s8 : compS Tryz.prog 8 (anOf ans 8) = some a8 := by kernel_rfl
theorem s9 : compS Tryz.prog 9 (anOf ans 9) = some a9 := by kernel_rfl
theorem s10 : compS Tryz.prog 10 (anOf ans 10) = some a10 := by kernel_rfl
def lib : Lib := ⟨[], [], []⟩
noncomputable abbrev call : Phi := callU (progOf Tryz.prog (anOf ans)) (libX extF lib)
end Go.Proofs.YtgfkmjmffhcgdaaGreat

namespace Go.Proofs.YtgfkmjmffhcgdaaGreat
open Go.Vi Go.Shelf
theorem lib_ok : lib.Ok Tryz.prog where
  clones := by
    intro f sz bytes h
    cases h
  inss := by
    intro f k bytes h
    cases h
  dels := by
    intro f k h
    cases h
end Go.Proofs.YtgfkmjmffhcgdaaGreat

namespace Go.Proofs.YtgfkmjmffhcgdaaGreat
open Go.Vi
structure Cnf where
  (n0 n1 n2 n3 n4 n5 n6 n7 n8 n9 n10 n11 n12 n13 n14 : Int)
def Cnf.l (c : Cnf) : List L := [.d (.i .i64 c.n0), .d (.i .i64 c.n1), .d (.i .i64 c.n2), .d (.i .i64 c.n3), .d (.i .i64 c.n4), .d (.i .i64 c.n5), .d (.i .i64 c.n6), .d (.i .i64 c.n7), .d (.i .i64 c.n8), .d (.i .i64 c.n9), .d (.i .i64 c.n10), .d (.i .i64 c.n11), .d (.i .i64 c.n12), .d (.i .i64 c.n13), .d (.i .i64 c.n14)]
abbrev Tri := Int × Int × Int
def Tri.enc (t : Tri) : List D := [.i .i64 t.1, .i .i64 t.2.1, .i .i64 t.2.2]
def Tri.ok (t : Tri) : Bool := decide (t.2.1 ≤ t.1) && decide (t.1 ≤ t.2.2)
def Cnf.t (c : Cnf) : List Tri := [(c.n0, 1, 8), (c.n1, 20, 65536), (c.n2, 0, 1048576), (c.n3, 1, 1048576), (c.n4, 100, 4096), (c.n5, 1, 8), (c.n6, c.n4, 65536), (c.n7, 0, 8), (c.n8, 16, 4096), (c.n9, 1, 64), (c.n10, 1, 64), (c.n11, 1, 64), (c.n12, c.n11, 1024), (c.n13, 1, 4096), (c.n14, 1, 1099511627776)]
def Cnf.ok (c : Cnf) : Bool := c.t.all Tri.ok
theorem among_spec (n a b : Int) : call 8 [vi n, vi a, vi b] [] = some (vb (Tri.ok (n, a, b)), []) := by
  apply enterS s8 rfl
  by_cases h : a ≤ n
  · have e : Tri.ok (n, a, b) = decide (n ≤ b) := by simp [Tri.ok, h]
    rw [e]
    (simp (disch:=first|decide|omega|(intros;exact Eq.trans rfl rfl)|(simp only[puri];done)) only [a8, decide_eq_true h, go_sem, seval, dis])
  · have e : Tri.ok (n, a, b) = false := by simp [Tri.ok, h]
    rw [e]
    (simp (disch:=first|decide|omega|(intros;exact Eq.trans rfl rfl)|(simp only[puri];done)) only [a8, decide_eq_false h, go_sem, seval, dis])
set_option maxRecDepth 20000 in
set_option maxHeartbeats 4000000 in
theorem right25_spec (c : Cnf) : call 5 [.agg c.l] [] = some (vb c.ok, []) := by
  apply enterS s5 rfl
  have hs : c.ok = (Tri.ok (c.n0, 1, 8) && Tri.ok (c.n1, 20, 65536) && Tri.ok (c.n2, 0, 1048576) && Tri.ok (c.n3, 1, 1048576) && Tri.ok (c.n4, 100, 4096) && Tri.ok (c.n5, 1, 8) && Tri.ok (c.n6, c.n4, 65536) && Tri.ok (c.n7, 0, 8) && Tri.ok (c.n8, 16, 4096) && Tri.ok (c.n9, 1, 64) && Tri.ok (c.n10, 1, 64) && Tri.ok (c.n11, 1, 64) && Tri.ok (c.n12, c.n11, 1024) && Tri.ok (c.n13, 1, 4096) && Tri.ok (c.n14, 1, 1099511627776)) := by
    simp only [Cnf.ok, Cnf.t, List.all_cons, List.all_nil, Bool.and_true, Bool.and_assoc]
  have h0 := among_spec (c.n0) (1) (8)
  have h1 := among_spec (c.n1) (20) (65536)
  have h2 := among_spec (c.n2) (0) (1048576)
  have h3 := among_spec (c.n3) (1) (1048576)
  have h4 := among_spec (c.n4) (100) (4096)
  have h5 := among_spec (c.n5) (1) (8)
  have h6 := among_spec (c.n6) (c.n4) (65536)
  have h7 := among_spec (c.n7) (0) (8)
  have h8 := among_spec (c.n8) (16) (4096)
  have h9 := among_spec (c.n9) (1) (64)
  have h10 := among_spec (c.n10) (1) (64)
  have h11 := among_spec (c.n11) (1) (64)
  have h12 := among_spec (c.n12) (c.n11) (1024)
  have h13 := among_spec (c.n13) (1) (4096)
  have h14 := among_spec (c.n14) (1) (1099511627776)
  obtain ⟨b0, e0⟩ : ∃ b, b = Tri.ok (c.n0, 1, 8) := ⟨_, rfl⟩
  rw [← e0] at h0 hs
  obtain ⟨b1, e1⟩ : ∃ b, b = Tri.ok (c.n1, 20, 65536) := ⟨_, rfl⟩
  rw [← e1] at h1 hs
  obtain ⟨b2, e2⟩ : ∃ b, b = Tri.ok (c.n2, 0, 1048576) := ⟨_, rfl⟩
  rw [← e2] at h2 hs
  obtain ⟨b3, e3⟩ : ∃ b, b = Tri.ok (c.n3, 1, 1048576) := ⟨_, rfl⟩
  rw [← e3] at h3 hs
  obtain ⟨b4, e4⟩ : ∃ b, b = Tri.ok (c.n4, 100, 4096) := ⟨_, rfl⟩
  rw [← e4] at h4 hs
  obtain ⟨b5, e5⟩ : ∃ b, b = Tri.ok (c.n5, 1, 8) := ⟨_, rfl⟩
  rw [← e5] at h5 hs
  obtain ⟨b6, e6⟩ : ∃ b, b = Tri.ok (c.n6, c.n4, 65536) := ⟨_, rfl⟩
  rw [← e6] at h6 hs
  obtain ⟨b7, e7⟩ : ∃ b, b = Tri.ok (c.n7, 0, 8) := ⟨_, rfl⟩
  rw [← e7] at h7 hs
  obtain ⟨b8, e8⟩ : ∃ b, b = Tri.ok (c.n8, 16, 4096) := ⟨_, rfl⟩
  rw [← e8] at h8 hs
  obtain ⟨b9, e9⟩ : ∃ b, b = Tri.ok (c.n9, 1, 64) := ⟨_, rfl⟩
  rw [← e9] at h9 hs
  obtain ⟨b10, e10⟩ : ∃ b, b = Tri.ok (c.n10, 1, 64) := ⟨_, rfl⟩
  rw [← e10] at h10 hs
  obtain ⟨b11, e11⟩ : ∃ b, b = Tri.ok (c.n11, 1, 64) := ⟨_, rfl⟩
  rw [← e11] at h11 hs
  obtain ⟨b12, e12⟩ : ∃ b, b = Tri.ok (c.n12, c.n11, 1024) := ⟨_, rfl⟩
  rw [← e12] at h12 hs
  obtain ⟨b13, e13⟩ : ∃ b, b = Tri.ok (c.n13, 1, 4096) := ⟨_, rfl⟩
  rw [← e13] at h13 hs
  obtain ⟨b14, e14⟩ : ∃ b, b = Tri.ok (c.n14, 1, 1099511627776) := ⟨_, rfl⟩
  rw [← e14] at h14 hs
  rw [hs]
  clear hs
  have hcl : c.l = [.d (.i .i64 c.n0), .d (.i .i64 c.n1), .d (.i .i64 c.n2), .d (.i .i64 c.n3), .d (.i .i64 c.n4), .d (.i .i64 c.n5), .d (.i .i64 c.n6), .d (.i .i64 c.n7), .d (.i .i64 c.n8), .d (.i .i64 c.n9), .d (.i .i64 c.n10), .d (.i .i64 c.n11), .d (.i .i64 c.n12), .d (.i .i64 c.n13), .d (.i .i64 c.n14)] := rfl
  rw [hcl]
  clear e0 e1 e2 e3 e4 e5 e6 e7 e8 e9 e10 e11 e12 e13 e14
  cases b0
  · (simp (disch:=first|decide|omega|(intros;exact Eq.trans rfl rfl)|(simp only[puri];done)) only [a5, h0, Bool.false_and, Bool.and_false, Bool.true_and, go_sem, seval, dis])
    try rfl
  cases b1
  · (simp (disch:=first|decide|omega|(intros;exact Eq.trans rfl rfl)|(simp only[puri];done)) only [a5, h0, h1, Bool.false_and, Bool.and_false, Bool.true_and, go_sem, seval, dis])
    try rfl
  cases b2
  · (simp (disch:=first|decide|omega|(intros;exact Eq.trans rfl rfl)|(simp only[puri];done)) only [a5, h0, h1, h2, Bool.false_and, Bool.and_false, Bool.true_and, go_sem, seval, dis])
    try rfl
  cases b3
  · (simp (disch:=first|decide|omega|(intros;exact Eq.trans rfl rfl)|(simp only[puri];done)) only [a5, h0, h1, h2, h3, Bool.false_and, Bool.and_false, Bool.true_and, go_sem, seval, dis])
    try rfl
  cases b4
  · (simp (disch:=first|decide|omega|(intros;exact Eq.trans rfl rfl)|(simp only[puri];done)) only [a5, h0, h1, h2, h3, h4, Bool.false_and, Bool.and_false, Bool.true_and, go_sem, seval, dis])
    try rfl
  cases b5
  · (simp (disch:=first|decide|omega|(intros;exact Eq.trans rfl rfl)|(simp only[puri];done)) only [a5, h0, h1, h2, h3, h4, h5, Bool.false_and, Bool.and_false, Bool.true_and, go_sem, seval, dis])
    try rfl
  cases b6
  · (simp (disch:=first|decide|omega|(intros;exact Eq.trans rfl rfl)|(simp only[puri];done)) only [a5, h0, h1, h2, h3, h4, h5, h6, Bool.false_and, Bool.and_false, Bool.true_and, go_sem, seval, dis])
    try rfl
  cases b7
  · (simp (disch:=first|decide|omega|(intros;exact Eq.trans rfl rfl)|(simp only[puri];done)) only [a5, h0, h1, h2, h3, h4, h5, h6, h7, Bool.false_and, Bool.and_false, Bool.true_and, go_sem, seval, dis])
    try rfl
  cases b8
  · (simp (disch:=first|decide|omega|(intros;exact Eq.trans rfl rfl)|(simp only[puri];done)) only [a5, h0, h1, h2, h3, h4, h5, h6, h7, h8, Bool.false_and, Bool.and_false, Bool.true_and, go_sem, seval, dis])
    try rfl
  cases b9
  · (simp (disch:=first|decide|omega|(intros;exact Eq.trans rfl rfl)|(simp only[puri];done)) only [a5, h0, h1, h2, h3, h4, h5, h6, h7, h8, h9, Bool.false_and, Bool.and_false, Bool.true_and, go_sem, seval, dis])
    try rfl
  cases b10
  · (simp (disch:=first|decide|omega|(intros;exact Eq.trans rfl rfl)|(simp only[puri];done)) only [a5, h0, h1, h2, h3, h4, h5, h6, h7, h8, h9, h10, Bool.false_and, Bool.and_false, Bool.true_and, go_sem, seval, dis])
    try rfl
  cases b11
  · (simp (disch:=first|decide|omega|(intros;exact Eq.trans rfl rfl)|(simp only[puri];done)) only [a5, h0, h1, h2, h3, h4, h5, h6, h7, h8, h9, h10, h11, Bool.false_and, Bool.and_false, Bool.true_and, go_sem, seval, dis])
    try rfl
  cases b12
  · (simp (disch:=first|decide|omega|(intros;exact Eq.trans rfl rfl)|(simp only[puri];done)) only [a5, h0, h1, h2, h3, h4, h5, h6, h7, h8, h9, h10, h11, h12, Bool.false_and, Bool.and_false, Bool.true_and, go_sem, seval, dis])
    try rfl
  cases b13
  · (simp (disch:=first|decide|omega|(intros;exact Eq.trans rfl rfl)|(simp only[puri];done)) only [a5, h0, h1, h2, h3, h4, h5, h6, h7, h8, h9, h10, h11, h12, h13, Bool.false_and, Bool.and_false, Bool.true_and, go_sem, seval, dis])
    try rfl
  cases b14
  · (simp (disch:=first|decide|omega|(intros;exact Eq.trans rfl rfl)|(simp only[puri];done)) only [a5, h0, h1, h2, h3, h4, h5, h6, h7, h8, h9, h10, h11, h12, h13, h14, Bool.false_and, Bool.and_false, Bool.true_and, go_sem, seval, dis])
    try rfl
  (simp (disch:=first|decide|omega|(intros;exact Eq.trans rfl rfl)|(simp only[puri];done)) only [a5, h0, h1, h2, h3, h4, h5, h6, h7, h8, h9, h10, h11, h12, h13, h14, go_sem, seval, dis])
  try rfl
end Go.Proofs.YtgfkmjmffhcgdaaGreat

namespace Go.Proofs.YtgfkmjmffhcgdaaGreat
open Go.Vi
theorem all_from (l : List Tri) (i : Nat) (h : i < l.length) : (l.drop i).all Tri.ok = (l[i].ok && (l.drop (i + 1)).all Tri.ok) := by
  rw [List.drop_eq_getElem_cons h, List.all_cons]
set_option maxRecDepth 20000 in
set_option maxHeartbeats 4000000 in
theorem right_spec (c : Cnf) : call 7 [.agg c.l] [] = some (vb c.ok, []) := by
  apply enterS s7 rfl
  have hcl : c.l = [.d (.i .i64 c.n0), .d (.i .i64 c.n1), .d (.i .i64 c.n2), .d (.i .i64 c.n3), .d (.i .i64 c.n4), .d (.i .i64 c.n5), .d (.i .i64 c.n6), .d (.i .i64 c.n7), .d (.i .i64 c.n8), .d (.i .i64 c.n9), .d (.i .i64 c.n10), .d (.i .i64 c.n11), .d (.i .i64 c.n12), .d (.i .i64 c.n13), .d (.i .i64 c.n14)] := rfl
  rw [hcl]
  (simp (disch:=first|decide|omega|(intros;exact Eq.trans rfl rfl)|(simp only[puri];done)) only [a7, List.replicate_succ, List.replicate_zero, List.set_cons_zero, List.set_cons_succ, go_sem, seval, dis])
  have hlen : c.t.length = 15 := rfl
  have hrows : [[.i .i64 c.n0, .i .i64 1, .i .i64 8], [.i .i64 c.n1, .i .i64 20, .i .i64 65536], [.i .i64 c.n2, .i .i64 0, .i .i64 1048576], [.i .i64 c.n3, .i .i64 1, .i .i64 1048576], [.i .i64 c.n4, .i .i64 100, .i .i64 4096], [.i .i64 c.n5, .i .i64 1, .i .i64 8], [.i .i64 c.n6, .i .i64 c.n4, .i .i64 65536], [.i .i64 c.n7, .i .i64 0, .i .i64 8], [.i .i64 c.n8, .i .i64 16, .i .i64 4096], [.i .i64 c.n9, .i .i64 1, .i .i64 64], [.i .i64 c.n10, .i .i64 1, .i .i64 64], [.i .i64 c.n11, .i .i64 1, .i .i64 64], [.i .i64 c.n12, .i .i64 c.n11, .i .i64 1024], [.i .i64 c.n13, .i .i64 1, .i .i64 4096], [.i .i64 c.n14, .i .i64 1, .i .i64 1099511627776]] = c.t.map Tri.enc := rfl
  have hok : c.ok = c.t.all Tri.ok := rfl
  rw [hok]
  refine loop_boxM (m := 0) (σ := Nat) (fun i => 15 - i) (fun i => i ≤ 15 ∧ c.t.all Tri.ok = (c.t.drop i).all Tri.ok) (fun i => [V.one (.sl 0 3 0 15), vi 15, vi i]) (fun _ => [.arr 3 (c.t.map Tri.enc) 0])
    (fun _ => (vb (c.t.all Tri.ok), [])) ?_ 0 ⟨by decide, rfl⟩ _ _ (at_headM (by decide) (by simp only [List.map_cons, List.map_nil, go_sem, seval]; exact rfl) (by rfl) (by rfl) (by rfl))
  clear hrows hcl
  generalize c.t = T at *
  intro i ⟨h1, h2⟩ R hR
  by_cases hi : i < 15
  · have hg : (T.map Tri.enc)[i]? = some [.i .i64 T[i].1, .i .i64 T[i].2.1, .i .i64 T[i].2.2] := by
      rw [List.getElem?_map, List.getElem?_eq_getElem (by omega)]; rfl
    rw [all_from T i (by omega)] at h2
    obtain ⟨t, ht⟩ : ∃ t, t = T[i] := ⟨_, rfl⟩
    rw [← ht] at hg h2
    by_cases c1 : t.1 < t.2.1
    · have e : T.all Tri.ok = false := by rw [h2, Tri.ok, decide_eq_false (by omega)]; rfl
      rw [e]
      (simp (disch:=first|decide|omega|(intros;exact Eq.trans rfl rfl)|(simp only[puri];done)) only [a7_0, hg, decide_eq_true c1, go_sem, seval, dis])
      try simp [trim]
    · by_cases c2 : t.2.2 < t.1
      · have e : T.all Tri.ok = false := by rw [h2, Tri.ok, decide_eq_false (p := t.1 ≤ t.2.2) (by omega), Bool.and_false, Bool.false_and]
        rw [e]
        (simp (disch:=first|decide|omega|(intros;exact Eq.trans rfl rfl)|(simp only[puri];done)) only [a7_0, hg, decide_eq_false c1, decide_eq_true c2, go_sem, seval, dis])
        try simp [trim]
      · have e : T.all Tri.ok = (T.drop (i + 1)).all Tri.ok := by rw [h2, Tri.ok, decide_eq_true (p := t.2.1 ≤ t.1) (by omega), decide_eq_true (p := t.1 ≤ t.2.2) (by omega)]; rfl
        (simp (disch:=first|decide|omega|(intros;exact Eq.trans rfl rfl)|(simp only[puri];done)) only [a7_0, hg, decide_eq_false c1, decide_eq_false c2, go_sem, seval, dis])
        exact hR (i + 1) (by omega) ⟨by omega, e⟩ _ _ (at_headM (by decide) (by simp only [List.map_cons, List.map_nil, go_sem, seval]; exact rfl) (by rfl) (by rfl) (by rfl))
  · have e : T.all Tri.ok = true := by rw [h2, List.drop_eq_nil_of_le (by omega)]; rfl
    rw [e]
    (simp (disch:=first|decide|omega|(intros;exact Eq.trans rfl rfl)|(simp only[puri];done)) only [a7_0, a7, go_sem, seval, dis])
    try simp [trim]
def logL (c : Cnf) (s : Int) : List L := [.d (.i .i64 c.n0), .d (.i .i64 c.n1), .d (.i .i64 c.n2), .d (.i .i64 c.n3), .d (.i .i64 c.n4), .d (.i .i64 c.n5), .d (.i .i64 c.n6), .d (.i .i64 c.n7), .d (.i .i64 c.n8), .d (.i .i64 c.n9), .d (.i .i64 c.n10), .d (.i .i64 c.n11), .d (.i .i64 c.n12), .d (.i .i64 c.n13), .d (.i .i64 c.n14), .d (.i .u32 0), .d (.i .i32 0), .d (.i .u32 0), .d (.i .i32 0), .d (.i .u32 0), .d (.i .i64 0), .d (.i .i64 0), .d (.i .i64 0), .d (.i .i64 0), .d (.i .i64 0), .d (.i .i64 0), .d (.i .i64 0), .d (.i .i64 0), .d (.i .i64 0), .d (.i .i64 0), .d (.i .i64 0), .d (.i .i64 0), .d (.i .i64 0), .d (.i .i64 0), .d (.i .i64 0), .d (.i .i64 0), .ns, .ns, .ns, .ns, .ns, .d (.i .i64 0), .d (.i .u32 s), .d (.i .i64 0), .d (.i .i64 0), .d (.i .i64 0)]
def openT (c : Cnf) : V × Hp := if c.ok then (.tup [(false, [.p 1 0]), (false, [.d (.i .i64 0)])], [.cells c.l, .cells (logL c 0)]) else (.tup [(false, [.np]), (false, [.d (.i .i64 1)])], [])
set_option maxRecDepth 20000 in
set_option maxHeartbeats 4000000 in
theorem open_spec (c : Cnf) : call 4 [.agg c.l] [] = some (openT c) := by
  apply enterS s4 rfl
  have h := right_spec c
  have hcl : c.l = [.d (.i .i64 c.n0), .d (.i .i64 c.n1), .d (.i .i64 c.n2), .d (.i .i64 c.n3), .d (.i .i64 c.n4), .d (.i .i64 c.n5), .d (.i .i64 c.n6), .d (.i .i64 c.n7), .d (.i .i64 c.n8), .d (.i .i64 c.n9), .d (.i .i64 c.n10), .d (.i .i64 c.n11), .d (.i .i64 c.n12), .d (.i .i64 c.n13), .d (.i .i64 c.n14)] := rfl
  rw [hcl] at h ⊢
  unfold openT
  by_cases k : c.ok = true
  · rw [k] at h
    rw [if_pos k]
    have htr : ∀ H : Hp, trim 0 (.tup [(false, [.p 1 0]), (false, [.d (.i .i64 0)])]) H = (.tup [(false, [.p 1 0]), (false, [.d (.i .i64 0)])], H) := fun H => by simp [trim, V.refs, L.refs]
    (simp (disch:=first|decide|omega|(intros;exact Eq.trans rfl rfl)|(simp only[puri];done)) only [a4, h, ↓htr, go_sem, seval, dis])
    try rfl
  · rw [Bool.not_eq_true] at k
    rw [k] at h
    rw [if_neg (by rw [k]; decide)]
    (simp (disch:=first|decide|omega|(intros;exact Eq.trans rfl rfl)|(simp only[puri];done)) only [a4, h, go_sem, seval, dis])
    try simp [trim, V.refs, L.refs]
def conf0 : Cnf := ⟨1, 20, 0, 1, 100, 1, 100, 0, 16, 1, 1, 1, 1, 1, 1099511627776⟩
set_option maxRecDepth 20000 in
set_option maxHeartbeats 4000000 in
theorem conf_spec : call 9 [.agg [.d (.i .u8 0), .d (.i .u8 0), .d (.i .u8 0), .d (.i .u8 0), .d (.i .u8 0), .d (.i .u8 0), .d (.i .u8 0), .d (.i .u8 0), .d (.i .u8 0), .d (.i .u8 0), .d (.i .u8 0), .d (.i .u8 0)]] [] = some (.agg conf0.l, []) := by
  apply enterS s9 rfl
  have hr : ∀ n : Int, 0 < n → n < 256 → binD .rem (.i .u8 0) (.i .u8 n) = some (.i .u8 0) := fun n h1 h2 => by
    simp only [binD]
    rw [if_neg (by decide), if_neg (by omega), Int.zero_tmod]
  (simp (disch:=first|decide|omega|(intros;exact Eq.trans rfl rfl)|(simp only[puri];done)) only [a9, hr, go_sem, seval, dis])
  try rfl
set_option maxRecDepth 20000 in
set_option maxHeartbeats 4000000 in
theorem close_spec (c : Cnf) (s : Int) (h : s = 0 ∨ s = 1) : call 10 [.one (.p 0 0)] [.cells (logL c s)] = some (vb (decide (s = 0)), [.cells (logL c 1)]) := by
  apply enterS s10 rfl
  have hx : call 12 [.one (.p 0 42), vb false, vb true] [.cells (logL c s)] = some (vb (decide (s = 0)), [.cells (logL c 1)]) := by
    refine callU_pr (progOf_out rfl) ?_
    rcases h with rfl | rfl <;> rfl
  have hy : callIso call 12 [.one (.p 0 42), vb false, vb true] [.cells (logL c s)] = some (vb (decide (s = 0)), [.cells (logL c 1)]) := iso_at (ids := [0]) rfl rfl rfl hx rfl
  (simp (disch:=first|decide|omega|(intros;exact Eq.trans rfl rfl)|(simp only[puri];done)) only [a10, hy, go_sem, seval, dis])
  try simp [trim, V.refs, L.refs, Box.refs, logL]
def ans0 : List L := [.d (.i .i64 10), .d (.i .i64 0), .d (.i .i64 0), .d (.i .i64 0), .d (.s []), .ns]
theorem do_spec (c : Cnf) : call 11 [.one (.p 0 0), .agg [.d (.i .i64 9), .d (.i .i64 0), .d (.i .i64 0), .d (.i .i64 0), .d (.s []), .ns]] [.cells (logL c 1)] = some (.agg ans0, [.cells (logL c 1), .cells [.d (.i .i64 9), .d (.i .i64 0), .d (.i .i64 0), .d (.i .i64 0), .d (.s []), .ns], .cells ans0]) :=
  callU_pr (progOf_out rfl) rfl
set_option maxRecDepth 20000 in
set_option maxHeartbeats 4000000 in
theorem awake29 : call 6 [] [] = some (vb true, []) := by
  apply enterS s6 rfl
  have hk : conf0.ok = true := by decide
  have ho := open_spec conf0
  rw [openT, if_pos hk] at ho
  have h1 : callIso call 10 [.one (.p 1 0)] [.cells conf0.l, .cells (logL conf0 0)] = some (vb true, [.cells conf0.l, .cells (logL conf0 1)]) := iso_at (ids := [1]) rfl rfl rfl (close_spec conf0 0 (Or.inl rfl)) rfl
  have h2 : callIso call 10 [.one (.p 1 0)] [.cells conf0.l, .cells (logL conf0 1)] = some (vb false, [.cells conf0.l, .cells (logL conf0 1)]) := iso_at (ids := [1]) rfl rfl rfl (close_spec conf0 1 (Or.inr rfl)) rfl
  have h3 : callIso call 11 [.one (.p 1 0), .agg [.d (.i .i64 9), .d (.i .i64 0), .d (.i .i64 0), .d (.i .i64 0), .d (.s []), .ns]] [.cells conf0.l, .cells (logL conf0 1)] =
    some (.agg ans0, [.cells conf0.l, .cells (logL conf0 1), .cells [.d (.i .i64 9), .d (.i .i64 0), .d (.i .i64 0), .d (.i .i64 0), .d (.s []), .ns], .cells ans0]) := iso_at (ids := [1]) rfl rfl rfl (do_spec conf0) rfl
  have hi : callIso call 4 [.agg conf0.l] [] = some (.tup [(false, [.p 1 0]), (false, [.d (.i .i64 0)])], [.cells conf0.l, .cells (logL conf0 0)]) := iso_at (ids := []) rfl rfl rfl ho rfl
  have hconf := conf_spec
  generalize conf0.l = cl at *
  generalize logL conf0 0 = l0 at *
  generalize logL conf0 1 = l1 at *
  simp only [ans0] at h3
  (simp (disch:=first|decide|omega|(intros;exact Eq.trans rfl rfl)|(simp only[puri];done)) only [a6, hconf, hi, h1, h2, h3, go_sem, seval, dis])
set_option maxRecDepth 20000 in
set_option maxHeartbeats 4000000 in
theorem law_spec (c : Cnf) : call 3 [.agg c.l] [] = some (vb true, []) := by
  apply enterS s3 rfl
  have ho := open_spec c
  have hr := right25_spec c
  have hw := awake29
  unfold openT at ho
  have hcl : c.l = [.d (.i .i64 c.n0), .d (.i .i64 c.n1), .d (.i .i64 c.n2), .d (.i .i64 c.n3), .d (.i .i64 c.n4), .d (.i .i64 c.n5), .d (.i .i64 c.n6), .d (.i .i64 c.n7), .d (.i .i64 c.n8), .d (.i .i64 c.n9), .d (.i .i64 c.n10), .d (.i .i64 c.n11), .d (.i .i64 c.n12), .d (.i .i64 c.n13), .d (.i .i64 c.n14)] := rfl
  by_cases k : c.ok = true
  · rw [if_pos k] at ho
    have hi : callIso call 4 [.agg c.l] [.cells c.l] = some (.tup [(false, [.p 2 0]), (false, [.d (.i .i64 0)])], [.cells c.l, .cells c.l, .cells (logL c 0)]) := iso_at (ids := []) rfl rfl rfl ho rfl
    generalize logL c 0 = l0 at *
    rw [k] at hr
    rw [hcl] at hr hi ⊢
    (simp (disch:=first|decide|omega|(intros;exact Eq.trans rfl rfl)|(simp only[puri];done)) only [a3, hi, hr, hw, go_sem, seval, dis])
  · rw [if_neg k] at ho
    rw [Bool.not_eq_true] at k
    have hi : callIso call 4 [.agg c.l] [.cells c.l] = some (.tup [(false, [.np]), (false, [.d (.i .i64 1)])], [.cells c.l]) := iso_at (ids := []) rfl rfl rfl ho rfl
    rw [k] at hr
    rw [hcl] at hr hi ⊢
    (simp (disch:=first|decide|omega|(intros;exact Eq.trans rfl rfl)|(simp only[puri];done)) only [a3, hi, hr, hw, go_sem, seval, dis])
end Go.Proofs.YtgfkmjmffhcgdaaGreat

namespace Go.Proofs.YtgfkmjmffhcgdaaGreat
open Go.Vi
theorem handleOpens_pure (xs : List V) (h : wfAs [(true, [.i .i64, .i .i64, .i .i64, .i .i64, .i .i64, .i .i64, .i .i64, .i .i64, .i .i64, .i .i64, .i .i64, .i .i64, .i .i64, .i .i64, .i .i64])] xs) : call 3 xs [] = some (vb true, []) := by
  simp only [wfAs, wfA] at h
  obtain ⟨_, _, rfl, ⟨d, rfl, hd⟩, rfl⟩ := h
  simp only [wfRow, wfT] at hd
  obtain ⟨_, _, e0, ⟨n0, rfl, _⟩, _, _, e1, ⟨n1, rfl, _⟩, _, _, e2, ⟨n2, rfl, _⟩, _, _, e3, ⟨n3, rfl, _⟩, _, _, e4, ⟨n4, rfl, _⟩, _, _, e5, ⟨n5, rfl, _⟩, _, _, e6, ⟨n6, rfl, _⟩, _, _, e7, ⟨n7, rfl, _⟩, _, _, e8, ⟨n8, rfl, _⟩, _, _, e9, ⟨n9, rfl, _⟩, _, _, e10, ⟨n10, rfl, _⟩, _, _, e11, ⟨n11, rfl, _⟩, _, _, e12, ⟨n12, rfl, _⟩, _, _, e13, ⟨n13, rfl, _⟩, _, _, e14, ⟨n14, rfl, _⟩, rfl⟩ := hd
  subst e0 e1 e2 e3 e4 e5 e6 e7 e8 e9 e10 e11 e12 e13 e14
  exact law_spec ⟨n0, n1, n2, n3, n4, n5, n6, n7, n8, n9, n10, n11, n12, n13, n14⟩
end Go.Proofs.YtgfkmjmffhcgdaaGreat

