import Derived.Test.YtijnkmjbfekajaaGreatVid
import Derived.Test.YtijnkmjbfekajaaGreatChecked
import Derived.KernelRfl
set_option linter.unusedSimpArgs false
set_option linter.unusedVariables false
namespace Go.Proofs.YtijnkmjbfekajaaGreat
open Go.Vi
def a3_0 : AC :=
 (.seq
 (.seq
 (rg [
 o 43 (.mv (.t 9)),
 o 44 (.mv (.t 1)),
 o 45 (.len false (.t 44)),
 o 46 (.bin .lss (.t 43) (.t 45))])
 (.cond (.t 46)
 .skip
 (.exit 0)))
 (.seq
 (.block 1
 (.seq
 (rd [
 o 50 (.ld (some 11) (.t 5)),
 o 51 (.mv (.t 0)),
 od 52 [1] (.cvi .i64 (.t 51)),
 od 53 [1, 2] (.bin .add (kc 20) (.t 52)),
 o 54 (.mv (.t 1)),
 o 55 (.mv (.t 9)),
 od 56 [5, 4] (.ia 3 (.t 54) (.t 55)),
 od 57 [4, 5, 6] (.ld (some 3) (.t 56)),
 od 58 [6, 5, 4, 7, 2, 1, 3, 0] (.callp 11 [(.t 50), (.t 53), (.t 57)]),
 od 49 [0, 3, 1, 2, 7, 4, 5, 6, 8] (.mv (.t 58)),
 od 59 [8, 6, 5, 4, 7, 2, 1, 3, 0, 9] (.ext (.t 49) 0),
 od 60 [8, 6, 5, 4, 7, 2, 1, 3, 0, 9] (.ext (.t 49) 1),
 o 10 (.alloc [.ns, .d (.i .i64 0), .d (.b false), .d (.i .i64 0), .d (.b false), .d (.i .i64 0), .ns, .d (.i .i64 0), .d (.i .i64 0), .d (.i .i64 0), .d (.i .u32 0)]),
 ⟨none, .st 11 (.t 10) (.t 59), none, [9, 0, 3, 1, 2, 7, 4, 5, 6, 8, 10, 12], false⟩,
 od 11 [12, 10, 13, 9, 0, 3, 1, 2, 7, 4, 5, 6, 8, 11] (.mv (.t 60))])
 (.seq
 (rd [
 o 62 (.ld (some 11) (.t 7)),
 o 63 (.mv (.t 0)),
 od 64 [1] (.cvi .i64 (.t 63)),
 od 65 [1, 2] (.bin .add (kc 20) (.t 64)),
 o 66 (.mv (.t 1)),
 o 67 (.mv (.t 9)),
 od 68 [5, 4] (.ia 3 (.t 66) (.t 67)),
 od 69 [4, 5, 6] (.ld (some 3) (.t 68)),
 od 70 [6, 5, 4, 7, 2, 1, 3, 0] (.callp 12 [(.t 62), (.t 65), (.t 69)]),
 od 61 [0, 3, 1, 2, 7, 4, 5, 6, 8] (.mv (.t 70)),
 od 71 [8, 6, 5, 4, 7, 2, 1, 3, 0, 9] (.ext (.t 61) 0),
 od 72 [8, 6, 5, 4, 7, 2, 1, 3, 0, 9] (.ext (.t 61) 1),
 o 12 (.alloc [.ns, .d (.i .i64 0), .d (.b false), .d (.i .i64 0), .d (.b false), .d (.i .i64 0), .ns, .d (.i .i64 0), .d (.i .i64 0), .d (.i .i64 0), .d (.i .u32 0)]),
 ⟨none, .st 11 (.t 12) (.t 71), none, [9, 0, 3, 1, 2, 7, 4, 5, 6, 8, 10, 12], false⟩,
 od 13 [12, 10, 13, 9, 0, 3, 1, 2, 7, 4, 5, 6, 8, 11] (.mv (.t 72))])
 (.seq
 (.seq
 (rg [
 o 73 (.ld (some 11) (.t 10)),
 o 74 (.ld (some 11) (.t 12)),
 o 75 (.callp 10 [(.t 73), (.t 74)]),
 o 76 (.un .not (.t 75)),
 o 77 (.mv (.t 76)),
 og 78 77 false (.mv (.t 11)),
 og 79 77 false (.mv (.t 13)),
 og 80 77 false (.bin .neq (.t 78) (.t 79)),
 o 81 (.pick (.t 77) (kb true) (.t 80)),
 o 82 (.mv (.t 81)),
 og 83 82 false (.ld (some 11) (.t 5)),
 og 84 82 false (.ld (some 11) (.t 7)),
 og 85 82 false (.callp 10 [(.t 83), (.t 84)]),
 og 86 82 false (.un .not (.t 85)),
 o 87 (.pick (.t 82) (kb true) (.t 86)),
 o 88 (.mv (.t 87)),
 og 89 88 false (.fa 6 (.t 10)),
 og 90 88 false (.ld none (.t 89)),
 og 91 88 false (.len false (.t 90)),
 og 92 88 false (.bin .eql (.t 91) (kc 0)),
 o 93 (.pick (.t 88) (kb true) (.t 92))])
 (.cond (.t 93)
 (.seq
 (rg [
 o 4 (.mv (kb false))])
 .ret)
 .skip))
 (rd [
 o 94 (.ld (some 11) (.t 10)),
 o 95 (.ld (some 11) (.t 12)),
 ⟨none, .st 11 (.t 5) (.t 94), none, [0], false⟩,
 ⟨none, .st 11 (.t 7) (.t 95), none, [0, 2, 1], false⟩])))))
 (rg [
 o 47 (.mv (.t 9)),
 o 48 (.bin .add (.t 47) (kc 1)),
 o 9 (.mv (.t 48))])))
def a3 : AF := ⟨111,
 (.seq
 (rg [
 o 4 (.mv (kb false))])
 (.seq
 (.seq
 (rg [
 o 14 (.mv (.t 1)),
 o 15 (.callp 6 [(.t 14)]),
 o 16 (.un .not (.t 15))])
 (.cond (.t 16)
 (.seq
 (rg [
 o 17 (.callp 7 []),
 o 4 (.mv (.t 17))])
 .ret)
 .skip))
 (.seq
 (rg [
 o 19 (.build [.ns, .d (.i .i64 0), .d (.b false), .d (.i .i64 0), .d (.b false)] []),
 o 20 (.callp 8 [(.t 19)]),
 o 18 (.mv (.t 20)),
 o 21 (.ext (.t 18) 0),
 o 22 (.ext (.t 18) 1),
 o 5 (.alloc [.ns, .d (.i .i64 0), .d (.b false), .d (.i .i64 0), .d (.b false), .d (.i .i64 0), .ns, .d (.i .i64 0), .d (.i .i64 0), .d (.i .i64 0), .d (.i .u32 0)]),
 on (.st 11 (.t 5) (.t 21)),
 o 6 (.mv (.t 22))])
 (.seq
 (rg [
 o 24 (.build [.ns, .d (.i .i64 0), .d (.b false), .d (.i .i64 0), .d (.b false)] []),
 o 25 (.callp 9 [(.t 24)]),
 o 23 (.mv (.t 25)),
 o 26 (.ext (.t 23) 0),
 o 27 (.ext (.t 23) 1),
 o 7 (.alloc [.ns, .d (.i .i64 0), .d (.b false), .d (.i .i64 0), .d (.b false), .d (.i .i64 0), .ns, .d (.i .i64 0), .d (.i .i64 0), .d (.i .i64 0), .d (.i .u32 0)]),
 on (.st 11 (.t 7) (.t 26)),
 o 8 (.mv (.t 27))])
 (.seq
 (.seq
 (rg [
 o 28 (.mv (.t 6)),
 o 29 (.mv (.t 8)),
 o 30 (.bin .neq (.t 28) (.t 29)),
 o 31 (.mv (.t 30)),
 og 32 31 false (.ld (some 11) (.t 5)),
 og 33 31 false (.ld (some 11) (.t 7)),
 og 34 31 false (.callp 10 [(.t 32), (.t 33)]),
 og 35 31 false (.un .not (.t 34)),
 o 36 (.pick (.t 31) (kb true) (.t 35)),
 o 37 (.mv (.t 36)),
 og 38 37 false (.fa 6 (.t 5)),
 og 39 37 false (.ld none (.t 38)),
 og 40 37 false (.len false (.t 39)),
 og 41 37 false (.bin .eql (.t 40) (kc 0)),
 o 42 (.pick (.t 37) (kb true) (.t 41))])
 (.cond (.t 42)
 (.seq
 (rg [
 o 4 (.mv (kb false))])
 .ret)
 .skip))
 (.seq
 (.seq
 (rg [
 o 9 (.mv (kc 0))])
 (.block 0
 (.loop [0, 1, 5, 7, 9] a3_0)))
 (.seq
 (rg [
 o 96 (.callp 7 []),
 o 97 (.mv (.t 96)),
 og 98 97 true (.ld (some 11) (.t 5)),
 og 99 97 true (.callp 13 [(.t 98)]),
 og 100 97 true (.ld (some 11) (.t 7)),
 og 101 97 true (.callp 14 [(.t 100)]),
 og 102 97 true (.bin .eql (.t 99) (.t 101)),
 o 103 (.pick (.t 97) (.t 102) (kb false)),
 o 104 (.mv (.t 103)),
 og 105 104 true (.ld (some 11) (.t 5)),
 og 106 104 true (.callp 16 [(.t 105)]),
 og 107 104 true (.ld (some 11) (.t 7)),
 og 108 104 true (.callp 17 [(.t 107)]),
 og 109 104 true (.callp 15 [(.t 106), (.t 108)]),
 o 110 (.pick (.t 104) (.t 109) (kb false)),
 o 4 (.mv (.t 110))])
 .ret))))))),
 [.t 4], false⟩
def a4_0 : AC :=
 (.seq
 (.seq
 (rg [
 o 33 (.mv (.t 9)),
 o 34 (.mv (.t 4)),
 o 35 (.len false (.t 34)),
 o 36 (.bin .lss (.t 33) (.t 35))])
 (.cond (.t 36)
 .skip
 (.exit 0)))
 (.seq
 (.block 1
 (rg [
 o 40 (.ld (some 11) (.t 7)),
 o 41 (.mv (.t 3)),
 o 42 (.cvi .i64 (.t 41)),
 o 43 (.bin .add (kc 20) (.t 42)),
 o 44 (.mv (.t 4)),
 o 45 (.mv (.t 9)),
 o 46 (.ia 3 (.t 44) (.t 45)),
 o 47 (.ld (some 3) (.t 46)),
 o 48 (.callp 12 [(.t 40), (.t 43), (.t 47)]),
 o 39 (.mv (.t 48)),
 o 49 (.ext (.t 39) 0),
 o 50 (.ext (.t 39) 1),
 on (.st 11 (.t 7) (.t 49))]))
 (rg [
 o 37 (.mv (.t 9)),
 o 38 (.bin .add (.t 37) (kc 1)),
 o 9 (.mv (.t 38))])))
def a4 : AF := ⟨97,
 (.seq
 (rg [
 o 1 (.box (.t 0)),
 o 2 (.mv (kb false))])
 (.seq
 (rd [
 o 16 (.fa 0 (.t 1)),
 od 17 [0] (.ld none (.t 16)),
 o 18 (.fa 1 (.t 1)),
 od 19 [2] (.ld none (.t 18)),
 o 20 (.fa 2 (.t 1)),
 od 21 [4] (.ld none (.t 20)),
 o 22 (.fa 3 (.t 1)),
 od 23 [6] (.ld (some 2) (.t 22)),
 o 6 (.alloc [.d (.i .u16 0), .d (.i .u16 0)]),
 od 3 [8, 0, 1] (.mv (.t 17)),
 od 4 [1, 0, 8, 9, 2, 3] (.mv (.t 19)),
 od 5 [3, 2, 9, 8, 0, 1, 10, 4, 5] (.mv (.t 21)),
 ⟨none, .st 2 (.t 6) (.t 23), none, [5, 4, 10, 1, 0, 9, 2, 3, 11, 6, 7, 8], false⟩])
 (.seq
 (.seq
 (rg [
 o 24 (.mv (.t 4)),
 o 25 (.callp 6 [(.t 24)]),
 o 26 (.un .not (.t 25))])
 (.cond (.t 26)
 (.seq
 (rg [
 o 27 (.callp 7 []),
 o 2 (.mv (.t 27))])
 .ret)
 .skip))
 (.seq
 (rg [
 o 29 (.build [.ns, .d (.i .i64 0), .d (.b false), .d (.i .i64 0), .d (.b false)] []),
 o 30 (.callp 9 [(.t 29)]),
 o 28 (.mv (.t 30)),
 o 31 (.ext (.t 28) 0),
 o 32 (.ext (.t 28) 1),
 o 7 (.alloc [.ns, .d (.i .i64 0), .d (.b false), .d (.i .i64 0), .d (.b false), .d (.i .i64 0), .ns, .d (.i .i64 0), .d (.i .i64 0), .d (.i .i64 0), .d (.i .u32 0)]),
 on (.st 11 (.t 7) (.t 31)),
 o 8 (.mv (.t 32))])
 (.seq
 (.seq
 (rg [
 o 9 (.mv (kc 0))])
 (.block 0
 (.loop [3, 4, 5, 6, 7, 9] a4_0)))
 (.seq
 (rg [
 o 52 (.ld (some 11) (.t 7)),
 o 53 (.mv (.t 5)),
 o 54 (.callp 18 [(.t 52), (.t 53)]),
 o 51 (.mv (.t 54)),
 o 55 (.ext (.t 51) 0),
 o 56 (.ext (.t 51) 1),
 o 10 (.alloc [.d (.i .i64 0), .d (.i .i64 0), .d (.s [])]),
 on (.st 3 (.t 10) (.t 55)),
 o 11 (.mv (.t 56))])
 (.seq
 (rg [
 o 58 (.ld (some 11) (.t 7)),
 o 59 (.mv (.t 5)),
 o 60 (.callp 19 [(.t 58), (.t 59)]),
 o 57 (.mv (.t 60)),
 o 61 (.ext (.t 57) 0),
 o 62 (.ext (.t 57) 1),
 o 12 (.alloc [.d (.i .i64 0), .d (.i .i64 0), .d (.s [])]),
 on (.st 3 (.t 12) (.t 61)),
 o 13 (.mv (.t 62))])
 (.seq
 (rg [
 o 63 (.ld (some 11) (.t 7)),
 o 64 (.mv (.t 5)),
 o 65 (.iar 2 1 (.t 6) (kc 0)),
 o 66 (.ld none (.t 65)),
 o 67 (.cvi .i64 (.t 66)),
 o 68 (.iar 2 1 (.t 6) (kc 1)),
 o 69 (.ld none (.t 68)),
 o 70 (.cvi .i64 (.t 69)),
 o 71 (.callp 20 [(.t 63), (.t 64), (.t 67), (.t 70)]),
 o 14 (.mv (.t 71))])
 (.seq
 (rg [
 o 72 (.ld (some 11) (.t 7)),
 o 73 (.mv (.t 5)),
 o 74 (.iar 2 1 (.t 6) (kc 0)),
 o 75 (.ld none (.t 74)),
 o 76 (.cvi .i64 (.t 75)),
 o 77 (.iar 2 1 (.t 6) (kc 1)),
 o 78 (.ld none (.t 77)),
 o 79 (.cvi .i64 (.t 78)),
 o 80 (.callp 21 [(.t 72), (.t 73), (.t 76), (.t 79)]),
 o 15 (.mv (.t 80))])
 (.seq
 (rg [
 o 81 (.callp 7 []),
 o 82 (.mv (.t 81)),
 og 83 82 true (.ld (some 3) (.t 10)),
 og 84 82 true (.ld (some 3) (.t 12)),
 og 85 82 true (.eqa false [0, 0, 2] (.t 83) (.t 84)),
 o 86 (.pick (.t 82) (.t 85) (kb false)),
 o 87 (.mv (.t 86)),
 og 88 87 true (.mv (.t 11)),
 og 89 87 true (.mv (.t 13)),
 og 90 87 true (.bin .eql (.t 88) (.t 89)),
 o 91 (.pick (.t 87) (.t 90) (kb false)),
 o 92 (.mv (.t 91)),
 og 93 92 true (.mv (.t 14)),
 og 94 92 true (.mv (.t 15)),
 og 95 92 true (.callp 22 [(.t 93), (.t 94)]),
 o 96 (.pick (.t 92) (.t 95) (kb false)),
 o 2 (.mv (.t 96))])
 .ret)))))))))),
 [.t 2], false⟩
def a5 : AF := ⟨71,
 (.seq
 (rg [
 o 2 (.box (.t 0)),
 o 3 (.box (.t 1)),
 o 4 (.mv (kb false))])
 (.seq
 (.seq
 (rg [
 o 13 (.ld (some 5) (.t 2)),
 o 14 (.callp 23 [(.t 13)]),
 o 15 (.un .not (.t 14)),
 o 16 (.mv (.t 15)),
 og 17 16 false (.ld (some 5) (.t 2)),
 og 18 16 false (.callp 24 [(.t 17)]),
 og 19 16 false (.un .not (.t 18)),
 o 20 (.pick (.t 16) (kb true) (.t 19)),
 o 21 (.mv (.t 20)),
 og 22 21 false (.ld (some 4) (.t 3)),
 og 23 21 false (.callp 25 [(.t 22)]),
 og 24 21 false (.un .not (.t 23)),
 o 25 (.pick (.t 21) (kb true) (.t 24))])
 (.cond (.t 25)
 (.seq
 (rg [
 o 26 (.callp 7 []),
 o 4 (.mv (.t 26))])
 .ret)
 .skip))
 (.seq
 (rg [
 o 28 (.ld (some 5) (.t 2)),
 o 29 (.ld (some 4) (.t 3)),
 o 30 (.callp 26 [(.t 28), (.t 29)]),
 o 27 (.mv (.t 30)),
 o 31 (.ext (.t 27) 0),
 o 32 (.ext (.t 27) 1),
 o 5 (.alloc [.ns, .d (.i .i64 0), .d (.b false), .d (.i .i64 0), .d (.b false)]),
 on (.st 5 (.t 5) (.t 31)),
 o 6 (.mv (.t 32))])
 (.seq
 (rg [
 o 34 (.ld (some 5) (.t 2)),
 o 35 (.ld (some 4) (.t 3)),
 o 36 (.callp 27 [(.t 34), (.t 35)]),
 o 33 (.mv (.t 36)),
 o 37 (.ext (.t 33) 0),
 o 38 (.ext (.t 33) 1),
 o 7 (.alloc [.ns, .d (.i .i64 0), .d (.b false), .d (.i .i64 0), .d (.b false)]),
 on (.st 5 (.t 7) (.t 37)),
 o 8 (.mv (.t 38))])
 (.seq
 (rg [
 o 39 (.fa 0 (.t 2)),
 on (.st 1 (.t 39) (kx (.ns)))])
 (.seq
 (rg [
 o 41 (.ld (some 5) (.t 2)),
 o 42 (.callp 8 [(.t 41)]),
 o 40 (.mv (.t 42)),
 o 43 (.ext (.t 40) 0),
 o 44 (.ext (.t 40) 1),
 o 9 (.alloc [.ns, .d (.i .i64 0), .d (.b false), .d (.i .i64 0), .d (.b false), .d (.i .i64 0), .ns, .d (.i .i64 0), .d (.i .i64 0), .d (.i .i64 0), .d (.i .u32 0)]),
 on (.st 11 (.t 9) (.t 43)),
 o 10 (.mv (.t 44))])
 (.seq
 (rg [
 o 46 (.ld (some 5) (.t 2)),
 o 47 (.callp 9 [(.t 46)]),
 o 45 (.mv (.t 47)),
 o 48 (.ext (.t 45) 0),
 o 49 (.ext (.t 45) 1),
 o 11 (.alloc [.ns, .d (.i .i64 0), .d (.b false), .d (.i .i64 0), .d (.b false), .d (.i .i64 0), .ns, .d (.i .i64 0), .d (.i .i64 0), .d (.i .i64 0), .d (.i .u32 0)]),
 on (.st 11 (.t 11) (.t 48)),
 o 12 (.mv (.t 49))])
 (.seq
 (rg [
 o 50 (.callp 7 []),
 o 51 (.mv (.t 50)),
 og 52 51 true (.ld (some 5) (.t 5)),
 og 53 51 true (.ld (some 5) (.t 7)),
 og 54 51 true (.callp 28 [(.t 52), (.t 53)]),
 o 55 (.pick (.t 51) (.t 54) (kb false)),
 o 56 (.mv (.t 55)),
 og 57 56 true (.mv (.t 6)),
 og 58 56 true (.mv (.t 8)),
 og 59 56 true (.bin .eql (.t 57) (.t 58)),
 o 60 (.pick (.t 56) (.t 59) (kb false)),
 o 61 (.mv (.t 60)),
 og 62 61 true (.ld (some 11) (.t 9)),
 og 63 61 true (.ld (some 11) (.t 11)),
 og 64 61 true (.callp 10 [(.t 62), (.t 63)]),
 o 65 (.pick (.t 61) (.t 64) (kb false)),
 o 66 (.mv (.t 65)),
 og 67 66 true (.mv (.t 10)),
 og 68 66 true (.mv (.t 12)),
 og 69 66 true (.bin .eql (.t 67) (.t 68)),
 o 70 (.pick (.t 66) (.t 69) (kb false)),
 o 4 (.mv (.t 70))])
 .ret)))))))),
 [.t 4], false⟩
def a6_0 : AC :=
 (.seq
 (.seq
 (rg [
 o 7 (.mv (.t 3)),
 o 8 (.mv (.t 0)),
 o 9 (.len false (.t 8)),
 o 10 (.bin .lss (.t 7) (.t 9))])
 (.cond (.t 10)
 .skip
 (.exit 0)))
 (.seq
 (.block 1
 (.seq
 (rg [
 o 13 (.mv (.t 0)),
 o 14 (.mv (.t 3)),
 o 15 (.ia 3 (.t 13) (.t 14)),
 o 16 (.fa 2 (.t 15)),
 o 17 (.ld none (.t 16)),
 o 18 (.len true (.t 17)),
 o 19 (.bin .gtr (.t 18) (kc 100))])
 (.cond (.t 19)
 (.seq
 (rg [
 o 2 (.mv (kb false))])
 .ret)
 .skip)))
 (rg [
 o 11 (.mv (.t 3)),
 o 12 (.bin .add (.t 11) (kc 1)),
 o 3 (.mv (.t 12))])))
def a6 : AF := ⟨20,
 (.seq
 (rg [
 o 2 (.mv (kb false))])
 (.seq
 (.seq
 (rg [
 o 4 (.mv (.t 0)),
 o 5 (.len false (.t 4)),
 o 6 (.bin .gtr (.t 5) (kc 40))])
 (.cond (.t 6)
 (.seq
 (rg [
 o 2 (.mv (kb false))])
 .ret)
 .skip))
 (.seq
 (.seq
 (rg [
 o 3 (.mv (kc 0))])
 (.block 0
 (.loop [0, 3] a6_0)))
 (.seq
 (rg [
 o 2 (.mv (kb true))])
 .ret)))),
 [.t 2], false⟩
def a7_0 : AC :=
 (.seq
 (.seq
 (rg [
 o 14 (.mv (.t 3)),
 o 15 (.bin .lss (.t 14) (kc 3))])
 (.cond (.t 15)
 .skip
 (.exit 0)))
 (.seq
 (.block 1
 (.seq
 (rd [
 o 19 (.ld (some 11) (.t 1)),
 o 20 (.mv (.t 3)),
 o 21 (.mv (.t 3)),
 o 22 (.mv (.t 3)),
 od 23 [3] (.bin .add (.t 22) (kc 1)),
 od 24 [3, 4, 2] (.sls (ks [97, 98, 99]) (some (.t 21)) (some (.t 23))),
 od 25 [2, 4, 3, 5, 1] (.build [.d (.i .i64 0), .d (.i .i64 0), .d (.s [])] [(0, 1, (.t 20)), (2, 1, (.t 24))]),
 od 26 [1, 5, 3, 4, 2, 6, 0] (.callp 29 [(.t 19), (kc 100), (.t 25)]),
 od 18 [0, 6, 2, 4, 3, 5, 1, 7] (.mv (.t 26)),
 od 27 [7, 1, 5, 3, 4, 2, 6, 0, 8] (.ext (.t 18) 0),
 od 28 [7, 1, 5, 3, 4, 2, 6, 0, 8] (.ext (.t 18) 1),
 o 4 (.alloc [.ns, .d (.i .i64 0), .d (.b false), .d (.i .i64 0), .d (.b false), .d (.i .i64 0), .ns, .d (.i .i64 0), .d (.i .i64 0), .d (.i .i64 0), .d (.i .u32 0)]),
 ⟨none, .st 11 (.t 4) (.t 27), none, [8, 0, 6, 2, 4, 3, 5, 1, 7, 9, 11], false⟩,
 od 5 [11, 9, 12, 8, 0, 6, 2, 4, 3, 5, 1, 7, 10] (.mv (.t 28))])
 (.seq
 (.seq
 (rg [
 o 29 (.mv (.t 5)),
 o 30 (.bin .neq (.t 29) (kc 0))])
 (.cond (.t 30)
 (.seq
 (rg [
 o 0 (.mv (kb false))])
 .ret)
 .skip))
 (rg [
 o 31 (.ld (some 11) (.t 4)),
 on (.st 11 (.t 1) (.t 31))]))))
 (rg [
 o 16 (.mv (.t 3)),
 o 17 (.bin .add (.t 16) (kc 1)),
 o 3 (.mv (.t 17))])))
def a7 : AF := ⟨68,
 (.seq
 (rg [
 o 0 (.mv (kb false))])
 (.seq
 (rg [
 o 10 (.build [.ns, .d (.i .i64 0), .d (.b false), .d (.i .i64 0), .d (.b false)] []),
 o 11 (.callp 8 [(.t 10)]),
 o 9 (.mv (.t 11)),
 o 12 (.ext (.t 9) 0),
 o 13 (.ext (.t 9) 1),
 o 1 (.alloc [.ns, .d (.i .i64 0), .d (.b false), .d (.i .i64 0), .d (.b false), .d (.i .i64 0), .ns, .d (.i .i64 0), .d (.i .i64 0), .d (.i .i64 0), .d (.i .u32 0)]),
 on (.st 11 (.t 1) (.t 12)),
 o 2 (.mv (.t 13))])
 (.seq
 (.seq
 (rg [
 o 3 (.mv (kc 0))])
 (.block 0
 (.loop [1, 2, 3] a7_0)))
 (.seq
 (rg [
 o 33 (.ld (some 11) (.t 1)),
 o 34 (.callp 30 [(.t 33)]),
 o 32 (.mv (.t 34)),
 o 35 (.ext (.t 32) 0),
 o 36 (.ext (.t 32) 1),
 on (.st 11 (.t 1) (.t 35)),
 o 6 (.mv (.t 36))])
 (.seq
 (rg [
 o 38 (.ld (some 11) (.t 1)),
 o 39 (.callp 18 [(.t 38), (kc 1)]),
 o 37 (.mv (.t 39)),
 o 40 (.ext (.t 37) 0),
 o 41 (.ext (.t 37) 1),
 o 7 (.alloc [.d (.i .i64 0), .d (.i .i64 0), .d (.s [])]),
 on (.st 3 (.t 7) (.t 40)),
 o 8 (.mv (.t 41))])
 (.seq
 (rg [
 o 42 (.mv (.t 2)),
 o 43 (.bin .eql (.t 42) (kc 0)),
 o 44 (.mv (.t 43)),
 og 45 44 true (.mv (.t 6)),
 og 46 44 true (.bin .eql (.t 45) (kc 0)),
 o 47 (.pick (.t 44) (.t 46) (kb false)),
 o 48 (.mv (.t 47)),
 og 49 48 true (.mv (.t 8)),
 og 50 48 true (.bin .eql (.t 49) (kc 0)),
 o 51 (.pick (.t 48) (.t 50) (kb false)),
 o 52 (.mv (.t 51)),
 og 53 52 true (.fa 2 (.t 7)),
 og 54 52 true (.ld none (.t 53)),
 og 55 52 true (.bin .eql (.t 54) (ks [98])),
 o 56 (.pick (.t 52) (.t 55) (kb false)),
 o 57 (.mv (.t 56)),
 og 58 57 true (.ld (some 11) (.t 1)),
 og 59 57 true (.callp 20 [(.t 58), (kc 1), (kc 1000), (kc 9)]),
 og 60 57 true (.len false (.t 59)),
 og 61 57 true (.bin .eql (.t 60) (kc 2)),
 o 62 (.pick (.t 57) (.t 61) (kb false)),
 o 63 (.mv (.t 62)),
 og 64 63 true (.fa 8 (.t 1)),
 og 65 63 true (.ld none (.t 64)),
 og 66 63 true (.bin .eql (.t 65) (kc 3)),
 o 67 (.pick (.t 63) (.t 66) (kb false)),
 o 0 (.mv (.t 67))])
 .ret)))))),
 [.t 0], false⟩
def a8 : AF := ⟨44,
 (.seq
 (rg [
 o 1 (.box (.t 0)),
 o 2 (.alloc [.ns, .d (.i .i64 0), .d (.b false), .d (.i .i64 0), .d (.b false), .d (.i .i64 0), .ns, .d (.i .i64 0), .d (.i .i64 0), .d (.i .i64 0), .d (.i .u32 0)]),
 o 3 (.mv (kc 0))])
 (.seq
 (rg [
 o 6 (.build [.d (.i .i64 0), .d (.i .i64 0), .d (.i .i64 0)] []),
 o 7 (.bsl 3 [[.i .i64 0, .i .i64 0, .i .i64 0]] [(0, (.t 6))]),
 o 8 (.build [.ns, .d (.i .i64 0), .d (.b false), .d (.i .i64 0), .d (.b false), .d (.i .i64 0), .ns, .d (.i .i64 0), .d (.i .i64 0), .d (.i .i64 0), .d (.i .u32 0)] [(5, 1, (kc 1)), (6, 1, (.t 7))]),
 o 4 (.alloc [.ns, .d (.i .i64 0), .d (.b false), .d (.i .i64 0), .d (.b false), .d (.i .i64 0), .ns, .d (.i .i64 0), .d (.i .i64 0), .d (.i .i64 0), .d (.i .u32 0)]),
 on (.st 11 (.t 4) (.t 8))])
 (.seq
 (rg [
 o 9 (.ld (some 5) (.t 1)),
 o 10 (.build [.ns, .d (.i .i64 0), .d (.b false), .d (.i .i64 0), .d (.b false), .d (.i .i64 0)] [(0, 5, (.t 9))]),
 o 11 (.box (.t 10)),
 o 5 (.mv (.t 11))])
 (.seq
 (rg [
 o 12 (.mv (.t 5)),
 o 13 (.callp 32 [(kc 0)]),
 o 14 (.call 31 [(.t 12), (.t 13)])])
 (.seq
 (.seq
 (rg [
 o 15 (.mv (.t 5)),
 o 16 (.nck (.t 15)),
 o 17 (.fa 5 (.t 16)),
 o 18 (.ld none (.t 17)),
 o 19 (.bin .eql (.t 18) (kc 0))])
 (.cond (.t 19)
 (rg [
 o 20 (.mv (.t 5)),
 o 21 (.ld (some 11) (.t 4)),
 o 22 (.callz 16 [(.t 21)]),
 o 23 (.call 33 [(.t 20), (.t 22)])])
 .skip))
 (.seq
 (.seq
 (rg [
 o 24 (.mv (.t 5)),
 o 25 (.nck (.t 24)),
 o 26 (.fa 5 (.t 25)),
 o 27 (.ld none (.t 26)),
 o 28 (.bin .neq (.t 27) (kc 0))])
 (.cond (.t 28)
 (.seq
 (rd [
 o 29 (.mv (.t 5)),
 od 30 [0] (.nck (.t 29)),
 od 31 [0, 1] (.fa 0 (.t 30)),
 od 32 [1, 0, 2] (.ld (some 5) (.t 31)),
 od 33 [2, 0, 1, 3] (.build [.ns, .d (.i .i64 0), .d (.b false), .d (.i .i64 0), .d (.b false), .d (.i .i64 0), .ns, .d (.i .i64 0), .d (.i .i64 0), .d (.i .i64 0), .d (.i .u32 0)] [(0, 5, (.t 32))]),
 o 34 (.mv (.t 5)),
 od 35 [5] (.nck (.t 34)),
 od 36 [5, 6] (.fa 5 (.t 35)),
 od 37 [6, 5, 7] (.ld none (.t 36)),
 ⟨none, .st 11 (.t 2) (.t 33), none, [3, 1, 0, 2, 4], false⟩,
 od 3 [4, 2, 0, 1, 3, 9, 7, 5, 6, 8] (.mv (.t 37))])
 .ret)
 .skip))
 (.seq
 (rg [
 o 38 (.mv (.t 5)),
 o 39 (.nck (.t 38)),
 o 40 (.fa 0 (.t 39)),
 o 41 (.ld (some 5) (.t 40)),
 o 42 (.fa 0 (.t 4)),
 on (.st 5 (.t 42) (.t 41))])
 (.seq
 (rg [
 o 43 (.ld (some 11) (.t 4)),
 on (.st 11 (.t 2) (.t 43)),
 o 3 (.mv (kc 0))])
 .ret)))))))),
 [.c (some 11) 2, .t 3], false⟩
def a9 : AF := ⟨36,
 (.seq
 (rg [
 o 1 (.box (.t 0)),
 o 2 (.alloc [.ns, .d (.i .i64 0), .d (.b false), .d (.i .i64 0), .d (.b false), .d (.i .i64 0), .ns, .d (.i .i64 0), .d (.i .i64 0), .d (.i .i64 0), .d (.i .u32 0)]),
 o 3 (.mv (kc 0))])
 (.seq
 (rg [
 o 7 (.ld (some 5) (.t 1)),
 o 8 (.callp 35 [(kc 0)]),
 o 9 (.callp 34 [(.t 7), (.t 8)]),
 o 6 (.mv (.t 9)),
 o 10 (.ext (.t 6) 0),
 o 11 (.ext (.t 6) 1),
 on (.st 5 (.t 1) (.t 10)),
 o 4 (.mv (.t 11))])
 (.seq
 (.seq
 (rg [
 o 12 (.mv (.t 4)),
 o 13 (.bin .neq (.t 12) (kc 0))])
 (.cond (.t 13)
 (.seq
 (rg [
 o 14 (.ld (some 5) (.t 1)),
 o 15 (.build [.ns, .d (.i .i64 0), .d (.b false), .d (.i .i64 0), .d (.b false), .d (.i .i64 0), .ns, .d (.i .i64 0), .d (.i .i64 0), .d (.i .i64 0), .d (.i .u32 0)] [(0, 5, (.t 14))]),
 o 16 (.mv (.t 4)),
 on (.st 11 (.t 2) (.t 15)),
 o 3 (.mv (.t 16))])
 .ret)
 .skip))
 (.seq
 (rg [
 o 17 (.ld (some 5) (.t 1)),
 o 18 (.build [.d (.i .i64 0), .d (.i .i64 0), .d (.i .i64 0)] []),
 o 19 (.bsl 3 [[.i .i64 0, .i .i64 0, .i .i64 0]] [(0, (.t 18))]),
 o 20 (.build [.ns, .d (.i .i64 0), .d (.b false), .d (.i .i64 0), .d (.b false), .d (.i .i64 0), .ns, .d (.i .i64 0), .d (.i .i64 0), .d (.i .i64 0), .d (.i .u32 0)] [(0, 5, (.t 17)), (5, 1, (kc 1)), (6, 1, (.t 19))]),
 o 5 (.alloc [.ns, .d (.i .i64 0), .d (.b false), .d (.i .i64 0), .d (.b false), .d (.i .i64 0), .ns, .d (.i .i64 0), .d (.i .i64 0), .d (.i .i64 0), .d (.i .u32 0)]),
 on (.st 11 (.t 5) (.t 20))])
 (.seq
 (rd [
 o 22 (.ld (some 5) (.t 1)),
 o 23 (.ld (some 11) (.t 5)),
 od 24 [1] (.callz 17 [(.t 23)]),
 od 25 [1, 2, 0] (.callp 27 [(.t 22), (.t 24)]),
 od 21 [0, 2, 1, 3] (.mv (.t 25)),
 od 26 [3, 1, 2, 0, 4] (.ext (.t 21) 0),
 od 27 [3, 1, 2, 0, 4] (.ext (.t 21) 1),
 ⟨none, .st 5 (.t 1) (.t 26), none, [4, 0, 2, 1, 3, 5], false⟩,
 od 4 [5, 7, 4, 0, 2, 1, 3, 6] (.mv (.t 27))])
 (.seq
 (.seq
 (rg [
 o 28 (.mv (.t 4)),
 o 29 (.bin .neq (.t 28) (kc 0))])
 (.cond (.t 29)
 (.seq
 (rg [
 o 30 (.ld (some 5) (.t 1)),
 o 31 (.build [.ns, .d (.i .i64 0), .d (.b false), .d (.i .i64 0), .d (.b false), .d (.i .i64 0), .ns, .d (.i .i64 0), .d (.i .i64 0), .d (.i .i64 0), .d (.i .u32 0)] [(0, 5, (.t 30))]),
 o 32 (.mv (.t 4)),
 on (.st 11 (.t 2) (.t 31)),
 o 3 (.mv (.t 32))])
 .ret)
 .skip))
 (.seq
 (rg [
 o 33 (.ld (some 5) (.t 1)),
 o 34 (.fa 0 (.t 5)),
 on (.st 5 (.t 34) (.t 33))])
 (.seq
 (rg [
 o 35 (.ld (some 11) (.t 5)),
 on (.st 11 (.t 2) (.t 35)),
 o 3 (.mv (kc 0))])
 .ret)))))))),
 [.c (some 11) 2, .t 3], false⟩
def a10_0 : AC :=
 (.seq
 (.seq
 (rg [
 o 56 (.mv (.t 5)),
 o 57 (.fa 6 (.t 2)),
 o 58 (.ld none (.t 57)),
 o 59 (.len false (.t 58)),
 o 60 (.bin .lss (.t 56) (.t 59))])
 (.cond (.t 60)
 .skip
 (.exit 0)))
 (.seq
 (.block 1
 (.seq
 (rg [
 o 63 (.fa 6 (.t 2)),
 o 64 (.ld none (.t 63)),
 o 65 (.mv (.t 5)),
 o 66 (.ia 3 (.t 64) (.t 65)),
 o 67 (.ld (some 3) (.t 66)),
 o 68 (.fa 6 (.t 3)),
 o 69 (.ld none (.t 68)),
 o 70 (.mv (.t 5)),
 o 71 (.ia 3 (.t 69) (.t 70)),
 o 72 (.ld (some 3) (.t 71)),
 o 73 (.eqa true [0, 0, 0] (.t 67) (.t 72))])
 (.cond (.t 73)
 (.seq
 (rg [
 o 4 (.mv (kb false))])
 .ret)
 .skip)))
 (rg [
 o 61 (.mv (.t 5)),
 o 62 (.bin .add (.t 61) (kc 1)),
 o 5 (.mv (.t 62))])))
def a10 : AF := ⟨74,
 (.seq
 (rg [
 o 2 (.box (.t 0)),
 o 3 (.box (.t 1)),
 o 4 (.mv (kb false))])
 (.seq
 (.seq
 (rg [
 o 6 (.fa 0 (.t 2)),
 o 7 (.ld (some 5) (.t 6)),
 o 8 (.fa 0 (.t 3)),
 o 9 (.ld (some 5) (.t 8)),
 o 10 (.callp 28 [(.t 7), (.t 9)]),
 o 11 (.un .not (.t 10)),
 o 12 (.mv (.t 11)),
 og 13 12 false (.fa 5 (.t 2)),
 og 14 12 false (.ld none (.t 13)),
 og 15 12 false (.fa 5 (.t 3)),
 og 16 12 false (.ld none (.t 15)),
 og 17 12 false (.bin .neq (.t 14) (.t 16)),
 o 18 (.pick (.t 12) (kb true) (.t 17)),
 o 19 (.mv (.t 18)),
 og 20 19 false (.fa 7 (.t 2)),
 og 21 19 false (.ld none (.t 20)),
 og 22 19 false (.fa 7 (.t 3)),
 og 23 19 false (.ld none (.t 22)),
 og 24 19 false (.bin .neq (.t 21) (.t 23)),
 o 25 (.pick (.t 19) (kb true) (.t 24)),
 o 26 (.mv (.t 25)),
 og 27 26 false (.fa 8 (.t 2)),
 og 28 26 false (.ld none (.t 27)),
 og 29 26 false (.fa 8 (.t 3)),
 og 30 26 false (.ld none (.t 29)),
 og 31 26 false (.bin .neq (.t 28) (.t 30)),
 o 32 (.pick (.t 26) (kb true) (.t 31)),
 o 33 (.mv (.t 32)),
 og 34 33 false (.fa 9 (.t 2)),
 og 35 33 false (.ld none (.t 34)),
 og 36 33 false (.fa 9 (.t 3)),
 og 37 33 false (.ld none (.t 36)),
 og 38 33 false (.bin .neq (.t 35) (.t 37)),
 o 39 (.pick (.t 33) (kb true) (.t 38)),
 o 40 (.mv (.t 39)),
 og 41 40 false (.fa 10 (.t 2)),
 og 42 40 false (.ld none (.t 41)),
 og 43 40 false (.fa 10 (.t 3)),
 og 44 40 false (.ld none (.t 43)),
 og 45 40 false (.bin .neq (.t 42) (.t 44)),
 o 46 (.pick (.t 40) (kb true) (.t 45)),
 o 47 (.mv (.t 46)),
 og 48 47 false (.fa 6 (.t 2)),
 og 49 47 false (.ld none (.t 48)),
 og 50 47 false (.len false (.t 49)),
 og 51 47 false (.fa 6 (.t 3)),
 og 52 47 false (.ld none (.t 51)),
 og 53 47 false (.len false (.t 52)),
 og 54 47 false (.bin .neq (.t 50) (.t 53)),
 o 55 (.pick (.t 47) (kb true) (.t 54))])
 (.cond (.t 55)
 (.seq
 (rg [
 o 4 (.mv (kb false))])
 .ret)
 .skip))
 (.seq
 (.seq
 (rg [
 o 5 (.mv (kc 0))])
 (.block 0
 (.loop [2, 3, 5] a10_0)))
 (.seq
 (rg [
 o 4 (.mv (kb true))])
 .ret)))),
 [.t 4], false⟩
def a11 : AF := ⟨48,
 (.seq
 (rg [
 o 3 (.box (.t 0)),
 o 5 (.box (.t 2)),
 o 6 (.alloc [.ns, .d (.i .i64 0), .d (.b false), .d (.i .i64 0), .d (.b false), .d (.i .i64 0), .ns, .d (.i .i64 0), .d (.i .i64 0), .d (.i .i64 0), .d (.i .u32 0)]),
 o 7 (.mv (kc 0))])
 (.seq
 (.seq
 (rg [
 o 8 (.fa 0 (.t 5)),
 o 9 (.ld none (.t 8))])
 (.block 0
 (.seq
 (rg [
 o 11 (.bin .eql (.t 9) (kc 1)),
 o 10 (.mv (.t 11))])
 (.cond (.t 10)
 (.seq
 (rg [
 o 12 (.ld (some 11) (.t 3)),
 o 13 (.callp 30 [(.t 12)]),
 o 14 (.ext (.t 13) 0),
 o 15 (.ext (.t 13) 1),
 on (.st 11 (.t 6) (.t 14)),
 o 7 (.mv (.t 15))])
 .ret)
 (.seq
 (rg [
 o 17 (.bin .eql (.t 9) (kc 2)),
 o 16 (.mv (.t 17))])
 (.cond (.t 16)
 (.seq
 (rg [
 o 18 (.fa 0 (.t 3)),
 o 19 (.ld (some 5) (.t 18)),
 o 20 (.fa 1 (.t 5)),
 o 21 (.ld none (.t 20)),
 o 22 (.callp 36 [(.t 19), (.t 21)]),
 o 23 (.fa 0 (.t 3)),
 on (.st 5 (.t 23) (.t 22))])
 (.seq
 (rg [
 o 24 (.ld (some 11) (.t 3)),
 on (.st 11 (.t 6) (.t 24)),
 o 7 (.mv (kc 0))])
 .ret))
 (.seq
 (rg [
 o 26 (.bin .eql (.t 9) (kc 3)),
 o 25 (.mv (.t 26))])
 (.cond (.t 25)
 (.seq
 (rg [
 o 27 (.fa 0 (.t 3)),
 o 28 (.ld (some 5) (.t 27)),
 o 29 (.fa 1 (.t 5)),
 o 30 (.ld none (.t 29)),
 o 31 (.callp 37 [(.t 28), (.t 30)]),
 o 32 (.fa 0 (.t 3)),
 on (.st 5 (.t 32) (.t 31))])
 (.seq
 (rg [
 o 33 (.ld (some 11) (.t 3)),
 on (.st 11 (.t 6) (.t 33)),
 o 7 (.mv (kc 0))])
 .ret))
 .skip))))))))
 (.seq
 (rg [
 o 34 (.ld (some 11) (.t 3)),
 o 35 (.mv (.t 1)),
 o 36 (.fa 7 (.t 3)),
 o 37 (.ld none (.t 36)),
 o 38 (.fa 1 (.t 5)),
 o 39 (.ld none (.t 38)),
 o 40 (.bin .rem (.t 39) (kc 3)),
 o 41 (.bin .add (.t 37) (.t 40)),
 o 42 (.fa 2 (.t 5)),
 o 43 (.ld none (.t 42)),
 o 44 (.build [.d (.i .i64 0), .d (.i .i64 0), .d (.s [])] [(0, 1, (.t 41)), (1, 1, (kc 7)), (2, 1, (.t 43))]),
 o 45 (.callp 29 [(.t 34), (.t 35), (.t 44)]),
 o 46 (.ext (.t 45) 0),
 o 47 (.ext (.t 45) 1),
 on (.st 11 (.t 6) (.t 46)),
 o 7 (.mv (.t 47))])
 .ret))),
 [.c (some 11) 6, .t 7], false⟩
def a12 : AF := ⟨48,
 (.seq
 (rg [
 o 3 (.box (.t 0)),
 o 5 (.box (.t 2)),
 o 6 (.alloc [.ns, .d (.i .i64 0), .d (.b false), .d (.i .i64 0), .d (.b false), .d (.i .i64 0), .ns, .d (.i .i64 0), .d (.i .i64 0), .d (.i .i64 0), .d (.i .u32 0)]),
 o 7 (.mv (kc 0))])
 (.seq
 (.seq
 (rg [
 o 8 (.fa 0 (.t 5)),
 o 9 (.ld none (.t 8))])
 (.block 0
 (.seq
 (rg [
 o 11 (.bin .eql (.t 9) (kc 1)),
 o 10 (.mv (.t 11))])
 (.cond (.t 10)
 (.seq
 (rg [
 o 12 (.ld (some 11) (.t 3)),
 o 13 (.callp 38 [(.t 12)]),
 o 14 (.ext (.t 13) 0),
 o 15 (.ext (.t 13) 1),
 on (.st 11 (.t 6) (.t 14)),
 o 7 (.mv (.t 15))])
 .ret)
 (.seq
 (rg [
 o 17 (.bin .eql (.t 9) (kc 2)),
 o 16 (.mv (.t 17))])
 (.cond (.t 16)
 (.seq
 (rg [
 o 18 (.fa 0 (.t 3)),
 o 19 (.ld (some 5) (.t 18)),
 o 20 (.fa 1 (.t 5)),
 o 21 (.ld none (.t 20)),
 o 22 (.callp 36 [(.t 19), (.t 21)]),
 o 23 (.fa 0 (.t 3)),
 on (.st 5 (.t 23) (.t 22))])
 (.seq
 (rg [
 o 24 (.ld (some 11) (.t 3)),
 on (.st 11 (.t 6) (.t 24)),
 o 7 (.mv (kc 0))])
 .ret))
 (.seq
 (rg [
 o 26 (.bin .eql (.t 9) (kc 3)),
 o 25 (.mv (.t 26))])
 (.cond (.t 25)
 (.seq
 (rg [
 o 27 (.fa 0 (.t 3)),
 o 28 (.ld (some 5) (.t 27)),
 o 29 (.fa 1 (.t 5)),
 o 30 (.ld none (.t 29)),
 o 31 (.callp 37 [(.t 28), (.t 30)]),
 o 32 (.fa 0 (.t 3)),
 on (.st 5 (.t 32) (.t 31))])
 (.seq
 (rg [
 o 33 (.ld (some 11) (.t 3)),
 on (.st 11 (.t 6) (.t 33)),
 o 7 (.mv (kc 0))])
 .ret))
 .skip))))))))
 (.seq
 (rg [
 o 34 (.ld (some 11) (.t 3)),
 o 35 (.mv (.t 1)),
 o 36 (.fa 7 (.t 3)),
 o 37 (.ld none (.t 36)),
 o 38 (.fa 1 (.t 5)),
 o 39 (.ld none (.t 38)),
 o 40 (.bin .rem (.t 39) (kc 3)),
 o 41 (.bin .add (.t 37) (.t 40)),
 o 42 (.fa 2 (.t 5)),
 o 43 (.ld none (.t 42)),
 o 44 (.build [.d (.i .i64 0), .d (.i .i64 0), .d (.s [])] [(0, 1, (.t 41)), (1, 1, (kc 7)), (2, 1, (.t 43))]),
 o 45 (.callp 39 [(.t 34), (.t 35), (.t 44)]),
 o 46 (.ext (.t 45) 0),
 o 47 (.ext (.t 45) 1),
 on (.st 11 (.t 6) (.t 46)),
 o 7 (.mv (.t 47))])
 .ret))),
 [.c (some 11) 6, .t 7], false⟩
def a13 : AF := ⟨12,
 (.seq
 (rg [
 o 1 (.box (.t 0)),
 o 2 (.mv (kc 0))])
 (.seq
 (.seq
 (rg [
 o 3 (.fa 6 (.t 1)),
 o 4 (.ld none (.t 3)),
 o 5 (.len false (.t 4)),
 o 6 (.bin .eql (.t 5) (kc 0))])
 (.cond (.t 6)
 (.seq
 (rg [
 o 2 (.mv (kc 0))])
 .ret)
 .skip))
 (.seq
 (rg [
 o 7 (.fa 6 (.t 1)),
 o 8 (.ld none (.t 7)),
 o 9 (.ia 3 (.t 8) (kc 0)),
 o 10 (.fa 0 (.t 9)),
 o 11 (.ld none (.t 10)),
 o 2 (.mv (.t 11))])
 .ret))),
 [.t 2], false⟩
def a14 : AF := ⟨12,
 (.seq
 (rg [
 o 1 (.box (.t 0)),
 o 2 (.mv (kc 0))])
 (.seq
 (.seq
 (rg [
 o 3 (.fa 6 (.t 1)),
 o 4 (.ld none (.t 3)),
 o 5 (.len false (.t 4)),
 o 6 (.bin .eql (.t 5) (kc 0))])
 (.cond (.t 6)
 (.seq
 (rg [
 o 2 (.mv (kc 0))])
 .ret)
 .skip))
 (.seq
 (rg [
 o 7 (.fa 6 (.t 1)),
 o 8 (.ld none (.t 7)),
 o 9 (.ia 3 (.t 8) (kc 0)),
 o 10 (.fa 0 (.t 9)),
 o 11 (.ld none (.t 10)),
 o 2 (.mv (.t 11))])
 .ret))),
 [.t 2], false⟩
def a15_0 : AC :=
 (.seq
 (.seq
 (rg [
 o 34 (.mv (.t 5)),
 o 35 (.fa 1 (.t 2)),
 o 36 (.ld none (.t 35)),
 o 37 (.len false (.t 36)),
 o 38 (.bin .lss (.t 34) (.t 37))])
 (.cond (.t 38)
 .skip
 (.exit 0)))
 (.seq
 (.block 1
 (.seq
 (rg [
 o 41 (.fa 1 (.t 2)),
 o 42 (.ld none (.t 41)),
 o 43 (.mv (.t 5)),
 o 44 (.ia 1 (.t 42) (.t 43)),
 o 45 (.ld none (.t 44)),
 o 46 (.fa 1 (.t 3)),
 o 47 (.ld none (.t 46)),
 o 48 (.mv (.t 5)),
 o 49 (.ia 1 (.t 47) (.t 48)),
 o 50 (.ld none (.t 49)),
 o 51 (.bin .neq (.t 45) (.t 50))])
 (.cond (.t 51)
 (.seq
 (rg [
 o 4 (.mv (kb false))])
 .ret)
 .skip)))
 (rg [
 o 39 (.mv (.t 5)),
 o 40 (.bin .add (.t 39) (kc 1)),
 o 5 (.mv (.t 40))])))
def a15 : AF := ⟨52,
 (.seq
 (rg [
 o 2 (.box (.t 0)),
 o 3 (.box (.t 1)),
 o 4 (.mv (kb false))])
 (.seq
 (.seq
 (rg [
 o 6 (.fa 0 (.t 2)),
 o 7 (.ld none (.t 6)),
 o 8 (.fa 0 (.t 3)),
 o 9 (.ld none (.t 8)),
 o 10 (.bin .neq (.t 7) (.t 9)),
 o 11 (.mv (.t 10)),
 og 12 11 false (.fa 2 (.t 2)),
 og 13 11 false (.ld none (.t 12)),
 og 14 11 false (.fa 2 (.t 3)),
 og 15 11 false (.ld none (.t 14)),
 og 16 11 false (.bin .neq (.t 13) (.t 15)),
 o 17 (.pick (.t 11) (kb true) (.t 16)),
 o 18 (.mv (.t 17)),
 og 19 18 false (.fa 3 (.t 2)),
 og 20 18 false (.ld none (.t 19)),
 og 21 18 false (.fa 3 (.t 3)),
 og 22 18 false (.ld none (.t 21)),
 og 23 18 false (.bin .neq (.t 20) (.t 22)),
 o 24 (.pick (.t 18) (kb true) (.t 23)),
 o 25 (.mv (.t 24)),
 og 26 25 false (.fa 1 (.t 2)),
 og 27 25 false (.ld none (.t 26)),
 og 28 25 false (.len false (.t 27)),
 og 29 25 false (.fa 1 (.t 3)),
 og 30 25 false (.ld none (.t 29)),
 og 31 25 false (.len false (.t 30)),
 og 32 25 false (.bin .neq (.t 28) (.t 31)),
 o 33 (.pick (.t 25) (kb true) (.t 32))])
 (.cond (.t 33)
 (.seq
 (rg [
 o 4 (.mv (kb false))])
 .ret)
 .skip))
 (.seq
 (.seq
 (rg [
 o 5 (.mv (kc 0))])
 (.block 0
 (.loop [2, 3, 5] a15_0)))
 (.seq
 (rg [
 o 4 (.mv (kb true))])
 .ret)))),
 [.t 4], false⟩
def a16_0 : AC :=
 (.seq
 (rg [
 o 21 (.bin .lss (.t 20) (.t 19))])
 (.seq
 (.cond (.t 21)
 .skip
 (.exit 0))
 (.seq
 (.block 1
 (.seq
 (rg [
 o 22 (.mv (.t 20)),
 o 23 (.ia 3 (.t 18) (.t 20)),
 o 24 (.ld (some 3) (.t 23)),
 o 5 (.alloc [.d (.i .i64 0), .d (.i .i64 0), .d (.i .i64 0)]),
 o 4 (.mv (.t 22)),
 on (.st 3 (.t 5) (.t 24))])
 (rg [
 o 25 (.fa 1 (.t 3)),
 o 26 (.ld none (.t 25)),
 o 27 (.mv (.t 4)),
 o 28 (.fa 0 (.t 5)),
 o 29 (.ld none (.t 28)),
 o 30 (.ia 1 (.t 26) (.t 27)),
 on (.st 1 (.t 30) (.t 29))])))
 (rg [
 o 31 (.bin .add (.t 20) (kc 1)),
 o 20 (.mv (.t 31))]))))
def a16 : AF := ⟨33,
 (.seq
 (rg [
 o 1 (.box (.t 0)),
 o 2 (.alloc [.d (.i .i64 0), .ns, .d (.i .i64 0), .d (.i .u32 0)])])
 (.seq
 (rd [
 o 6 (.fa 5 (.t 1)),
 od 7 [0] (.ld none (.t 6)),
 o 8 (.fa 9 (.t 1)),
 od 9 [2] (.ld none (.t 8)),
 o 10 (.fa 10 (.t 1)),
 od 11 [4] (.ld none (.t 10)),
 o 12 (.fa 6 (.t 1)),
 od 13 [6] (.ld none (.t 12)),
 od 14 [6, 7] (.len false (.t 13)),
 od 15 [7, 6, 8] (.mks 1 8 [.i .i64 0] (.t 14) (.t 14)),
 od 16 [8, 6, 7, 9, 4, 5, 2, 3, 0, 1] (.build [.d (.i .i64 0), .ns, .d (.i .i64 0), .d (.i .u32 0)] [(0, 1, (.t 7)), (2, 1, (.t 9)), (3, 1, (.t 11)), (1, 1, (.t 15))]),
 o 3 (.alloc [.d (.i .i64 0), .ns, .d (.i .i64 0), .d (.i .u32 0)]),
 ⟨none, .st 4 (.t 3) (.t 16), none, [1, 0, 3, 2, 5, 4, 9, 7, 6, 8, 10, 11], false⟩])
 (.seq
 (.seq
 (rg [
 o 17 (.fa 6 (.t 1)),
 o 18 (.ld none (.t 17)),
 o 19 (.len false (.t 18)),
 o 20 (.mv (kc 0))])
 (.block 0
 (.loop [2, 3, 18, 19, 20] a16_0)))
 (.seq
 (rg [
 o 32 (.ld (some 4) (.t 3)),
 on (.st 4 (.t 2) (.t 32))])
 .ret)))),
 [.c (some 4) 2], false⟩
def a17_0 : AC :=
 (.seq
 (.seq
 (rg [
 o 12 (.mv (.t 4)),
 o 13 (.fa 6 (.t 1)),
 o 14 (.ld none (.t 13)),
 o 15 (.len false (.t 14)),
 o 16 (.bin .lss (.t 12) (.t 15))])
 (.cond (.t 16)
 .skip
 (.exit 0)))
 (.seq
 (.block 1
 (rd [
 o 19 (.fa 1 (.t 3)),
 od 20 [0] (.ld none (.t 19)),
 o 21 (.fa 6 (.t 1)),
 od 22 [2] (.ld none (.t 21)),
 o 23 (.mv (.t 4)),
 od 24 [4, 2, 3] (.ia 3 (.t 22) (.t 23)),
 od 25 [3, 2, 4, 5] (.fa 0 (.t 24)),
 od 26 [5, 4, 2, 3, 6] (.ld none (.t 25)),
 od 27 [6, 3, 2, 4, 5, 7] (.bsl 1 [[.i .i64 0]] [(0, (.t 26))]),
 od 28 [7, 5, 4, 2, 3, 6, 8, 0, 1] (.app false 1 8 (.t 20) (.t 27)),
 od 29 [9, 8, 7, 6, 5, 4, 3, 2, 1, 0] (.fa 1 (.t 3)),
 ⟨none, .st 1 (.t 29) (.t 28), none, [0, 1, 2, 3, 4, 5, 6, 7, 8, 9, 10], false⟩]))
 (rg [
 o 17 (.mv (.t 4)),
 o 18 (.bin .add (.t 17) (kc 1)),
 o 4 (.mv (.t 18))])))
def a17 : AF := ⟨31,
 (.seq
 (rg [
 o 1 (.box (.t 0)),
 o 2 (.alloc [.d (.i .i64 0), .ns, .d (.i .i64 0), .d (.i .u32 0)])])
 (.seq
 (rg [
 o 5 (.fa 5 (.t 1)),
 o 6 (.ld none (.t 5)),
 o 7 (.fa 9 (.t 1)),
 o 8 (.ld none (.t 7)),
 o 9 (.fa 10 (.t 1)),
 o 10 (.ld none (.t 9)),
 o 11 (.build [.d (.i .i64 0), .ns, .d (.i .i64 0), .d (.i .u32 0)] [(0, 1, (.t 6)), (2, 1, (.t 8)), (3, 1, (.t 10))]),
 o 3 (.alloc [.d (.i .i64 0), .ns, .d (.i .i64 0), .d (.i .u32 0)]),
 on (.st 4 (.t 3) (.t 11))])
 (.seq
 (.seq
 (rg [
 o 4 (.mv (kc 0))])
 (.block 0
 (.loop [1, 2, 3, 4] a17_0)))
 (.seq
 (rg [
 o 30 (.ld (some 4) (.t 3)),
 on (.st 4 (.t 2) (.t 30))])
 .ret)))),
 [.c (some 4) 2], false⟩
def a18 : AF := ⟨48,
 (.seq
 (rg [
 o 2 (.box (.t 0)),
 o 4 (.alloc [.d (.i .i64 0), .d (.i .i64 0), .d (.s [])]),
 o 5 (.mv (kc 0))])
 (.seq
 (.block 0
 (.seq
 (rg [
 o 10 (.mv (.t 1)),
 o 11 (.bin .lss (.t 10) (kc 0)),
 o 12 (.mv (.t 11)),
 og 13 12 false (.mv (.t 1)),
 og 14 12 false (.fa 7 (.t 2)),
 og 15 12 false (.ld none (.t 14)),
 og 16 12 false (.bin .geq (.t 13) (.t 15)),
 o 17 (.pick (.t 12) (kb true) (.t 16)),
 o 9 (.mv (.t 17))])
 (.cond (.t 9)
 (.seq
 (rg [
 o 18 (.build [.d (.i .i64 0), .d (.i .i64 0), .d (.s [])] []),
 on (.st 3 (.t 4) (.t 18)),
 o 5 (.mv (kc 6))])
 .ret)
 (.seq
 (rg [
 o 20 (.mv (.t 1)),
 o 21 (.ld (some 11) (.t 2)),
 o 22 (.callp 13 [(.t 21)]),
 o 23 (.bin .lss (.t 20) (.t 22)),
 o 19 (.mv (.t 23))])
 (.cond (.t 19)
 (.seq
 (rg [
 o 24 (.build [.d (.i .i64 0), .d (.i .i64 0), .d (.s [])] []),
 on (.st 3 (.t 4) (.t 24)),
 o 5 (.mv (kc 11))])
 .ret)
 .skip)))))
 (.seq
 (rg [
 o 25 (.ld (some 11) (.t 2)),
 o 26 (.mv (.t 1)),
 o 27 (.callp 40 [(.t 25), (.t 26)]),
 o 6 (.alloc [.d (.i .i64 0), .d (.i .i64 0), .d (.i .i64 0)]),
 on (.st 3 (.t 6) (.t 27))])
 (.seq
 (rg [
 o 29 (.fa 0 (.t 2)),
 o 30 (.ld (some 5) (.t 29)),
 o 31 (.fa 0 (.t 6)),
 o 32 (.ld none (.t 31)),
 o 33 (.callp 32 [(.t 32)]),
 o 34 (.callp 41 [(.t 30), (.t 33)]),
 o 28 (.mv (.t 34)),
 o 35 (.ext (.t 28) 0),
 o 36 (.ext (.t 28) 1),
 o 7 (.mv (.t 35)),
 o 8 (.mv (.t 36))])
 (.seq
 (rg [
 o 37 (.mv (.t 7)),
 o 38 (.fa 0 (.t 6)),
 o 39 (.ld none (.t 38)),
 o 40 (.mv (.t 7)),
 o 41 (.fa 0 (.t 6)),
 o 42 (.ld none (.t 41)),
 o 43 (.callp 43 [(.t 40), (.t 42), (kc 8)]),
 o 44 (.mv (.t 1)),
 o 45 (.callp 42 [(.t 37), (.t 39), (.t 43), (.t 44)]),
 o 46 (.ext (.t 45) 0),
 o 47 (.ext (.t 45) 1),
 on (.st 3 (.t 4) (.t 46)),
 o 5 (.mv (.t 47))])
 .ret))))),
 [.c (some 3) 4, .t 5], false⟩
def a19_1 : AC :=
 (.seq
 (.seq
 (rg [
 o 32 (.mv (.t 8)),
 o 33 (.mv (.t 7)),
 o 34 (.len false (.t 33)),
 o 35 (.bin .lss (.t 32) (.t 34))])
 (.cond (.t 35)
 .skip
 (.exit 2)))
 (.seq
 (.block 3
 (.seq
 (rg [
 o 38 (.mv (.t 7)),
 o 39 (.mv (.t 8)),
 o 40 (.ia 3 (.t 38) (.t 39)),
 o 41 (.fa 0 (.t 40)),
 o 42 (.ld none (.t 41)),
 o 43 (.mv (.t 1)),
 o 44 (.bin .eql (.t 42) (.t 43))])
 (.cond (.t 44)
 (.seq
 (rg [
 o 45 (.mv (.t 7)),
 o 46 (.mv (.t 8)),
 o 47 (.ia 3 (.t 45) (.t 46)),
 o 48 (.ld (some 3) (.t 47)),
 on (.st 3 (.t 4) (.t 48)),
 o 5 (.mv (kc 0))])
 .ret)
 .skip)))
 (rg [
 o 36 (.mv (.t 8)),
 o 37 (.bin .add (.t 36) (kc 1)),
 o 8 (.mv (.t 37))])))
def a19_0 : AC :=
 (.seq
 (.seq
 (rg [
 o 18 (.mv (.t 6)),
 o 19 (.fa 6 (.t 2)),
 o 20 (.ld none (.t 19)),
 o 21 (.len false (.t 20)),
 o 22 (.bin .lss (.t 18) (.t 21))])
 (.cond (.t 22)
 .skip
 (.exit 0)))
 (.seq
 (.block 1
 (.seq
 (rg [
 o 25 (.ld (some 11) (.t 2)),
 o 26 (.fa 6 (.t 2)),
 o 27 (.ld none (.t 26)),
 o 28 (.mv (.t 6)),
 o 29 (.ia 3 (.t 27) (.t 28)),
 o 30 (.ld (some 3) (.t 29)),
 o 31 (.callp 44 [(.t 25), (.t 30)]),
 o 7 (.mv (.t 31))])
 (.seq
 (rg [
 o 8 (.mv (kc 0))])
 (.block 2
 (.loop [1, 2, 4, 6, 7, 8] a19_1)))))
 (rg [
 o 23 (.mv (.t 6)),
 o 24 (.bin .add (.t 23) (kc 1)),
 o 6 (.mv (.t 24))])))
def a19 : AF := ⟨50,
 (.seq
 (rg [
 o 2 (.box (.t 0)),
 o 4 (.alloc [.d (.i .i64 0), .d (.i .i64 0), .d (.s [])]),
 o 5 (.mv (kc 0))])
 (.seq
 (.seq
 (rg [
 o 9 (.mv (.t 1)),
 o 10 (.bin .lss (.t 9) (kc 0)),
 o 11 (.mv (.t 10)),
 og 12 11 false (.mv (.t 1)),
 og 13 11 false (.fa 7 (.t 2)),
 og 14 11 false (.ld none (.t 13)),
 og 15 11 false (.bin .geq (.t 12) (.t 14)),
 o 16 (.pick (.t 11) (kb true) (.t 15))])
 (.cond (.t 16)
 (.seq
 (rg [
 o 17 (.build [.d (.i .i64 0), .d (.i .i64 0), .d (.s [])] []),
 on (.st 3 (.t 4) (.t 17)),
 o 5 (.mv (kc 6))])
 .ret)
 .skip))
 (.seq
 (.seq
 (rg [
 o 6 (.mv (kc 0))])
 (.block 0
 (.loop [1, 2, 4, 6] a19_0)))
 (.seq
 (rg [
 o 49 (.build [.d (.i .i64 0), .d (.i .i64 0), .d (.s [])] []),
 on (.st 3 (.t 4) (.t 49)),
 o 5 (.mv (kc 11))])
 .ret)))),
 [.c (some 3) 4, .t 5], false⟩
def a20_1 : AC :=
 (.seq
 (rg [
 o 63 (.bin .lss (.t 62) (.t 61))])
 (.seq
 (.cond (.t 63)
 .skip
 (.exit 2))
 (.seq
 (.block 3
 (.seq
 (rg [
 o 64 (.ia 3 (.t 60) (.t 62)),
 o 65 (.ld (some 3) (.t 64)),
 o 17 (.alloc [.d (.i .i64 0), .d (.i .i64 0), .d (.s [])]),
 on (.st 3 (.t 17) (.t 65))])
 (.seq
 (rg [
 o 66 (.mv (.t 2)),
 o 67 (.ld (some 3) (.t 17)),
 o 68 (.callp 46 [(.t 67)]),
 o 69 (.bin .sub (.t 66) (.t 68)),
 o 2 (.mv (.t 69))])
 (.seq
 (.seq
 (rg [
 o 70 (.mv (.t 2)),
 o 71 (.bin .lss (.t 70) (kc 0)),
 o 72 (.mv (.t 71)),
 og 73 72 false (.mv (.t 1)),
 og 74 72 false (.fa 8 (.t 4)),
 og 75 72 false (.ld none (.t 74)),
 og 76 72 false (.bin .geq (.t 73) (.t 75)),
 o 77 (.pick (.t 72) (kb true) (.t 76)),
 o 78 (.mv (.t 77)),
 og 79 78 false (.mv (.t 9)),
 og 80 78 false (.len false (.t 79)),
 og 81 78 false (.mv (.t 3)),
 og 82 78 false (.bin .eql (.t 80) (.t 81)),
 o 83 (.pick (.t 78) (kb true) (.t 82))])
 (.cond (.t 83)
 (.seq
 (rg [
 o 84 (.mv (.t 9)),
 o 8 (.mv (.t 84))])
 .ret)
 .skip))
 (.seq
 (rg [
 o 85 (.mv (.t 9)),
 o 86 (.ld (some 3) (.t 17)),
 o 87 (.bsl 3 [[.i .i64 0, .i .i64 0, .s []]] [(0, (.t 86))]),
 o 88 (.app false 3 32 (.t 85) (.t 87)),
 o 9 (.mv (.t 88))])
 (rg [
 o 89 (.mv (.t 1)),
 o 90 (.bin .add (.t 89) (kc 1)),
 o 1 (.mv (.t 90))]))))))
 (rg [
 o 91 (.bin .add (.t 62) (kc 1)),
 o 62 (.mv (.t 91))]))))
def a20_0 : AC :=
 (.seq
 (.seq
 (rg [
 o 22 (.mv (.t 1)),
 o 23 (.fa 8 (.t 4)),
 o 24 (.ld none (.t 23)),
 o 25 (.bin .lss (.t 22) (.t 24)),
 o 26 (.mv (.t 25)),
 og 27 26 true (.mv (.t 9)),
 og 28 26 true (.len false (.t 27)),
 og 29 26 true (.mv (.t 3)),
 og 30 26 true (.bin .lss (.t 28) (.t 29)),
 o 31 (.pick (.t 26) (.t 30) (kb false))])
 (.cond (.t 31)
 .skip
 (.exit 0)))
 (.block 1
 (.seq
 (rg [
 o 32 (.ld (some 11) (.t 4)),
 o 33 (.mv (.t 1)),
 o 34 (.callp 40 [(.t 32), (.t 33)]),
 o 10 (.alloc [.d (.i .i64 0), .d (.i .i64 0), .d (.i .i64 0)]),
 on (.st 3 (.t 10) (.t 34))])
 (.seq
 (rg [
 o 36 (.fa 0 (.t 4)),
 o 37 (.ld (some 5) (.t 36)),
 o 38 (.fa 0 (.t 10)),
 o 39 (.ld none (.t 38)),
 o 40 (.callp 32 [(.t 39)]),
 o 41 (.callp 41 [(.t 37), (.t 40)]),
 o 35 (.mv (.t 41)),
 o 42 (.ext (.t 35) 0),
 o 43 (.ext (.t 35) 1),
 o 11 (.mv (.t 42)),
 o 12 (.mv (.t 43))])
 (.seq
 (rg [
 o 45 (.mv (.t 11)),
 o 46 (.fa 0 (.t 10)),
 o 47 (.ld none (.t 46)),
 o 48 (.callp 45 [(.t 45), (.t 47)]),
 o 44 (.mv (.t 48)),
 o 49 (.ext (.t 44) 0),
 o 50 (.ext (.t 44) 1),
 o 51 (.ext (.t 44) 2),
 o 13 (.mv (.t 49)),
 o 14 (.mv (.t 50)),
 o 15 (.mv (.t 51))])
 (.seq
 (rg [
 o 52 (.mv (.t 13)),
 o 53 (.mv (.t 1)),
 o 54 (.fa 0 (.t 10)),
 o 55 (.ld none (.t 54)),
 o 56 (.bin .sub (.t 53) (.t 55)),
 o 57 (.mv (.t 13)),
 o 58 (.len false (.t 57)),
 o 59 (.mm false (.t 56) (.t 58)),
 o 60 (.slc 3 (.t 52) (some (.t 59)) none none),
 o 61 (.len false (.t 60)),
 o 62 (.mv (kc 0))])
 (.block 2
 (.loop [1, 2, 3, 4, 9, 60, 61, 62] a20_1))))))))
def a20 : AF := ⟨93,
 (.seq
 (rg [
 o 4 (.box (.t 0)),
 oz 8 (.mv (kx (.ns)))])
 (.seq
 (.seq
 (rg [
 o 18 (.mv (.t 1)),
 o 19 (.ld (some 11) (.t 4)),
 o 20 (.callp 13 [(.t 19)]),
 o 21 (.bin .lss (.t 18) (.t 20))])
 (.cond (.t 21)
 (.seq
 (rg [
 oz 8 (.mv (kx (.ns)))])
 .ret)
 .skip))
 (.seq
 (rg [
 o 9 (.own 3)])
 (.seq
 (.block 0
 (.loop [1, 2, 3, 4, 9] a20_0))
 (.seq
 (rg [
 o 92 (.mv (.t 9)),
 o 8 (.mv (.t 92))])
 .ret))))),
 [.t 8], false⟩
def a21_0 : AC :=
 (.seq
 (.seq
 (rg [
 o 19 (.mv (.t 11)),
 o 20 (.fa 8 (.t 4)),
 o 21 (.ld none (.t 20)),
 o 22 (.bin .lss (.t 19) (.t 21)),
 o 23 (.mv (.t 22)),
 og 24 23 true (.mv (.t 9)),
 og 25 23 true (.len false (.t 24)),
 og 26 23 true (.mv (.t 3)),
 og 27 23 true (.bin .lss (.t 25) (.t 26)),
 o 28 (.pick (.t 23) (.t 27) (kb false))])
 (.cond (.t 28)
 .skip
 (.exit 0)))
 (.seq
 (.block 1
 (.seq
 (rg [
 o 32 (.ld (some 11) (.t 4)),
 o 33 (.mv (.t 11)),
 o 34 (.callp 19 [(.t 32), (.t 33)]),
 o 31 (.mv (.t 34)),
 o 35 (.ext (.t 31) 0),
 o 36 (.ext (.t 31) 1),
 o 12 (.alloc [.d (.i .i64 0), .d (.i .i64 0), .d (.s [])]),
 on (.st 3 (.t 12) (.t 35)),
 o 13 (.mv (.t 36))])
 (.seq
 (rg [
 o 37 (.mv (.t 10)),
 o 38 (.ld (some 3) (.t 12)),
 o 39 (.callp 47 [(.t 38)]),
 o 40 (.bin .add (.t 37) (.t 39)),
 o 10 (.mv (.t 40))])
 (.seq
 (.seq
 (rg [
 o 41 (.mv (.t 10)),
 o 42 (.mv (.t 2)),
 o 43 (.bin .gtr (.t 41) (.t 42))])
 (.cond (.t 43)
 (.exit 0)
 .skip))
 (rg [
 o 44 (.mv (.t 9)),
 o 45 (.ld (some 3) (.t 12)),
 o 46 (.bsl 3 [[.i .i64 0, .i .i64 0, .s []]] [(0, (.t 45))]),
 o 47 (.app false 3 32 (.t 44) (.t 46)),
 o 9 (.mv (.t 47))])))))
 (rg [
 o 29 (.mv (.t 11)),
 o 30 (.bin .add (.t 29) (kc 1)),
 o 11 (.mv (.t 30))])))
def a21 : AF := ⟨49,
 (.seq
 (rg [
 o 4 (.box (.t 0)),
 oz 8 (.mv (kx (.ns)))])
 (.seq
 (rg [
 o 9 (.own 3)])
 (.seq
 (.seq
 (rg [
 o 14 (.mv (.t 1)),
 o 15 (.ld (some 11) (.t 4)),
 o 16 (.callp 14 [(.t 15)]),
 o 17 (.bin .lss (.t 14) (.t 16))])
 (.cond (.t 17)
 (.seq
 (rg [
 oz 8 (.mv (kx (.ns)))])
 .ret)
 .skip))
 (.seq
 (rg [
 o 10 (.mv (kc 0))])
 (.seq
 (.seq
 (rg [
 o 18 (.mv (.t 1)),
 o 11 (.mv (.t 18))])
 (.block 0
 (.loop [2, 3, 4, 9, 10, 11] a21_0)))
 (.seq
 (rg [
 o 48 (.mv (.t 9)),
 o 8 (.mv (.t 48))])
 .ret)))))),
 [.t 8], false⟩
def a22_0 : AC :=
 (.seq
 (.seq
 (rg [
 o 11 (.mv (.t 5)),
 o 12 (.mv (.t 0)),
 o 13 (.len false (.t 12)),
 o 14 (.bin .lss (.t 11) (.t 13))])
 (.cond (.t 14)
 .skip
 (.exit 0)))
 (.seq
 (.block 1
 (.seq
 (rg [
 o 17 (.mv (.t 0)),
 o 18 (.mv (.t 5)),
 o 19 (.ia 3 (.t 17) (.t 18)),
 o 20 (.ld (some 3) (.t 19)),
 o 21 (.mv (.t 1)),
 o 22 (.mv (.t 5)),
 o 23 (.ia 3 (.t 21) (.t 22)),
 o 24 (.ld (some 3) (.t 23)),
 o 25 (.eqa true [0, 0, 2] (.t 20) (.t 24))])
 (.cond (.t 25)
 (.seq
 (rg [
 o 4 (.mv (kb false))])
 .ret)
 .skip)))
 (rg [
 o 15 (.mv (.t 5)),
 o 16 (.bin .add (.t 15) (kc 1)),
 o 5 (.mv (.t 16))])))
def a22 : AF := ⟨26,
 (.seq
 (rg [
 o 4 (.mv (kb false))])
 (.seq
 (.seq
 (rg [
 o 6 (.mv (.t 0)),
 o 7 (.len false (.t 6)),
 o 8 (.mv (.t 1)),
 o 9 (.len false (.t 8)),
 o 10 (.bin .neq (.t 7) (.t 9))])
 (.cond (.t 10)
 (.seq
 (rg [
 o 4 (.mv (kb false))])
 .ret)
 .skip))
 (.seq
 (.seq
 (rg [
 o 5 (.mv (kc 0))])
 (.block 0
 (.loop [0, 1, 5] a22_0)))
 (.seq
 (rg [
 o 4 (.mv (kb true))])
 .ret)))),
 [.t 4], false⟩
def a23_0 : AC :=
 (.seq
 (.seq
 (rg [
 o 8 (.mv (.t 3)),
 o 9 (.fa 0 (.t 1)),
 o 10 (.ld none (.t 9)),
 o 11 (.len false (.t 10)),
 o 12 (.bin .lss (.t 8) (.t 11))])
 (.cond (.t 12)
 .skip
 (.exit 0)))
 (.seq
 (.block 1
 (.seq
 (rg [
 o 15 (.fa 0 (.t 1)),
 o 16 (.ld none (.t 15)),
 o 17 (.mv (.t 3)),
 o 18 (.ia 3 (.t 16) (.t 17)),
 o 19 (.fa 1 (.t 18)),
 o 20 (.ld none (.t 19)),
 o 21 (.len true (.t 20)),
 o 22 (.bin .gtr (.t 21) (kc 3000)),
 o 23 (.mv (.t 22)),
 og 24 23 false (.fa 0 (.t 1)),
 og 25 23 false (.ld none (.t 24)),
 og 26 23 false (.mv (.t 3)),
 og 27 23 false (.ia 3 (.t 25) (.t 26)),
 og 28 23 false (.fa 0 (.t 27)),
 og 29 23 false (.ld none (.t 28)),
 og 30 23 false (.len true (.t 29)),
 og 31 23 false (.bin .gtr (.t 30) (kc 100)),
 o 32 (.pick (.t 23) (kb true) (.t 31))])
 (.cond (.t 32)
 (.seq
 (rg [
 o 2 (.mv (kb false))])
 .ret)
 .skip)))
 (rg [
 o 13 (.mv (.t 3)),
 o 14 (.bin .add (.t 13) (kc 1)),
 o 3 (.mv (.t 14))])))
def a23 : AF := ⟨33,
 (.seq
 (rg [
 o 1 (.box (.t 0)),
 o 2 (.mv (kb false))])
 (.seq
 (.seq
 (rg [
 o 4 (.fa 0 (.t 1)),
 o 5 (.ld none (.t 4)),
 o 6 (.len false (.t 5)),
 o 7 (.bin .gtr (.t 6) (kc 40))])
 (.cond (.t 7)
 (.seq
 (rg [
 o 2 (.mv (kb false))])
 .ret)
 .skip))
 (.seq
 (.seq
 (rg [
 o 3 (.mv (kc 0))])
 (.block 0
 (.loop [1, 3] a23_0)))
 (.seq
 (rg [
 o 2 (.mv (kb true))])
 .ret)))),
 [.t 2], false⟩
def a24_0 : AC :=
 (.seq
 (.seq
 (rg [
 o 5 (.mv (.t 3)),
 o 6 (.fa 0 (.t 1)),
 o 7 (.ld none (.t 6)),
 o 8 (.len false (.t 7)),
 o 9 (.bin .lss (.t 5) (.t 8))])
 (.cond (.t 9)
 .skip
 (.exit 0)))
 (.seq
 (.block 1
 (.seq
 (rg [
 o 12 (.fa 0 (.t 1)),
 o 13 (.ld none (.t 12)),
 o 14 (.mv (.t 3)),
 o 15 (.ia 3 (.t 13) (.t 14)),
 o 16 (.ld (some 3) (.t 15)),
 o 4 (.alloc [.d (.s []), .d (.s []), .d (.i .i64 0)]),
 on (.st 3 (.t 4) (.t 16))])
 (.seq
 (rg [
 o 17 (.fa 0 (.t 4)),
 o 18 (.ld none (.t 17)),
 o 19 (.callp 48 [(.t 18)]),
 o 20 (.un .not (.t 19)),
 o 21 (.mv (.t 20)),
 og 22 21 false (.fa 2 (.t 4)),
 og 23 21 false (.ld none (.t 22)),
 og 24 21 false (.bin .lss (.t 23) (kc 0)),
 o 25 (.pick (.t 21) (kb true) (.t 24)),
 o 26 (.mv (.t 25)),
 og 27 26 false (.fa 2 (.t 4)),
 og 28 26 false (.ld none (.t 27)),
 og 29 26 false (.fa 1 (.t 4)),
 og 30 26 false (.ld none (.t 29)),
 og 31 26 false (.len true (.t 30)),
 og 32 26 false (.bin .gtr (.t 28) (.t 31)),
 o 33 (.pick (.t 26) (kb true) (.t 32)),
 o 34 (.mv (.t 33)),
 og 35 34 false (.mv (.t 3)),
 og 36 34 false (.bin .gtr (.t 35) (kc 0)),
 og 37 34 false (.mv (.t 36)),
 og 38 37 true (.fa 0 (.t 4)),
 og 39 37 true (.ld none (.t 38)),
 og 40 37 true (.fa 0 (.t 1)),
 og 41 37 true (.ld none (.t 40)),
 og 42 37 true (.mv (.t 3)),
 og 43 37 true (.bin .sub (.t 42) (kc 1)),
 og 44 37 true (.ia 3 (.t 41) (.t 43)),
 og 45 37 true (.fa 0 (.t 44)),
 og 46 37 true (.ld none (.t 45)),
 og 47 37 true (.bin .leq (.t 39) (.t 46)),
 og 48 34 false (.pick (.t 37) (.t 47) (kb false)),
 o 49 (.pick (.t 34) (kb true) (.t 48))])
 (.cond (.t 49)
 (.seq
 (rg [
 o 2 (.mv (kb false))])
 .ret)
 .skip))))
 (rg [
 o 10 (.mv (.t 3)),
 o 11 (.bin .add (.t 10) (kc 1)),
 o 3 (.mv (.t 11))])))
def a24 : AF := ⟨58,
 (.seq
 (rg [
 o 1 (.box (.t 0)),
 o 2 (.mv (kb false))])
 (.seq
 (.seq
 (rg [
 o 3 (.mv (kc 0))])
 (.block 0
 (.loop [1, 3] a24_0)))
 (.seq
 (rg [
 o 50 (.fa 1 (.t 1)),
 o 51 (.ld none (.t 50)),
 o 52 (.bin .geq (.t 51) (kc 0)),
 o 53 (.mv (.t 52)),
 og 54 53 true (.fa 3 (.t 1)),
 og 55 53 true (.ld none (.t 54)),
 og 56 53 true (.bin .geq (.t 55) (kc 0)),
 o 57 (.pick (.t 53) (.t 56) (kb false)),
 o 2 (.mv (.t 57))])
 .ret))),
 [.t 2], false⟩
def a25_0 : AC :=
 (.seq
 (.seq
 (rg [
 o 24 (.mv (.t 3)),
 o 25 (.fa 1 (.t 1)),
 o 26 (.ld none (.t 25)),
 o 27 (.len false (.t 26)),
 o 28 (.bin .lss (.t 24) (.t 27))])
 (.cond (.t 28)
 .skip
 (.exit 0)))
 (.seq
 (.block 1
 (.seq
 (rg [
 o 31 (.fa 1 (.t 1)),
 o 32 (.ld none (.t 31)),
 o 33 (.mv (.t 3)),
 o 34 (.ia 1 (.t 32) (.t 33)),
 o 35 (.ld none (.t 34)),
 o 36 (.bin .lss (.t 35) (kc 0)),
 o 37 (.mv (.t 36)),
 og 38 37 false (.fa 1 (.t 1)),
 og 39 37 false (.ld none (.t 38)),
 og 40 37 false (.mv (.t 3)),
 og 41 37 false (.ia 1 (.t 39) (.t 40)),
 og 42 37 false (.ld none (.t 41)),
 og 43 37 false (.bin .gtr (.t 42) (kc 1099511627776)),
 o 44 (.pick (.t 37) (kb true) (.t 43)),
 o 45 (.mv (.t 44)),
 og 46 45 false (.mv (.t 3)),
 og 47 45 false (.bin .gtr (.t 46) (kc 0)),
 og 48 45 false (.mv (.t 47)),
 og 49 48 true (.fa 1 (.t 1)),
 og 50 48 true (.ld none (.t 49)),
 og 51 48 true (.mv (.t 3)),
 og 52 48 true (.ia 1 (.t 50) (.t 51)),
 og 53 48 true (.ld none (.t 52)),
 og 54 48 true (.fa 1 (.t 1)),
 og 55 48 true (.ld none (.t 54)),
 og 56 48 true (.mv (.t 3)),
 og 57 48 true (.bin .sub (.t 56) (kc 1)),
 og 58 48 true (.ia 1 (.t 55) (.t 57)),
 og 59 48 true (.ld none (.t 58)),
 og 60 48 true (.bin .leq (.t 53) (.t 59)),
 og 61 45 false (.pick (.t 48) (.t 60) (kb false)),
 o 62 (.pick (.t 45) (kb true) (.t 61))])
 (.cond (.t 62)
 (.seq
 (rg [
 o 2 (.mv (kb false))])
 .ret)
 .skip)))
 (rg [
 o 29 (.mv (.t 3)),
 o 30 (.bin .add (.t 29) (kc 1)),
 o 3 (.mv (.t 30))])))
def a25 : AF := ⟨84,
 (.seq
 (rg [
 o 1 (.box (.t 0)),
 o 2 (.mv (kb false))])
 (.seq
 (.seq
 (rg [
 o 4 (.fa 0 (.t 1)),
 o 5 (.ld none (.t 4)),
 o 6 (.bin .lss (.t 5) (kc 1)),
 o 7 (.mv (.t 6)),
 og 8 7 false (.fa 0 (.t 1)),
 og 9 7 false (.ld none (.t 8)),
 og 10 7 false (.bin .gtr (.t 9) (kc 1099511627776)),
 o 11 (.pick (.t 7) (kb true) (.t 10)),
 o 12 (.mv (.t 11)),
 og 13 12 false (.fa 1 (.t 1)),
 og 14 12 false (.ld none (.t 13)),
 og 15 12 false (.len false (.t 14)),
 og 16 12 false (.bin .lss (.t 15) (kc 1)),
 o 17 (.pick (.t 12) (kb true) (.t 16)),
 o 18 (.mv (.t 17)),
 og 19 18 false (.fa 1 (.t 1)),
 og 20 18 false (.ld none (.t 19)),
 og 21 18 false (.len false (.t 20)),
 og 22 18 false (.bin .gtr (.t 21) (kc 64)),
 o 23 (.pick (.t 18) (kb true) (.t 22))])
 (.cond (.t 23)
 (.seq
 (rg [
 o 2 (.mv (kb false))])
 .ret)
 .skip))
 (.seq
 (.seq
 (rg [
 o 3 (.mv (kc 0))])
 (.block 0
 (.loop [1, 3] a25_0)))
 (.seq
 (.seq
 (rg [
 o 63 (.fa 1 (.t 1)),
 o 64 (.ld none (.t 63)),
 o 65 (.ia 1 (.t 64) (kc 0)),
 o 66 (.ld none (.t 65)),
 o 67 (.bin .eql (.t 66) (kc 0))])
 (.cond (.t 67)
 (.seq
 (rg [
 o 68 (.fa 2 (.t 1)),
 o 69 (.ld none (.t 68)),
 o 70 (.bin .eql (.t 69) (kc 0)),
 o 71 (.mv (.t 70)),
 og 72 71 true (.fa 3 (.t 1)),
 og 73 71 true (.ld none (.t 72)),
 og 74 71 true (.bin .eql (.t 73) (kx (.d (.i .u32 0)))),
 o 75 (.pick (.t 71) (.t 74) (kb false)),
 o 2 (.mv (.t 75))])
 .ret)
 .skip))
 (.seq
 (rg [
 o 76 (.fa 2 (.t 1)),
 o 77 (.ld none (.t 76)),
 o 78 (.bin .geq (.t 77) (kc 1)),
 o 79 (.mv (.t 78)),
 og 80 79 true (.fa 2 (.t 1)),
 og 81 79 true (.ld none (.t 80)),
 og 82 79 true (.bin .leq (.t 81) (kc 65536)),
 o 83 (.pick (.t 79) (.t 82) (kb false)),
 o 2 (.mv (.t 83))])
 .ret))))),
 [.t 2], false⟩
def a26 : AF := ⟨21,
 (.seq
 (rg [
 o 2 (.box (.t 0)),
 o 3 (.box (.t 1)),
 o 4 (.alloc [.ns, .d (.i .i64 0), .d (.b false), .d (.i .i64 0), .d (.b false)]),
 o 5 (.mv (kc 0))])
 (.seq
 (rg [
 o 7 (.ld (some 5) (.t 2)),
 o 8 (.build [.ns, .d (.i .i64 0), .d (.b false), .d (.i .i64 0), .d (.b false), .d (.i .i64 0)] [(0, 5, (.t 7))]),
 o 9 (.box (.t 8)),
 o 6 (.mv (.t 9))])
 (.seq
 (rg [
 o 10 (.mv (.t 6)),
 o 11 (.ld (some 4) (.t 3)),
 o 12 (.call 33 [(.t 10), (.t 11)])])
 (.seq
 (rd [
 o 13 (.mv (.t 6)),
 od 14 [0] (.nck (.t 13)),
 od 15 [0, 1] (.fa 0 (.t 14)),
 od 16 [1, 0, 2] (.ld (some 5) (.t 15)),
 o 17 (.mv (.t 6)),
 od 18 [4] (.nck (.t 17)),
 od 19 [4, 5] (.fa 5 (.t 18)),
 od 20 [5, 4, 6] (.ld none (.t 19)),
 ⟨none, .st 5 (.t 4) (.t 16), none, [2, 0, 1, 3], false⟩,
 od 5 [3, 1, 0, 2, 8, 6, 4, 5, 7] (.mv (.t 20))])
 .ret)))),
 [.c (some 5) 4, .t 5], false⟩
def a27 : AF := ⟨72,
 (.seq
 (rg [
 o 2 (.box (.t 0)),
 o 3 (.box (.t 1)),
 o 4 (.alloc [.ns, .d (.i .i64 0), .d (.b false), .d (.i .i64 0), .d (.b false)]),
 o 5 (.mv (kc 0))])
 (.seq
 (rg [
 o 9 (.ld (some 4) (.t 3)),
 o 10 (.callp 49 [(.t 9)]),
 o 8 (.mv (.t 10)),
 o 11 (.ext (.t 8) 0),
 o 12 (.ext (.t 8) 1),
 o 6 (.mv (.t 11)),
 o 7 (.mv (.t 12))])
 (.seq
 (.seq
 (rg [
 o 13 (.mv (.t 7)),
 o 14 (.bin .neq (.t 13) (kc 0))])
 (.cond (.t 14)
 (.seq
 (rg [
 o 15 (.ld (some 5) (.t 2)),
 o 16 (.mv (.t 7)),
 on (.st 5 (.t 4) (.t 15)),
 o 5 (.mv (.t 16))])
 .ret)
 .skip))
 (.seq
 (.seq
 (rg [
 o 17 (.ld (some 5) (.t 2)),
 o 18 (.callp 50 [(.t 17), (ks [110])]),
 o 19 (.bin .geq (.t 18) (kc 0))])
 (.cond (.t 19)
 (.seq
 (rg [
 o 21 (.ld (some 5) (.t 2)),
 o 22 (.callp 51 [(.t 21), (ks [110])]),
 o 20 (.mv (.t 22)),
 o 23 (.ext (.t 20) 0),
 o 24 (.ext (.t 20) 1),
 on (.st 5 (.t 2) (.t 23)),
 o 7 (.mv (.t 24))])
 (.seq
 (rg [
 o 25 (.mv (.t 7)),
 o 26 (.bin .neq (.t 25) (kc 0))])
 (.cond (.t 26)
 (.seq
 (rg [
 o 27 (.ld (some 5) (.t 2)),
 o 28 (.mv (.t 7)),
 on (.st 5 (.t 4) (.t 27)),
 o 5 (.mv (.t 28))])
 .ret)
 .skip)))
 .skip))
 (.seq
 (rg [
 o 30 (.ld (some 5) (.t 2)),
 o 31 (.callp 34 [(.t 30), (ks [110])]),
 o 29 (.mv (.t 31)),
 o 32 (.ext (.t 29) 0),
 o 33 (.ext (.t 29) 1),
 on (.st 5 (.t 2) (.t 32)),
 o 7 (.mv (.t 33))])
 (.seq
 (.seq
 (rg [
 o 34 (.mv (.t 7)),
 o 35 (.bin .neq (.t 34) (kc 0))])
 (.cond (.t 35)
 (.seq
 (rg [
 o 36 (.ld (some 5) (.t 2)),
 o 37 (.mv (.t 7)),
 on (.st 5 (.t 4) (.t 36)),
 o 5 (.mv (.t 37))])
 .ret)
 .skip))
 (.seq
 (rg [
 o 39 (.ld (some 5) (.t 2)),
 o 40 (.mv (.t 6)),
 o 41 (.callp 52 [(.t 39), (ks [110]), (.t 40)]),
 o 38 (.mv (.t 41)),
 o 42 (.ext (.t 38) 0),
 o 43 (.ext (.t 38) 1),
 on (.st 5 (.t 2) (.t 42)),
 o 7 (.mv (.t 43))])
 (.seq
 (.seq
 (rg [
 o 44 (.mv (.t 7)),
 o 45 (.bin .eql (.t 44) (kc 9))])
 (.cond (.t 45)
 (.seq
 (rg [
 o 47 (.ld (some 5) (.t 2)),
 o 48 (.callp 51 [(.t 47), (ks [110])]),
 o 46 (.mv (.t 48)),
 o 49 (.ext (.t 46) 0),
 o 50 (.ext (.t 46) 1),
 on (.st 5 (.t 2) (.t 49)),
 o 7 (.mv (.t 50))])
 (.seq
 (.seq
 (rg [
 o 51 (.mv (.t 7)),
 o 52 (.bin .eql (.t 51) (kc 0))])
 (.cond (.t 52)
 (rg [
 o 7 (.mv (kc 9))])
 .skip))
 (.seq
 (rg [
 o 53 (.ld (some 5) (.t 2)),
 o 54 (.mv (.t 7)),
 on (.st 5 (.t 4) (.t 53)),
 o 5 (.mv (.t 54))])
 .ret)))
 .skip))
 (.seq
 (.seq
 (rg [
 o 55 (.mv (.t 7)),
 o 56 (.bin .neq (.t 55) (kc 0))])
 (.cond (.t 56)
 (.seq
 (rg [
 o 57 (.ld (some 5) (.t 2)),
 o 58 (.mv (.t 7)),
 on (.st 5 (.t 4) (.t 57)),
 o 5 (.mv (.t 58))])
 .ret)
 .skip))
 (.seq
 (rg [
 o 60 (.ld (some 5) (.t 2)),
 o 61 (.callp 53 [(.t 60), (ks [110])]),
 o 59 (.mv (.t 61)),
 o 62 (.ext (.t 59) 0),
 o 63 (.ext (.t 59) 1),
 on (.st 5 (.t 2) (.t 62)),
 o 7 (.mv (.t 63))])
 (.seq
 (.seq
 (rg [
 o 64 (.mv (.t 7)),
 o 65 (.bin .neq (.t 64) (kc 0))])
 (.cond (.t 65)
 (.seq
 (rg [
 o 66 (.ld (some 5) (.t 2)),
 o 67 (.mv (.t 7)),
 on (.st 5 (.t 4) (.t 66)),
 o 5 (.mv (.t 67))])
 .ret)
 .skip))
 (.seq
 (rg [
 o 68 (.ld (some 5) (.t 2)),
 o 69 (.callp 54 [(.t 68), (ks [110]), (ks [109])]),
 o 70 (.ext (.t 69) 0),
 o 71 (.ext (.t 69) 1),
 on (.st 5 (.t 4) (.t 70)),
 o 5 (.mv (.t 71))])
 .ret)))))))))))),
 [.c (some 5) 4, .t 5], false⟩
def a28_0 : AC :=
 (.seq
 (.seq
 (rg [
 o 41 (.mv (.t 5)),
 o 42 (.fa 0 (.t 2)),
 o 43 (.ld none (.t 42)),
 o 44 (.len false (.t 43)),
 o 45 (.bin .lss (.t 41) (.t 44))])
 (.cond (.t 45)
 .skip
 (.exit 0)))
 (.seq
 (.block 1
 (.seq
 (rg [
 o 48 (.fa 0 (.t 2)),
 o 49 (.ld none (.t 48)),
 o 50 (.mv (.t 5)),
 o 51 (.ia 3 (.t 49) (.t 50)),
 o 52 (.ld (some 3) (.t 51)),
 o 53 (.fa 0 (.t 3)),
 o 54 (.ld none (.t 53)),
 o 55 (.mv (.t 5)),
 o 56 (.ia 3 (.t 54) (.t 55)),
 o 57 (.ld (some 3) (.t 56)),
 o 58 (.eqa true [2, 2, 0] (.t 52) (.t 57))])
 (.cond (.t 58)
 (.seq
 (rg [
 o 4 (.mv (kb false))])
 .ret)
 .skip)))
 (rg [
 o 46 (.mv (.t 5)),
 o 47 (.bin .add (.t 46) (kc 1)),
 o 5 (.mv (.t 47))])))
def a28 : AF := ⟨59,
 (.seq
 (rg [
 o 2 (.box (.t 0)),
 o 3 (.box (.t 1)),
 o 4 (.mv (kb false))])
 (.seq
 (.seq
 (rg [
 o 6 (.fa 0 (.t 2)),
 o 7 (.ld none (.t 6)),
 o 8 (.len false (.t 7)),
 o 9 (.fa 0 (.t 3)),
 o 10 (.ld none (.t 9)),
 o 11 (.len false (.t 10)),
 o 12 (.bin .neq (.t 8) (.t 11)),
 o 13 (.mv (.t 12)),
 og 14 13 false (.fa 1 (.t 2)),
 og 15 13 false (.ld none (.t 14)),
 og 16 13 false (.fa 1 (.t 3)),
 og 17 13 false (.ld none (.t 16)),
 og 18 13 false (.bin .neq (.t 15) (.t 17)),
 o 19 (.pick (.t 13) (kb true) (.t 18)),
 o 20 (.mv (.t 19)),
 og 21 20 false (.fa 2 (.t 2)),
 og 22 20 false (.ld none (.t 21)),
 og 23 20 false (.fa 2 (.t 3)),
 og 24 20 false (.ld none (.t 23)),
 og 25 20 false (.eqb true (.t 22) (.t 24)),
 o 26 (.pick (.t 20) (kb true) (.t 25)),
 o 27 (.mv (.t 26)),
 og 28 27 false (.fa 3 (.t 2)),
 og 29 27 false (.ld none (.t 28)),
 og 30 27 false (.fa 3 (.t 3)),
 og 31 27 false (.ld none (.t 30)),
 og 32 27 false (.bin .neq (.t 29) (.t 31)),
 o 33 (.pick (.t 27) (kb true) (.t 32)),
 o 34 (.mv (.t 33)),
 og 35 34 false (.fa 4 (.t 2)),
 og 36 34 false (.ld none (.t 35)),
 og 37 34 false (.fa 4 (.t 3)),
 og 38 34 false (.ld none (.t 37)),
 og 39 34 false (.eqb true (.t 36) (.t 38)),
 o 40 (.pick (.t 34) (kb true) (.t 39))])
 (.cond (.t 40)
 (.seq
 (rg [
 o 4 (.mv (kb false))])
 .ret)
 .skip))
 (.seq
 (.seq
 (rg [
 o 5 (.mv (kc 0))])
 (.block 0
 (.loop [2, 3, 5] a28_0)))
 (.seq
 (rg [
 o 4 (.mv (kb true))])
 .ret)))),
 [.t 4], false⟩
def a29 : AF := ⟨93,
 (.seq
 (rg [
 o 3 (.box (.t 0)),
 o 5 (.box (.t 2)),
 o 6 (.alloc [.ns, .d (.i .i64 0), .d (.b false), .d (.i .i64 0), .d (.b false), .d (.i .i64 0), .ns, .d (.i .i64 0), .d (.i .i64 0), .d (.i .i64 0), .d (.i .u32 0)]),
 o 7 (.mv (kc 0))])
 (.seq
 (rg [
 o 13 (.ld (some 3) (.t 5)),
 o 14 (.callp 55 [(.t 13)]),
 o 12 (.mv (.t 14)),
 o 15 (.ext (.t 12) 0),
 o 16 (.ext (.t 12) 1),
 o 8 (.mv (.t 15)),
 o 9 (.mv (.t 16))])
 (.seq
 (.block 0
 (.seq
 (rg [
 o 18 (.mv (.t 9)),
 o 19 (.bin .neq (.t 18) (kc 0)),
 o 20 (.mv (.t 19)),
 og 21 20 false (.fa 0 (.t 5)),
 og 22 20 false (.ld none (.t 21)),
 og 23 20 false (.fa 7 (.t 3)),
 og 24 20 false (.ld none (.t 23)),
 og 25 20 false (.bin .neq (.t 22) (.t 24)),
 o 26 (.pick (.t 20) (kb true) (.t 25)),
 o 17 (.mv (.t 26))])
 (.cond (.t 17)
 (.seq
 (rg [
 o 27 (.ld (some 11) (.t 3)),
 on (.st 11 (.t 6) (.t 27)),
 o 7 (.mv (kc 1))])
 .ret)
 (.seq
 (rg [
 o 29 (.fa 7 (.t 3)),
 o 30 (.ld none (.t 29)),
 o 31 (.bin .geq (.t 30) (kc 1099511627776)),
 o 28 (.mv (.t 31))])
 (.cond (.t 28)
 (.seq
 (rg [
 o 32 (.ld (some 11) (.t 3)),
 on (.st 11 (.t 6) (.t 32)),
 o 7 (.mv (kc 13))])
 .ret)
 .skip)))))
 (.seq
 (.seq
 (rg [
 o 33 (.ld (some 11) (.t 3)),
 o 34 (.callp 56 [(.t 33)]),
 o 35 (.fld none 2 (.t 34)),
 o 36 (.mv (.t 1)),
 o 37 (.bin .geq (.t 35) (.t 36))])
 (.cond (.t 37)
 (.seq
 (rg [
 o 39 (.ld (some 11) (.t 3)),
 o 40 (.callp 57 [(.t 39)]),
 o 38 (.mv (.t 40)),
 o 41 (.ext (.t 38) 0),
 o 42 (.ext (.t 38) 1),
 on (.st 11 (.t 3) (.t 41)),
 o 9 (.mv (.t 42))])
 (.seq
 (rg [
 o 43 (.mv (.t 9)),
 o 44 (.bin .neq (.t 43) (kc 0))])
 (.cond (.t 44)
 (.seq
 (rg [
 o 45 (.ld (some 11) (.t 3)),
 o 46 (.mv (.t 9)),
 on (.st 11 (.t 6) (.t 45)),
 o 7 (.mv (.t 46))])
 .ret)
 .skip)))
 .skip))
 (.seq
 (rg [
 o 48 (.fa 0 (.t 3)),
 o 49 (.ld (some 5) (.t 48)),
 o 50 (.ld (some 11) (.t 3)),
 o 51 (.callp 56 [(.t 50)]),
 o 52 (.fld none 0 (.t 51)),
 o 53 (.callp 32 [(.t 52)]),
 o 54 (.mv (.t 8)),
 o 55 (.callp 58 [(.t 49), (.t 53), (.t 54)]),
 o 47 (.mv (.t 55)),
 o 56 (.ext (.t 47) 0),
 o 57 (.ext (.t 47) 1),
 o 58 (.fa 0 (.t 3)),
 on (.st 5 (.t 58) (.t 56)),
 o 9 (.mv (.t 57))])
 (.seq
 (.seq
 (rg [
 o 59 (.mv (.t 9)),
 o 60 (.bin .neq (.t 59) (kc 0))])
 (.cond (.t 60)
 (.seq
 (rg [
 o 61 (.ld (some 11) (.t 3)),
 o 62 (.mv (.t 9)),
 on (.st 11 (.t 6) (.t 61)),
 o 7 (.mv (.t 62))])
 .ret)
 .skip))
 (.seq
 (rg [
 o 63 (.ld (some 11) (.t 3)),
 o 64 (.callp 56 [(.t 63)]),
 o 10 (.alloc [.d (.i .i64 0), .d (.i .i64 0), .d (.i .i64 0)]),
 on (.st 3 (.t 10) (.t 64))])
 (.seq
 (rg [
 o 65 (.fa 1 (.t 10)),
 o 66 (.ld none (.t 65)),
 o 67 (.bin .add (.t 66) (kc 1)),
 o 68 (.fa 1 (.t 10)),
 on (.st 1 (.t 68) (.t 67))])
 (.seq
 (rg [
 o 69 (.fa 2 (.t 10)),
 o 70 (.ld none (.t 69)),
 o 71 (.mv (.t 8)),
 o 72 (.len true (.t 71)),
 o 73 (.bin .add (.t 70) (.t 72)),
 o 74 (.fa 2 (.t 10)),
 on (.st 1 (.t 74) (.t 73))])
 (.seq
 (rg [
 o 75 (.fa 6 (.t 3)),
 o 76 (.ld none (.t 75)),
 o 77 (.len false (.t 76)),
 o 78 (.bin .sub (.t 77) (kc 1)),
 o 11 (.mv (.t 78))])
 (.seq
 (rd [
 o 79 (.fa 6 (.t 3)),
 od 80 [0] (.ld none (.t 79)),
 o 81 (.mv (.t 11)),
 o 82 (.mv (.t 11)),
 od 83 [3, 2, 0, 1] (.slc 3 (.t 80) none (some (.t 81)) (some (.t 82))),
 o 84 (.ld (some 3) (.t 10)),
 od 85 [5] (.bsl 3 [[.i .i64 0, .i .i64 0, .i .i64 0]] [(0, (.t 84))]),
 od 86 [5, 6, 1, 0, 2, 3, 4] (.app false 3 24 (.t 83) (.t 85)),
 od 87 [7, 6, 5, 4, 3, 2, 1, 0] (.fa 6 (.t 3)),
 ⟨none, .st 1 (.t 87) (.t 86), none, [0, 1, 2, 3, 4, 5, 6, 7, 8], false⟩])
 (.seq
 (rg [
 o 88 (.fa 7 (.t 3)),
 o 89 (.ld none (.t 88)),
 o 90 (.bin .add (.t 89) (kc 1)),
 o 91 (.fa 7 (.t 3)),
 on (.st 1 (.t 91) (.t 90))])
 (.seq
 (rg [
 o 92 (.ld (some 11) (.t 3)),
 on (.st 11 (.t 6) (.t 92)),
 o 7 (.mv (kc 0))])
 .ret))))))))))))),
 [.c (some 11) 6, .t 7], false⟩
def a30 : AF := ⟨23,
 (.seq
 (rg [
 o 1 (.box (.t 0)),
 o 2 (.alloc [.ns, .d (.i .i64 0), .d (.b false), .d (.i .i64 0), .d (.b false), .d (.i .i64 0), .ns, .d (.i .i64 0), .d (.i .i64 0), .d (.i .i64 0), .d (.i .u32 0)]),
 o 3 (.mv (kc 0))])
 (.seq
 (rg [
 o 4 (.mv (kc 0))])
 (.seq
 (rg [
 o 6 (.fa 0 (.t 1)),
 o 7 (.ld (some 5) (.t 6)),
 o 8 (.ld (some 11) (.t 1)),
 o 9 (.callp 56 [(.t 8)]),
 o 10 (.fld none 0 (.t 9)),
 o 11 (.callp 32 [(.t 10)]),
 o 12 (.callp 59 [(.t 7), (.t 11)]),
 o 5 (.mv (.t 12)),
 o 13 (.ext (.t 5) 0),
 o 14 (.ext (.t 5) 1),
 o 15 (.fa 0 (.t 1)),
 on (.st 5 (.t 15) (.t 13)),
 o 4 (.mv (.t 14))])
 (.seq
 (.seq
 (rg [
 o 16 (.mv (.t 4)),
 o 17 (.bin .eql (.t 16) (kc 0))])
 (.cond (.t 17)
 (rg [
 o 18 (.fa 7 (.t 1)),
 o 19 (.ld none (.t 18)),
 o 20 (.fa 8 (.t 1)),
 on (.st 1 (.t 20) (.t 19))])
 .skip))
 (.seq
 (rg [
 o 21 (.ld (some 11) (.t 1)),
 o 22 (.mv (.t 4)),
 on (.st 11 (.t 2) (.t 21)),
 o 3 (.mv (.t 22))])
 .ret))))),
 [.c (some 11) 2, .t 3], false⟩
def a31 : AF := ⟨7,
 (.seq
 (rg [
 o 3 (.box (.t 1))])
 (rg [
 o 4 (.mv (.t 0)),
 o 5 (.mkf 61 [(.t 3)]),
 o 6 (.call 60 [(.t 4), (.t 5)])])),
 [], false⟩
def a32 : AF := ⟨5,
 (.seq
 (rg [
 o 2 (.mv (ks []))])
 (.seq
 (rg [
 o 3 (.mv (.t 0)),
 o 4 (.callp 63 [(kx (.d (.i .u8 115))), (.t 3)]),
 o 2 (.mv (.t 4))])
 .ret)),
 [.t 2], false⟩
def a33 : AF := ⟨50,
 (.seq
 (rg [
 o 3 (.box (.t 1))])
 (.seq
 (rg [
 o 9 (.ld (some 4) (.t 3)),
 o 10 (.callp 64 [(.t 9)]),
 o 8 (.mv (.t 10)),
 o 11 (.ext (.t 8) 0),
 o 12 (.ext (.t 8) 1),
 o 4 (.alloc [.d (.s [])]),
 on (.st 1 (.t 4) (.t 11)),
 o 5 (.mv (.t 12))])
 (.seq
 (.seq
 (rg [
 o 13 (.mv (.t 0)),
 o 14 (.nck (.t 13)),
 o 15 (.fa 5 (.t 14)),
 o 16 (.ld none (.t 15)),
 o 17 (.bin .eql (.t 16) (kc 0))])
 (.cond (.t 17)
 (rg [
 o 18 (.mv (.t 0)),
 o 19 (.mv (.t 5)),
 o 20 (.nck (.t 18)),
 o 21 (.fa 5 (.t 20)),
 on (.st 1 (.t 21) (.t 19))])
 .skip))
 (.seq
 (.seq
 (rg [
 o 23 (.mv (.t 0)),
 o 24 (.nck (.t 23)),
 o 25 (.fa 0 (.t 24)),
 o 26 (.ld (some 5) (.t 25)),
 o 27 (.callp 41 [(.t 26), (ks [110])]),
 o 22 (.mv (.t 27)),
 o 28 (.ext (.t 22) 0),
 o 29 (.ext (.t 22) 1),
 o 6 (.mv (.t 28)),
 o 7 (.mv (.t 29))])
 (.seq
 (rg [
 o 30 (.mv (.t 7)),
 o 31 (.bin .eql (.t 30) (kc 0))])
 (.cond (.t 31)
 (rg [
 o 32 (.mv (.t 0)),
 o 33 (.call 65 [(.t 32), (ks [110])])])
 .skip)))
 (.seq
 (rg [
 o 34 (.mv (.t 0)),
 o 35 (.call 31 [(.t 34), (ks [110])])])
 (.seq
 (.seq
 (rg [
 o 36 (.mv (.t 0)),
 o 37 (.nck (.t 36)),
 o 38 (.fa 5 (.t 37)),
 o 39 (.ld none (.t 38)),
 o 40 (.bin .neq (.t 39) (kc 0))])
 (.cond (.t 40)
 .ret
 .skip))
 (.seq
 (rg [
 o 41 (.mv (.t 0)),
 o 42 (.mkf 66 [(.t 4)]),
 o 43 (.call 60 [(.t 41), (.t 42)])])
 (.seq
 (rg [
 o 44 (.mv (.t 0)),
 o 45 (.call 67 [(.t 44), (ks [110])])])
 (.seq
 (rg [
 o 46 (.mv (.t 0)),
 o 47 (.call 68 [(.t 46), (ks [110])])])
 (rg [
 o 48 (.mv (.t 0)),
 o 49 (.call 60 [(.t 48), (kx (.f 69 []))])])))))))))),
 [], false⟩
def a34 : AF := ⟨30,
 (.seq
 (rg [
 o 2 (.box (.t 0)),
 o 4 (.alloc [.ns, .d (.i .i64 0), .d (.b false), .d (.i .i64 0), .d (.b false)]),
 o 5 (.mv (kc 0))])
 (.seq
 (.seq
 (rg [
 o 6 (.mv (.t 1)),
 o 7 (.callp 48 [(.t 6)]),
 o 8 (.un .not (.t 7))])
 (.cond (.t 8)
 (.seq
 (rg [
 o 9 (.ld (some 5) (.t 2)),
 o 10 (.callp 71 [(.t 9), (kx (.ns)), (kc 1)]),
 o 11 (.ext (.t 10) 0),
 o 12 (.ext (.t 10) 1),
 on (.st 5 (.t 4) (.t 11)),
 o 5 (.mv (.t 12))])
 .ret)
 .skip))
 (.seq
 (.seq
 (rg [
 o 13 (.ld (some 5) (.t 2)),
 o 14 (.mv (.t 1)),
 o 15 (.callp 50 [(.t 13), (.t 14)]),
 o 16 (.bin .geq (.t 15) (kc 0))])
 (.cond (.t 16)
 (.seq
 (rg [
 o 17 (.ld (some 5) (.t 2)),
 o 18 (.callp 71 [(.t 17), (kx (.ns)), (kc 8)]),
 o 19 (.ext (.t 18) 0),
 o 20 (.ext (.t 18) 1),
 on (.st 5 (.t 4) (.t 19)),
 o 5 (.mv (.t 20))])
 .ret)
 .skip))
 (.seq
 (rg [
 o 21 (.ld (some 5) (.t 2)),
 o 22 (.fa 0 (.t 2)),
 o 23 (.ld none (.t 22)),
 o 24 (.mv (.t 1)),
 o 25 (.build [.d (.s []), .d (.s []), .d (.i .i64 0)] [(0, 1, (.t 24))]),
 o 26 (.callp 72 [(.t 23), (.t 25)]),
 o 27 (.callp 71 [(.t 21), (.t 26), (kc 0)]),
 o 28 (.ext (.t 27) 0),
 o 29 (.ext (.t 27) 1),
 on (.st 5 (.t 4) (.t 28)),
 o 5 (.mv (.t 29))])
 .ret)))),
 [.c (some 5) 4, .t 5], false⟩
def a35 : AF := ⟨12,
 (.seq
 (rg [
 o 2 (.mv (ks []))])
 (.seq
 (.seq
 (rg [
 o 3 (.mv (.t 0)),
 o 4 (.bin .lss (.t 3) (kc 0)),
 o 5 (.mv (.t 4)),
 og 6 5 false (.mv (.t 0)),
 og 7 5 false (.bin .gtr (.t 6) (kc 1099511627776)),
 o 8 (.pick (.t 5) (kb true) (.t 7))])
 (.cond (.t 8)
 (.seq
 (rg [
 o 2 (.mv (ks []))])
 .ret)
 .skip))
 (.seq
 (rg [
 o 9 (.mv (.t 0)),
 o 10 (.callp 73 [(.t 9)]),
 o 11 (.bin .add (ks [115]) (.t 10)),
 o 2 (.mv (.t 11))])
 .ret))),
 [.t 2], false⟩
def a36 : AF := ⟨12,
 (.seq
 (rg [
 o 2 (.box (.t 0)),
 o 4 (.alloc [.ns, .d (.i .i64 0), .d (.b false), .d (.i .i64 0), .d (.b false)])])
 (.seq
 (rg [
 o 5 (.mv (.t 1)),
 o 6 (.bin .geq (.t 5) (kc 0)),
 o 7 (.mv (.t 1)),
 o 8 (.mm true (.t 7) (kc 0)),
 o 9 (.fa 2 (.t 2)),
 on (.st 1 (.t 9) (.t 6)),
 o 10 (.fa 3 (.t 2)),
 on (.st 1 (.t 10) (.t 8))])
 (.seq
 (rg [
 o 11 (.ld (some 5) (.t 2)),
 on (.st 5 (.t 4) (.t 11))])
 .ret))),
 [.c (some 5) 4], false⟩
def a37 : AF := ⟨9,
 (.seq
 (rg [
 o 2 (.box (.t 0)),
 o 4 (.alloc [.ns, .d (.i .i64 0), .d (.b false), .d (.i .i64 0), .d (.b false)])])
 (.seq
 (rg [
 o 5 (.mv (.t 1)),
 o 6 (.mm true (.t 5) (kc 0)),
 o 7 (.fa 1 (.t 2)),
 on (.st 1 (.t 7) (.t 6))])
 (.seq
 (rg [
 o 8 (.ld (some 5) (.t 2)),
 on (.st 5 (.t 4) (.t 8))])
 .ret))),
 [.c (some 5) 4], false⟩
def a38 : AF := ⟨23,
 (.seq
 (rg [
 o 1 (.box (.t 0)),
 o 2 (.alloc [.ns, .d (.i .i64 0), .d (.b false), .d (.i .i64 0), .d (.b false), .d (.i .i64 0), .ns, .d (.i .i64 0), .d (.i .i64 0), .d (.i .i64 0), .d (.i .u32 0)]),
 o 3 (.mv (kc 0))])
 (.seq
 (rd [
 o 7 (.fa 0 (.t 1)),
 od 8 [0] (.ld (some 5) (.t 7)),
 o 9 (.ld (some 11) (.t 1)),
 od 10 [2] (.callp 74 [(.t 9)]),
 od 11 [2, 3, 0, 1] (.callp 53 [(.t 8), (.t 10)]),
 od 6 [1, 0, 3, 2, 4] (.mv (.t 11)),
 od 12 [4, 2, 3, 0, 1, 5] (.ext (.t 6) 0),
 od 13 [4, 2, 3, 0, 1, 5] (.ext (.t 6) 1),
 o 4 (.alloc [.ns, .d (.i .i64 0), .d (.b false), .d (.i .i64 0), .d (.b false)]),
 ⟨none, .st 5 (.t 4) (.t 12), none, [5, 1, 0, 3, 2, 4, 6, 8], false⟩,
 od 5 [8, 6, 9, 5, 1, 0, 3, 2, 4, 7] (.mv (.t 13))])
 (.seq
 (rg [
 o 14 (.ld (some 5) (.t 4)),
 o 15 (.fa 0 (.t 1)),
 on (.st 5 (.t 15) (.t 14))])
 (.seq
 (.seq
 (rg [
 o 16 (.mv (.t 5)),
 o 17 (.bin .eql (.t 16) (kc 0))])
 (.cond (.t 17)
 (rg [
 o 18 (.fa 7 (.t 1)),
 o 19 (.ld none (.t 18)),
 o 20 (.fa 8 (.t 1)),
 on (.st 1 (.t 20) (.t 19))])
 .skip))
 (.seq
 (rg [
 o 21 (.ld (some 11) (.t 1)),
 o 22 (.mv (.t 5)),
 on (.st 11 (.t 2) (.t 21)),
 o 3 (.mv (.t 22))])
 .ret))))),
 [.c (some 11) 2, .t 3], false⟩
def a39 : AF := ⟨108,
 (.seq
 (rg [
 o 3 (.box (.t 0)),
 o 5 (.box (.t 2)),
 o 6 (.alloc [.ns, .d (.i .i64 0), .d (.b false), .d (.i .i64 0), .d (.b false), .d (.i .i64 0), .ns, .d (.i .i64 0), .d (.i .i64 0), .d (.i .i64 0), .d (.i .u32 0)]),
 o 7 (.mv (kc 0))])
 (.seq
 (.seq
 (rg [
 o 15 (.ld (some 3) (.t 5)),
 o 16 (.callp 75 [(.t 15)]),
 o 17 (.un .not (.t 16)),
 o 18 (.mv (.t 17)),
 og 19 18 false (.fa 0 (.t 5)),
 og 20 18 false (.ld none (.t 19)),
 og 21 18 false (.fa 7 (.t 3)),
 og 22 18 false (.ld none (.t 21)),
 og 23 18 false (.bin .neq (.t 20) (.t 22)),
 o 24 (.pick (.t 18) (kb true) (.t 23))])
 (.cond (.t 24)
 (.seq
 (rg [
 o 25 (.ld (some 11) (.t 3)),
 on (.st 11 (.t 6) (.t 25)),
 o 7 (.mv (kc 1))])
 .ret)
 .skip))
 (.seq
 (.seq
 (rg [
 o 26 (.fa 7 (.t 3)),
 o 27 (.ld none (.t 26)),
 o 28 (.bin .geq (.t 27) (kc 1099511627776))])
 (.cond (.t 28)
 (.seq
 (rg [
 o 29 (.ld (some 11) (.t 3)),
 on (.st 11 (.t 6) (.t 29)),
 o 7 (.mv (kc 13))])
 .ret)
 .skip))
 (.seq
 (.seq
 (rg [
 o 30 (.fa 6 (.t 3)),
 o 31 (.ld none (.t 30)),
 o 32 (.fa 6 (.t 3)),
 o 33 (.ld none (.t 32)),
 o 34 (.len false (.t 33)),
 o 35 (.bin .sub (.t 34) (kc 1)),
 o 36 (.ia 3 (.t 31) (.t 35)),
 o 37 (.fa 2 (.t 36)),
 o 38 (.ld none (.t 37)),
 o 39 (.mv (.t 1)),
 o 40 (.bin .geq (.t 38) (.t 39))])
 (.cond (.t 40)
 (.seq
 (rg [
 o 42 (.ld (some 11) (.t 3)),
 o 43 (.callp 76 [(.t 42)]),
 o 41 (.mv (.t 43)),
 o 44 (.ext (.t 41) 0),
 o 45 (.ext (.t 41) 1),
 o 8 (.alloc [.ns, .d (.i .i64 0), .d (.b false), .d (.i .i64 0), .d (.b false), .d (.i .i64 0), .ns, .d (.i .i64 0), .d (.i .i64 0), .d (.i .i64 0), .d (.i .u32 0)]),
 on (.st 11 (.t 8) (.t 44)),
 o 9 (.mv (.t 45))])
 (.seq
 (.seq
 (rg [
 o 46 (.mv (.t 9)),
 o 47 (.bin .neq (.t 46) (kc 0))])
 (.cond (.t 47)
 (.seq
 (rg [
 o 48 (.ld (some 11) (.t 8)),
 o 49 (.mv (.t 9)),
 on (.st 11 (.t 6) (.t 48)),
 o 7 (.mv (.t 49))])
 .ret)
 .skip))
 (rg [
 o 50 (.ld (some 11) (.t 8)),
 on (.st 11 (.t 3) (.t 50))])))
 .skip))
 (.seq
 (rg [
 o 52 (.ld (some 3) (.t 5)),
 o 53 (.callp 77 [(.t 52)]),
 o 51 (.mv (.t 53)),
 o 54 (.ext (.t 51) 0),
 o 55 (.ext (.t 51) 1),
 o 10 (.mv (.t 54)),
 o 11 (.mv (.t 55))])
 (.seq
 (rd [
 o 57 (.fa 0 (.t 3)),
 od 58 [0] (.ld (some 5) (.t 57)),
 o 59 (.ld (some 11) (.t 3)),
 od 60 [2] (.callp 74 [(.t 59)]),
 o 61 (.mv (.t 10)),
 od 62 [4, 2, 3, 0, 1] (.callp 52 [(.t 58), (.t 60), (.t 61)]),
 od 56 [1, 0, 3, 2, 4, 5] (.mv (.t 62)),
 od 63 [5, 4, 2, 3, 0, 1, 6] (.ext (.t 56) 0),
 od 64 [5, 4, 2, 3, 0, 1, 6] (.ext (.t 56) 1),
 o 12 (.alloc [.ns, .d (.i .i64 0), .d (.b false), .d (.i .i64 0), .d (.b false)]),
 ⟨none, .st 5 (.t 12) (.t 63), none, [6, 1, 0, 3, 2, 4, 5, 7, 9], false⟩,
 od 13 [9, 7, 10, 6, 1, 0, 3, 2, 4, 5, 8] (.mv (.t 64))])
 (.seq
 (rg [
 o 65 (.ld (some 5) (.t 12)),
 o 66 (.fa 0 (.t 3)),
 on (.st 5 (.t 66) (.t 65))])
 (.seq
 (.seq
 (rg [
 o 67 (.mv (.t 13)),
 o 68 (.bin .neq (.t 67) (kc 0))])
 (.cond (.t 68)
 (.seq
 (rg [
 o 69 (.ld (some 11) (.t 3)),
 o 70 (.mv (.t 13)),
 on (.st 11 (.t 6) (.t 69)),
 o 7 (.mv (.t 70))])
 .ret)
 .skip))
 (.seq
 (rg [
 o 71 (.bsl 3 [] []),
 o 72 (.fa 6 (.t 3)),
 o 73 (.ld none (.t 72)),
 o 74 (.app false 3 24 (.t 71) (.t 73)),
 o 75 (.fa 6 (.t 3)),
 on (.st 1 (.t 75) (.t 74))])
 (.seq
 (rg [
 o 76 (.fa 6 (.t 3)),
 o 77 (.ld none (.t 76)),
 o 78 (.len false (.t 77)),
 o 79 (.bin .sub (.t 78) (kc 1)),
 o 14 (.mv (.t 79))])
 (.seq
 (rg [
 o 80 (.fa 6 (.t 3)),
 o 81 (.ld none (.t 80)),
 o 82 (.mv (.t 14)),
 o 83 (.ia 3 (.t 81) (.t 82)),
 o 84 (.fa 1 (.t 83)),
 o 85 (.ld none (.t 84)),
 o 86 (.bin .add (.t 85) (kc 1)),
 o 87 (.ia 3 (.t 81) (.t 82)),
 o 88 (.fa 1 (.t 87)),
 on (.st 1 (.t 88) (.t 86))])
 (.seq
 (rg [
 o 89 (.fa 6 (.t 3)),
 o 90 (.ld none (.t 89)),
 o 91 (.mv (.t 14)),
 o 92 (.fa 6 (.t 3)),
 o 93 (.ld none (.t 92)),
 o 94 (.mv (.t 14)),
 o 95 (.ia 3 (.t 93) (.t 94)),
 o 96 (.fa 2 (.t 95)),
 o 97 (.ld none (.t 96)),
 o 98 (.mv (.t 10)),
 o 99 (.len true (.t 98)),
 o 100 (.bin .add (.t 97) (.t 99)),
 o 101 (.ia 3 (.t 90) (.t 91)),
 o 102 (.fa 2 (.t 101)),
 on (.st 1 (.t 102) (.t 100))])
 (.seq
 (rg [
 o 103 (.fa 7 (.t 3)),
 o 104 (.ld none (.t 103)),
 o 105 (.bin .add (.t 104) (kc 1)),
 o 106 (.fa 7 (.t 3)),
 on (.st 1 (.t 106) (.t 105))])
 (.seq
 (rg [
 o 107 (.ld (some 11) (.t 3)),
 on (.st 11 (.t 6) (.t 107)),
 o 7 (.mv (kc 0))])
 .ret)))))))))))))),
 [.c (some 11) 6, .t 7], false⟩
def a40_0 : AC :=
 (.seq
 (.seq
 (rg [
 o 10 (.mv (.t 5)),
 o 11 (.bin .gtr (.t 10) (kc 0)),
 o 12 (.mv (.t 11)),
 og 13 12 true (.fa 6 (.t 2)),
 og 14 12 true (.ld none (.t 13)),
 og 15 12 true (.mv (.t 5)),
 og 16 12 true (.ia 3 (.t 14) (.t 15)),
 og 17 12 true (.fa 0 (.t 16)),
 og 18 12 true (.ld none (.t 17)),
 og 19 12 true (.mv (.t 1)),
 og 20 12 true (.bin .gtr (.t 18) (.t 19)),
 o 21 (.pick (.t 12) (.t 20) (kb false))])
 (.cond (.t 21)
 .skip
 (.exit 0)))
 (.block 1
 (rg [
 o 22 (.mv (.t 5)),
 o 23 (.bin .sub (.t 22) (kc 1)),
 o 5 (.mv (.t 23))])))
def a40 : AF := ⟨29,
 (.seq
 (rg [
 o 2 (.box (.t 0)),
 o 4 (.alloc [.d (.i .i64 0), .d (.i .i64 0), .d (.i .i64 0)])])
 (.seq
 (rg [
 o 6 (.fa 6 (.t 2)),
 o 7 (.ld none (.t 6)),
 o 8 (.len false (.t 7)),
 o 9 (.bin .sub (.t 8) (kc 1)),
 o 5 (.mv (.t 9))])
 (.seq
 (.block 0
 (.loop [1, 2, 4, 5] a40_0))
 (.seq
 (rg [
 o 24 (.fa 6 (.t 2)),
 o 25 (.ld none (.t 24)),
 o 26 (.mv (.t 5)),
 o 27 (.ia 3 (.t 25) (.t 26)),
 o 28 (.ld (some 3) (.t 27)),
 on (.st 3 (.t 4) (.t 28))])
 .ret)))),
 [.c (some 3) 4], false⟩
def a41 : AF := ⟨22,
 (.seq
 (rg [
 o 2 (.box (.t 0)),
 o 4 (.mv (ks [])),
 o 5 (.mv (kc 0))])
 (.seq
 (.seq
 (rg [
 o 9 (.fa 0 (.t 2)),
 o 10 (.ld none (.t 9)),
 o 11 (.mv (.t 1)),
 o 12 (.callp 78 [(.t 10), (.t 11)]),
 o 8 (.mv (.t 12)),
 o 13 (.ext (.t 8) 0),
 o 14 (.ext (.t 8) 1),
 o 6 (.mv (.t 13)),
 o 7 (.mv (.t 14))])
 (.seq
 (rg [
 o 15 (.mv (.t 7))])
 (.cond (.t 15)
 (.seq
 (rg [
 o 16 (.fa 0 (.t 2)),
 o 17 (.ld none (.t 16)),
 o 18 (.mv (.t 6)),
 o 19 (.ia 3 (.t 17) (.t 18)),
 o 20 (.fa 1 (.t 19)),
 o 21 (.ld none (.t 20)),
 o 4 (.mv (.t 21)),
 o 5 (.mv (kc 0))])
 .ret)
 .skip)))
 (.seq
 (rg [
 o 4 (.mv (ks [])),
 o 5 (.mv (kc 7))])
 .ret))),
 [.t 4, .t 5], false⟩
def a42 : AF := ⟨41,
 (.seq
 (rg [
 o 7 (.box (.t 3)),
 o 8 (.alloc [.d (.i .i64 0), .d (.i .i64 0), .d (.s [])]),
 o 9 (.alloc [.d (.i .i64 0)])])
 (.seq
 (rg [
 o 15 (.mv (.t 2)),
 o 16 (.ld none (.t 7)),
 o 17 (.callp 79 [(.t 15), (.t 16)]),
 o 14 (.mv (.t 17)),
 o 18 (.ext (.t 14) 0),
 o 19 (.ext (.t 14) 1),
 o 10 (.alloc [.d (.i .i64 0), .d (.i .i64 0)]),
 on (.st 2 (.t 10) (.t 18)),
 o 11 (.mv (.t 19))])
 (.seq
 (.seq
 (rg [
 o 20 (.mv (.t 11)),
 o 21 (.un .not (.t 20))])
 (.cond (.t 21)
 (.seq
 (rg [
 o 22 (.build [.d (.i .i64 0), .d (.i .i64 0), .d (.s [])] []),
 on (.st 3 (.t 8) (.t 22)),
 on (.st 1 (.t 9) (kc 6))])
 .ret)
 .skip))
 (.seq
 (rg [
 o 23 (.mv (.t 0)),
 o 24 (.fa 1 (.t 10)),
 o 25 (.ld none (.t 24)),
 o 26 (.fa 0 (.t 10)),
 o 27 (.ld none (.t 26)),
 o 28 (.build [.d (.s []), .d (.i .i64 0), .d (.i .i64 0), .d (.i .i64 0)] [(0, 1, (.t 23)), (1, 1, (.t 25)), (2, 1, (.t 27))]),
 o 29 (.box (.t 28)),
 o 12 (.mv (.t 29))])
 (.seq
 (.seq
 (rg [
 o 30 (.mv (.t 12)),
 o 31 (.call 80 [(.t 30)])])
 (.block 0
 (.rng (.t 31) [32]
 (rg [
 o 13 (.alloc [.d (.i .i64 0), .d (.i .i64 0), .d (.s []), .d (.i .i64 0), .d (.i .i64 0)]),
 on (.st 5 (.t 13) (.t 32))])
 (.block 1
 (.seq
 (rg [
 o 33 (.fa 0 (.t 13)),
 o 34 (.fa 0 (.t 33)),
 o 35 (.ld none (.t 34)),
 o 36 (.ld none (.t 7)),
 o 37 (.bin .eql (.t 35) (.t 36))])
 (.cond (.t 37)
 (.seq
 (rg [
 o 38 (.fa 0 (.t 13)),
 o 39 (.ld (some 3) (.t 38)),
 on (.st 3 (.t 8) (.t 39)),
 on (.st 1 (.t 9) (kc 0))])
 .ret)
 .skip))))))
 (.seq
 (rg [
 o 40 (.build [.d (.i .i64 0), .d (.i .i64 0), .d (.s [])] []),
 on (.st 3 (.t 8) (.t 40)),
 on (.st 1 (.t 9) (kc 6))])
 .ret)))))),
 [.c (some 3) 8, .c none 9], false⟩
def a43 : AF := ⟨31,
 (.seq
 (rg [
 o 4 (.box (.t 1)),
 o 5 (.box (.t 2)),
 oz 6 (.mv (kx (.ns)))])
 (.seq
 (.seq
 (rg [
 o 10 (.ld none (.t 4)),
 o 11 (.callp 81 [(.t 10)]),
 o 12 (.un .not (.t 11))])
 (.cond (.t 12)
 (.seq
 (rg [
 oz 6 (.mv (kx (.ns)))])
 .ret)
 .skip))
 (.seq
 (rg [
 o 13 (.mv (.t 0)),
 o 14 (.ld none (.t 4)),
 o 15 (.build [.d (.s []), .d (.i .i64 0), .d (.i .i64 0), .d (.i .i64 0)] [(0, 1, (.t 13)), (2, 1, (.t 14))]),
 o 16 (.box (.t 15)),
 o 7 (.mv (.t 16))])
 (.seq
 (rg [
 o 8 (.alloc [.ns])])
 (.seq
 (.seq
 (rg [
 o 17 (.mv (.t 7)),
 o 18 (.call 80 [(.t 17)])])
 (.block 0
 (.rng (.t 18) [19]
 (rg [
 o 9 (.alloc [.d (.i .i64 0), .d (.i .i64 0), .d (.s []), .d (.i .i64 0), .d (.i .i64 0)]),
 on (.st 5 (.t 9) (.t 19))])
 (.block 1
 (rg [
 o 20 (.ld none (.t 8)),
 o 21 (.ld none (.t 4)),
 o 22 (.ld none (.t 5)),
 o 23 (.fa 0 (.t 9)),
 o 24 (.fa 0 (.t 23)),
 o 25 (.ld none (.t 24)),
 o 26 (.fa 3 (.t 9)),
 o 27 (.ld none (.t 26)),
 o 28 (.build [.d (.i .i64 0), .d (.i .i64 0)] [(0, 1, (.t 25)), (1, 1, (.t 27))]),
 o 29 (.callp 82 [(.t 20), (.t 21), (.t 22), (.t 28)]),
 on (.st 1 (.t 8) (.t 29))])))))
 (.seq
 (rg [
 o 30 (.ld none (.t 8)),
 o 6 (.mv (.t 30))])
 .ret)))))),
 [.t 6], false⟩
def a44 : AF := ⟨28,
 (.seq
 (rg [
 o 2 (.box (.t 0)),
 o 3 (.box (.t 1)),
 oz 4 (.mv (kx (.ns)))])
 (.seq
 (rg [
 o 11 (.fa 0 (.t 2)),
 o 12 (.ld (some 5) (.t 11)),
 o 13 (.fa 0 (.t 3)),
 o 14 (.ld none (.t 13)),
 o 15 (.callp 35 [(.t 14)]),
 o 16 (.callp 83 [(.t 12), (.t 15)]),
 o 10 (.mv (.t 16)),
 o 17 (.ext (.t 10) 0),
 o 18 (.ext (.t 10) 1),
 o 5 (.mv (.t 17)),
 o 6 (.mv (.t 18))])
 (.seq
 (rg [
 o 20 (.mv (.t 5)),
 o 21 (.fa 0 (.t 3)),
 o 22 (.ld none (.t 21)),
 o 23 (.callp 84 [(.t 20), (.t 22)]),
 o 19 (.mv (.t 23)),
 o 24 (.ext (.t 19) 0),
 o 25 (.ext (.t 19) 1),
 o 26 (.ext (.t 19) 2),
 o 7 (.mv (.t 24)),
 o 8 (.mv (.t 25)),
 o 9 (.mv (.t 26))])
 (.seq
 (rg [
 o 27 (.mv (.t 7)),
 o 4 (.mv (.t 27))])
 .ret)))),
 [.t 4], false⟩
def a45 : AF := ⟨34,
 (.seq
 (rg [
 oz 4 (.mv (kx (.ns))),
 o 5 (.mv (kc 0)),
 o 6 (.mv (kc 0))])
 (.seq
 (.seq
 (rg [
 o 10 (.mv (.t 1)),
 o 11 (.callp 81 [(.t 10)]),
 o 12 (.un .not (.t 11))])
 (.cond (.t 12)
 (.seq
 (rg [
 oz 4 (.mv (kx (.ns))),
 o 5 (.mv (kc 0)),
 o 6 (.mv (kc 1))])
 .ret)
 .skip))
 (.seq
 (rg [
 o 13 (.mv (.t 0)),
 o 14 (.mv (.t 1)),
 o 15 (.build [.d (.s []), .d (.i .i64 0), .d (.i .i64 0), .d (.i .i64 0)] [(0, 1, (.t 13)), (2, 1, (.t 14))]),
 o 16 (.box (.t 15)),
 o 7 (.mv (.t 16))])
 (.seq
 (rg [
 o 8 (.alloc [.ns])])
 (.seq
 (.seq
 (rg [
 o 17 (.mv (.t 7)),
 o 18 (.call 80 [(.t 17)])])
 (.block 0
 (.rng (.t 18) [19]
 (rg [
 o 9 (.alloc [.d (.i .i64 0), .d (.i .i64 0), .d (.s []), .d (.i .i64 0), .d (.i .i64 0)]),
 on (.st 5 (.t 9) (.t 19))])
 (.block 1
 (rg [
 o 20 (.ld none (.t 8)),
 o 21 (.fa 0 (.t 9)),
 o 22 (.ld (some 3) (.t 21)),
 o 23 (.bsl 3 [[.i .i64 0, .i .i64 0, .s []]] [(0, (.t 22))]),
 o 24 (.app false 3 32 (.t 20) (.t 23)),
 on (.st 1 (.t 8) (.t 24))])))))
 (.seq
 (rg [
 o 25 (.ld none (.t 8)),
 o 26 (.mv (.t 7)),
 o 27 (.nck (.t 26)),
 o 28 (.fa 1 (.t 27)),
 o 29 (.ld none (.t 28)),
 o 30 (.mv (.t 7)),
 o 31 (.nck (.t 30)),
 o 32 (.fa 3 (.t 31)),
 o 33 (.ld none (.t 32)),
 o 4 (.mv (.t 25)),
 o 5 (.mv (.t 29)),
 o 6 (.mv (.t 33))])
 .ret)))))),
 [.t 4, .t 5, .t 6], false⟩
def a46 : AF := ⟨18,
 (.seq
 (rg [
 o 1 (.box (.t 0)),
 o 2 (.mv (kc 0))])
 (.seq
 (.seq
 (rg [
 o 3 (.ld (some 3) (.t 1)),
 o 4 (.callp 85 [(.t 3)]),
 o 5 (.un .not (.t 4))])
 (.cond (.t 5)
 (.seq
 (rg [
 o 2 (.mv (kc 0))])
 .ret)
 .skip))
 (.seq
 (rg [
 o 6 (.fa 0 (.t 1)),
 o 7 (.ld none (.t 6)),
 o 8 (.callp 87 [(.t 7)]),
 o 9 (.fa 1 (.t 1)),
 o 10 (.ld none (.t 9)),
 o 11 (.callp 87 [(.t 10)]),
 o 12 (.bin .add (.t 8) (.t 11)),
 o 13 (.fa 2 (.t 1)),
 o 14 (.ld none (.t 13)),
 o 15 (.len true (.t 14)),
 o 16 (.bin .add (.t 12) (.t 15)),
 o 17 (.callp 86 [(.t 16)]),
 o 2 (.mv (.t 17))])
 .ret))),
 [.t 2], false⟩
def a47 : AF := ⟨12,
 (.seq
 (rg [
 o 1 (.box (.t 0)),
 o 2 (.mv (kc 0))])
 (.seq
 (rg [
 o 6 (.ld (some 3) (.t 1)),
 o 7 (.callp 77 [(.t 6)]),
 o 5 (.mv (.t 7)),
 o 8 (.ext (.t 5) 0),
 o 9 (.ext (.t 5) 1),
 o 3 (.mv (.t 8)),
 o 4 (.mv (.t 9))])
 (.seq
 (rg [
 o 10 (.mv (.t 3)),
 o 11 (.len true (.t 10)),
 o 2 (.mv (.t 11))])
 .ret))),
 [.t 2], false⟩
def a48 : AF := ⟨11,
 (.seq
 (rg [
 o 2 (.mv (kb false))])
 (.seq
 (rg [
 o 3 (.mv (.t 0)),
 o 4 (.len true (.t 3)),
 o 5 (.bin .geq (.t 4) (kc 1)),
 o 6 (.mv (.t 5)),
 og 7 6 true (.mv (.t 0)),
 og 8 6 true (.len true (.t 7)),
 og 9 6 true (.bin .leq (.t 8) (kc 32)),
 o 10 (.pick (.t 6) (.t 9) (kb false)),
 o 2 (.mv (.t 10))])
 .ret)),
 [.t 2], false⟩
def a49_0 : AC :=
 (.seq
 (.seq
 (rg [
 o 17 (.mv (.t 5)),
 o 18 (.fa 1 (.t 1)),
 o 19 (.ld none (.t 18)),
 o 20 (.len false (.t 19)),
 o 21 (.bin .lss (.t 17) (.t 20))])
 (.cond (.t 21)
 .skip
 (.exit 0)))
 (.seq
 (.block 1
 (rg [
 o 24 (.mv (.t 4)),
 o 25 (.fa 1 (.t 1)),
 o 26 (.ld none (.t 25)),
 o 27 (.mv (.t 5)),
 o 28 (.ia 1 (.t 26) (.t 27)),
 o 29 (.ld none (.t 28)),
 o 30 (.callp 88 [(.t 29)]),
 o 31 (.bin .add (.t 24) (.t 30)),
 o 4 (.mv (.t 31))]))
 (rg [
 o 22 (.mv (.t 5)),
 o 23 (.bin .add (.t 22) (kc 1)),
 o 5 (.mv (.t 23))])))
def a49 : AF := ⟨44,
 (.seq
 (rg [
 o 1 (.box (.t 0)),
 o 2 (.mv (ks [])),
 o 3 (.mv (kc 0))])
 (.seq
 (.seq
 (rg [
 o 6 (.ld (some 4) (.t 1)),
 o 7 (.callp 25 [(.t 6)]),
 o 8 (.un .not (.t 7))])
 (.cond (.t 8)
 (.seq
 (rg [
 o 2 (.mv (ks [])),
 o 3 (.mv (kc 1))])
 .ret)
 .skip))
 (.seq
 (rg [
 o 9 (.fa 0 (.t 1)),
 o 10 (.ld none (.t 9)),
 o 11 (.callp 88 [(.t 10)]),
 o 12 (.fa 1 (.t 1)),
 o 13 (.ld none (.t 12)),
 o 14 (.len false (.t 13)),
 o 15 (.callp 88 [(.t 14)]),
 o 16 (.bin .add (.t 11) (.t 15)),
 o 4 (.mv (.t 16))])
 (.seq
 (.seq
 (rg [
 o 5 (.mv (kc 0))])
 (.block 0
 (.loop [1, 4, 5] a49_0)))
 (.seq
 (rg [
 o 32 (.mv (.t 4)),
 o 33 (.fa 2 (.t 1)),
 o 34 (.ld none (.t 33)),
 o 35 (.callp 88 [(.t 34)]),
 o 36 (.bin .add (.t 32) (.t 35)),
 o 37 (.fa 3 (.t 1)),
 o 38 (.ld none (.t 37)),
 o 39 (.callp 90 [(.t 38)]),
 o 40 (.bin .add (.t 36) (.t 39)),
 o 41 (.callp 89 [(.t 40)]),
 o 42 (.ext (.t 41) 0),
 o 43 (.ext (.t 41) 1),
 o 2 (.mv (.t 42)),
 o 3 (.mv (.t 43))])
 .ret))))),
 [.t 2, .t 3], false⟩
def a50_0 : AC :=
 (.seq
 (.seq
 (rg [
 o 6 (.mv (.t 5)),
 o 7 (.fa 0 (.t 2)),
 o 8 (.ld none (.t 7)),
 o 9 (.len false (.t 8)),
 o 10 (.bin .lss (.t 6) (.t 9))])
 (.cond (.t 10)
 .skip
 (.exit 0)))
 (.seq
 (.block 1
 (.seq
 (rg [
 o 13 (.fa 0 (.t 2)),
 o 14 (.ld none (.t 13)),
 o 15 (.mv (.t 5)),
 o 16 (.ia 3 (.t 14) (.t 15)),
 o 17 (.fa 0 (.t 16)),
 o 18 (.ld none (.t 17)),
 o 19 (.mv (.t 1)),
 o 20 (.bin .eql (.t 18) (.t 19))])
 (.cond (.t 20)
 (.seq
 (rg [
 o 21 (.mv (.t 5)),
 o 4 (.mv (.t 21))])
 .ret)
 .skip)))
 (rg [
 o 11 (.mv (.t 5)),
 o 12 (.bin .add (.t 11) (kc 1)),
 o 5 (.mv (.t 12))])))
def a50 : AF := ⟨22,
 (.seq
 (rg [
 o 2 (.box (.t 0)),
 o 4 (.mv (kc 0))])
 (.seq
 (.seq
 (rg [
 o 5 (.mv (kc 0))])
 (.block 0
 (.loop [1, 2, 5] a50_0)))
 (.seq
 (rg [
 o 4 (.mv (kc (-1)))])
 .ret))),
 [.t 4], false⟩
def a51 : AF := ⟨22,
 (.seq
 (rg [
 o 2 (.box (.t 0)),
 o 4 (.alloc [.ns, .d (.i .i64 0), .d (.b false), .d (.i .i64 0), .d (.b false)]),
 o 5 (.mv (kc 0))])
 (.seq
 (.seq
 (rg [
 o 6 (.ld (some 5) (.t 2)),
 o 7 (.mv (.t 1)),
 o 8 (.callp 50 [(.t 6), (.t 7)]),
 o 9 (.bin .lss (.t 8) (kc 0))])
 (.cond (.t 9)
 (.seq
 (rg [
 o 10 (.ld (some 5) (.t 2)),
 o 11 (.callp 71 [(.t 10), (kx (.ns)), (kc 7)]),
 o 12 (.ext (.t 11) 0),
 o 13 (.ext (.t 11) 1),
 on (.st 5 (.t 4) (.t 12)),
 o 5 (.mv (.t 13))])
 .ret)
 .skip))
 (.seq
 (rg [
 o 14 (.ld (some 5) (.t 2)),
 o 15 (.fa 0 (.t 2)),
 o 16 (.ld none (.t 15)),
 o 17 (.mv (.t 1)),
 o 18 (.callp 91 [(.t 16), (.t 17)]),
 o 19 (.callp 71 [(.t 14), (.t 18), (kc 0)]),
 o 20 (.ext (.t 19) 0),
 o 21 (.ext (.t 19) 1),
 on (.st 5 (.t 4) (.t 20)),
 o 5 (.mv (.t 21))])
 .ret))),
 [.c (some 5) 4, .t 5], false⟩
def a52 : AF := ⟨54,
 (.seq
 (rg [
 o 3 (.box (.t 0)),
 o 6 (.alloc [.ns, .d (.i .i64 0), .d (.b false), .d (.i .i64 0), .d (.b false)]),
 o 7 (.mv (kc 0))])
 (.seq
 (rg [
 o 10 (.ld (some 5) (.t 3)),
 o 11 (.mv (.t 1)),
 o 12 (.callp 50 [(.t 10), (.t 11)]),
 o 8 (.mv (.t 12))])
 (.seq
 (.seq
 (rg [
 o 13 (.mv (.t 8)),
 o 14 (.bin .lss (.t 13) (kc 0))])
 (.cond (.t 14)
 (.seq
 (rg [
 o 15 (.ld (some 5) (.t 3)),
 o 16 (.callp 71 [(.t 15), (kx (.ns)), (kc 7)]),
 o 17 (.ext (.t 16) 0),
 o 18 (.ext (.t 16) 1),
 on (.st 5 (.t 6) (.t 17)),
 o 7 (.mv (.t 18))])
 .ret)
 .skip))
 (.seq
 (.seq
 (rg [
 o 19 (.fa 1 (.t 3)),
 o 20 (.ld none (.t 19)),
 o 21 (.bin .gtr (.t 20) (kc 0)),
 o 22 (.mv (.t 21)),
 og 23 22 true (.ld (some 5) (.t 3)),
 og 24 22 true (.callp 92 [(.t 23)]),
 og 25 22 true (.mv (.t 2)),
 og 26 22 true (.len true (.t 25)),
 og 27 22 true (.bin .add (.t 24) (.t 26)),
 og 28 22 true (.fa 1 (.t 3)),
 og 29 22 true (.ld none (.t 28)),
 og 30 22 true (.bin .gtr (.t 27) (.t 29)),
 o 31 (.pick (.t 22) (.t 30) (kb false))])
 (.cond (.t 31)
 (.seq
 (rg [
 o 32 (.ld (some 5) (.t 3)),
 o 33 (.callp 71 [(.t 32), (kx (.ns)), (kc 9)]),
 o 34 (.ext (.t 33) 0),
 o 35 (.ext (.t 33) 1),
 on (.st 5 (.t 6) (.t 34)),
 o 7 (.mv (.t 35))])
 .ret)
 .skip))
 (.seq
 (rg [
 o 36 (.fa 0 (.t 3)),
 o 37 (.ld none (.t 36)),
 o 38 (.mv (.t 8)),
 o 39 (.ia 3 (.t 37) (.t 38)),
 o 40 (.ld (some 3) (.t 39)),
 o 9 (.alloc [.d (.s []), .d (.s []), .d (.i .i64 0)]),
 on (.st 3 (.t 9) (.t 40))])
 (.seq
 (rg [
 o 41 (.fa 1 (.t 9)),
 o 42 (.ld none (.t 41)),
 o 43 (.mv (.t 2)),
 o 44 (.bin .add (.t 42) (.t 43)),
 o 45 (.fa 1 (.t 9)),
 on (.st 1 (.t 45) (.t 44))])
 (.seq
 (rg [
 o 46 (.ld (some 5) (.t 3)),
 o 47 (.fa 0 (.t 3)),
 o 48 (.ld none (.t 47)),
 o 49 (.ld (some 3) (.t 9)),
 o 50 (.callp 72 [(.t 48), (.t 49)]),
 o 51 (.callp 71 [(.t 46), (.t 50), (kc 0)]),
 o 52 (.ext (.t 51) 0),
 o 53 (.ext (.t 51) 1),
 on (.st 5 (.t 6) (.t 52)),
 o 7 (.mv (.t 53))])
 .ret))))))),
 [.c (some 5) 6, .t 7], false⟩
def a53 : AF := ⟨34,
 (.seq
 (rg [
 o 2 (.box (.t 0)),
 o 4 (.alloc [.ns, .d (.i .i64 0), .d (.b false), .d (.i .i64 0), .d (.b false)]),
 o 5 (.mv (kc 0))])
 (.seq
 (rg [
 o 8 (.ld (some 5) (.t 2)),
 o 9 (.mv (.t 1)),
 o 10 (.callp 50 [(.t 8), (.t 9)]),
 o 6 (.mv (.t 10))])
 (.seq
 (.seq
 (rg [
 o 11 (.mv (.t 6)),
 o 12 (.bin .lss (.t 11) (kc 0))])
 (.cond (.t 12)
 (.seq
 (rg [
 o 13 (.ld (some 5) (.t 2)),
 o 14 (.callp 71 [(.t 13), (kx (.ns)), (kc 7)]),
 o 15 (.ext (.t 14) 0),
 o 16 (.ext (.t 14) 1),
 on (.st 5 (.t 4) (.t 15)),
 o 5 (.mv (.t 16))])
 .ret)
 .skip))
 (.seq
 (rg [
 o 17 (.fa 0 (.t 2)),
 o 18 (.ld none (.t 17)),
 o 19 (.mv (.t 6)),
 o 20 (.ia 3 (.t 18) (.t 19)),
 o 21 (.ld (some 3) (.t 20)),
 o 7 (.alloc [.d (.s []), .d (.s []), .d (.i .i64 0)]),
 on (.st 3 (.t 7) (.t 21))])
 (.seq
 (rg [
 o 22 (.fa 1 (.t 7)),
 o 23 (.ld none (.t 22)),
 o 24 (.len true (.t 23)),
 o 25 (.fa 2 (.t 7)),
 on (.st 1 (.t 25) (.t 24))])
 (.seq
 (rg [
 o 26 (.ld (some 5) (.t 2)),
 o 27 (.fa 0 (.t 2)),
 o 28 (.ld none (.t 27)),
 o 29 (.ld (some 3) (.t 7)),
 o 30 (.callp 72 [(.t 28), (.t 29)]),
 o 31 (.callp 71 [(.t 26), (.t 30), (kc 0)]),
 o 32 (.ext (.t 31) 0),
 o 33 (.ext (.t 31) 1),
 on (.st 5 (.t 4) (.t 32)),
 o 5 (.mv (.t 33))])
 .ret)))))),
 [.c (some 5) 4, .t 5], false⟩
def a54 : AF := ⟨43,
 (.seq
 (rg [
 o 3 (.box (.t 0)),
 o 6 (.alloc [.ns, .d (.i .i64 0), .d (.b false), .d (.i .i64 0), .d (.b false)]),
 o 7 (.mv (kc 0))])
 (.seq
 (rg [
 o 10 (.ld (some 5) (.t 3)),
 o 11 (.mv (.t 1)),
 o 12 (.callp 50 [(.t 10), (.t 11)]),
 o 8 (.mv (.t 12))])
 (.seq
 (.seq
 (rg [
 o 13 (.mv (.t 8)),
 o 14 (.bin .lss (.t 13) (kc 0))])
 (.cond (.t 14)
 (.seq
 (rg [
 o 15 (.ld (some 5) (.t 3)),
 o 16 (.callp 71 [(.t 15), (kx (.ns)), (kc 7)]),
 o 17 (.ext (.t 16) 0),
 o 18 (.ext (.t 16) 1),
 on (.st 5 (.t 6) (.t 17)),
 o 7 (.mv (.t 18))])
 .ret)
 .skip))
 (.seq
 (.seq
 (rg [
 o 19 (.mv (.t 2)),
 o 20 (.callp 48 [(.t 19)]),
 o 21 (.un .not (.t 20))])
 (.cond (.t 21)
 (.seq
 (rg [
 o 22 (.ld (some 5) (.t 3)),
 o 23 (.callp 71 [(.t 22), (kx (.ns)), (kc 1)]),
 o 24 (.ext (.t 23) 0),
 o 25 (.ext (.t 23) 1),
 on (.st 5 (.t 6) (.t 24)),
 o 7 (.mv (.t 25))])
 .ret)
 .skip))
 (.seq
 (rg [
 o 26 (.fa 0 (.t 3)),
 o 27 (.ld none (.t 26)),
 o 28 (.mv (.t 8)),
 o 29 (.ia 3 (.t 27) (.t 28)),
 o 30 (.ld (some 3) (.t 29)),
 o 9 (.alloc [.d (.s []), .d (.s []), .d (.i .i64 0)]),
 on (.st 3 (.t 9) (.t 30))])
 (.seq
 (rg [
 o 31 (.mv (.t 2)),
 o 32 (.fa 0 (.t 9)),
 on (.st 1 (.t 32) (.t 31))])
 (.seq
 (rg [
 o 33 (.ld (some 5) (.t 3)),
 o 34 (.fa 0 (.t 3)),
 o 35 (.ld none (.t 34)),
 o 36 (.mv (.t 1)),
 o 37 (.callp 91 [(.t 35), (.t 36)]),
 o 38 (.ld (some 3) (.t 9)),
 o 39 (.callp 72 [(.t 37), (.t 38)]),
 o 40 (.callp 71 [(.t 33), (.t 39), (kc 0)]),
 o 41 (.ext (.t 40) 0),
 o 42 (.ext (.t 40) 1),
 on (.st 5 (.t 6) (.t 41)),
 o 7 (.mv (.t 42))])
 .ret))))))),
 [.c (some 5) 6, .t 7], false⟩
def a55 : AF := ⟨23,
 (.seq
 (rg [
 o 1 (.box (.t 0)),
 o 2 (.mv (ks [])),
 o 3 (.mv (kc 0))])
 (.seq
 (.seq
 (rg [
 o 5 (.ld (some 3) (.t 1)),
 o 6 (.callp 93 [(.t 5)]),
 o 4 (.mv (.t 6))])
 (.seq
 (rg [
 o 7 (.mv (.t 4)),
 o 8 (.bin .neq (.t 7) (kc 0))])
 (.cond (.t 8)
 (.seq
 (rg [
 o 9 (.mv (.t 4)),
 o 2 (.mv (ks [])),
 o 3 (.mv (.t 9))])
 .ret)
 .skip)))
 (.seq
 (rg [
 o 10 (.fa 0 (.t 1)),
 o 11 (.ld none (.t 10)),
 o 12 (.callp 95 [(.t 11)]),
 o 13 (.fa 1 (.t 1)),
 o 14 (.ld none (.t 13)),
 o 15 (.callp 95 [(.t 14)]),
 o 16 (.bin .add (.t 12) (.t 15)),
 o 17 (.fa 2 (.t 1)),
 o 18 (.ld none (.t 17)),
 o 19 (.bin .add (.t 16) (.t 18)),
 o 20 (.callp 94 [(.t 19)]),
 o 21 (.ext (.t 20) 0),
 o 22 (.ext (.t 20) 1),
 o 2 (.mv (.t 21)),
 o 3 (.mv (.t 22))])
 .ret))),
 [.t 2, .t 3], false⟩
def a56 : AF := ⟨11,
 (.seq
 (rg [
 o 1 (.box (.t 0)),
 o 2 (.alloc [.d (.i .i64 0), .d (.i .i64 0), .d (.i .i64 0)])])
 (.seq
 (rg [
 o 3 (.fa 6 (.t 1)),
 o 4 (.ld none (.t 3)),
 o 5 (.fa 6 (.t 1)),
 o 6 (.ld none (.t 5)),
 o 7 (.len false (.t 6)),
 o 8 (.bin .sub (.t 7) (kc 1)),
 o 9 (.ia 3 (.t 4) (.t 8)),
 o 10 (.ld (some 3) (.t 9)),
 on (.st 3 (.t 2) (.t 10))])
 .ret)),
 [.c (some 3) 2], false⟩
def a57 : AF := ⟨85,
 (.seq
 (rg [
 o 1 (.box (.t 0)),
 o 2 (.alloc [.ns, .d (.i .i64 0), .d (.b false), .d (.i .i64 0), .d (.b false), .d (.i .i64 0), .ns, .d (.i .i64 0), .d (.i .i64 0), .d (.i .i64 0), .d (.i .u32 0)]),
 o 3 (.mv (kc 0))])
 (.seq
 (.seq
 (rg [
 o 8 (.fa 6 (.t 1)),
 o 9 (.ld none (.t 8)),
 o 10 (.len false (.t 9)),
 o 11 (.bin .geq (.t 10) (kc 64))])
 (.cond (.t 11)
 (.seq
 (rg [
 o 12 (.ld (some 11) (.t 1)),
 on (.st 11 (.t 2) (.t 12)),
 o 3 (.mv (kc 9))])
 .ret)
 .skip))
 (.seq
 (rg [
 o 14 (.ld (some 11) (.t 1)),
 o 15 (.callp 30 [(.t 14)]),
 o 13 (.mv (.t 15)),
 o 16 (.ext (.t 13) 0),
 o 17 (.ext (.t 13) 1),
 on (.st 11 (.t 1) (.t 16)),
 o 4 (.mv (.t 17))])
 (.seq
 (.seq
 (rg [
 o 18 (.mv (.t 4)),
 o 19 (.bin .neq (.t 18) (kc 0))])
 (.cond (.t 19)
 (.seq
 (rg [
 o 20 (.ld (some 11) (.t 1)),
 o 21 (.mv (.t 4)),
 on (.st 11 (.t 2) (.t 20)),
 o 3 (.mv (.t 21))])
 .ret)
 .skip))
 (.seq
 (rg [
 o 22 (.ld (some 11) (.t 1)),
 o 5 (.alloc [.ns, .d (.i .i64 0), .d (.b false), .d (.i .i64 0), .d (.b false), .d (.i .i64 0), .ns, .d (.i .i64 0), .d (.i .i64 0), .d (.i .i64 0), .d (.i .u32 0)]),
 on (.st 11 (.t 5) (.t 22))])
 (.seq
 (rg [
 o 23 (.fa 5 (.t 5)),
 o 24 (.ld none (.t 23)),
 o 25 (.bin .add (.t 24) (kc 1)),
 o 26 (.fa 5 (.t 5)),
 on (.st 1 (.t 26) (.t 25))])
 (.seq
 (rd [
 o 27 (.fa 6 (.t 1)),
 od 28 [0] (.ld none (.t 27)),
 o 29 (.fa 6 (.t 1)),
 od 30 [2] (.ld none (.t 29)),
 od 31 [2, 3] (.len false (.t 30)),
 o 32 (.fa 6 (.t 1)),
 od 33 [5] (.ld none (.t 32)),
 od 34 [5, 6] (.len false (.t 33)),
 od 35 [6, 5, 7, 3, 2, 4, 0, 1] (.slc 3 (.t 28) none (some (.t 31)) (some (.t 34))),
 o 36 (.fa 7 (.t 1)),
 od 37 [9] (.ld none (.t 36)),
 od 38 [9, 10] (.build [.d (.i .i64 0), .d (.i .i64 0), .d (.i .i64 0)] [(0, 1, (.t 37))]),
 od 39 [10, 9, 11] (.bsl 3 [[.i .i64 0, .i .i64 0, .i .i64 0]] [(0, (.t 38))]),
 od 40 [11, 9, 10, 12, 1, 0, 4, 2, 3, 7, 5, 6, 8] (.app false 3 24 (.t 35) (.t 39)),
 od 41 [13, 12, 11, 10, 9, 8, 7, 6, 5, 4, 3, 2, 1, 0] (.fa 6 (.t 5)),
 ⟨none, .st 1 (.t 41) (.t 40), none, [0, 1, 2, 3, 4, 5, 6, 7, 8, 9, 10, 11, 12, 13, 14], false⟩])
 (.seq
 (rg [
 o 42 (.fa 7 (.t 1)),
 o 43 (.ld none (.t 42)),
 o 44 (.callp 32 [(.t 43)]),
 o 6 (.mv (.t 44))])
 (.seq
 (rg [
 o 45 (.fa 0 (.t 1)),
 o 46 (.ld (some 5) (.t 45)),
 o 47 (.build [.ns, .d (.i .i64 0), .d (.b false), .d (.i .i64 0), .d (.b false), .d (.i .i64 0)] [(0, 5, (.t 46))]),
 o 48 (.box (.t 47)),
 o 7 (.mv (.t 48))])
 (.seq
 (rg [
 o 49 (.mv (.t 7)),
 o 50 (.mv (.t 6)),
 o 51 (.call 31 [(.t 49), (.t 50)])])
 (.seq
 (.seq
 (rg [
 o 52 (.mv (.t 7)),
 o 53 (.nck (.t 52)),
 o 54 (.fa 5 (.t 53)),
 o 55 (.ld none (.t 54)),
 o 56 (.bin .eql (.t 55) (kc 0))])
 (.cond (.t 56)
 (.seq
 (rg [
 o 57 (.mv (.t 7)),
 o 58 (.ld (some 11) (.t 5)),
 o 59 (.callp 16 [(.t 58)]),
 o 60 (.call 33 [(.t 57), (.t 59)])])
 (rg [
 o 61 (.mv (.t 7)),
 o 62 (.mv (.t 6)),
 o 63 (.call 67 [(.t 61), (.t 62)])]))
 .skip))
 (.seq
 (.seq
 (rg [
 o 64 (.mv (.t 7)),
 o 65 (.nck (.t 64)),
 o 66 (.fa 5 (.t 65)),
 o 67 (.ld none (.t 66)),
 o 68 (.bin .neq (.t 67) (kc 0))])
 (.cond (.t 68)
 (.seq
 (rg [
 o 69 (.mv (.t 7)),
 o 70 (.nck (.t 69)),
 o 71 (.fa 0 (.t 70)),
 o 72 (.ld (some 5) (.t 71)),
 o 73 (.fa 0 (.t 1)),
 on (.st 5 (.t 73) (.t 72))])
 (.seq
 (rd [
 o 74 (.ld (some 11) (.t 1)),
 o 75 (.mv (.t 7)),
 od 76 [1] (.nck (.t 75)),
 od 77 [1, 2] (.fa 5 (.t 76)),
 od 78 [2, 1, 3] (.ld none (.t 77)),
 ⟨none, .st 11 (.t 2) (.t 74), none, [0], false⟩,
 od 3 [0, 5, 3, 1, 2, 4] (.mv (.t 78))])
 .ret))
 .skip))
 (.seq
 (rg [
 o 79 (.mv (.t 7)),
 o 80 (.nck (.t 79)),
 o 81 (.fa 0 (.t 80)),
 o 82 (.ld (some 5) (.t 81)),
 o 83 (.fa 0 (.t 5)),
 on (.st 5 (.t 83) (.t 82))])
 (.seq
 (rg [
 o 84 (.ld (some 11) (.t 5)),
 on (.st 11 (.t 2) (.t 84)),
 o 3 (.mv (kc 0))])
 .ret)))))))))))))),
 [.c (some 11) 2, .t 3], false⟩
def a58 : AF := ⟨14,
 (.seq
 (rg [
 o 3 (.box (.t 0)),
 o 5 (.box (.t 2)),
 o 6 (.alloc [.ns, .d (.i .i64 0), .d (.b false), .d (.i .i64 0), .d (.b false)]),
 o 7 (.mv (kc 0))])
 (.seq
 (rg [
 o 8 (.ld (some 5) (.t 3)),
 o 9 (.mv (.t 1)),
 o 10 (.mkf 97 [(.t 3), (.t 5)]),
 o 11 (.call 96 [(.t 8), (.t 9), (.t 10)]),
 o 12 (.ext (.t 11) 0),
 o 13 (.ext (.t 11) 1),
 on (.st 5 (.t 6) (.t 12)),
 o 7 (.mv (.t 13))])
 .ret)),
 [.c (some 5) 6, .t 7], false⟩
def a59 : AF := ⟨11,
 (.seq
 (rg [
 o 2 (.box (.t 0)),
 o 4 (.alloc [.ns, .d (.i .i64 0), .d (.b false), .d (.i .i64 0), .d (.b false)]),
 o 5 (.mv (kc 0))])
 (.seq
 (rg [
 o 6 (.ld (some 5) (.t 2)),
 o 7 (.mv (.t 1)),
 o 8 (.call 96 [(.t 6), (.t 7), (kx (.f 99 []))]),
 o 9 (.ext (.t 8) 0),
 o 10 (.ext (.t 8) 1),
 on (.st 5 (.t 4) (.t 9)),
 o 5 (.mv (.t 10))])
 .ret)),
 [.c (some 5) 4, .t 5], false⟩
def a60 : AF := ⟨24,
 (.seq
 (rg [
 o 4 (.mv (.t 0)),
 o 5 (.nck (.t 4)),
 o 6 (.fa 5 (.t 5)),
 o 7 (.ld none (.t 6)),
 o 8 (.bin .eql (.t 7) (kc 0))])
 (.cond (.t 8)
 (rg [
 o 10 (.mv (.t 0)),
 o 11 (.mv (.t 0)),
 o 12 (.mv (.t 1)),
 o 13 (.mv (.t 0)),
 o 14 (.nck (.t 13)),
 o 15 (.fa 0 (.t 14)),
 o 16 (.ld (some 5) (.t 15)),
 o 17 (.callv (.t 12) [(.t 16)]),
 o 9 (.mv (.t 17)),
 o 18 (.ext (.t 9) 0),
 o 19 (.ext (.t 9) 1),
 o 20 (.nck (.t 10)),
 o 21 (.fa 0 (.t 20)),
 on (.st 5 (.t 21) (.t 18)),
 o 22 (.nck (.t 11)),
 o 23 (.fa 5 (.t 22)),
 on (.st 1 (.t 23) (.t 19))])
 .skip)),
 [], false⟩
def a61 : AF := ⟨10,
 (.seq
 (rg [
 o 2 (.box (.t 0)),
 o 3 (.alloc [.ns, .d (.i .i64 0), .d (.b false), .d (.i .i64 0), .d (.b false)]),
 o 4 (.mv (kc 0))])
 (.seq
 (rg [
 o 5 (.ld (some 5) (.t 2)),
 o 6 (.ld none (.t 1)),
 o 7 (.callp 62 [(.t 5), (.t 6)]),
 o 8 (.ext (.t 7) 0),
 o 9 (.ext (.t 7) 1),
 on (.st 5 (.t 3) (.t 8)),
 o 4 (.mv (.t 9))])
 .ret)),
 [.c (some 5) 3, .t 4], false⟩
def a62 : AF := ⟨12,
 (.seq
 (rg [
 o 2 (.box (.t 0)),
 o 3 (.box (.t 1)),
 o 4 (.alloc [.ns, .d (.i .i64 0), .d (.b false), .d (.i .i64 0), .d (.b false)]),
 o 5 (.mv (kc 0))])
 (.seq
 (rg [
 o 6 (.ld (some 5) (.t 2)),
 o 7 (.ld none (.t 3)),
 o 8 (.mkf 100 [(.t 3)]),
 o 9 (.call 96 [(.t 6), (.t 7), (.t 8)]),
 o 10 (.ext (.t 9) 0),
 o 11 (.ext (.t 9) 1),
 on (.st 5 (.t 4) (.t 10)),
 o 5 (.mv (.t 11))])
 .ret)),
 [.c (some 5) 4, .t 5], false⟩
def a63_0 : AC :=
 (.seq
 (.seq
 (rg [
 o 10 (.mv (.t 6)),
 o 11 (.bin .gtr (.t 10) (kc 0))])
 (.cond (.t 11)
 .skip
 (.exit 0)))
 (.seq
 (.block 1
 (.seq
 (rg [
 o 14 (.mv (.t 6)),
 o 15 (.mv (.t 1)),
 o 16 (.bin .rem (.t 15) (kc 10)),
 o 17 (.bin .add (kc 48) (.t 16)),
 o 18 (.cvi .u8 (.t 17)),
 o 19 (.iar 14 1 (.t 5) (.t 14)),
 on (.st 1 (.t 19) (.t 18))])
 (rg [
 o 20 (.mv (.t 1)),
 o 21 (.bin .quo (.t 20) (kc 10)),
 o 1 (.mv (.t 21))])))
 (rg [
 o 12 (.mv (.t 6)),
 o 13 (.bin .sub (.t 12) (kc 1)),
 o 6 (.mv (.t 13))])))
def a63 : AF := ⟨26,
 (.seq
 (rg [
 o 4 (.mv (ks []))])
 (.seq
 (.seq
 (rg [
 o 7 (.mv (.t 1)),
 o 8 (.cvi .u64 (.t 7)),
 o 9 (.bin .gtr (.t 8) (kx (.d (.i .u64 1099511627776))))])
 (.cond (.t 9)
 (.seq
 (rg [
 o 4 (.mv (ks []))])
 .ret)
 .skip))
 (.seq
 (rg [
 o 5 (.alloc [.d (.i .u8 0), .d (.i .u8 0), .d (.i .u8 0), .d (.i .u8 0), .d (.i .u8 0), .d (.i .u8 0), .d (.i .u8 0), .d (.i .u8 0), .d (.i .u8 0), .d (.i .u8 0), .d (.i .u8 0), .d (.i .u8 0), .d (.i .u8 0), .d (.i .u8 0)])])
 (.seq
 (.seq
 (rg [
 o 6 (.mv (kc 13))])
 (.block 0
 (.loop [0, 1, 5, 6] a63_0)))
 (.seq
 (rg [
 o 22 (.mv (.t 0)),
 o 23 (.iar 14 1 (.t 5) (kc 0)),
 on (.st 1 (.t 23) (.t 22))])
 (.seq
 (rg [
 o 24 (.slar 14 (.t 5)),
 o 25 (.b2s (.t 24)),
 o 4 (.mv (.t 25))])
 .ret)))))),
 [.t 4], false⟩
def a64_0 : AC :=
 (.seq
 (rg [
 o 22 (.bin .lss (.t 21) (.t 20))])
 (.seq
 (.cond (.t 22)
 .skip
 (.exit 0))
 (.seq
 (.block 1
 (.seq
 (rg [
 o 23 (.ia 1 (.t 19) (.t 21)),
 o 24 (.ld none (.t 23)),
 o 6 (.mv (.t 24))])
 (rg [
 o 25 (.mv (.t 4)),
 o 26 (.mv (.t 6)),
 o 27 (.callp 95 [(.t 26)]),
 o 28 (.bin .add (.t 25) (.t 27)),
 o 4 (.mv (.t 28))])))
 (rg [
 o 29 (.bin .add (.t 21) (kc 1)),
 o 21 (.mv (.t 29))]))))
def a64 : AF := ⟨42,
 (.seq
 (rg [
 o 1 (.box (.t 0)),
 o 2 (.mv (ks [])),
 o 3 (.mv (kc 0))])
 (.seq
 (.seq
 (rg [
 o 7 (.ld (some 4) (.t 1)),
 o 8 (.callp 103 [(.t 7)]),
 o 9 (.un .not (.t 8))])
 (.cond (.t 9)
 (.seq
 (rg [
 o 2 (.mv (ks [])),
 o 3 (.mv (kc 1))])
 .ret)
 .skip))
 (.seq
 (rg [
 o 10 (.fa 0 (.t 1)),
 o 11 (.ld none (.t 10)),
 o 12 (.callp 95 [(.t 11)]),
 o 13 (.fa 1 (.t 1)),
 o 14 (.ld none (.t 13)),
 o 15 (.len false (.t 14)),
 o 16 (.callp 95 [(.t 15)]),
 o 17 (.bin .add (.t 12) (.t 16)),
 o 4 (.mv (.t 17))])
 (.seq
 (.seq
 (rg [
 o 18 (.fa 1 (.t 1)),
 o 19 (.ld none (.t 18)),
 o 20 (.len false (.t 19)),
 o 21 (.mv (kc 0))])
 (.block 0
 (.loop [1, 4, 19, 20, 21] a64_0)))
 (.seq
 (rg [
 o 30 (.mv (.t 4)),
 o 31 (.fa 2 (.t 1)),
 o 32 (.ld none (.t 31)),
 o 33 (.callp 95 [(.t 32)]),
 o 34 (.bin .add (.t 30) (.t 33)),
 o 35 (.fa 3 (.t 1)),
 o 36 (.ld none (.t 35)),
 o 37 (.callp 104 [(.t 36)]),
 o 38 (.bin .add (.t 34) (.t 37)),
 o 39 (.callp 94 [(.t 38)]),
 o 40 (.ext (.t 39) 0),
 o 41 (.ext (.t 39) 1),
 o 2 (.mv (.t 40)),
 o 3 (.mv (.t 41))])
 .ret))))),
 [.t 2, .t 3], false⟩
def a65 : AF := ⟨7,
 (.seq
 (rg [
 o 3 (.box (.t 1))])
 (rg [
 o 4 (.mv (.t 0)),
 o 5 (.mkf 105 [(.t 3)]),
 o 6 (.call 60 [(.t 4), (.t 5)])])),
 [], false⟩
def a66 : AF := ⟨10,
 (.seq
 (rg [
 o 2 (.box (.t 0)),
 o 3 (.alloc [.ns, .d (.i .i64 0), .d (.b false), .d (.i .i64 0), .d (.b false)]),
 o 4 (.mv (kc 0))])
 (.seq
 (rg [
 o 5 (.ld (some 5) (.t 2)),
 o 6 (.ld none (.t 1)),
 o 7 (.callp 58 [(.t 5), (ks [110]), (.t 6)]),
 o 8 (.ext (.t 7) 0),
 o 9 (.ext (.t 7) 1),
 on (.st 5 (.t 3) (.t 8)),
 o 4 (.mv (.t 9))])
 .ret)),
 [.c (some 5) 3, .t 4], false⟩
def a67 : AF := ⟨23,
 (.seq
 (.seq
 (rg [
 o 4 (.mv (.t 0)),
 o 5 (.nck (.t 4)),
 o 6 (.fa 5 (.t 5)),
 o 7 (.ld none (.t 6)),
 o 8 (.bin .neq (.t 7) (kc 9))])
 (.cond (.t 8)
 .ret
 .skip))
 (.seq
 (rg [
 o 9 (.mv (.t 0)),
 o 10 (.nck (.t 9)),
 o 11 (.fa 5 (.t 10)),
 on (.st 1 (.t 11) (kc 0))])
 (.seq
 (rg [
 o 12 (.mv (.t 0)),
 o 13 (.mv (.t 1)),
 o 14 (.call 65 [(.t 12), (.t 13)])])
 (.seq
 (rg [
 o 15 (.mv (.t 0)),
 o 16 (.nck (.t 15)),
 o 17 (.fa 5 (.t 16)),
 o 18 (.ld none (.t 17)),
 o 19 (.bin .eql (.t 18) (kc 0))])
 (.cond (.t 19)
 (rg [
 o 20 (.mv (.t 0)),
 o 21 (.nck (.t 20)),
 o 22 (.fa 5 (.t 21)),
 on (.st 1 (.t 22) (kc 9))])
 .skip))))),
 [], false⟩
def a68 : AF := ⟨7,
 (.seq
 (rg [
 o 3 (.box (.t 1))])
 (rg [
 o 4 (.mv (.t 0)),
 o 5 (.mkf 107 [(.t 3)]),
 o 6 (.call 60 [(.t 4), (.t 5)])])),
 [], false⟩
def a69 : AF := ⟨8,
 (.seq
 (rg [
 o 1 (.box (.t 0)),
 o 2 (.alloc [.ns, .d (.i .i64 0), .d (.b false), .d (.i .i64 0), .d (.b false)]),
 o 3 (.mv (kc 0))])
 (.seq
 (rg [
 o 4 (.ld (some 5) (.t 1)),
 o 5 (.callp 70 [(.t 4), (ks [110]), (ks [109])]),
 o 6 (.ext (.t 5) 0),
 o 7 (.ext (.t 5) 1),
 on (.st 5 (.t 2) (.t 6)),
 o 3 (.mv (.t 7))])
 .ret)),
 [.c (some 5) 2, .t 3], false⟩
def a70 : AF := ⟨14,
 (.seq
 (rg [
 o 3 (.box (.t 0)),
 o 5 (.box (.t 2)),
 o 6 (.alloc [.ns, .d (.i .i64 0), .d (.b false), .d (.i .i64 0), .d (.b false)]),
 o 7 (.mv (kc 0))])
 (.seq
 (rg [
 o 8 (.ld (some 5) (.t 3)),
 o 9 (.mv (.t 1)),
 o 10 (.mkf 108 [(.t 5)]),
 o 11 (.call 96 [(.t 8), (.t 9), (.t 10)]),
 o 12 (.ext (.t 11) 0),
 o 13 (.ext (.t 11) 1),
 on (.st 5 (.t 6) (.t 12)),
 o 7 (.mv (.t 13))])
 .ret)),
 [.c (some 5) 6, .t 7], false⟩
def a71 : AF := ⟨37,
 (.seq
 (rg [
 o 3 (.box (.t 0)),
 o 6 (.alloc [.ns, .d (.i .i64 0), .d (.b false), .d (.i .i64 0), .d (.b false)]),
 o 7 (.mv (kc 0))])
 (.seq
 (.block 0
 (.seq
 (rg [
 o 9 (.fa 4 (.t 3)),
 o 10 (.ld none (.t 9)),
 o 8 (.mv (.t 10))])
 (.cond (.t 8)
 (.seq
 (rg [
 o 11 (.ld (some 5) (.t 3)),
 on (.st 5 (.t 6) (.t 11)),
 o 7 (.mv (kc 10))])
 .ret)
 (.seq
 (rg [
 o 13 (.mv (.t 2)),
 o 14 (.bin .neq (.t 13) (kc 0)),
 o 12 (.mv (.t 14))])
 (.cond (.t 12)
 (.seq
 (rg [
 o 15 (.ld (some 5) (.t 3)),
 o 16 (.mv (.t 2)),
 on (.st 5 (.t 6) (.t 15)),
 o 7 (.mv (.t 16))])
 .ret)
 (.seq
 (rg [
 o 18 (.fa 2 (.t 3)),
 o 19 (.ld none (.t 18)),
 o 20 (.mv (.t 19)),
 og 21 20 true (.fa 3 (.t 3)),
 og 22 20 true (.ld none (.t 21)),
 og 23 20 true (.bin .eql (.t 22) (kc 0)),
 o 24 (.pick (.t 20) (.t 23) (kb false)),
 o 17 (.mv (.t 24))])
 (.cond (.t 17)
 (.seq
 (rg [
 o 25 (.fa 4 (.t 3)),
 on (.st 1 (.t 25) (kb true))])
 (.seq
 (rg [
 o 26 (.ld (some 5) (.t 3)),
 on (.st 5 (.t 6) (.t 26)),
 o 7 (.mv (kc 10))])
 .ret))
 (.seq
 (rg [
 o 28 (.fa 2 (.t 3)),
 o 29 (.ld none (.t 28)),
 o 27 (.mv (.t 29))])
 (.cond (.t 27)
 (rg [
 o 30 (.fa 3 (.t 3)),
 o 31 (.ld none (.t 30)),
 o 32 (.bin .sub (.t 31) (kc 1)),
 o 33 (.fa 3 (.t 3)),
 on (.st 1 (.t 33) (.t 32))])
 .skip)))))))))
 (.seq
 (rg [
 o 34 (.mv (.t 1)),
 o 35 (.fa 0 (.t 3)),
 on (.st 1 (.t 35) (.t 34))])
 (.seq
 (rg [
 o 36 (.ld (some 5) (.t 3)),
 on (.st 5 (.t 6) (.t 36)),
 o 7 (.mv (kc 0))])
 .ret)))),
 [.c (some 5) 6, .t 7], false⟩
def a72_0 : AC :=
 (.seq
 (.seq
 (rg [
 o 10 (.mv (.t 5)),
 o 11 (.mv (.t 0)),
 o 12 (.len false (.t 11)),
 o 13 (.bin .lss (.t 10) (.t 12)),
 o 14 (.mv (.t 13)),
 og 15 14 true (.mv (.t 0)),
 og 16 14 true (.mv (.t 5)),
 og 17 14 true (.ia 3 (.t 15) (.t 16)),
 og 18 14 true (.fa 0 (.t 17)),
 og 19 14 true (.ld none (.t 18)),
 og 20 14 true (.fa 0 (.t 3)),
 og 21 14 true (.ld none (.t 20)),
 og 22 14 true (.bin .lss (.t 19) (.t 21)),
 o 23 (.pick (.t 14) (.t 22) (kb false))])
 (.cond (.t 23)
 .skip
 (.exit 0)))
 (.block 1
 (rg [
 o 24 (.mv (.t 5)),
 o 25 (.bin .add (.t 24) (kc 1)),
 o 5 (.mv (.t 25))])))
def a72 : AF := ⟨38,
 (.seq
 (rg [
 o 3 (.box (.t 1)),
 o 4 (.own 3)])
 (.seq
 (rg [
 o 6 (.mv (.t 0)),
 o 7 (.fa 0 (.t 3)),
 o 8 (.ld none (.t 7)),
 o 9 (.callp 91 [(.t 6), (.t 8)]),
 o 0 (.mv (.t 9))])
 (.seq
 (rg [
 o 5 (.mv (kc 0))])
 (.seq
 (.block 0
 (.loop [0, 3, 5] a72_0))
 (.seq
 (rd [
 o 26 (.bsl 3 [] []),
 o 27 (.mv (.t 0)),
 o 28 (.mv (.t 5)),
 od 29 [2, 1] (.slc 3 (.t 27) none (some (.t 28)) none),
 od 30 [1, 2, 3, 0] (.app false 3 40 (.t 26) (.t 29)),
 o 31 (.ld (some 3) (.t 3)),
 od 32 [5] (.bsl 3 [[.s [], .s [], .i .i64 0]] [(0, (.t 31))]),
 od 33 [5, 6, 0, 3, 2, 1, 4] (.app false 3 40 (.t 30) (.t 32)),
 o 34 (.mv (.t 0)),
 o 35 (.mv (.t 5)),
 od 36 [9, 8] (.slc 3 (.t 34) (some (.t 35)) none none),
 od 37 [8, 9, 10, 4, 1, 2, 3, 0, 6, 5, 7] (.app false 3 40 (.t 33) (.t 36)),
 od 4 [7, 5, 6, 0, 3, 2, 1, 4, 10, 9, 8, 11] (.mv (.t 37))])
 .ret))))),
 [.t 4], false⟩
def a73_0 : AC :=
 (.seq
 (.seq
 (rg [
 o 5 (.mv (.t 4)),
 o 6 (.bin .lss (.t 5) (kc 13))])
 (.cond (.t 6)
 .skip
 (.exit 0)))
 (.seq
 (.block 1
 (.seq
 (rg [
 o 9 (.mv (.t 0)),
 o 10 (.bin .rem (.t 9) (kc 10)),
 o 11 (.bin .add (kc 48) (.t 10)),
 o 12 (.cvi .u8 (.t 11)),
 o 13 (.bsl 1 [[.i .u8 0]] [(0, (.t 12))]),
 o 14 (.b2s (.t 13)),
 o 15 (.mv (.t 3)),
 o 16 (.bin .add (.t 14) (.t 15)),
 o 3 (.mv (.t 16))])
 (rg [
 o 17 (.mv (.t 0)),
 o 18 (.bin .quo (.t 17) (kc 10)),
 o 0 (.mv (.t 18))])))
 (rg [
 o 7 (.mv (.t 4)),
 o 8 (.bin .add (.t 7) (kc 1)),
 o 4 (.mv (.t 8))])))
def a73 : AF := ⟨20,
 (.seq
 (rg [
 o 2 (.mv (ks []))])
 (.seq
 (rg [
 o 3 (.mv (ks []))])
 (.seq
 (.seq
 (rg [
 o 4 (.mv (kc 0))])
 (.block 0
 (.loop [0, 3, 4] a73_0)))
 (.seq
 (rg [
 o 19 (.mv (.t 3)),
 o 2 (.mv (.t 19))])
 .ret)))),
 [.t 2], false⟩
def a74 : AF := ⟨13,
 (.seq
 (rg [
 o 1 (.box (.t 0)),
 o 2 (.mv (ks []))])
 (.seq
 (rg [
 o 3 (.fa 6 (.t 1)),
 o 4 (.ld none (.t 3)),
 o 5 (.fa 6 (.t 1)),
 o 6 (.ld none (.t 5)),
 o 7 (.len false (.t 6)),
 o 8 (.bin .sub (.t 7) (kc 1)),
 o 9 (.ia 3 (.t 4) (.t 8)),
 o 10 (.fa 0 (.t 9)),
 o 11 (.ld none (.t 10)),
 o 12 (.callp 35 [(.t 11)]),
 o 2 (.mv (.t 12))])
 .ret)),
 [.t 2], false⟩
def a75 : AF := ⟨17,
 (.seq
 (rg [
 o 1 (.box (.t 0)),
 o 2 (.mv (kb false))])
 (.seq
 (rg [
 o 3 (.fa 0 (.t 1)),
 o 4 (.ld none (.t 3)),
 o 5 (.callp 110 [(.t 4)]),
 o 6 (.mv (.t 5)),
 og 7 6 true (.fa 1 (.t 1)),
 og 8 6 true (.ld none (.t 7)),
 og 9 6 true (.callp 110 [(.t 8)]),
 o 10 (.pick (.t 6) (.t 9) (kb false)),
 o 11 (.mv (.t 10)),
 og 12 11 true (.fa 2 (.t 1)),
 og 13 11 true (.ld none (.t 12)),
 og 14 11 true (.len true (.t 13)),
 og 15 11 true (.bin .leq (.t 14) (kc 64)),
 o 16 (.pick (.t 11) (.t 15) (kb false)),
 o 2 (.mv (.t 16))])
 .ret)),
 [.t 2], false⟩
def a76 : AF := ⟨79,
 (.seq
 (rg [
 o 1 (.box (.t 0)),
 o 2 (.alloc [.ns, .d (.i .i64 0), .d (.b false), .d (.i .i64 0), .d (.b false), .d (.i .i64 0), .ns, .d (.i .i64 0), .d (.i .i64 0), .d (.i .i64 0), .d (.i .u32 0)]),
 o 3 (.mv (kc 0))])
 (.seq
 (.seq
 (rg [
 o 7 (.fa 6 (.t 1)),
 o 8 (.ld none (.t 7)),
 o 9 (.len false (.t 8)),
 o 10 (.bin .geq (.t 9) (kc 64))])
 (.cond (.t 10)
 (.seq
 (rg [
 o 11 (.ld (some 11) (.t 1)),
 on (.st 11 (.t 2) (.t 11)),
 o 3 (.mv (kc 9))])
 .ret)
 .skip))
 (.seq
 (rg [
 o 13 (.ld (some 11) (.t 1)),
 o 14 (.callp 38 [(.t 13)]),
 o 12 (.mv (.t 14)),
 o 15 (.ext (.t 12) 0),
 o 16 (.ext (.t 12) 1),
 on (.st 11 (.t 1) (.t 15)),
 o 4 (.mv (.t 16))])
 (.seq
 (.seq
 (rg [
 o 17 (.mv (.t 4)),
 o 18 (.bin .neq (.t 17) (kc 0))])
 (.cond (.t 18)
 (.seq
 (rg [
 o 19 (.ld (some 11) (.t 1)),
 o 20 (.mv (.t 4)),
 on (.st 11 (.t 2) (.t 19)),
 o 3 (.mv (.t 20))])
 .ret)
 .skip))
 (.seq
 (rg [
 o 22 (.fa 0 (.t 1)),
 o 23 (.ld (some 5) (.t 22)),
 o 24 (.fa 7 (.t 1)),
 o 25 (.ld none (.t 24)),
 o 26 (.callp 35 [(.t 25)]),
 o 27 (.callp 34 [(.t 23), (.t 26)]),
 o 21 (.mv (.t 27)),
 o 28 (.ext (.t 21) 0),
 o 29 (.ext (.t 21) 1),
 o 30 (.fa 0 (.t 1)),
 on (.st 5 (.t 30) (.t 28)),
 o 4 (.mv (.t 29))])
 (.seq
 (.seq
 (rg [
 o 31 (.mv (.t 4)),
 o 32 (.bin .neq (.t 31) (kc 0))])
 (.cond (.t 32)
 (.seq
 (rg [
 o 33 (.ld (some 11) (.t 1)),
 o 34 (.mv (.t 4)),
 on (.st 11 (.t 2) (.t 33)),
 o 3 (.mv (.t 34))])
 .ret)
 .skip))
 (.seq
 (rg [
 o 35 (.ld (some 11) (.t 1)),
 o 5 (.alloc [.ns, .d (.i .i64 0), .d (.b false), .d (.i .i64 0), .d (.b false), .d (.i .i64 0), .ns, .d (.i .i64 0), .d (.i .i64 0), .d (.i .i64 0), .d (.i .u32 0)]),
 on (.st 11 (.t 5) (.t 35))])
 (.seq
 (rg [
 o 36 (.fa 5 (.t 1)),
 o 37 (.ld none (.t 36)),
 o 38 (.bin .add (.t 37) (kc 1)),
 o 39 (.fa 5 (.t 5)),
 on (.st 1 (.t 39) (.t 38))])
 (.seq
 (rd [
 o 40 (.bsl 3 [] []),
 o 41 (.fa 6 (.t 1)),
 od 42 [1] (.ld none (.t 41)),
 od 43 [1, 2, 0] (.app false 3 24 (.t 40) (.t 42)),
 o 44 (.fa 7 (.t 1)),
 od 45 [4] (.ld none (.t 44)),
 od 46 [4, 5] (.build [.d (.i .i64 0), .d (.i .i64 0), .d (.i .i64 0)] [(0, 1, (.t 45))]),
 od 47 [5, 4, 6] (.bsl 3 [[.i .i64 0, .i .i64 0, .i .i64 0]] [(0, (.t 46))]),
 od 48 [6, 4, 5, 7, 0, 2, 1, 3] (.app false 3 24 (.t 43) (.t 47)),
 od 49 [8, 7, 6, 5, 4, 3, 2, 1, 0] (.fa 6 (.t 5)),
 ⟨none, .st 1 (.t 49) (.t 48), none, [0, 1, 2, 3, 4, 5, 6, 7, 8, 9], false⟩])
 (.seq
 (rd [
 o 51 (.fa 0 (.t 1)),
 od 52 [0] (.ld (some 5) (.t 51)),
 o 53 (.ld (some 11) (.t 5)),
 od 54 [2] (.callz 17 [(.t 53)]),
 od 55 [2, 3, 0, 1] (.callp 27 [(.t 52), (.t 54)]),
 od 50 [1, 0, 3, 2, 4] (.mv (.t 55)),
 od 56 [4, 2, 3, 0, 1, 5] (.ext (.t 50) 0),
 od 57 [4, 2, 3, 0, 1, 5] (.ext (.t 50) 1),
 o 6 (.alloc [.ns, .d (.i .i64 0), .d (.b false), .d (.i .i64 0), .d (.b false)]),
 ⟨none, .st 5 (.t 6) (.t 56), none, [5, 1, 0, 3, 2, 4, 6, 8], false⟩,
 od 4 [8, 6, 9, 5, 1, 0, 3, 2, 4, 7] (.mv (.t 57))])
 (.seq
 (.seq
 (rg [
 o 58 (.mv (.t 4)),
 o 59 (.bin .eql (.t 58) (kc 9))])
 (.cond (.t 59)
 (.seq
 (rg [
 o 61 (.ld (some 5) (.t 6)),
 o 62 (.fa 7 (.t 1)),
 o 63 (.ld none (.t 62)),
 o 64 (.callp 35 [(.t 63)]),
 o 65 (.callp 51 [(.t 61), (.t 64)]),
 o 60 (.mv (.t 65)),
 o 66 (.ext (.t 60) 0),
 o 67 (.ext (.t 60) 1),
 on (.st 5 (.t 6) (.t 66)),
 o 4 (.mv (.t 67))])
 (.seq
 (rg [
 o 68 (.mv (.t 4)),
 o 69 (.bin .eql (.t 68) (kc 0))])
 (.cond (.t 69)
 (rg [
 o 4 (.mv (kc 9))])
 .skip)))
 .skip))
 (.seq
 (.seq
 (rg [
 o 70 (.mv (.t 4)),
 o 71 (.bin .neq (.t 70) (kc 0))])
 (.cond (.t 71)
 (.seq
 (rg [
 o 72 (.ld (some 5) (.t 6)),
 o 73 (.fa 0 (.t 1)),
 on (.st 5 (.t 73) (.t 72))])
 (.seq
 (rg [
 o 74 (.ld (some 11) (.t 1)),
 o 75 (.mv (.t 4)),
 on (.st 11 (.t 2) (.t 74)),
 o 3 (.mv (.t 75))])
 .ret))
 .skip))
 (.seq
 (rg [
 o 76 (.ld (some 5) (.t 6)),
 o 77 (.fa 0 (.t 5)),
 on (.st 5 (.t 77) (.t 76))])
 (.seq
 (rg [
 o 78 (.ld (some 11) (.t 5)),
 on (.st 11 (.t 2) (.t 78)),
 o 3 (.mv (kc 0))])
 .ret)))))))))))))),
 [.c (some 11) 2, .t 3], false⟩
def a77 : AF := ⟨15,
 (.seq
 (rg [
 o 1 (.box (.t 0)),
 o 2 (.mv (ks [])),
 o 3 (.mv (kc 0))])
 (.seq
 (.seq
 (rg [
 o 5 (.ld (some 3) (.t 1)),
 o 6 (.callp 111 [(.t 5)]),
 o 4 (.mv (.t 6))])
 (.seq
 (rg [
 o 7 (.mv (.t 4)),
 o 8 (.bin .neq (.t 7) (kc 0))])
 (.cond (.t 8)
 (.seq
 (rg [
 o 9 (.mv (.t 4)),
 o 2 (.mv (ks [])),
 o 3 (.mv (.t 9))])
 .ret)
 .skip)))
 (.seq
 (rg [
 o 10 (.ld (some 3) (.t 1)),
 o 11 (.callp 112 [(.t 10)]),
 o 12 (.callp 89 [(.t 11)]),
 o 13 (.ext (.t 12) 0),
 o 14 (.ext (.t 12) 1),
 o 2 (.mv (.t 13)),
 o 3 (.mv (.t 14))])
 .ret))),
 [.t 2, .t 3], false⟩
def a78 : AF := ⟨11,
 (.seq
 (rg [
 o 4 (.mv (kc 0)),
 o 5 (.mv (kb false))])
 (.seq
 (rg [
 o 6 (.mv (.t 0)),
 o 7 (.mv (.t 1)),
 o 8 (.call 113 [(.t 6), (.t 7), (kx (.f 114 []))]),
 o 9 (.ext (.t 8) 0),
 o 10 (.ext (.t 8) 1),
 o 4 (.mv (.t 9)),
 o 5 (.mv (.t 10))])
 .ret)),
 [.t 4, .t 5], false⟩
def a79_0 : AC :=
 (.seq
 (.seq
 (rg [
 o 11 (.mv (.t 6)),
 o 12 (.mv (.t 7)),
 o 13 (.bin .lss (.t 11) (.t 12))])
 (.cond (.t 13)
 .skip
 (.exit 0)))
 (.block 1
 (.seq
 (rg [
 o 14 (.mv (.t 6)),
 o 15 (.mv (.t 7)),
 o 16 (.bin .add (.t 14) (.t 15)),
 o 17 (.bin .quo (.t 16) (kc 2)),
 o 8 (.mv (.t 17))])
 (.seq
 (rg [
 o 18 (.mv (.t 0)),
 o 19 (.mv (.t 8)),
 o 20 (.ia 2 (.t 18) (.t 19)),
 o 21 (.fa 0 (.t 20)),
 o 22 (.ld none (.t 21)),
 o 23 (.mv (.t 1)),
 o 24 (.bin .leq (.t 22) (.t 23))])
 (.cond (.t 24)
 (rg [
 o 25 (.mv (.t 8)),
 o 26 (.bin .add (.t 25) (kc 1)),
 o 6 (.mv (.t 26))])
 (rg [
 o 27 (.mv (.t 8)),
 o 7 (.mv (.t 27))]))))))
def a79 : AF := ⟨36,
 (.seq
 (rg [
 o 4 (.alloc [.d (.i .i64 0), .d (.i .i64 0)]),
 o 5 (.mv (kb false))])
 (.seq
 (rg [
 o 9 (.mv (.t 0)),
 o 10 (.len false (.t 9)),
 o 6 (.mv (kc 0)),
 o 7 (.mv (.t 10))])
 (.seq
 (.block 0
 (.loop [0, 1, 4, 6, 7] a79_0))
 (.seq
 (.seq
 (rg [
 o 28 (.mv (.t 6)),
 o 29 (.bin .eql (.t 28) (kc 0))])
 (.cond (.t 29)
 (.seq
 (rg [
 o 30 (.build [.d (.i .i64 0), .d (.i .i64 0)] []),
 on (.st 2 (.t 4) (.t 30)),
 o 5 (.mv (kb false))])
 .ret)
 .skip))
 (.seq
 (rg [
 o 31 (.mv (.t 0)),
 o 32 (.mv (.t 6)),
 o 33 (.bin .sub (.t 32) (kc 1)),
 o 34 (.ia 2 (.t 31) (.t 33)),
 o 35 (.ld (some 2) (.t 34)),
 on (.st 2 (.t 4) (.t 35)),
 o 5 (.mv (kb true))])
 .ret))))),
 [.c (some 2) 4, .t 5], false⟩
def a80 : AF := ⟨4,
 (.seq
 (rg [
 o 1 (.box (.t 0)),
 o 2 (.mv (kx (.nf)))])
 (.seq
 (rg [
 o 3 (.mkf 115 [(.t 1)]),
 o 2 (.mv (.t 3))])
 .ret)),
 [.t 2], false⟩
def a81 : AF := ⟨6,
 (.seq
 (rg [
 o 2 (.mv (kb false))])
 (.seq
 (rg [
 o 3 (.mv (.t 0)),
 o 4 (.cvi .u64 (.t 3)),
 o 5 (.bin .leq (.t 4) (kx (.d (.i .u64 1099511627776)))),
 o 2 (.mv (.t 5))])
 .ret)),
 [.t 2], false⟩
def a82 : AF := ⟨26,
 (.seq
 (rg [
 o 7 (.box (.t 3)),
 o 8 (.own 2)])
 (.seq
 (.seq
 (rg [
 o 9 (.fa 0 (.t 7)),
 o 10 (.ld none (.t 9)),
 o 11 (.mv (.t 1)),
 o 12 (.bin .sub (.t 10) (.t 11)),
 o 13 (.mv (.t 2)),
 o 14 (.bin .rem (.t 12) (.t 13)),
 o 15 (.bin .neq (.t 14) (kc 0))])
 (.cond (.t 15)
 (.seq
 (rg [
 o 16 (.mv (.t 0)),
 o 8 (.mv (.t 16))])
 .ret)
 .skip))
 (.seq
 (rg [
 o 17 (.mv (.t 0)),
 o 18 (.mv (.t 0)),
 o 19 (.len false (.t 18)),
 o 20 (.mv (.t 0)),
 o 21 (.len false (.t 20)),
 o 22 (.slc 2 (.t 17) none (some (.t 19)) (some (.t 21))),
 o 23 (.ld (some 2) (.t 7)),
 o 24 (.bsl 2 [[.i .i64 0, .i .i64 0]] [(0, (.t 23))]),
 o 25 (.app false 2 16 (.t 22) (.t 24)),
 o 8 (.mv (.t 25))])
 .ret))),
 [.t 8], false⟩
def a83 : AF := ⟨18,
 (.seq
 (rg [
 o 2 (.box (.t 0)),
 o 4 (.mv (ks [])),
 o 5 (.mv (kc 0))])
 (.seq
 (rg [
 o 7 (.ld (some 5) (.t 2)),
 o 8 (.mv (.t 1)),
 o 9 (.callp 50 [(.t 7), (.t 8)]),
 o 6 (.mv (.t 9))])
 (.seq
 (.seq
 (rg [
 o 10 (.mv (.t 6)),
 o 11 (.bin .lss (.t 10) (kc 0))])
 (.cond (.t 11)
 (.seq
 (rg [
 o 4 (.mv (ks [])),
 o 5 (.mv (kc 7))])
 .ret)
 .skip))
 (.seq
 (rg [
 o 12 (.fa 0 (.t 2)),
 o 13 (.ld none (.t 12)),
 o 14 (.mv (.t 6)),
 o 15 (.ia 3 (.t 13) (.t 14)),
 o 16 (.fa 1 (.t 15)),
 o 17 (.ld none (.t 16)),
 o 4 (.mv (.t 17)),
 o 5 (.mv (kc 0))])
 .ret)))),
 [.t 4, .t 5], false⟩
def a84 : AF := ⟨22,
 (.seq
 (rg [
 oz 4 (.mv (kx (.ns))),
 o 5 (.mv (kc 0)),
 o 6 (.mv (kc 0))])
 (.seq
 (rg [
 o 12 (.mv (.t 0)),
 o 13 (.mv (.t 1)),
 o 14 (.callp 118 [(.t 12), (.t 13)]),
 o 11 (.mv (.t 14)),
 o 15 (.ext (.t 11) 0),
 o 16 (.ext (.t 11) 1),
 o 17 (.ext (.t 11) 2),
 o 18 (.ext (.t 11) 3),
 o 7 (.mv (.t 15)),
 o 8 (.mv (.t 16)),
 o 9 (.mv (.t 17)),
 o 10 (.mv (.t 18))])
 (.seq
 (rg [
 o 19 (.mv (.t 7)),
 o 20 (.mv (.t 9)),
 o 21 (.mv (.t 10)),
 o 4 (.mv (.t 19)),
 o 5 (.mv (.t 20)),
 o 6 (.mv (.t 21))])
 .ret))),
 [.t 4, .t 5, .t 6], false⟩
def a85 : AF := ⟨6,
 (.seq
 (rg [
 o 1 (.box (.t 0)),
 o 2 (.mv (kb false))])
 (.seq
 (rg [
 o 3 (.ld (some 3) (.t 1)),
 o 4 (.callp 93 [(.t 3)]),
 o 5 (.bin .eql (.t 4) (kc 0)),
 o 2 (.mv (.t 5))])
 .ret)),
 [.t 2], false⟩
def a86 : AF := ⟨11,
 (.seq
 (rg [
 o 2 (.mv (kc 0))])
 (.seq
 (.seq
 (rg [
 o 3 (.mv (.t 0)),
 o 4 (.callp 119 [(.t 3)]),
 o 5 (.un .not (.t 4))])
 (.cond (.t 5)
 (.seq
 (rg [
 o 2 (.mv (kc 0))])
 .ret)
 .skip))
 (.seq
 (rg [
 o 6 (.mv (.t 0)),
 o 7 (.callp 87 [(.t 6)]),
 o 8 (.bin .add (.t 7) (kc 4)),
 o 9 (.mv (.t 0)),
 o 10 (.bin .add (.t 8) (.t 9)),
 o 2 (.mv (.t 10))])
 .ret))),
 [.t 2], false⟩
def a87 : AF := ⟨11,
 (.seq
 (rg [
 o 2 (.mv (kc 0))])
 (.seq
 (.seq
 (rg [
 o 3 (.mv (.t 0)),
 o 4 (.bin .lss (.t 3) (kc 0))])
 (.cond (.t 4)
 (.seq
 (rg [
 o 2 (.mv (kc 0))])
 .ret)
 .skip))
 (.seq
 (rg [
 o 5 (.mv (.t 0)),
 o 6 (.cvi .u64 (.t 5)),
 o 7 (.callp 120 [(.t 6)]),
 o 8 (.bin .add (.t 7) (kc 6)),
 o 9 (.bin .quo (.t 8) (kc 7)),
 o 10 (.mm true (kc 1) (.t 9)),
 o 2 (.mv (.t 10))])
 .ret))),
 [.t 2], false⟩
def a88_0 : AC :=
 (.seq
 (.seq
 (rg [
 o 6 (.mv (.t 0)),
 o 7 (.bin .geq (.t 6) (kc 128))])
 (.cond (.t 7)
 .skip
 (.exit 0)))
 (.block 1
 (.seq
 (rg [
 o 8 (.mv (.t 3)),
 o 9 (.mv (.t 0)),
 o 10 (.bin .rem (.t 9) (kc 128)),
 o 11 (.bin .add (kc 128) (.t 10)),
 o 12 (.cvi .u8 (.t 11)),
 o 13 (.bsl 1 [[.i .u8 0]] [(0, (.t 12))]),
 o 14 (.b2s (.t 13)),
 o 15 (.bin .add (.t 8) (.t 14)),
 o 3 (.mv (.t 15))])
 (rg [
 o 16 (.mv (.t 0)),
 o 17 (.bin .quo (.t 16) (kc 128)),
 o 0 (.mv (.t 17))]))))
def a88 : AF := ⟨24,
 (.seq
 (rg [
 o 2 (.mv (ks []))])
 (.seq
 (.seq
 (rg [
 o 4 (.mv (.t 0)),
 o 5 (.bin .lss (.t 4) (kc 0))])
 (.cond (.t 5)
 (.seq
 (rg [
 o 2 (.mv (ks []))])
 .ret)
 .skip))
 (.seq
 (rg [
 o 3 (.mv (ks []))])
 (.seq
 (.block 0
 (.loop [0, 3] a88_0))
 (.seq
 (rg [
 o 18 (.mv (.t 3)),
 o 19 (.mv (.t 0)),
 o 20 (.cvi .u8 (.t 19)),
 o 21 (.bsl 1 [[.i .u8 0]] [(0, (.t 20))]),
 o 22 (.b2s (.t 21)),
 o 23 (.bin .add (.t 18) (.t 22)),
 o 2 (.mv (.t 23))])
 .ret))))),
 [.t 2], false⟩
def a89 : AF := ⟨25,
 (.seq
 (rg [
 o 2 (.mv (ks [])),
 o 3 (.mv (kc 0))])
 (.seq
 (.seq
 (rg [
 o 5 (.mv (.t 0)),
 o 6 (.len true (.t 5)),
 o 7 (.bin .lss (.t 6) (kc 1)),
 o 8 (.mv (.t 7)),
 og 9 8 false (.mv (.t 0)),
 og 10 8 false (.len true (.t 9)),
 og 11 8 false (.bin .gtr (.t 10) (kc 65536)),
 o 12 (.pick (.t 8) (kb true) (.t 11))])
 (.cond (.t 12)
 (.seq
 (rg [
 o 2 (.mv (ks [])),
 o 3 (.mv (kc 5))])
 .ret)
 .skip))
 (.seq
 (rg [
 o 13 (.mv (.t 0)),
 o 14 (.len true (.t 13)),
 o 15 (.callp 88 [(.t 14)]),
 o 4 (.mv (.t 15))])
 (.seq
 (rg [
 o 16 (.mv (.t 4)),
 o 17 (.mv (.t 4)),
 o 18 (.mv (.t 0)),
 o 19 (.bin .add (.t 17) (.t 18)),
 o 20 (.callp 121 [(.t 19)]),
 o 21 (.callp 90 [(.t 20)]),
 o 22 (.bin .add (.t 16) (.t 21)),
 o 23 (.mv (.t 0)),
 o 24 (.bin .add (.t 22) (.t 23)),
 o 2 (.mv (.t 24)),
 o 3 (.mv (kc 0))])
 .ret)))),
 [.t 2, .t 3], false⟩
def a90 : AF := ⟨16,
 (.seq
 (rg [
 o 2 (.mv (ks []))])
 (.seq
 (rg [
 o 3 (.mv (.t 0)),
 o 4 (.cvi .u8 (.t 3)),
 o 5 (.mv (.t 0)),
 o 6 (.bin .shr (.t 5) (kx (.d (.i .u64 8)))),
 o 7 (.cvi .u8 (.t 6)),
 o 8 (.mv (.t 0)),
 o 9 (.bin .shr (.t 8) (kx (.d (.i .u64 16)))),
 o 10 (.cvi .u8 (.t 9)),
 o 11 (.mv (.t 0)),
 o 12 (.bin .shr (.t 11) (kx (.d (.i .u64 24)))),
 o 13 (.cvi .u8 (.t 12)),
 o 14 (.bsl 1 (List.replicate 4 [.i .u8 0]) [(0, (.t 4)), (1, (.t 7)), (2, (.t 10)), (3, (.t 13))]),
 o 15 (.b2s (.t 14)),
 o 2 (.mv (.t 15))])
 .ret)),
 [.t 2], false⟩
def a91_0 : AC :=
 (.seq
 (.seq
 (rg [
 o 7 (.mv (.t 6)),
 o 8 (.mv (.t 0)),
 o 9 (.len false (.t 8)),
 o 10 (.bin .lss (.t 7) (.t 9))])
 (.cond (.t 10)
 .skip
 (.exit 0)))
 (.seq
 (.block 1
 (.seq
 (rg [
 o 13 (.mv (.t 0)),
 o 14 (.mv (.t 6)),
 o 15 (.ia 3 (.t 13) (.t 14)),
 o 16 (.fa 0 (.t 15)),
 o 17 (.ld none (.t 16)),
 o 18 (.mv (.t 1)),
 o 19 (.bin .neq (.t 17) (.t 18))])
 (.cond (.t 19)
 (rg [
 o 20 (.mv (.t 5)),
 o 21 (.mv (.t 0)),
 o 22 (.mv (.t 6)),
 o 23 (.ia 3 (.t 21) (.t 22)),
 o 24 (.ld (some 3) (.t 23)),
 o 25 (.bsl 3 [[.s [], .s [], .i .i64 0]] [(0, (.t 24))]),
 o 26 (.app false 3 40 (.t 20) (.t 25)),
 o 5 (.mv (.t 26))])
 .skip)))
 (rg [
 o 11 (.mv (.t 6)),
 o 12 (.bin .add (.t 11) (kc 1)),
 o 6 (.mv (.t 12))])))
def a91 : AF := ⟨28,
 (.seq
 (rg [
 oz 4 (.mv (kx (.ns)))])
 (.seq
 (rg [
 o 5 (.own 3)])
 (.seq
 (.seq
 (rg [
 o 6 (.mv (kc 0))])
 (.block 0
 (.loop [0, 1, 5, 6] a91_0)))
 (.seq
 (rg [
 o 27 (.mv (.t 5)),
 o 4 (.mv (.t 27))])
 .ret)))),
 [.t 4], false⟩
def a92_0 : AC :=
 (.seq
 (.seq
 (rg [
 o 5 (.mv (.t 4)),
 o 6 (.fa 0 (.t 1)),
 o 7 (.ld none (.t 6)),
 o 8 (.len false (.t 7)),
 o 9 (.bin .lss (.t 5) (.t 8))])
 (.cond (.t 9)
 .skip
 (.exit 0)))
 (.seq
 (.block 1
 (rg [
 o 12 (.mv (.t 3)),
 o 13 (.fa 0 (.t 1)),
 o 14 (.ld none (.t 13)),
 o 15 (.mv (.t 4)),
 o 16 (.ia 3 (.t 14) (.t 15)),
 o 17 (.fa 1 (.t 16)),
 o 18 (.ld none (.t 17)),
 o 19 (.len true (.t 18)),
 o 20 (.bin .add (.t 12) (.t 19)),
 o 3 (.mv (.t 20))]))
 (rg [
 o 10 (.mv (.t 4)),
 o 11 (.bin .add (.t 10) (kc 1)),
 o 4 (.mv (.t 11))])))
def a92 : AF := ⟨22,
 (.seq
 (rg [
 o 1 (.box (.t 0)),
 o 2 (.mv (kc 0))])
 (.seq
 (rg [
 o 3 (.mv (kc 0))])
 (.seq
 (.seq
 (rg [
 o 4 (.mv (kc 0))])
 (.block 0
 (.loop [1, 3, 4] a92_0)))
 (.seq
 (rg [
 o 21 (.mv (.t 3)),
 o 2 (.mv (.t 21))])
 .ret)))),
 [.t 2], false⟩
def a93 : AF := ⟨17,
 (.seq
 (rg [
 o 1 (.box (.t 0)),
 o 2 (.mv (kc 0))])
 (.seq
 (.block 0
 (.seq
 (rg [
 o 4 (.fa 0 (.t 1)),
 o 5 (.ld none (.t 4)),
 o 6 (.callp 122 [(.t 5)]),
 o 7 (.mv (.t 6)),
 og 8 7 false (.fa 1 (.t 1)),
 og 9 7 false (.ld none (.t 8)),
 og 10 7 false (.callp 122 [(.t 9)]),
 o 11 (.pick (.t 7) (kb true) (.t 10)),
 o 3 (.mv (.t 11))])
 (.cond (.t 3)
 (.seq
 (rg [
 o 2 (.mv (kc 6))])
 .ret)
 (.seq
 (rg [
 o 13 (.fa 2 (.t 1)),
 o 14 (.ld none (.t 13)),
 o 15 (.len true (.t 14)),
 o 16 (.bin .gtr (.t 15) (kc 64)),
 o 12 (.mv (.t 16))])
 (.cond (.t 12)
 (.seq
 (rg [
 o 2 (.mv (kc 5))])
 .ret)
 .skip)))))
 (.seq
 (rg [
 o 2 (.mv (kc 0))])
 .ret))),
 [.t 2], false⟩
def a94 : AF := ⟨21,
 (.seq
 (rg [
 o 2 (.mv (ks [])),
 o 3 (.mv (kc 0))])
 (.seq
 (.seq
 (rg [
 o 5 (.mv (.t 0)),
 o 6 (.len true (.t 5)),
 o 7 (.callp 119 [(.t 6)]),
 o 8 (.un .not (.t 7))])
 (.cond (.t 8)
 (.seq
 (rg [
 o 2 (.mv (ks [])),
 o 3 (.mv (kc 5))])
 .ret)
 .skip))
 (.seq
 (rg [
 o 9 (.mv (.t 0)),
 o 10 (.len true (.t 9)),
 o 11 (.callp 95 [(.t 10)]),
 o 4 (.mv (.t 11))])
 (.seq
 (rg [
 o 12 (.mv (.t 4)),
 o 13 (.mv (.t 4)),
 o 14 (.mv (.t 0)),
 o 15 (.bsl 1 [[.s []], [.s []]] [(0, (.t 13)), (1, (.t 14))]),
 o 16 (.callz 123 [(.t 15)]),
 o 17 (.callp 104 [(.t 16)]),
 o 18 (.bin .add (.t 12) (.t 17)),
 o 19 (.mv (.t 0)),
 o 20 (.bin .add (.t 18) (.t 19)),
 o 2 (.mv (.t 20)),
 o 3 (.mv (kc 0))])
 .ret)))),
 [.t 2, .t 3], false⟩
def a95_0 : AC :=
 (.seq
 (rg [
 o 11 (.bin .lss (.t 10) (.t 9))])
 (.seq
 (.cond (.t 11)
 .skip
 (.exit 0))
 (.seq
 (.block 1
 (.seq
 (rg [
 o 12 (.mv (.t 10)),
 o 4 (.mv (.t 12))])
 (rg [
 o 13 (.mv (.t 3)),
 o 14 (.mv (.t 4)),
 o 15 (.mv (.t 0)),
 o 16 (.mv (.t 4)),
 o 17 (.bin .mul (kc 7) (.t 16)),
 o 18 (.cvi .u64 (.t 17)),
 o 19 (.bin .shr (.t 15) (.t 18)),
 o 20 (.cvi .u8 (.t 19)),
 o 21 (.bin .or (.t 20) (kx (.d (.i .u8 128)))),
 o 22 (.ia 1 (.t 13) (.t 14)),
 on (.st 1 (.t 22) (.t 21))])))
 (rg [
 o 23 (.bin .add (.t 10) (kc 1)),
 o 10 (.mv (.t 23))]))))
def a95 : AF := ⟨37,
 (.seq
 (rg [
 o 2 (.mv (ks []))])
 (.seq
 (rg [
 o 5 (.mv (.t 0)),
 o 6 (.callp 87 [(.t 5)]),
 o 7 (.mks 1 1 [.i .u8 0] (.t 6) (.t 6)),
 o 3 (.mv (.t 7))])
 (.seq
 (.seq
 (rg [
 o 8 (.mv (.t 3)),
 o 9 (.len false (.t 8)),
 o 10 (.mv (kc 0))])
 (.block 0
 (.loop [0, 3, 9, 10] a95_0)))
 (.seq
 (.seq
 (rg [
 o 24 (.mv (.t 3)),
 o 25 (.len false (.t 24)),
 o 26 (.bin .gtr (.t 25) (kc 0))])
 (.cond (.t 26)
 (rg [
 o 27 (.mv (.t 3)),
 o 28 (.mv (.t 3)),
 o 29 (.len false (.t 28)),
 o 30 (.bin .sub (.t 29) (kc 1)),
 o 31 (.ia 1 (.t 27) (.t 30)),
 o 32 (.ld none (.t 31)),
 o 33 (.bin .and (.t 32) (kx (.d (.i .u8 127)))),
 o 34 (.ia 1 (.t 27) (.t 30)),
 on (.st 1 (.t 34) (.t 33))])
 .skip))
 (.seq
 (rg [
 o 35 (.mv (.t 3)),
 o 36 (.b2s (.t 35)),
 o 2 (.mv (.t 36))])
 .ret))))),
 [.t 2], false⟩
def a96 : AF := ⟨50,
 (.seq
 (rg [
 o 3 (.box (.t 0)),
 o 6 (.alloc [.ns, .d (.i .i64 0), .d (.b false), .d (.i .i64 0), .d (.b false)]),
 o 7 (.mv (kc 0))])
 (.seq
 (.seq
 (rg [
 o 12 (.fa 4 (.t 3)),
 o 13 (.ld none (.t 12))])
 (.cond (.t 13)
 (.seq
 (rg [
 o 14 (.ld (some 5) (.t 3)),
 on (.st 5 (.t 6) (.t 14)),
 o 7 (.mv (kc 10))])
 .ret)
 .skip))
 (.seq
 (rg [
 o 15 (.fa 0 (.t 3)),
 o 16 (.ld none (.t 15)),
 o 17 (.call 124 [(.t 16)]),
 o 8 (.mv (.t 17))])
 (.seq
 (rg [
 o 19 (.mv (.t 8)),
 o 20 (.mv (.t 1)),
 o 21 (.call 78 [(.t 19), (.t 20)]),
 o 18 (.mv (.t 21)),
 o 22 (.ext (.t 18) 0),
 o 23 (.ext (.t 18) 1),
 o 9 (.mv (.t 22)),
 o 10 (.mv (.t 23))])
 (.seq
 (rg [
 o 25 (.mv (.t 2)),
 o 26 (.mv (.t 8)),
 o 27 (.mv (.t 9)),
 o 28 (.mv (.t 10)),
 o 29 (.callv (.t 25) [(.t 26), (.t 27), (.t 28)]),
 o 24 (.mv (.t 29)),
 o 30 (.ext (.t 24) 0),
 o 31 (.ext (.t 24) 1),
 o 8 (.mv (.t 30)),
 o 11 (.mv (.t 31))])
 (.seq
 (.seq
 (rg [
 o 32 (.mv (.t 11)),
 o 33 (.bin .neq (.t 32) (kc 0))])
 (.cond (.t 33)
 (.seq
 (rg [
 o 34 (.ld (some 5) (.t 3)),
 o 35 (.mv (.t 11)),
 on (.st 5 (.t 6) (.t 34)),
 o 7 (.mv (.t 35))])
 .ret)
 .skip))
 (.seq
 (.seq
 (rg [
 o 36 (.fa 2 (.t 3)),
 o 37 (.ld none (.t 36))])
 (.cond (.t 37)
 (.seq
 (.seq
 (rg [
 o 38 (.fa 3 (.t 3)),
 o 39 (.ld none (.t 38)),
 o 40 (.bin .eql (.t 39) (kc 0))])
 (.cond (.t 40)
 (.seq
 (rg [
 o 41 (.fa 4 (.t 3)),
 on (.st 1 (.t 41) (kb true))])
 (.seq
 (rg [
 o 42 (.ld (some 5) (.t 3)),
 on (.st 5 (.t 6) (.t 42)),
 o 7 (.mv (kc 10))])
 .ret))
 .skip))
 (rg [
 o 43 (.fa 3 (.t 3)),
 o 44 (.ld none (.t 43)),
 o 45 (.bin .sub (.t 44) (kc 1)),
 o 46 (.fa 3 (.t 3)),
 on (.st 1 (.t 46) (.t 45))]))
 .skip))
 (.seq
 (rg [
 o 47 (.mv (.t 8)),
 o 48 (.fa 0 (.t 3)),
 on (.st 1 (.t 48) (.t 47))])
 (.seq
 (rg [
 o 49 (.ld (some 5) (.t 3)),
 on (.st 5 (.t 6) (.t 49)),
 o 7 (.mv (kc 0))])
 .ret))))))))),
 [.c (some 5) 6, .t 7], false⟩
def a97 : AF := ⟨37,
 (.seq
 (rg [
 oz 8 (.mv (kx (.ns))),
 o 9 (.mv (kc 0))])
 (.seq
 (.block 0
 (.seq
 (rg [
 o 11 (.mv (.t 2)),
 o 12 (.un .not (.t 11)),
 o 10 (.mv (.t 12))])
 (.cond (.t 10)
 (.seq
 (rg [
 oz 8 (.mv (kx (.ns))),
 o 9 (.mv (kc 7))])
 .ret)
 (.seq
 (rg [
 o 14 (.fa 1 (.t 3)),
 o 15 (.ld none (.t 14)),
 o 16 (.bin .gtr (.t 15) (kc 0)),
 o 17 (.mv (.t 16)),
 og 18 17 true (.ld none (.t 4)),
 og 19 17 true (.len true (.t 18)),
 og 20 17 true (.fa 1 (.t 3)),
 og 21 17 true (.ld none (.t 20)),
 og 22 17 true (.ld (some 5) (.t 3)),
 og 23 17 true (.callp 98 [(.t 22)]),
 og 24 17 true (.bin .sub (.t 21) (.t 23)),
 og 25 17 true (.bin .gtr (.t 19) (.t 24)),
 o 26 (.pick (.t 17) (.t 25) (kb false)),
 o 13 (.mv (.t 26))])
 (.cond (.t 13)
 (.seq
 (rg [
 oz 8 (.mv (kx (.ns))),
 o 9 (.mv (kc 9))])
 .ret)
 .skip)))))
 (.seq
 (rg [
 o 27 (.mv (.t 0)),
 o 28 (.mv (.t 1)),
 o 29 (.ia 3 (.t 27) (.t 28)),
 o 30 (.fa 1 (.t 29)),
 o 31 (.ld none (.t 30)),
 o 32 (.ld none (.t 4)),
 o 33 (.bin .add (.t 31) (.t 32)),
 o 34 (.ia 3 (.t 27) (.t 28)),
 o 35 (.fa 1 (.t 34)),
 on (.st 1 (.t 35) (.t 33))])
 (.seq
 (rg [
 o 36 (.mv (.t 0)),
 o 8 (.mv (.t 36)),
 o 9 (.mv (kc 0))])
 .ret)))),
 [.t 8, .t 9], false⟩
def a98_0 : AC :=
 (.seq
 (rg [
 o 10 (.bin .lss (.t 9) (.t 8))])
 (.seq
 (.cond (.t 10)
 .skip
 (.exit 0))
 (.seq
 (.block 1
 (.seq
 (rg [
 o 11 (.ia 3 (.t 7) (.t 9)),
 o 12 (.ld (some 3) (.t 11)),
 o 5 (.alloc [.d (.s []), .d (.s []), .d (.i .i64 0)]),
 on (.st 3 (.t 5) (.t 12))])
 (rg [
 o 13 (.mv (.t 3)),
 o 14 (.fa 1 (.t 5)),
 o 15 (.ld none (.t 14)),
 o 16 (.len true (.t 15)),
 o 17 (.bin .add (.t 13) (.t 16)),
 o 3 (.mv (.t 17))])))
 (rg [
 o 18 (.bin .add (.t 9) (kc 1)),
 o 9 (.mv (.t 18))]))))
def a98 : AF := ⟨20,
 (.seq
 (rg [
 o 1 (.box (.t 0)),
 o 2 (.mv (kc 0))])
 (.seq
 (rg [
 o 3 (.mv (kc 0))])
 (.seq
 (.seq
 (rg [
 o 6 (.fa 0 (.t 1)),
 o 7 (.ld none (.t 6)),
 o 8 (.len false (.t 7)),
 o 9 (.mv (kc 0))])
 (.block 0
 (.loop [3, 7, 8, 9] a98_0)))
 (.seq
 (rg [
 o 19 (.mv (.t 3)),
 o 2 (.mv (.t 19))])
 .ret)))),
 [.t 2], false⟩
def a99 : AF := ⟨21,
 (.seq
 (rg [
 oz 6 (.mv (kx (.ns))),
 o 7 (.mv (kc 0))])
 (.seq
 (.seq
 (rg [
 o 8 (.mv (.t 2)),
 o 9 (.un .not (.t 8))])
 (.cond (.t 9)
 (.seq
 (rg [
 oz 6 (.mv (kx (.ns))),
 o 7 (.mv (kc 7))])
 .ret)
 .skip))
 (.seq
 (rg [
 o 10 (.mv (.t 0)),
 o 11 (.mv (.t 1)),
 o 12 (.mv (.t 0)),
 o 13 (.mv (.t 1)),
 o 14 (.ia 3 (.t 12) (.t 13)),
 o 15 (.fa 1 (.t 14)),
 o 16 (.ld none (.t 15)),
 o 17 (.len true (.t 16)),
 o 18 (.ia 3 (.t 10) (.t 11)),
 o 19 (.fa 2 (.t 18)),
 on (.st 1 (.t 19) (.t 17))])
 (.seq
 (rg [
 o 20 (.mv (.t 0)),
 o 6 (.mv (.t 20)),
 o 7 (.mv (kc 0))])
 .ret)))),
 [.t 6, .t 7], false⟩
def a100 : AF := ⟨21,
 (.seq
 (rg [
 oz 7 (.mv (kx (.ns))),
 o 8 (.mv (kc 0))])
 (.seq
 (.block 0
 (.seq
 (rg [
 o 10 (.ld none (.t 3)),
 o 11 (.callp 101 [(.t 10)]),
 o 12 (.un .not (.t 11)),
 o 9 (.mv (.t 12))])
 (.cond (.t 9)
 (.seq
 (rg [
 oz 7 (.mv (kx (.ns))),
 o 8 (.mv (kc 1))])
 .ret)
 (.seq
 (rg [
 o 14 (.mv (.t 2)),
 o 13 (.mv (.t 14))])
 (.cond (.t 13)
 (.seq
 (rg [
 oz 7 (.mv (kx (.ns))),
 o 8 (.mv (kc 8))])
 .ret)
 .skip)))))
 (.seq
 (rg [
 o 15 (.mv (.t 0)),
 o 16 (.mv (.t 1)),
 o 17 (.ld none (.t 3)),
 o 18 (.build [.d (.s []), .d (.s []), .d (.i .i64 0)] [(0, 1, (.t 17))]),
 o 19 (.bsl 3 [[.s [], .s [], .i .i64 0]] [(0, (.t 18))]),
 o 20 (.call 102 [(.t 15), (.t 16), (.t 19)]),
 oz 7 (.mv (.t 20)),
 o 8 (.mv (kc 0))])
 .ret))),
 [.t 7, .t 8], false⟩
def a101 : AF := ⟨10,
 (.seq
 (rg [
 o 2 (.mv (kb false))])
 (.seq
 (rg [
 o 3 (.mv (.t 0)),
 o 4 (.bin .neq (.t 3) (ks [])),
 o 5 (.mv (.t 4)),
 og 6 5 true (.mv (.t 0)),
 og 7 5 true (.len true (.t 6)),
 og 8 5 true (.bin .leq (.t 7) (kc 32)),
 o 9 (.pick (.t 5) (.t 8) (kb false)),
 o 2 (.mv (.t 9))])
 .ret)),
 [.t 2], false⟩
def a103_0 : AC :=
 (.seq
 (rg [
 o 30 (.bin .lss (.t 29) (.t 28))])
 (.seq
 (.cond (.t 30)
 .skip
 (.exit 0))
 (.seq
 (.block 1
 (.seq
 (rg [
 o 31 (.ia 1 (.t 27) (.t 29)),
 o 32 (.ld none (.t 31)),
 o 5 (.mv (.t 32))])
 (.seq
 (.seq
 (rg [
 o 33 (.mv (.t 5)),
 o 34 (.mv (.t 3)),
 o 35 (.bin .leq (.t 33) (.t 34)),
 o 36 (.mv (.t 35)),
 og 37 36 false (.mv (.t 5)),
 og 38 36 false (.bin .gtr (.t 37) (kc 1099511627776)),
 o 39 (.pick (.t 36) (kb true) (.t 38))])
 (.cond (.t 39)
 (.seq
 (rg [
 o 2 (.mv (kb false))])
 .ret)
 .skip))
 (rg [
 o 40 (.mv (.t 5)),
 o 3 (.mv (.t 40))]))))
 (rg [
 o 41 (.bin .add (.t 29) (kc 1)),
 o 29 (.mv (.t 41))]))))
def a103 : AF := ⟨63,
 (.seq
 (rg [
 o 1 (.box (.t 0)),
 o 2 (.mv (kb false))])
 (.seq
 (.seq
 (rg [
 o 6 (.fa 0 (.t 1)),
 o 7 (.ld none (.t 6)),
 o 8 (.bin .lss (.t 7) (kc 1)),
 o 9 (.mv (.t 8)),
 og 10 9 false (.fa 0 (.t 1)),
 og 11 9 false (.ld none (.t 10)),
 og 12 9 false (.bin .gtr (.t 11) (kc 1099511627776)),
 o 13 (.pick (.t 9) (kb true) (.t 12)),
 o 14 (.mv (.t 13)),
 og 15 14 false (.fa 1 (.t 1)),
 og 16 14 false (.ld none (.t 15)),
 og 17 14 false (.len false (.t 16)),
 og 18 14 false (.bin .eql (.t 17) (kc 0)),
 o 19 (.pick (.t 14) (kb true) (.t 18)),
 o 20 (.mv (.t 19)),
 og 21 20 false (.fa 1 (.t 1)),
 og 22 20 false (.ld none (.t 21)),
 og 23 20 false (.len false (.t 22)),
 og 24 20 false (.bin .gtr (.t 23) (kc 64)),
 o 25 (.pick (.t 20) (kb true) (.t 24))])
 (.cond (.t 25)
 (.seq
 (rg [
 o 2 (.mv (kb false))])
 .ret)
 .skip))
 (.seq
 (rg [
 o 3 (.mv (kc (-1)))])
 (.seq
 (.seq
 (rg [
 o 26 (.fa 1 (.t 1)),
 o 27 (.ld none (.t 26)),
 o 28 (.len false (.t 27)),
 o 29 (.mv (kc 0))])
 (.block 0
 (.loop [1, 3, 27, 28, 29] a103_0)))
 (.seq
 (.seq
 (rg [
 o 42 (.fa 1 (.t 1)),
 o 43 (.ld none (.t 42)),
 o 44 (.ia 1 (.t 43) (kc 0)),
 o 45 (.ld none (.t 44)),
 o 46 (.bin .eql (.t 45) (kc 0))])
 (.cond (.t 46)
 (.seq
 (rg [
 o 47 (.fa 2 (.t 1)),
 o 48 (.ld none (.t 47)),
 o 49 (.bin .eql (.t 48) (kc 0)),
 o 50 (.mv (.t 49)),
 og 51 50 true (.fa 3 (.t 1)),
 og 52 50 true (.ld none (.t 51)),
 og 53 50 true (.bin .eql (.t 52) (kx (.d (.i .u32 0)))),
 o 54 (.pick (.t 50) (.t 53) (kb false)),
 o 2 (.mv (.t 54))])
 .ret)
 .skip))
 (.seq
 (rg [
 o 55 (.fa 2 (.t 1)),
 o 56 (.ld none (.t 55)),
 o 57 (.bin .gtr (.t 56) (kc 0)),
 o 58 (.mv (.t 57)),
 og 59 58 true (.fa 2 (.t 1)),
 og 60 58 true (.ld none (.t 59)),
 og 61 58 true (.bin .leq (.t 60) (kc 65536)),
 o 62 (.pick (.t 58) (.t 61) (kb false)),
 o 2 (.mv (.t 62))])
 .ret)))))),
 [.t 2], false⟩
def a104 : AF := ⟨16,
 (.seq
 (rg [
 o 2 (.mv (ks []))])
 (.seq
 (rg [
 o 3 (.mv (.t 0)),
 o 4 (.cvi .u8 (.t 3)),
 o 5 (.mv (.t 0)),
 o 6 (.bin .shr (.t 5) (kx (.d (.i .u64 8)))),
 o 7 (.cvi .u8 (.t 6)),
 o 8 (.mv (.t 0)),
 o 9 (.bin .shr (.t 8) (kx (.d (.i .u64 16)))),
 o 10 (.cvi .u8 (.t 9)),
 o 11 (.mv (.t 0)),
 o 12 (.bin .shr (.t 11) (kx (.d (.i .u64 24)))),
 o 13 (.cvi .u8 (.t 12)),
 o 14 (.bsl 1 (List.replicate 4 [.i .u8 0]) [(0, (.t 4)), (1, (.t 7)), (2, (.t 10)), (3, (.t 13))]),
 o 15 (.b2s (.t 14)),
 o 2 (.mv (.t 15))])
 .ret)),
 [.t 2], false⟩
def a105 : AF := ⟨10,
 (.seq
 (rg [
 o 2 (.box (.t 0)),
 o 3 (.alloc [.ns, .d (.i .i64 0), .d (.b false), .d (.i .i64 0), .d (.b false)]),
 o 4 (.mv (kc 0))])
 (.seq
 (rg [
 o 5 (.ld (some 5) (.t 2)),
 o 6 (.ld none (.t 1)),
 o 7 (.callp 106 [(.t 5), (.t 6)]),
 o 8 (.ext (.t 7) 0),
 o 9 (.ext (.t 7) 1),
 on (.st 5 (.t 3) (.t 8)),
 o 4 (.mv (.t 9))])
 .ret)),
 [.c (some 5) 3, .t 4], false⟩
def a106 : AF := ⟨11,
 (.seq
 (rg [
 o 2 (.box (.t 0)),
 o 4 (.alloc [.ns, .d (.i .i64 0), .d (.b false), .d (.i .i64 0), .d (.b false)]),
 o 5 (.mv (kc 0))])
 (.seq
 (rg [
 o 6 (.ld (some 5) (.t 2)),
 o 7 (.mv (.t 1)),
 o 8 (.call 96 [(.t 6), (.t 7), (kx (.f 127 []))]),
 o 9 (.ext (.t 8) 0),
 o 10 (.ext (.t 8) 1),
 on (.st 5 (.t 4) (.t 9)),
 o 5 (.mv (.t 10))])
 .ret)),
 [.c (some 5) 4, .t 5], false⟩
def a107 : AF := ⟨10,
 (.seq
 (rg [
 o 2 (.box (.t 0)),
 o 3 (.alloc [.ns, .d (.i .i64 0), .d (.b false), .d (.i .i64 0), .d (.b false)]),
 o 4 (.mv (kc 0))])
 (.seq
 (rg [
 o 5 (.ld (some 5) (.t 2)),
 o 6 (.ld none (.t 1)),
 o 7 (.callp 59 [(.t 5), (.t 6)]),
 o 8 (.ext (.t 7) 0),
 o 9 (.ext (.t 7) 1),
 on (.st 5 (.t 3) (.t 8)),
 o 4 (.mv (.t 9))])
 .ret)),
 [.c (some 5) 3, .t 4], false⟩
def a108 : AF := ⟨47,
 (.seq
 (rg [
 oz 7 (.mv (kx (.ns))),
 o 8 (.mv (kc 0))])
 (.seq
 (.block 0
 (.seq
 (rg [
 o 13 (.mv (.t 2)),
 o 14 (.un .not (.t 13)),
 o 12 (.mv (.t 14))])
 (.cond (.t 12)
 (.seq
 (rg [
 oz 7 (.mv (kx (.ns))),
 o 8 (.mv (kc 7))])
 .ret)
 (.seq
 (rg [
 o 16 (.ld none (.t 3)),
 o 17 (.callp 101 [(.t 16)]),
 o 18 (.un .not (.t 17)),
 o 15 (.mv (.t 18))])
 (.cond (.t 15)
 (.seq
 (rg [
 oz 7 (.mv (kx (.ns))),
 o 8 (.mv (kc 1))])
 .ret)
 .skip)))))
 (.seq
 (rg [
 o 19 (.mv (.t 0)),
 o 20 (.mv (.t 1)),
 o 21 (.ia 3 (.t 19) (.t 20)),
 o 22 (.ld (some 3) (.t 21)),
 o 9 (.alloc [.d (.s []), .d (.s []), .d (.i .i64 0)]),
 on (.st 3 (.t 9) (.t 22))])
 (.seq
 (rg [
 o 23 (.ld none (.t 3)),
 o 24 (.fa 0 (.t 9)),
 on (.st 1 (.t 24) (.t 23))])
 (.seq
 (rg [
 o 25 (.mv (.t 0)),
 o 26 (.mv (.t 1)),
 o 27 (.mv (.t 1)),
 o 28 (.bin .add (.t 27) (kc 1)),
 o 29 (.call 109 [(.t 25), (.t 26), (.t 28)]),
 o 0 (.mv (.t 29))])
 (.seq
 (rg [
 o 31 (.mv (.t 0)),
 o 32 (.ld none (.t 3)),
 o 33 (.call 78 [(.t 31), (.t 32)]),
 o 30 (.mv (.t 33)),
 o 34 (.ext (.t 30) 0),
 o 35 (.ext (.t 30) 1),
 o 10 (.mv (.t 34)),
 o 11 (.mv (.t 35))])
 (.seq
 (.seq
 (rg [
 o 36 (.mv (.t 11))])
 (.cond (.t 36)
 (.seq
 (rg [
 o 37 (.mv (.t 0)),
 o 38 (.mv (.t 10)),
 o 39 (.ld (some 3) (.t 9)),
 o 40 (.ia 3 (.t 37) (.t 38)),
 on (.st 3 (.t 40) (.t 39))])
 (.seq
 (rg [
 o 41 (.mv (.t 0)),
 o 7 (.mv (.t 41)),
 o 8 (.mv (kc 0))])
 .ret))
 .skip))
 (.seq
 (rg [
 o 42 (.mv (.t 0)),
 o 43 (.mv (.t 10)),
 o 44 (.ld (some 3) (.t 9)),
 o 45 (.bsl 3 [[.s [], .s [], .i .i64 0]] [(0, (.t 44))]),
 o 46 (.call 102 [(.t 42), (.t 43), (.t 45)]),
 oz 7 (.mv (.t 46)),
 o 8 (.mv (kc 0))])
 .ret)))))))),
 [.t 7, .t 8], false⟩
def a110 : AF := ⟨9,
 (.seq
 (rg [
 o 2 (.mv (kb false))])
 (.seq
 (rg [
 o 3 (.mv (.t 0)),
 o 4 (.bin .geq (.t 3) (kc 0)),
 o 5 (.mv (.t 4)),
 og 6 5 true (.mv (.t 0)),
 og 7 5 true (.bin .leq (.t 6) (kc 1099511627776)),
 o 8 (.pick (.t 5) (.t 7) (kb false)),
 o 2 (.mv (.t 8))])
 .ret)),
 [.t 2], false⟩
def a111 : AF := ⟨17,
 (.seq
 (rg [
 o 1 (.box (.t 0)),
 o 2 (.mv (kc 0))])
 (.seq
 (.seq
 (rg [
 o 3 (.fa 0 (.t 1)),
 o 4 (.ld none (.t 3)),
 o 5 (.callp 110 [(.t 4)]),
 o 6 (.un .not (.t 5)),
 o 7 (.mv (.t 6)),
 og 8 7 false (.fa 1 (.t 1)),
 og 9 7 false (.ld none (.t 8)),
 og 10 7 false (.callp 110 [(.t 9)]),
 og 11 7 false (.un .not (.t 10)),
 o 12 (.pick (.t 7) (kb true) (.t 11))])
 (.cond (.t 12)
 (.seq
 (rg [
 o 2 (.mv (kc 6))])
 .ret)
 .skip))
 (.seq
 (.seq
 (rg [
 o 13 (.fa 2 (.t 1)),
 o 14 (.ld none (.t 13)),
 o 15 (.len true (.t 14)),
 o 16 (.bin .gtr (.t 15) (kc 64))])
 (.cond (.t 16)
 (.seq
 (rg [
 o 2 (.mv (kc 5))])
 .ret)
 .skip))
 (.seq
 (rg [
 o 2 (.mv (kc 0))])
 .ret)))),
 [.t 2], false⟩
def a112 : AF := ⟨13,
 (.seq
 (rg [
 o 1 (.box (.t 0)),
 o 2 (.mv (ks []))])
 (.seq
 (rg [
 o 3 (.fa 0 (.t 1)),
 o 4 (.ld none (.t 3)),
 o 5 (.callp 88 [(.t 4)]),
 o 6 (.fa 1 (.t 1)),
 o 7 (.ld none (.t 6)),
 o 8 (.callp 88 [(.t 7)]),
 o 9 (.bin .add (.t 5) (.t 8)),
 o 10 (.fa 2 (.t 1)),
 o 11 (.ld none (.t 10)),
 o 12 (.bin .add (.t 9) (.t 11)),
 o 2 (.mv (.t 12))])
 .ret)),
 [.t 2], false⟩
def a113_0 : AC :=
 (.seq
 (.seq
 (rg [
 o 15 (.mv (.t 9)),
 o 16 (.mv (.t 10)),
 o 17 (.bin .lss (.t 15) (.t 16))])
 (.cond (.t 17)
 .skip
 (.exit 0)))
 (.block 1
 (.seq
 (rg [
 o 18 (.mv (.t 9)),
 o 19 (.mv (.t 10)),
 o 20 (.bin .add (.t 18) (.t 19)),
 o 21 (.cvi .u64 (.t 20)),
 o 22 (.bin .shr (.t 21) (kx (.d (.i .u64 1)))),
 o 23 (.cvi .i64 (.t 22)),
 o 11 (.mv (.t 23))])
 (.seq
 (rg [
 o 24 (.mv (.t 2)),
 o 25 (.mv (.t 0)),
 o 26 (.mv (.t 11)),
 o 27 (.ia 3 (.t 25) (.t 26)),
 o 28 (.ld (some 3) (.t 27)),
 o 29 (.mv (.t 1)),
 o 30 (.callv (.t 24) [(.t 28), (.t 29)]),
 o 31 (.bin .lss (.t 30) (kc 0))])
 (.cond (.t 31)
 (rg [
 o 32 (.mv (.t 11)),
 o 33 (.bin .add (.t 32) (kc 1)),
 o 9 (.mv (.t 33))])
 (rg [
 o 34 (.mv (.t 11)),
 o 10 (.mv (.t 34))]))))))
def a113 : AF := ⟨49,
 (.seq
 (rg [
 o 6 (.mv (kc 0)),
 o 7 (.mv (kb false))])
 (.seq
 (rg [
 o 12 (.mv (.t 0)),
 o 13 (.len false (.t 12)),
 o 8 (.mv (.t 13))])
 (.seq
 (rg [
 o 14 (.mv (.t 8)),
 o 9 (.mv (kc 0)),
 o 10 (.mv (.t 14))])
 (.seq
 (.block 0
 (.loop [0, 1, 2, 8, 9, 10] a113_0))
 (.seq
 (rg [
 o 35 (.mv (.t 9)),
 o 36 (.mv (.t 9)),
 o 37 (.mv (.t 8)),
 o 38 (.bin .lss (.t 36) (.t 37)),
 o 39 (.mv (.t 38)),
 og 40 39 true (.mv (.t 2)),
 og 41 39 true (.mv (.t 0)),
 og 42 39 true (.mv (.t 9)),
 og 43 39 true (.ia 3 (.t 41) (.t 42)),
 og 44 39 true (.ld (some 3) (.t 43)),
 og 45 39 true (.mv (.t 1)),
 og 46 39 true (.callv (.t 40) [(.t 44), (.t 45)]),
 og 47 39 true (.bin .eql (.t 46) (kc 0)),
 o 48 (.pick (.t 39) (.t 47) (kb false)),
 o 6 (.mv (.t 35)),
 o 7 (.mv (.t 48))])
 .ret))))),
 [.t 6, .t 7], false⟩
def a114 : AF := ⟨15,
 (.seq
 (rg [
 o 2 (.box (.t 0)),
 o 4 (.mv (kc 0))])
 (.seq
 (.block 0
 (.seq
 (rg [
 o 6 (.fa 0 (.t 2)),
 o 7 (.ld none (.t 6)),
 o 8 (.mv (.t 1)),
 o 9 (.bin .lss (.t 7) (.t 8)),
 o 5 (.mv (.t 9))])
 (.cond (.t 5)
 (.seq
 (rg [
 o 4 (.mv (kc (-1)))])
 .ret)
 (.seq
 (rg [
 o 11 (.fa 0 (.t 2)),
 o 12 (.ld none (.t 11)),
 o 13 (.mv (.t 1)),
 o 14 (.bin .gtr (.t 12) (.t 13)),
 o 10 (.mv (.t 14))])
 (.cond (.t 10)
 (.seq
 (rg [
 o 4 (.mv (kc 1))])
 .ret)
 .skip)))))
 (.seq
 (rg [
 o 4 (.mv (kc 0))])
 .ret))),
 [.t 4], false⟩
def a115_0 : AC :=
 (.seq
 (.seq
 (rg [
 o 8 (.ld none (.t 1)),
 o 9 (.nck (.t 8)),
 o 10 (.fa 1 (.t 9)),
 o 11 (.ld none (.t 10)),
 o 12 (.ld none (.t 1)),
 o 13 (.nck (.t 12)),
 o 14 (.fa 0 (.t 13)),
 o 15 (.ld none (.t 14)),
 o 16 (.len true (.t 15)),
 o 17 (.bin .lss (.t 11) (.t 16))])
 (.cond (.t 17)
 .skip
 (.exit 0)))
 (.block 1
 (.seq
 (rg [
 o 19 (.ld none (.t 1)),
 o 20 (.nck (.t 19)),
 o 21 (.fa 0 (.t 20)),
 o 22 (.ld none (.t 21)),
 o 23 (.ld none (.t 1)),
 o 24 (.nck (.t 23)),
 o 25 (.fa 1 (.t 24)),
 o 26 (.ld none (.t 25)),
 o 27 (.callp 116 [(.t 22), (.t 26)]),
 o 18 (.mv (.t 27)),
 o 28 (.ext (.t 18) 0),
 o 29 (.ext (.t 18) 1),
 o 30 (.ext (.t 18) 2),
 o 3 (.mv (.t 28)),
 o 4 (.mv (.t 29)),
 o 5 (.mv (.t 30))])
 (.seq
 (.seq
 (rg [
 o 31 (.mv (.t 5)),
 o 32 (.bin .neq (.t 31) (kc 0))])
 (.cond (.t 32)
 (.seq
 (rg [
 o 33 (.ld none (.t 1)),
 o 34 (.mv (.t 5)),
 o 35 (.nck (.t 33)),
 o 36 (.fa 3 (.t 35)),
 on (.st 1 (.t 36) (.t 34))])
 .ret)
 .skip))
 (.seq
 (rg [
 o 38 (.mv (.t 3)),
 o 39 (.callp 117 [(.t 38)]),
 o 37 (.mv (.t 39)),
 o 40 (.ext (.t 37) 0),
 o 41 (.ext (.t 37) 1),
 o 6 (.alloc [.d (.i .i64 0), .d (.i .i64 0), .d (.s [])]),
 on (.st 3 (.t 6) (.t 40)),
 o 5 (.mv (.t 41))])
 (.seq
 (.seq
 (rg [
 o 42 (.mv (.t 5)),
 o 43 (.bin .eql (.t 42) (kc 0)),
 o 44 (.mv (.t 43)),
 og 45 44 true (.fa 0 (.t 6)),
 og 46 44 true (.ld none (.t 45)),
 og 47 44 true (.ld none (.t 1)),
 og 48 44 true (.nck (.t 47)),
 og 49 44 true (.fa 2 (.t 48)),
 og 50 44 true (.ld none (.t 49)),
 og 51 44 true (.bin .neq (.t 46) (.t 50)),
 o 52 (.pick (.t 44) (.t 51) (kb false))])
 (.cond (.t 52)
 (rg [
 o 5 (.mv (kc 3))])
 .skip))
 (.seq
 (.seq
 (rg [
 o 53 (.mv (.t 5)),
 o 54 (.bin .neq (.t 53) (kc 0))])
 (.cond (.t 54)
 (.seq
 (rg [
 o 55 (.ld none (.t 1)),
 o 56 (.mv (.t 5)),
 o 57 (.nck (.t 55)),
 o 58 (.fa 3 (.t 57)),
 on (.st 1 (.t 58) (.t 56))])
 .ret)
 .skip))
 (.seq
 (rd [
 o 59 (.ld (some 3) (.t 6)),
 o 60 (.ld none (.t 1)),
 od 61 [1] (.nck (.t 60)),
 od 62 [1, 2] (.fa 1 (.t 61)),
 od 63 [2, 1, 3] (.ld none (.t 62)),
 o 64 (.mv (.t 4)),
 od 65 [5, 3, 1, 2, 4, 0] (.build [.d (.i .i64 0), .d (.i .i64 0), .d (.s []), .d (.i .i64 0), .d (.i .i64 0)] [(0, 3, (.t 59)), (3, 1, (.t 63)), (4, 1, (.t 64))]),
 o 7 (.alloc [.d (.i .i64 0), .d (.i .i64 0), .d (.s []), .d (.i .i64 0), .d (.i .i64 0)]),
 ⟨none, .st 5 (.t 7) (.t 65), none, [0, 4, 2, 1, 3, 5, 6, 7], false⟩])
 (.seq
 (rd [
 o 66 (.ld none (.t 1)),
 o 67 (.ld none (.t 1)),
 o 68 (.mv (.t 4)),
 o 69 (.ld none (.t 1)),
 od 70 [3] (.nck (.t 69)),
 od 71 [3, 4] (.fa 2 (.t 70)),
 od 72 [4, 3, 5] (.ld none (.t 71)),
 od 73 [5, 3, 4, 6] (.bin .add (.t 72) (kc 1)),
 od 74 [5, 3, 4, 6, 2, 0] (.nck (.t 66)),
 od 75 [0, 2, 6, 4, 3, 5, 8] (.fa 1 (.t 74)),
 ⟨none, .st 1 (.t 75) (.t 68), none, [8, 5, 3, 4, 6, 2, 0, 9], false⟩,
 od 76 [10, 9, 8, 7, 6, 5, 4, 3, 2, 0, 1] (.nck (.t 67)),
 od 77 [1, 0, 2, 3, 4, 5, 6, 7, 8, 9, 10, 11] (.fa 2 (.t 76)),
 ⟨none, .st 1 (.t 77) (.t 73), none, [11, 10, 9, 8, 7, 6, 5, 4, 3, 2, 0, 1, 12], false⟩])
 (.seq
 (.yld [
 o 78 (.mv (.t 0)),
 o 79 (.ld (some 5) (.t 7))] (some 80) (.t 78) [(.t 79)] [
 o 81 (.un .not (.t 80))])
 (.cond (.t 81)
 .ret
 .skip)))))))))))
def a115 : AF := ⟨82,
 (.block 0
 (.loop [0, 1] a115_0)),
 [], false⟩
def a116 : AF := ⟨73,
 (.seq
 (rg [
 o 4 (.mv (ks [])),
 o 5 (.mv (kc 0)),
 o 6 (.mv (kc 0))])
 (.seq
 (.seq
 (rg [
 o 12 (.mv (.t 1)),
 o 13 (.bin .lss (.t 12) (kc 0)),
 o 14 (.mv (.t 13)),
 og 15 14 false (.mv (.t 1)),
 og 16 14 false (.mv (.t 0)),
 og 17 14 false (.len true (.t 16)),
 og 18 14 false (.bin .geq (.t 15) (.t 17)),
 o 19 (.pick (.t 14) (kb true) (.t 18)),
 o 20 (.mv (.t 19)),
 og 21 20 false (.mv (.t 0)),
 og 22 20 false (.mv (.t 1)),
 og 23 20 false (.sls (.t 21) (some (.t 22)) none),
 og 24 20 false (.callp 128 [(.t 23)]),
 o 25 (.pick (.t 20) (kb true) (.t 24))])
 (.cond (.t 25)
 (.seq
 (rg [
 o 4 (.mv (ks [])),
 o 5 (.mv (kc 0)),
 o 6 (.mv (kc 2))])
 .ret)
 .skip))
 (.seq
 (rg [
 o 27 (.mv (.t 0)),
 o 28 (.mv (.t 1)),
 o 29 (.callp 129 [(.t 27), (.t 28)]),
 o 26 (.mv (.t 29)),
 o 30 (.ext (.t 26) 0),
 o 31 (.ext (.t 26) 1),
 o 32 (.ext (.t 26) 2),
 o 7 (.mv (.t 30)),
 o 8 (.mv (.t 31)),
 o 9 (.mv (.t 32))])
 (.seq
 (.seq
 (rg [
 o 33 (.mv (.t 9)),
 o 34 (.un .not (.t 33)),
 o 35 (.mv (.t 34)),
 og 36 35 false (.mv (.t 7)),
 og 37 35 false (.callp 119 [(.t 36)]),
 og 38 35 false (.un .not (.t 37)),
 o 39 (.pick (.t 35) (kb true) (.t 38))])
 (.cond (.t 39)
 (.seq
 (rg [
 o 4 (.mv (ks [])),
 o 5 (.mv (kc 0)),
 o 6 (.mv (kc 3))])
 .ret)
 .skip))
 (.seq
 (rg [
 o 40 (.mv (.t 0)),
 o 41 (.mv (.t 1)),
 o 42 (.mv (.t 8)),
 o 43 (.sls (.t 40) (some (.t 41)) (some (.t 42))),
 o 10 (.mv (.t 43))])
 (.seq
 (rg [
 o 44 (.mv (.t 8)),
 o 45 (.bin .add (.t 44) (kc 4)),
 o 8 (.mv (.t 45))])
 (.seq
 (.seq
 (rg [
 o 46 (.mv (.t 7)),
 o 47 (.mv (.t 0)),
 o 48 (.len true (.t 47)),
 o 49 (.mv (.t 8)),
 o 50 (.bin .sub (.t 48) (.t 49)),
 o 51 (.bin .gtr (.t 46) (.t 50))])
 (.cond (.t 51)
 (.seq
 (rg [
 o 4 (.mv (ks [])),
 o 5 (.mv (kc 0)),
 o 6 (.mv (kc 2))])
 .ret)
 .skip))
 (.seq
 (rg [
 o 52 (.mv (.t 0)),
 o 53 (.mv (.t 8)),
 o 54 (.mv (.t 8)),
 o 55 (.mv (.t 7)),
 o 56 (.bin .add (.t 54) (.t 55)),
 o 57 (.sls (.t 52) (some (.t 53)) (some (.t 56))),
 o 11 (.mv (.t 57))])
 (.seq
 (.seq
 (rg [
 o 58 (.mv (.t 10)),
 o 59 (.mv (.t 11)),
 o 60 (.bsl 1 [[.s []], [.s []]] [(0, (.t 58)), (1, (.t 59))]),
 o 61 (.callz 123 [(.t 60)]),
 o 62 (.callp 104 [(.t 61)]),
 o 63 (.mv (.t 0)),
 o 64 (.mv (.t 8)),
 o 65 (.bin .sub (.t 64) (kc 4)),
 o 66 (.mv (.t 8)),
 o 67 (.sls (.t 63) (some (.t 65)) (some (.t 66))),
 o 68 (.bin .neq (.t 62) (.t 67))])
 (.cond (.t 68)
 (.seq
 (rg [
 o 4 (.mv (ks [])),
 o 5 (.mv (kc 0)),
 o 6 (.mv (kc 4))])
 .ret)
 .skip))
 (.seq
 (rg [
 o 69 (.mv (.t 11)),
 o 70 (.mv (.t 8)),
 o 71 (.mv (.t 7)),
 o 72 (.bin .add (.t 70) (.t 71)),
 o 4 (.mv (.t 69)),
 o 5 (.mv (.t 72)),
 o 6 (.mv (kc 0))])
 .ret)))))))))),
 [.t 4, .t 5, .t 6], false⟩
def a117 : AF := ⟨31,
 (.seq
 (rg [
 o 1 (.box (.t 0)),
 o 2 (.alloc [.d (.i .i64 0), .d (.i .i64 0), .d (.s [])]),
 o 3 (.mv (kc 0))])
 (.seq
 (rg [
 o 4 (.alloc [.d (.i .i64 0)]),
 o 5 (.alloc [.d (.b false)]),
 on (.st 1 (.t 4) (kc 0)),
 on (.st 1 (.t 5) (kb true))])
 (.seq
 (rg [
 o 9 (.mkf 130 [(.t 1), (.t 4), (.t 5)]),
 o 6 (.mv (.t 9))])
 (.seq
 (rg [
 o 10 (.mv (.t 6)),
 o 11 (.callv (.t 10) []),
 o 12 (.build [.d (.i .i64 0), .d (.i .i64 0), .d (.s [])] [(0, 1, (.t 11))]),
 o 7 (.alloc [.d (.i .i64 0), .d (.i .i64 0), .d (.s [])]),
 on (.st 3 (.t 7) (.t 12))])
 (.seq
 (.seq
 (rg [
 o 13 (.ld none (.t 5))])
 (.cond (.t 13)
 (rg [
 o 14 (.mv (.t 6)),
 o 15 (.callv (.t 14) []),
 o 16 (.fa 1 (.t 7)),
 on (.st 1 (.t 16) (.t 15))])
 .skip))
 (.seq
 (.seq
 (rg [
 o 17 (.ld none (.t 5)),
 o 18 (.un .not (.t 17))])
 (.cond (.t 18)
 (.seq
 (rg [
 o 19 (.build [.d (.i .i64 0), .d (.i .i64 0), .d (.s [])] []),
 on (.st 3 (.t 2) (.t 19)),
 o 3 (.mv (kc 3))])
 .ret)
 .skip))
 (.seq
 (rg [
 o 20 (.ld none (.t 1)),
 o 21 (.ld none (.t 4)),
 o 22 (.sls (.t 20) (some (.t 21)) none),
 o 23 (.fa 2 (.t 7)),
 on (.st 1 (.t 23) (.t 22))])
 (.seq
 (.seq
 (rg [
 o 24 (.ld (some 3) (.t 7)),
 o 25 (.callp 93 [(.t 24)]),
 o 8 (.mv (.t 25))])
 (.seq
 (rg [
 o 26 (.mv (.t 8)),
 o 27 (.bin .neq (.t 26) (kc 0))])
 (.cond (.t 27)
 (.seq
 (rg [
 o 28 (.build [.d (.i .i64 0), .d (.i .i64 0), .d (.s [])] []),
 o 29 (.mv (.t 8)),
 on (.st 3 (.t 2) (.t 28)),
 o 3 (.mv (.t 29))])
 .ret)
 .skip)))
 (.seq
 (rg [
 o 30 (.ld (some 3) (.t 7)),
 on (.st 3 (.t 2) (.t 30)),
 o 3 (.mv (kc 0))])
 .ret))))))))),
 [.c (some 3) 2, .t 3], false⟩
def a118_0 : AC :=
 (.seq
 (.seq
 (rg [
 o 21 (.mv (.t 10)),
 o 22 (.mv (.t 0)),
 o 23 (.len true (.t 22)),
 o 24 (.bin .lss (.t 21) (.t 23))])
 (.cond (.t 24)
 .skip
 (.exit 0)))
 (.block 1
 (.seq
 (rg [
 o 26 (.mv (.t 0)),
 o 27 (.mv (.t 10)),
 o 28 (.callp 131 [(.t 26), (.t 27)]),
 o 25 (.mv (.t 28)),
 o 29 (.ext (.t 25) 0),
 o 30 (.ext (.t 25) 1),
 o 31 (.ext (.t 25) 2),
 o 11 (.mv (.t 29)),
 o 12 (.mv (.t 30)),
 o 13 (.mv (.t 31))])
 (.seq
 (.seq
 (rg [
 o 32 (.mv (.t 13)),
 o 33 (.bin .neq (.t 32) (kc 0))])
 (.cond (.t 33)
 (.seq
 (rg [
 o 34 (.mv (.t 8)),
 o 35 (.mv (.t 9)),
 o 36 (.mv (.t 10)),
 o 37 (.mv (.t 13)),
 o 4 (.mv (.t 34)),
 o 5 (.mv (.t 35)),
 o 6 (.mv (.t 36)),
 o 7 (.mv (.t 37))])
 .ret)
 .skip))
 (.seq
 (rg [
 o 39 (.mv (.t 11)),
 o 40 (.callp 132 [(.t 39)]),
 o 38 (.mv (.t 40)),
 o 41 (.ext (.t 38) 0),
 o 42 (.ext (.t 38) 1),
 o 14 (.alloc [.d (.i .i64 0), .d (.i .i64 0), .d (.s [])]),
 on (.st 3 (.t 14) (.t 41)),
 o 13 (.mv (.t 42))])
 (.seq
 (.seq
 (rg [
 o 43 (.mv (.t 13)),
 o 44 (.bin .neq (.t 43) (kc 0))])
 (.cond (.t 44)
 (.seq
 (rg [
 o 45 (.mv (.t 8)),
 o 46 (.mv (.t 9)),
 o 47 (.mv (.t 10)),
 o 48 (.mv (.t 13)),
 o 4 (.mv (.t 45)),
 o 5 (.mv (.t 46)),
 o 6 (.mv (.t 47)),
 o 7 (.mv (.t 48))])
 .ret)
 .skip))
 (.seq
 (.seq
 (rg [
 o 49 (.fa 0 (.t 14)),
 o 50 (.ld none (.t 49)),
 o 51 (.mv (.t 1)),
 o 52 (.mv (.t 8)),
 o 53 (.len false (.t 52)),
 o 54 (.bin .add (.t 51) (.t 53)),
 o 55 (.bin .neq (.t 50) (.t 54))])
 (.cond (.t 55)
 (.seq
 (rg [
 o 56 (.mv (.t 8)),
 o 57 (.mv (.t 9)),
 o 58 (.mv (.t 10)),
 o 4 (.mv (.t 56)),
 o 5 (.mv (.t 57)),
 o 6 (.mv (.t 58)),
 o 7 (.mv (kc 3))])
 .ret)
 .skip))
 (.seq
 (rg [
 o 59 (.mv (.t 8)),
 o 60 (.ld (some 3) (.t 14)),
 o 61 (.bsl 3 [[.i .i64 0, .i .i64 0, .s []]] [(0, (.t 60))]),
 o 62 (.app false 3 32 (.t 59) (.t 61)),
 o 8 (.mv (.t 62))])
 (.seq
 (rg [
 o 63 (.mv (.t 9)),
 o 64 (.mv (.t 10)),
 o 65 (.bsl 1 [[.i .i64 0]] [(0, (.t 64))]),
 o 66 (.app false 1 8 (.t 63) (.t 65)),
 o 9 (.mv (.t 66))])
 (rg [
 o 67 (.mv (.t 12)),
 o 10 (.mv (.t 67))]))))))))))
def a118 : AF := ⟨71,
 (.seq
 (rg [
 oz 4 (.mv (kx (.ns))),
 oz 5 (.mv (kx (.ns))),
 o 6 (.mv (kc 0)),
 o 7 (.mv (kc 0))])
 (.seq
 (.seq
 (rg [
 o 15 (.mv (.t 1)),
 o 16 (.bin .lss (.t 15) (kc 0)),
 o 17 (.mv (.t 16)),
 og 18 17 false (.mv (.t 1)),
 og 19 17 false (.bin .gtr (.t 18) (kc 1099511627776)),
 o 20 (.pick (.t 17) (kb true) (.t 19))])
 (.cond (.t 20)
 (.seq
 (rg [
 oz 4 (.mv (kx (.ns))),
 oz 5 (.mv (kx (.ns))),
 o 6 (.mv (kc 0)),
 o 7 (.mv (kc 1))])
 .ret)
 .skip))
 (.seq
 (rg [
 o 8 (.own 3)])
 (.seq
 (rg [
 o 9 (.own 1)])
 (.seq
 (rg [
 o 10 (.mv (kc 0))])
 (.seq
 (.block 0
 (.loop [0, 1, 8, 9, 10] a118_0))
 (.seq
 (rg [
 o 68 (.mv (.t 8)),
 o 69 (.mv (.t 9)),
 o 70 (.mv (.t 10)),
 o 4 (.mv (.t 68)),
 o 5 (.mv (.t 69)),
 o 6 (.mv (.t 70)),
 o 7 (.mv (kc 0))])
 .ret))))))),
 [.t 4, .t 5, .t 6, .t 7], false⟩
def a119 : AF := ⟨9,
 (.seq
 (rg [
 o 2 (.mv (kb false))])
 (.seq
 (rg [
 o 3 (.mv (.t 0)),
 o 4 (.bin .geq (.t 3) (kc 1)),
 o 5 (.mv (.t 4)),
 og 6 5 true (.mv (.t 0)),
 og 7 5 true (.bin .leq (.t 6) (kc 65536)),
 o 8 (.pick (.t 5) (.t 7) (kb false)),
 o 2 (.mv (.t 8))])
 .ret)),
 [.t 2], false⟩
def a120 : AF := ⟨25,
 (.seq
 (rg [
 o 2 (.mv (kc 0))])
 (.seq
 (.seq
 (rg [
 o 3 (.mv (.t 0)),
 o 4 (.bin .geq (.t 3) (kx (.d (.i .u64 4294967296))))])
 (.cond (.t 4)
 (.seq
 (rg [
 o 5 (.mv (.t 0)),
 o 6 (.bin .shr (.t 5) (kx (.d (.i .u64 32)))),
 o 0 (.mv (.t 6))])
 (rg [
 o 2 (.mv (kc 32))]))
 .skip))
 (.seq
 (.seq
 (rg [
 o 7 (.mv (.t 0)),
 o 8 (.bin .geq (.t 7) (kx (.d (.i .u64 65536))))])
 (.cond (.t 8)
 (.seq
 (rg [
 o 9 (.mv (.t 0)),
 o 10 (.bin .shr (.t 9) (kx (.d (.i .u64 16)))),
 o 0 (.mv (.t 10))])
 (rg [
 o 11 (.mv (.t 2)),
 o 12 (.bin .add (.t 11) (kc 16)),
 o 2 (.mv (.t 12))]))
 .skip))
 (.seq
 (.seq
 (rg [
 o 13 (.mv (.t 0)),
 o 14 (.bin .geq (.t 13) (kx (.d (.i .u64 256))))])
 (.cond (.t 14)
 (.seq
 (rg [
 o 15 (.mv (.t 0)),
 o 16 (.bin .shr (.t 15) (kx (.d (.i .u64 8)))),
 o 0 (.mv (.t 16))])
 (rg [
 o 17 (.mv (.t 2)),
 o 18 (.bin .add (.t 17) (kc 8)),
 o 2 (.mv (.t 18))]))
 .skip))
 (.seq
 (rg [
 o 19 (.mv (.t 2)),
 o 20 (.mv (.t 0)),
 o 21 (.cvi .u8 (.t 20)),
 o 22 (.ixs (ks [0, 1, 2, 2, 3, 3, 3, 3, 4, 4, 4, 4, 4, 4, 4, 4, 5, 5, 5, 5, 5, 5, 5, 5, 5, 5, 5, 5, 5, 5, 5, 5, 6, 6, 6, 6, 6, 6, 6, 6, 6, 6, 6, 6, 6, 6, 6, 6, 6, 6, 6, 6, 6, 6, 6, 6, 6, 6, 6, 6, 6, 6, 6, 6, 7, 7, 7, 7, 7, 7, 7, 7, 7, 7, 7, 7, 7, 7, 7, 7, 7, 7, 7, 7, 7, 7, 7, 7, 7, 7, 7, 7, 7, 7, 7, 7, 7, 7, 7, 7, 7, 7, 7, 7, 7, 7, 7, 7, 7, 7, 7, 7, 7, 7, 7, 7, 7, 7, 7, 7, 7, 7, 7, 7, 7, 7, 7, 7, 8, 8, 8, 8, 8, 8, 8, 8, 8, 8, 8, 8, 8, 8, 8, 8, 8, 8, 8, 8, 8, 8, 8, 8, 8, 8, 8, 8, 8, 8, 8, 8, 8, 8, 8, 8, 8, 8, 8, 8, 8, 8, 8, 8, 8, 8, 8, 8, 8, 8, 8, 8, 8, 8, 8, 8, 8, 8, 8, 8, 8, 8, 8, 8, 8, 8, 8, 8, 8, 8, 8, 8, 8, 8, 8, 8, 8, 8, 8, 8, 8, 8, 8, 8, 8, 8, 8, 8, 8, 8, 8, 8, 8, 8, 8, 8, 8, 8, 8, 8, 8, 8, 8, 8, 8, 8, 8, 8, 8, 8, 8, 8, 8, 8, 8, 8, 8, 8, 8, 8, 8, 8, 8, 8, 8, 8, 8, 8]) (.t 21)),
 o 23 (.cvi .i64 (.t 22)),
 o 24 (.bin .add (.t 19) (.t 23)),
 o 2 (.mv (.t 24))])
 .ret))))),
 [.t 2], false⟩
def a121 : AF := ⟨5,
 (.seq
 (rg [
 o 2 (.mv (kx (.d (.i .u32 0))))])
 (.seq
 (rg [
 o 3 (.mv (.t 0)),
 o 4 (.callp 133 [(kx (.d (.i .u32 0))), (.t 3)]),
 o 2 (.mv (.t 4))])
 .ret)),
 [.t 2], false⟩
def a122 : AF := ⟨6,
 (.seq
 (rg [
 o 2 (.mv (kb false))])
 (.seq
 (rg [
 o 3 (.mv (.t 0)),
 o 4 (.cvi .u64 (.t 3)),
 o 5 (.bin .gtr (.t 4) (kx (.d (.i .u64 1099511627776)))),
 o 2 (.mv (.t 5))])
 .ret)),
 [.t 2], false⟩
def a123_0 : AC :=
 (.seq
 (rg [
 o 9 (.bin .lss (.t 8) (.t 7))])
 (.seq
 (.cond (.t 9)
 .skip
 (.exit 0))
 (.seq
 (.block 1
 (.seq
 (rg [
 o 10 (.ia 1 (.t 6) (.t 8)),
 o 11 (.ld none (.t 10)),
 o 5 (.mv (.t 11))])
 (rg [
 o 12 (.mv (.t 3)),
 o 13 (.mv (.t 5)),
 o 14 (.callp 134 [(.t 12), (.t 13)]),
 o 3 (.mv (.t 14))])))
 (rg [
 o 15 (.bin .add (.t 8) (kc 1)),
 o 8 (.mv (.t 15))]))))
def a123 : AF := ⟨17,
 (.seq
 (rg [
 o 2 (.mv (kx (.d (.i .u32 0))))])
 (.seq
 (rg [
 o 3 (.mv (kx (.d (.i .u32 0))))])
 (.seq
 (.seq
 (rg [
 o 6 (.mv (.t 0)),
 o 7 (.len false (.t 6)),
 o 8 (.mv (kc 0))])
 (.block 0
 (.loop [3, 6, 7, 8] a123_0)))
 (.seq
 (rg [
 o 16 (.mv (.t 3)),
 o 2 (.mv (.t 16))])
 .ret)))),
 [.t 2], false⟩
def a126 : AF := ⟨10,
 (rg [
 o 4 (.mv (.t 0)),
 o 5 (.mv (.t 0)),
 o 6 (.len false (.t 5)),
 o 7 (.mv (.t 1)),
 o 8 (.bin .sub (.t 6) (.t 7)),
 o 9 (.callp 135 [(.t 4), (.t 8)])]),
 [], false⟩
def a127 : AF := ⟨15,
 (.seq
 (rg [
 oz 6 (.mv (kx (.ns))),
 o 7 (.mv (kc 0))])
 (.seq
 (.seq
 (rg [
 o 8 (.mv (.t 2)),
 o 9 (.un .not (.t 8))])
 (.cond (.t 9)
 (.seq
 (rg [
 oz 6 (.mv (kx (.ns))),
 o 7 (.mv (kc 7))])
 .ret)
 .skip))
 (.seq
 (rg [
 o 10 (.mv (.t 0)),
 o 11 (.mv (.t 1)),
 o 12 (.mv (.t 1)),
 o 13 (.bin .add (.t 12) (kc 1)),
 o 14 (.call 109 [(.t 10), (.t 11), (.t 13)]),
 oz 6 (.mv (.t 14)),
 o 7 (.mv (kc 0))])
 .ret))),
 [.t 6, .t 7], false⟩
def a128_0 : AC :=
 (.seq
 (rg [
 o 10 (.bin .lss (.t 9) (.t 8))])
 (.seq
 (.cond (.t 10)
 .skip
 (.exit 0))
 (.seq
 (.block 1
 (.seq
 (rg [
 o 11 (.mv (.t 9)),
 o 3 (.mv (.t 11))])
 (.seq
 (rg [
 o 12 (.mv (.t 0)),
 o 13 (.mv (.t 3)),
 o 14 (.ixs (.t 12) (.t 13)),
 o 15 (.bin .lss (.t 14) (kx (.d (.i .u8 128))))])
 (.cond (.t 15)
 (.seq
 (rg [
 o 2 (.mv (kb false))])
 .ret)
 .skip))))
 (rg [
 o 16 (.bin .add (.t 9) (kc 1)),
 o 9 (.mv (.t 16))]))))
def a128 : AF := ⟨17,
 (.seq
 (rg [
 o 2 (.mv (kb false))])
 (.seq
 (.seq
 (rg [
 o 4 (.mv (.t 0)),
 o 5 (.len true (.t 4)),
 o 6 (.bin .gtr (.t 5) (kc 8))])
 (.cond (.t 6)
 (.seq
 (rg [
 o 2 (.mv (kb false))])
 .ret)
 .skip))
 (.seq
 (.seq
 (rg [
 o 7 (.mv (.t 0)),
 o 8 (.len true (.t 7)),
 o 9 (.mv (kc 0))])
 (.block 0
 (.loop [0, 8, 9] a128_0)))
 (.seq
 (rg [
 o 2 (.mv (kb true))])
 .ret)))),
 [.t 2], false⟩
def a129_0 : AC :=
 (.seq
 (.seq
 (rg [
 o 12 (.mv (.t 8)),
 o 13 (.bin .lss (.t 12) (kc 9)),
 o 14 (.mv (.t 13)),
 og 15 14 true (.mv (.t 8)),
 og 16 14 true (.mv (.t 0)),
 og 17 14 true (.len true (.t 16)),
 og 18 14 true (.mv (.t 1)),
 og 19 14 true (.bin .sub (.t 17) (.t 18)),
 og 20 14 true (.bin .lss (.t 15) (.t 19)),
 o 21 (.pick (.t 14) (.t 20) (kb false))])
 (.cond (.t 21)
 .skip
 (.exit 0)))
 (.seq
 (.block 1
 (.seq
 (rg [
 o 24 (.mv (.t 0)),
 o 25 (.mv (.t 1)),
 o 26 (.mv (.t 8)),
 o 27 (.bin .add (.t 25) (.t 26)),
 o 28 (.ixs (.t 24) (.t 27)),
 o 9 (.mv (.t 28))])
 (.seq
 (rg [
 o 29 (.mv (.t 7)),
 o 30 (.mv (.t 9)),
 o 31 (.bin .and (.t 30) (kx (.d (.i .u8 127)))),
 o 32 (.cvi .i64 (.t 31)),
 o 33 (.mv (.t 8)),
 o 34 (.bin .mul (kc 7) (.t 33)),
 o 35 (.cvi .u64 (.t 34)),
 o 36 (.bin .shl (.t 32) (.t 35)),
 o 37 (.bin .or (.t 29) (.t 36)),
 o 7 (.mv (.t 37))])
 (.block 2
 (.seq
 (rg [
 o 44 (.mv (.t 9)),
 o 45 (.bin .geq (.t 44) (kx (.d (.i .u8 128)))),
 o 43 (.mv (.t 45))])
 (.cond (.t 43)
 .skip
 (.seq
 (rg [
 o 47 (.mv (.t 9)),
 o 48 (.bin .eql (.t 47) (kx (.d (.i .u8 0)))),
 o 49 (.mv (.t 48)),
 og 50 49 true (.mv (.t 8)),
 og 51 49 true (.bin .gtr (.t 50) (kc 0)),
 o 52 (.pick (.t 49) (.t 51) (kb false)),
 o 46 (.mv (.t 52))])
 (.cond (.t 46)
 (.exit 0)
 (.seq
 (rg [
 o 38 (.mv (.t 7)),
 o 39 (.mv (.t 1)),
 o 40 (.mv (.t 8)),
 o 41 (.bin .add (.t 39) (.t 40)),
 o 42 (.bin .add (.t 41) (kc 1)),
 o 4 (.mv (.t 38)),
 o 5 (.mv (.t 42)),
 o 6 (.mv (kb true))])
 .ret)))))))))
 (rg [
 o 22 (.mv (.t 8)),
 o 23 (.bin .add (.t 22) (kc 1)),
 o 8 (.mv (.t 23))])))
def a129 : AF := ⟨53,
 (.seq
 (rg [
 o 4 (.mv (kc 0)),
 o 5 (.mv (kc 0)),
 o 6 (.mv (kb false))])
 (.seq
 (.seq
 (rg [
 o 10 (.mv (.t 1)),
 o 11 (.bin .lss (.t 10) (kc 0))])
 (.cond (.t 11)
 (.seq
 (rg [
 o 4 (.mv (kc 0)),
 o 5 (.mv (kc 0)),
 o 6 (.mv (kb false))])
 .ret)
 .skip))
 (.seq
 (rg [
 o 7 (.mv (kc 0))])
 (.seq
 .skip
 (.seq
 (.seq
 (rg [
 o 8 (.mv (kc 0))])
 (.block 0
 (.loop [0, 1, 7, 8] a129_0)))
 (.seq
 (rg [
 o 4 (.mv (kc 0)),
 o 5 (.mv (kc 0)),
 o 6 (.mv (kb false))])
 .ret)))))),
 [.t 4, .t 5, .t 6], false⟩
def a130 : AF := ⟨20,
 (.seq
 (rg [
 o 3 (.mv (kc 0))])
 (.seq
 (rg [
 o 8 (.ld none (.t 0)),
 o 9 (.ld none (.t 1)),
 o 10 (.callp 129 [(.t 8), (.t 9)]),
 o 7 (.mv (.t 10)),
 o 11 (.ext (.t 7) 0),
 o 12 (.ext (.t 7) 1),
 o 13 (.ext (.t 7) 2),
 o 4 (.mv (.t 11)),
 o 5 (.mv (.t 12)),
 o 6 (.mv (.t 13))])
 (.seq
 (rg [
 o 14 (.mv (.t 5)),
 o 15 (.ld none (.t 2)),
 o 16 (.mv (.t 15)),
 og 17 16 true (.mv (.t 6)),
 o 18 (.pick (.t 16) (.t 17) (kb false)),
 on (.st 1 (.t 1) (.t 14)),
 on (.st 1 (.t 2) (.t 18))])
 (.seq
 (rg [
 o 19 (.mv (.t 4)),
 o 3 (.mv (.t 19))])
 .ret)))),
 [.t 3], false⟩
def a131 : AF := ⟨77,
 (.seq
 (rg [
 o 4 (.mv (ks [])),
 o 5 (.mv (kc 0)),
 o 6 (.mv (kc 0))])
 (.seq
 (.seq
 (rg [
 o 13 (.mv (.t 1)),
 o 14 (.bin .lss (.t 13) (kc 0)),
 o 15 (.mv (.t 14)),
 og 16 15 false (.mv (.t 1)),
 og 17 15 false (.mv (.t 0)),
 og 18 15 false (.len true (.t 17)),
 og 19 15 false (.bin .geq (.t 16) (.t 18)),
 o 20 (.pick (.t 15) (kb true) (.t 19)),
 o 21 (.mv (.t 20)),
 og 22 21 false (.mv (.t 0)),
 og 23 21 false (.mv (.t 1)),
 og 24 21 false (.callp 136 [(.t 22), (.t 23)]),
 o 25 (.pick (.t 21) (kb true) (.t 24))])
 (.cond (.t 25)
 (.seq
 (rg [
 o 4 (.mv (ks [])),
 o 5 (.mv (kc 0)),
 o 6 (.mv (kc 2))])
 .ret)
 .skip))
 (.seq
 (rg [
 o 27 (.mv (.t 0)),
 o 28 (.mv (.t 1)),
 o 29 (.callp 137 [(.t 27), (.t 28)]),
 o 26 (.mv (.t 29)),
 o 30 (.ext (.t 26) 0),
 o 31 (.ext (.t 26) 1),
 o 32 (.ext (.t 26) 2),
 o 7 (.mv (.t 30)),
 o 8 (.mv (.t 31)),
 o 9 (.mv (.t 32))])
 (.seq
 (.seq
 (rg [
 o 33 (.mv (.t 9)),
 o 34 (.un .not (.t 33)),
 o 35 (.mv (.t 34)),
 og 36 35 false (.mv (.t 7)),
 og 37 35 false (.bin .lss (.t 36) (kc 1)),
 o 38 (.pick (.t 35) (kb true) (.t 37)),
 o 39 (.mv (.t 38)),
 og 40 39 false (.mv (.t 7)),
 og 41 39 false (.bin .gtr (.t 40) (kc 65536)),
 o 42 (.pick (.t 39) (kb true) (.t 41))])
 (.cond (.t 42)
 (.seq
 (rg [
 o 4 (.mv (ks [])),
 o 5 (.mv (kc 0)),
 o 6 (.mv (kc 3))])
 .ret)
 .skip))
 (.seq
 (.seq
 (rg [
 o 43 (.mv (.t 0)),
 o 44 (.len true (.t 43)),
 o 45 (.mv (.t 8)),
 o 46 (.bin .sub (.t 44) (.t 45)),
 o 47 (.mv (.t 7)),
 o 48 (.bin .add (kc 4) (.t 47)),
 o 49 (.bin .lss (.t 46) (.t 48))])
 (.cond (.t 49)
 (.seq
 (rg [
 o 4 (.mv (ks [])),
 o 5 (.mv (kc 0)),
 o 6 (.mv (kc 2))])
 .ret)
 .skip))
 (.seq
 (rg [
 o 50 (.mv (.t 0)),
 o 51 (.mv (.t 8)),
 o 52 (.bin .add (.t 51) (kc 4)),
 o 53 (.mv (.t 8)),
 o 54 (.bin .add (.t 53) (kc 4)),
 o 55 (.mv (.t 7)),
 o 56 (.bin .add (.t 54) (.t 55)),
 o 57 (.sls (.t 50) (some (.t 52)) (some (.t 56))),
 o 10 (.mv (.t 57))])
 (.seq
 (.seq
 (rg [
 o 59 (.mv (.t 10)),
 o 60 (.callp 89 [(.t 59)]),
 o 58 (.mv (.t 60)),
 o 61 (.ext (.t 58) 0),
 o 62 (.ext (.t 58) 1),
 o 11 (.mv (.t 61)),
 o 12 (.mv (.t 62))])
 (.seq
 (rg [
 o 63 (.mv (.t 11)),
 o 64 (.mv (.t 0)),
 o 65 (.mv (.t 1)),
 o 66 (.mv (.t 8)),
 o 67 (.bin .add (.t 66) (kc 4)),
 o 68 (.mv (.t 7)),
 o 69 (.bin .add (.t 67) (.t 68)),
 o 70 (.sls (.t 64) (some (.t 65)) (some (.t 69))),
 o 71 (.bin .neq (.t 63) (.t 70))])
 (.cond (.t 71)
 (.seq
 (rg [
 o 4 (.mv (ks [])),
 o 5 (.mv (kc 0)),
 o 6 (.mv (kc 4))])
 .ret)
 .skip)))
 (.seq
 (rg [
 o 72 (.mv (.t 10)),
 o 73 (.mv (.t 8)),
 o 74 (.bin .add (.t 73) (kc 4)),
 o 75 (.mv (.t 7)),
 o 76 (.bin .add (.t 74) (.t 75)),
 o 4 (.mv (.t 72)),
 o 5 (.mv (.t 76)),
 o 6 (.mv (kc 0))])
 .ret)))))))),
 [.t 4, .t 5, .t 6], false⟩
def a132 : AF := ⟨44,
 (.seq
 (rg [
 o 2 (.alloc [.d (.i .i64 0), .d (.i .i64 0), .d (.s [])]),
 o 3 (.mv (kc 0))])
 (.seq
 (rg [
 o 13 (.mv (.t 0)),
 o 14 (.callp 137 [(.t 13), (kc 0)]),
 o 12 (.mv (.t 14)),
 o 15 (.ext (.t 12) 0),
 o 16 (.ext (.t 12) 1),
 o 17 (.ext (.t 12) 2),
 o 4 (.mv (.t 15)),
 o 5 (.mv (.t 16)),
 o 6 (.mv (.t 17))])
 (.seq
 (.seq
 (rg [
 o 18 (.mv (.t 6)),
 o 19 (.un .not (.t 18))])
 (.cond (.t 19)
 (.seq
 (rg [
 o 20 (.build [.d (.i .i64 0), .d (.i .i64 0), .d (.s [])] []),
 on (.st 3 (.t 2) (.t 20)),
 o 3 (.mv (kc 3))])
 .ret)
 .skip))
 (.seq
 (rg [
 o 22 (.mv (.t 0)),
 o 23 (.mv (.t 5)),
 o 24 (.callp 137 [(.t 22), (.t 23)]),
 o 21 (.mv (.t 24)),
 o 25 (.ext (.t 21) 0),
 o 26 (.ext (.t 21) 1),
 o 27 (.ext (.t 21) 2),
 o 7 (.mv (.t 25)),
 o 8 (.mv (.t 26)),
 o 9 (.mv (.t 27))])
 (.seq
 (.seq
 (rg [
 o 28 (.mv (.t 9)),
 o 29 (.un .not (.t 28))])
 (.cond (.t 29)
 (.seq
 (rg [
 o 30 (.build [.d (.i .i64 0), .d (.i .i64 0), .d (.s [])] []),
 on (.st 3 (.t 2) (.t 30)),
 o 3 (.mv (kc 3))])
 .ret)
 .skip))
 (.seq
 (rg [
 o 31 (.mv (.t 4)),
 o 32 (.mv (.t 7)),
 o 33 (.mv (.t 0)),
 o 34 (.mv (.t 8)),
 o 35 (.sls (.t 33) (some (.t 34)) none),
 o 36 (.build [.d (.i .i64 0), .d (.i .i64 0), .d (.s [])] [(0, 1, (.t 31)), (1, 1, (.t 32)), (2, 1, (.t 35))]),
 o 10 (.alloc [.d (.i .i64 0), .d (.i .i64 0), .d (.s [])]),
 on (.st 3 (.t 10) (.t 36))])
 (.seq
 (.seq
 (rg [
 o 37 (.ld (some 3) (.t 10)),
 o 38 (.callp 111 [(.t 37)]),
 o 11 (.mv (.t 38))])
 (.seq
 (rg [
 o 39 (.mv (.t 11)),
 o 40 (.bin .neq (.t 39) (kc 0))])
 (.cond (.t 40)
 (.seq
 (rg [
 o 41 (.build [.d (.i .i64 0), .d (.i .i64 0), .d (.s [])] []),
 o 42 (.mv (.t 11)),
 on (.st 3 (.t 2) (.t 41)),
 o 3 (.mv (.t 42))])
 .ret)
 .skip)))
 (.seq
 (rg [
 o 43 (.ld (some 3) (.t 10)),
 on (.st 3 (.t 2) (.t 43)),
 o 3 (.mv (kc 0))])
 .ret)))))))),
 [.c (some 3) 2, .t 3], false⟩
def a133_1 : AC :=
 (.seq
 (.seq
 (rg [
 o 23 (.mv (.t 7)),
 o 24 (.bin .lss (.t 23) (kc 8))])
 (.cond (.t 24)
 .skip
 (.exit 2)))
 (.seq
 (.block 3
 (.seq
 (rg [
 o 27 (.mv (.t 5)),
 o 28 (.bin .rem (.t 27) (kx (.d (.i .u32 2)))),
 o 29 (.bin .eql (.t 28) (kx (.d (.i .u32 1)))),
 o 8 (.mv (.t 29))])
 (.seq
 (rg [
 o 30 (.mv (.t 5)),
 o 31 (.bin .quo (.t 30) (kx (.d (.i .u32 2)))),
 o 5 (.mv (.t 31))])
 (.seq
 (rg [
 o 32 (.mv (.t 8))])
 (.cond (.t 32)
 (rg [
 o 33 (.mv (.t 5)),
 o 34 (.bin .xor (.t 33) (kx (.d (.i .u32 2197175160)))),
 o 5 (.mv (.t 34))])
 .skip)))))
 (rg [
 o 25 (.mv (.t 7)),
 o 26 (.bin .add (.t 25) (kc 1)),
 o 7 (.mv (.t 26))])))
def a133_0 : AC :=
 (.seq
 (.seq
 (rg [
 o 11 (.mv (.t 6)),
 o 12 (.mv (.t 1)),
 o 13 (.len true (.t 12)),
 o 14 (.bin .lss (.t 11) (.t 13))])
 (.cond (.t 14)
 .skip
 (.exit 0)))
 (.seq
 (.block 1
 (.seq
 (rg [
 o 17 (.mv (.t 5)),
 o 18 (.mv (.t 1)),
 o 19 (.mv (.t 6)),
 o 20 (.ixs (.t 18) (.t 19)),
 o 21 (.cvi .u32 (.t 20)),
 o 22 (.bin .xor (.t 17) (.t 21)),
 o 5 (.mv (.t 22))])
 (.seq
 (rg [
 o 7 (.mv (kc 0))])
 (.block 2
 (.loop [1, 5, 6, 7] a133_1)))))
 (rg [
 o 15 (.mv (.t 6)),
 o 16 (.bin .add (.t 15) (kc 1)),
 o 6 (.mv (.t 16))])))
def a133 : AF := ⟨37,
 (.seq
 (rg [
 o 4 (.mv (kx (.d (.i .u32 0))))])
 (.seq
 (rg [
 o 9 (.mv (.t 0)),
 o 10 (.un .xor (.t 9)),
 o 5 (.mv (.t 10))])
 (.seq
 (.seq
 (rg [
 o 6 (.mv (kc 0))])
 (.block 0
 (.loop [1, 5, 6] a133_0)))
 (.seq
 (rg [
 o 35 (.mv (.t 5)),
 o 36 (.un .xor (.t 35)),
 o 4 (.mv (.t 36))])
 .ret)))),
 [.t 4], false⟩
def a134_0 : AC :=
 (.seq
 (rg [
 o 14 (.bin .lss (.t 13) (.t 12))])
 (.seq
 (.cond (.t 14)
 .skip
 (.exit 0))
 (.seq
 (.block 1
 (.seq
 (rg [
 o 15 (.mv (.t 13)),
 o 7 (.mv (.t 15))])
 (.seq
 (rg [
 o 16 (.mv (.t 6)),
 o 17 (.mv (.t 1)),
 o 18 (.mv (.t 7)),
 o 19 (.ixs (.t 17) (.t 18)),
 o 20 (.cvi .u32 (.t 19)),
 o 21 (.bin .xor (.t 16) (.t 20)),
 o 6 (.mv (.t 21))])
 (.seq
 (rg [
 o 22 (.mv (.t 6)),
 o 23 (.bin .shr (.t 22) (kx (.d (.i .u64 4)))),
 o 24 (.mv (.t 6)),
 o 25 (.bin .and (.t 24) (kx (.d (.i .u32 15)))),
 o 26 (.iar 16 1 (.t 5) (.t 25)),
 o 27 (.ld none (.t 26)),
 o 28 (.bin .xor (.t 23) (.t 27)),
 o 6 (.mv (.t 28))])
 (rg [
 o 29 (.mv (.t 6)),
 o 30 (.bin .shr (.t 29) (kx (.d (.i .u64 4)))),
 o 31 (.mv (.t 6)),
 o 32 (.bin .and (.t 31) (kx (.d (.i .u32 15)))),
 o 33 (.iar 16 1 (.t 5) (.t 32)),
 o 34 (.ld none (.t 33)),
 o 35 (.bin .xor (.t 30) (.t 34)),
 o 6 (.mv (.t 35))])))))
 (rg [
 o 36 (.bin .add (.t 13) (kc 1)),
 o 13 (.mv (.t 36))]))))
def a134 : AF := ⟨39,
 (.seq
 (rg [
 o 4 (.mv (kx (.d (.i .u32 0))))])
 (.seq
 (rg [
 o 8 (.callp 138 []),
 o 5 (.alloc [.d (.i .u32 0), .d (.i .u32 0), .d (.i .u32 0), .d (.i .u32 0), .d (.i .u32 0), .d (.i .u32 0), .d (.i .u32 0), .d (.i .u32 0), .d (.i .u32 0), .d (.i .u32 0), .d (.i .u32 0), .d (.i .u32 0), .d (.i .u32 0), .d (.i .u32 0), .d (.i .u32 0), .d (.i .u32 0)]),
 on (.st 16 (.t 5) (.t 8))])
 (.seq
 (rg [
 o 9 (.mv (.t 0)),
 o 10 (.un .xor (.t 9)),
 o 6 (.mv (.t 10))])
 (.seq
 (.seq
 (rg [
 o 11 (.mv (.t 1)),
 o 12 (.len true (.t 11)),
 o 13 (.mv (kc 0))])
 (.block 0
 (.loop [1, 5, 6, 12, 13] a134_0)))
 (.seq
 (rg [
 o 37 (.mv (.t 6)),
 o 38 (.un .xor (.t 37)),
 o 4 (.mv (.t 38))])
 .ret))))),
 [.t 4], false⟩
def a135 : AF := ⟨14,
 (.seq
 (rg [
 o 4 (.mv (.t 0)),
 o 5 (.mv (.t 1)),
 o 6 (.slc 3 (.t 4) none (some (.t 5)) none),
 o 7 (.callp 139 [(.t 6)])])
 (.seq
 (rg [
 o 8 (.mv (.t 0)),
 o 9 (.mv (.t 1)),
 o 10 (.slc 3 (.t 8) (some (.t 9)) none none),
 o 11 (.callp 139 [(.t 10)])])
 (rg [
 o 12 (.mv (.t 0)),
 o 13 (.callp 139 [(.t 12)])]))),
 [], false⟩
def a136_0 : AC :=
 (.seq
 (.seq
 (rg [
 o 7 (.mv (.t 5)),
 o 8 (.mv (.t 0)),
 o 9 (.len true (.t 8)),
 o 10 (.bin .lss (.t 7) (.t 9))])
 (.cond (.t 10)
 .skip
 (.exit 0)))
 (.seq
 (.block 1
 (.seq
 (rg [
 o 13 (.mv (.t 0)),
 o 14 (.mv (.t 5)),
 o 15 (.ixs (.t 13) (.t 14)),
 o 16 (.bin .lss (.t 15) (kx (.d (.i .u8 128))))])
 (.cond (.t 16)
 (.seq
 (rg [
 o 4 (.mv (kb false))])
 .ret)
 .skip)))
 (rg [
 o 11 (.mv (.t 5)),
 o 12 (.bin .add (.t 11) (kc 1)),
 o 5 (.mv (.t 12))])))
def a136 : AF := ⟨22,
 (.seq
 (rg [
 o 4 (.mv (kb false))])
 (.seq
 (.seq
 (rg [
 o 6 (.mv (.t 1)),
 o 5 (.mv (.t 6))])
 (.block 0
 (.loop [0, 1, 5] a136_0)))
 (.seq
 (rg [
 o 17 (.mv (.t 0)),
 o 18 (.len true (.t 17)),
 o 19 (.mv (.t 1)),
 o 20 (.bin .sub (.t 18) (.t 19)),
 o 21 (.bin .leq (.t 20) (kc 8)),
 o 4 (.mv (.t 21))])
 .ret))),
 [.t 4], false⟩
def a137_0 : AC :=
 (.seq
 (.seq
 (rg [
 o 19 (.mv (.t 9)),
 o 20 (.bin .lss (.t 19) (kc 9)),
 o 21 (.mv (.t 20)),
 og 22 21 true (.mv (.t 9)),
 og 23 21 true (.mv (.t 0)),
 og 24 21 true (.len true (.t 23)),
 og 25 21 true (.mv (.t 1)),
 og 26 21 true (.bin .sub (.t 24) (.t 25)),
 og 27 21 true (.bin .lss (.t 22) (.t 26)),
 o 28 (.pick (.t 21) (.t 27) (kb false))])
 (.cond (.t 28)
 .skip
 (.exit 0)))
 (.seq
 (.block 1
 (.seq
 (rg [
 o 31 (.mv (.t 0)),
 o 32 (.mv (.t 1)),
 o 33 (.mv (.t 9)),
 o 34 (.bin .add (.t 32) (.t 33)),
 o 35 (.ixs (.t 31) (.t 34)),
 o 36 (.cvi .i64 (.t 35)),
 o 10 (.mv (.t 36))])
 (.seq
 (rg [
 o 37 (.mv (.t 7)),
 o 38 (.mv (.t 10)),
 o 39 (.bin .rem (.t 38) (kc 128)),
 o 40 (.mv (.t 8)),
 o 41 (.bin .mul (.t 39) (.t 40)),
 o 42 (.bin .add (.t 37) (.t 41)),
 o 7 (.mv (.t 42))])
 (.seq
 (.seq
 (rg [
 o 43 (.mv (.t 10)),
 o 44 (.bin .lss (.t 43) (kc 128))])
 (.cond (.t 44)
 (.seq
 (.seq
 (rg [
 o 45 (.mv (.t 7)),
 o 46 (.callp 88 [(.t 45)]),
 o 47 (.mv (.t 0)),
 o 48 (.mv (.t 1)),
 o 49 (.mv (.t 1)),
 o 50 (.mv (.t 9)),
 o 51 (.bin .add (.t 49) (.t 50)),
 o 52 (.bin .add (.t 51) (kc 1)),
 o 53 (.sls (.t 47) (some (.t 48)) (some (.t 52))),
 o 54 (.bin .neq (.t 46) (.t 53))])
 (.cond (.t 54)
 (.seq
 (rg [
 o 4 (.mv (kc 0)),
 o 5 (.mv (kc 0)),
 o 6 (.mv (kb false))])
 .ret)
 .skip))
 (.seq
 (rg [
 o 55 (.mv (.t 7)),
 o 56 (.mv (.t 1)),
 o 57 (.mv (.t 9)),
 o 58 (.bin .add (.t 56) (.t 57)),
 o 59 (.bin .add (.t 58) (kc 1)),
 o 4 (.mv (.t 55)),
 o 5 (.mv (.t 59)),
 o 6 (.mv (kb true))])
 .ret))
 .skip))
 (.seq
 (rg [
 o 60 (.mv (.t 9)),
 o 61 (.bin .lss (.t 60) (kc 8))])
 (.cond (.t 61)
 (rg [
 o 62 (.mv (.t 8)),
 o 63 (.bin .mul (.t 62) (kc 128)),
 o 8 (.mv (.t 63))])
 .skip))))))
 (rg [
 o 29 (.mv (.t 9)),
 o 30 (.bin .add (.t 29) (kc 1)),
 o 9 (.mv (.t 30))])))
def a137 : AF := ⟨64,
 (.seq
 (rg [
 o 4 (.mv (kc 0)),
 o 5 (.mv (kc 0)),
 o 6 (.mv (kb false))])
 (.seq
 (.seq
 (rg [
 o 11 (.mv (.t 1)),
 o 12 (.bin .lss (.t 11) (kc 0)),
 o 13 (.mv (.t 12)),
 og 14 13 false (.mv (.t 1)),
 og 15 13 false (.mv (.t 0)),
 og 16 13 false (.len true (.t 15)),
 og 17 13 false (.bin .geq (.t 14) (.t 16)),
 o 18 (.pick (.t 13) (kb true) (.t 17))])
 (.cond (.t 18)
 (.seq
 (rg [
 o 4 (.mv (kc 0)),
 o 5 (.mv (kc 0)),
 o 6 (.mv (kb false))])
 .ret)
 .skip))
 (.seq
 (rg [
 o 7 (.mv (kc 0)),
 o 8 (.mv (kc 1))])
 (.seq
 (.seq
 (rg [
 o 9 (.mv (kc 0))])
 (.block 0
 (.loop [0, 1, 7, 8, 9] a137_0)))
 (.seq
 (rg [
 o 4 (.mv (kc 0)),
 o 5 (.mv (kc 0)),
 o 6 (.mv (kb false))])
 .ret))))),
 [.t 4, .t 5, .t 6], false⟩
def a138_1 : AC :=
 (.seq
 (rg [
 o 10 (.bin .lss (.t 9) (kc 4))])
 (.seq
 (.cond (.t 10)
 .skip
 (.exit 2))
 (.seq
 (.block 3
 (rg [
 o 11 (.mv (.t 3)),
 o 12 (.bin .shr (.t 11) (kx (.d (.i .u64 1)))),
 o 13 (.mv (.t 3)),
 o 14 (.bin .and (.t 13) (kx (.d (.i .u32 1)))),
 o 15 (.un .neg (.t 14)),
 o 16 (.bin .and (kx (.d (.i .u32 2197175160))) (.t 15)),
 o 17 (.bin .xor (.t 12) (.t 16)),
 o 3 (.mv (.t 17))]))
 (rg [
 o 18 (.bin .add (.t 9) (kc 1)),
 o 9 (.mv (.t 18))]))))
def a138_0 : AC :=
 (.seq
 (rg [
 o 5 (.bin .lss (.t 4) (kc 16))])
 (.seq
 (.cond (.t 5)
 .skip
 (.exit 0))
 (.seq
 (.block 1
 (.seq
 (rg [
 o 6 (.mv (.t 4)),
 o 2 (.mv (.t 6))])
 (.seq
 (rg [
 o 7 (.mv (.t 2)),
 o 8 (.cvi .u32 (.t 7)),
 o 3 (.mv (.t 8))])
 (.seq
 (.seq
 (rg [
 o 9 (.mv (kc 0))])
 (.block 2
 (.loop [0, 1, 2, 3, 4, 9] a138_1)))
 (rg [
 o 19 (.mv (.t 2)),
 o 20 (.mv (.t 3)),
 o 21 (.iar 16 1 (.t 1) (.t 19)),
 on (.st 1 (.t 21) (.t 20))])))))
 (rg [
 o 22 (.bin .add (.t 4) (kc 1)),
 o 4 (.mv (.t 22))]))))
def a138 : AF := ⟨24,
 (.seq
 (rg [
 o 0 (.alloc [.d (.i .u32 0), .d (.i .u32 0), .d (.i .u32 0), .d (.i .u32 0), .d (.i .u32 0), .d (.i .u32 0), .d (.i .u32 0), .d (.i .u32 0), .d (.i .u32 0), .d (.i .u32 0), .d (.i .u32 0), .d (.i .u32 0), .d (.i .u32 0), .d (.i .u32 0), .d (.i .u32 0), .d (.i .u32 0)])])
 (.seq
 (rg [
 o 1 (.alloc [.d (.i .u32 0), .d (.i .u32 0), .d (.i .u32 0), .d (.i .u32 0), .d (.i .u32 0), .d (.i .u32 0), .d (.i .u32 0), .d (.i .u32 0), .d (.i .u32 0), .d (.i .u32 0), .d (.i .u32 0), .d (.i .u32 0), .d (.i .u32 0), .d (.i .u32 0), .d (.i .u32 0), .d (.i .u32 0)])])
 (.seq
 (.seq
 (rg [
 o 4 (.mv (kc 0))])
 (.block 0
 (.loop [0, 1, 4] a138_0)))
 (.seq
 (rg [
 o 23 (.ld (some 16) (.t 1)),
 on (.st 16 (.t 0) (.t 23))])
 .ret)))),
 [.c (some 16) 0], false⟩
def a139_0 : AC :=
 (.seq
 (.seq
 (rg [
 o 7 (.mv (.t 2)),
 o 8 (.mv (.t 3)),
 o 9 (.bin .lss (.t 7) (.t 8))])
 (.cond (.t 9)
 .skip
 (.exit 0)))
 (.seq
 (.block 1
 (rg [
 o 14 (.mv (.t 0)),
 o 15 (.mv (.t 2)),
 o 16 (.mv (.t 0)),
 o 17 (.mv (.t 3)),
 o 18 (.mv (.t 0)),
 o 19 (.mv (.t 3)),
 o 20 (.ia 3 (.t 18) (.t 19)),
 o 21 (.ld (some 3) (.t 20)),
 o 22 (.mv (.t 0)),
 o 23 (.mv (.t 2)),
 o 24 (.ia 3 (.t 22) (.t 23)),
 o 25 (.ld (some 3) (.t 24)),
 o 26 (.ia 3 (.t 14) (.t 15)),
 on (.st 3 (.t 26) (.t 21)),
 o 27 (.ia 3 (.t 16) (.t 17)),
 on (.st 3 (.t 27) (.t 25))]))
 (rg [
 o 10 (.mv (.t 2)),
 o 11 (.bin .add (.t 10) (kc 1)),
 o 12 (.mv (.t 3)),
 o 13 (.bin .sub (.t 12) (kc 1)),
 o 2 (.mv (.t 11)),
 o 3 (.mv (.t 13))])))
def a139 : AF := ⟨28,
 (.seq
 (rg [
 o 4 (.mv (.t 0)),
 o 5 (.len false (.t 4)),
 o 6 (.bin .sub (.t 5) (kc 1)),
 o 2 (.mv (kc 0)),
 o 3 (.mv (.t 6))])
 (.block 0
 (.loop [0, 2, 3] a139_0))),
 [], false⟩
def ans : List (Nat × Ann) := [
 (3, ⟨[], [[0, 1, 5, 7, 9]], false, false⟩),
 (4, ⟨[], [[3, 4, 5, 6, 7, 9]], false, false⟩),
 (5, ⟨[], [], false, false⟩),
 (6, ⟨[], [[0, 3]], false, false⟩),
 (7, ⟨[], [[1, 2, 3]], false, false⟩),
 (8, ⟨[(5, 2, 9), (3, 2, 8), (5, 3, 8)], [], false, false⟩),
 (9, ⟨[(5, 2, 9)], [], false, false⟩),
 (10, ⟨[], [[2, 3, 5]], false, false⟩),
 (11, ⟨[], [], false, false⟩),
 (12, ⟨[], [], false, false⟩),
 (13, ⟨[], [], false, false⟩),
 (14, ⟨[], [], false, false⟩),
 (15, ⟨[], [[2, 3, 5]], false, false⟩),
 (16, ⟨[], [[2, 3, 18, 19, 20]], false, false⟩),
 (17, ⟨[], [[1, 2, 3, 4]], false, false⟩),
 (18, ⟨[], [], false, false⟩),
 (19, ⟨[], [[1, 2, 4, 6], [1, 2, 4, 6, 7, 8]], false, false⟩),
 (20, ⟨[(0, 1, 2), (2, 0, 2), (3, 0, 103)], [[1, 2, 3, 4, 9], [1, 2, 3, 4, 9, 60, 61, 62]], false, false⟩),
 (21, ⟨[(0, 1, 2), (1, 0, 103), (3, 0, 2)], [[2, 3, 4, 9, 10, 11]], false, false⟩),
 (22, ⟨[], [[0, 1, 5]], false, false⟩),
 (23, ⟨[], [[1, 3]], false, false⟩),
 (24, ⟨[], [[1, 3]], false, false⟩),
 (25, ⟨[], [[1, 3]], false, false⟩),
 (26, ⟨[(2, 2, 8)], [], false, false⟩),
 (27, ⟨[], [], false, false⟩),
 (28, ⟨[], [[2, 3, 5]], false, false⟩),
 (29, ⟨[], [], false, false⟩),
 (30, ⟨[], [], false, false⟩),
 (31, ⟨[(1, 2, 8)], [], false, false⟩),
 (32, ⟨[], [], false, false⟩),
 (33, ⟨[(6, 1, 8), (7, 1, 8), (9, 2, 8), (10, 1, 8), (11, 1, 8), (12, 1, 8)], [], false, false⟩),
 (34, ⟨[], [], false, false⟩),
 (35, ⟨[], [], false, false⟩),
 (36, ⟨[], [], false, false⟩),
 (37, ⟨[], [], false, false⟩),
 (38, ⟨[], [], false, false⟩),
 (39, ⟨[], [], false, false⟩),
 (40, ⟨[], [[1, 2, 4, 5]], false, false⟩),
 (41, ⟨[], [], false, false⟩),
 (42, ⟨[(5, 1, 8)], [], false, false⟩),
 (43, ⟨[(5, 1, 8), (0, 2, 2), (2, 0, 2)], [], false, false⟩),
 (44, ⟨[(0, 2, 2)], [], false, false⟩),
 (45, ⟨[(5, 1, 8), (0, 0, 2), (2, 0, 2)], [], false, false⟩),
 (46, ⟨[], [], false, false⟩),
 (47, ⟨[], [], false, false⟩),
 (48, ⟨[], [], false, false⟩),
 (49, ⟨[], [[1, 4, 5]], false, false⟩),
 (50, ⟨[], [[1, 2, 5]], false, false⟩),
 (51, ⟨[], [], false, false⟩),
 (52, ⟨[], [], false, false⟩),
 (53, ⟨[], [], false, false⟩),
 (54, ⟨[], [], false, false⟩),
 (55, ⟨[], [], false, false⟩),
 (56, ⟨[], [], false, false⟩),
 (57, ⟨[(11, 2, 8), (13, 3, 8), (14, 2, 8)], [], false, false⟩),
 (58, ⟨[(1, 3, 8)], [], false, false⟩),
 (59, ⟨[(1, 2, 8)], [], false, false⟩),
 (60, ⟨[], [], false, false⟩),
 (61, ⟨[], [], false, false⟩),
 (62, ⟨[(1, 3, 8)], [], false, false⟩),
 (63, ⟨[], [[0, 1, 5, 6]], false, false⟩),
 (64, ⟨[], [[1, 4, 19, 20, 21]], false, false⟩),
 (65, ⟨[(1, 2, 8)], [], false, false⟩),
 (66, ⟨[], [], false, false⟩),
 (67, ⟨[(2, 2, 8)], [], false, false⟩),
 (68, ⟨[(1, 2, 8)], [], false, false⟩),
 (69, ⟨[], [], false, false⟩),
 (70, ⟨[(1, 3, 8)], [], false, false⟩),
 (71, ⟨[], [], false, false⟩),
 (72, ⟨[(0, 1, 103)], [[0, 3, 5]], false, false⟩),
 (73, ⟨[], [[0, 3, 4]], false, false⟩),
 (74, ⟨[], [], false, false⟩),
 (75, ⟨[], [], false, false⟩),
 (76, ⟨[(12, 3, 9)], [], false, false⟩),
 (77, ⟨[], [], false, false⟩),
 (78, ⟨[(1, 2, 8)], [], false, false⟩),
 (79, ⟨[], [[0, 1, 4, 6, 7]], false, false⟩),
 (80, ⟨[], [], false, false⟩),
 (81, ⟨[], [], false, false⟩),
 (82, ⟨[(0, 1, 102)], [], false, false⟩),
 (83, ⟨[], [], false, false⟩),
 (84, ⟨[(0, 0, 2)], [], false, false⟩),
 (85, ⟨[], [], false, false⟩),
 (86, ⟨[], [], false, false⟩),
 (87, ⟨[], [], false, false⟩),
 (88, ⟨[], [[0, 3]], false, false⟩),
 (89, ⟨[], [], false, false⟩),
 (90, ⟨[], [], false, false⟩),
 (91, ⟨[(0, 0, 2), (1, 0, 103)], [[0, 1, 5, 6]], false, false⟩),
 (92, ⟨[], [[1, 3, 4]], false, false⟩),
 (93, ⟨[], [], false, false⟩),
 (94, ⟨[(4, 4, 9)], [], false, false⟩),
 (95, ⟨[], [[0, 3, 9, 10]], false, false⟩),
 (96, ⟨[(3, 3, 0), (4, 2, 8), (3, 2, 8)], [], false, false⟩),
 (97, ⟨[(0, 0, 2), (2, 0, 2), (4, 0, 2)], [], false, false⟩),
 (98, ⟨[], [[3, 7, 8, 9]], false, false⟩),
 (99, ⟨[(0, 0, 2), (2, 0, 2)], [], false, false⟩),
 (100, ⟨[(5, 5, 8), (0, 0, 2), (2, 0, 2), (4, 0, 2), (5, 6, 2)], [], false, false⟩),
 (101, ⟨[], [], false, false⟩),
 (102, ⟨[], [], true, true⟩),
 (103, ⟨[], [[1, 3, 27, 28, 29]], false, false⟩),
 (104, ⟨[], [], false, false⟩),
 (105, ⟨[], [], false, false⟩),
 (106, ⟨[(1, 2, 8)], [], false, false⟩),
 (107, ⟨[], [], false, false⟩),
 (108, ⟨[(8, 2, 8), (7, 4, 8), (12, 4, 8), (0, 0, 2), (2, 0, 2), (4, 0, 2), (12, 5, 2)], [], false, false⟩),
 (109, ⟨[], [], true, true⟩),
 (110, ⟨[], [], false, false⟩),
 (111, ⟨[], [], false, false⟩),
 (112, ⟨[], [], false, false⟩),
 (113, ⟨[], [[0, 1, 2, 8, 9, 10]], false, false⟩),
 (114, ⟨[], [], false, false⟩),
 (115, ⟨[(11, 2, 20)], [[0, 1]], false, false⟩),
 (116, ⟨[(11, 3, 9)], [], false, false⟩),
 (117, ⟨[], [], false, false⟩),
 (118, ⟨[(0, 0, 2), (0, 1, 2), (2, 0, 2), (2, 1, 2), (3, 0, 103), (4, 0, 101)], [[0, 1, 8, 9, 10]], false, false⟩),
 (119, ⟨[], [], false, false⟩),
 (120, ⟨[], [], false, false⟩),
 (121, ⟨[], [], false, false⟩),
 (122, ⟨[], [], false, false⟩),
 (123, ⟨[], [[3, 6, 7, 8]], false, false⟩),
 (124, ⟨[], [], true, true⟩),
 (126, ⟨[], [], false, false⟩),
 (127, ⟨[(3, 4, 8), (0, 0, 2), (2, 0, 2), (3, 5, 2)], [], false, false⟩),
 (128, ⟨[], [[0, 8, 9]], false, false⟩),
 (129, ⟨[], [[0, 1, 7, 8]], false, false⟩),
 (130, ⟨[], [], false, false⟩),
 (131, ⟨[], [], false, false⟩),
 (132, ⟨[], [], false, false⟩),
 (133, ⟨[], [[1, 5, 6], [1, 5, 6, 7]], false, false⟩),
 (134, ⟨[], [[1, 5, 6, 12, 13]], false, false⟩),
 (135, ⟨[], [], false, false⟩),
 (136, ⟨[], [[0, 1, 5]], false, false⟩),
 (137, ⟨[], [[0, 1, 7, 8, 9]], false, false⟩),
 (138, ⟨[], [[0, 1, 4], [0, 1, 2, 3, 4, 9]], false, false⟩),
 (139, ⟨[], [[0, 2, 3]], false, false⟩)]
theorem s3 : compS Tryz.prog 3 (anOf ans 3) = some a3 := by kernel_rfl
theorem s4 : compS Tryz.prog 4 (anOf ans 4) = some a4 := by kernel_rfl
theorem s5 : compS Tryz.prog 5 (anOf ans 5) = some a5 := by kernel_rfl
theorem s6 : compS Tryz.prog 6 (anOf ans 6) = some a6 := by kernel_rfl
theorem s7 : compS Tryz.prog 7 (anOf ans 7) = some a7 := by kernel_rfl
theorem s8 : compS Tryz.prog 8 (anOf ans 8) = some a8 := by kernel_rfl
theorem s9 : compS Tryz.prog 9 (anOf ans 9) = some a9 := by kernel_rfl
theorem s10 : compS Tryz.prog 10 (anOf ans 10) = some a10 := by kernel_rfl
theorem s11 : compS Tryz.prog 11 (anOf ans 11) = some a11 := by kernel_rfl
theorem s12 : compS Tryz.prog 12 (anOf ans 12) = some a12 := by kernel_rfl
theorem s13 : compS Tryz.prog 13 (anOf ans 13) = some a13 := by kernel_rfl
theorem s14 : compS Tryz.prog 14 (anOf ans 14) = some a14 := by kernel_rfl
theorem s15 : compS Tryz.prog 15 (anOf ans 15) = some a15 := by kernel_rfl
theorem s16 : compS Tryz.prog 16 (anOf ans 16) = some a16 := by kernel_rfl
theorem s17 : compS Tryz.prog 17 (anOf ans 17) = some a17 := by kernel_rfl
theorem s18 : compS Tryz.prog 18 (anOf ans 18) = some a18 := by kernel_rfl
theorem s19 : compS Tryz.prog 19 (anOf ans 19) = some a19 := by kernel_rfl
theorem s20 : compS Tryz.prog 20 (anOf ans 20) = some a20 := by kernel_rfl
theorem s21 : compS Tryz.prog 21 (anOf ans 21) = some a21 := by kernel_rfl
theorem s22 : compS Tryz.prog 22 (anOf ans 22) = some a22 := by kernel_rfl
theorem s23 : compS Tryz.prog 23 (anOf ans 23) = some a23 := by kernel_rfl
theorem s24 : compS Tryz.prog 24 (anOf ans 24) = some a24 := by kernel_rfl
theorem s25 : compS Tryz.prog 25 (anOf ans 25) = some a25 := by kernel_rfl
theorem s26 : compS Tryz.prog 26 (anOf ans 26) = some a26 := by kernel_rfl
theorem s27 : compS Tryz.prog 27 (anOf ans 27) = some a27 := by kernel_rfl
theorem s28 : compS Tryz.prog 28 (anOf ans 28) = some a28 := by kernel_rfl
theorem s29 : compS Tryz.prog 29 (anOf ans 29) = some a29 := by kernel_rfl
theorem s30 : compS Tryz.prog 30 (anOf ans 30) = some a30 := by kernel_rfl
theorem s31 : compS Tryz.prog 31 (anOf ans 31) = some a31 := by kernel_rfl
theorem s32 : compS Tryz.prog 32 (anOf ans 32) = some a32 := by kernel_rfl
theorem s33 : compS Tryz.prog 33 (anOf ans 33) = some a33 := by kernel_rfl
theorem s34 : compS Tryz.prog 34 (anOf ans 34) = some a34 := by kernel_rfl
theorem s35 : compS Tryz.prog 35 (anOf ans 35) = some a35 := by kernel_rfl
theorem s36 : compS Tryz.prog 36 (anOf ans 36) = some a36 := by kernel_rfl
theorem s37 : compS Tryz.prog 37 (anOf ans 37) = some a37 := by kernel_rfl
theorem s38 : compS Tryz.prog 38 (anOf ans 38) = some a38 := by kernel_rfl
theorem s39 : compS Tryz.prog 39 (anOf ans 39) = some a39 := by kernel_rfl
theorem s40 : compS Tryz.prog 40 (anOf ans 40) = some a40 := by kernel_rfl
theorem s41 : compS Tryz.prog 41 (anOf ans 41) = some a41 := by kernel_rfl
theorem s42 : compS Tryz.prog 42 (anOf ans 42) = some a42 := by kernel_rfl
theorem s43 : compS Tryz.prog 43 (anOf ans 43) = some a43 := by kernel_rfl
theorem s44 : compS Tryz.prog 44 (anOf ans 44) = some a44 := by kernel_rfl
theorem s45 : compS Tryz.prog 45 (anOf ans 45) = some a45 := by kernel_rfl
theorem s46 : compS Tryz.prog 46 (anOf ans 46) = some a46 := by kernel_rfl
theorem s47 : compS Tryz.prog 47 (anOf ans 47) = some a47 := by kernel_rfl
theorem s48 : compS Tryz.prog 48 (anOf ans 48) = some a48 := by kernel_rfl
theorem s49 : compS Tryz.prog 49 (anOf ans 49) = some a49 := by kernel_rfl
theorem s50 : compS Tryz.prog 50 (anOf ans 50) = some a50 := by kernel_rfl
theorem s51 : compS Tryz.prog 51 (anOf ans 51) = some a51 := by kernel_rfl
theorem s52 : compS Tryz.prog 52 (anOf ans 52) = some a52 := by kernel_rfl
theorem s53 : compS Tryz.prog 53 (anOf ans 53) = some a53 := by kernel_rfl
theorem s54 : compS Tryz.prog 54 (anOf ans 54) = some a54 := by kernel_rfl
theorem s55 : compS Tryz.prog 55 (anOf ans 55) = some a55 := by kernel_rfl
theorem s56 : compS Tryz.prog 56 (anOf ans 56) = some a56 := by kernel_rfl
theorem s57 : compS Tryz.prog 57 (anOf ans 57) = some a57 := by kernel_rfl
theorem s58 : compS Tryz.prog 58 (anOf ans 58) = some a58 := by kernel_rfl
theorem s59 : compS Tryz.prog 59 (anOf ans 59) = some a59 := by kernel_rfl
theorem s60 : compS Tryz.prog 60 (anOf ans 60) = some a60 := by kernel_rfl
theorem s61 : compS Tryz.prog 61 (anOf ans 61) = some a61 := by kernel_rfl
theorem s62 : compS Tryz.prog 62 (anOf ans 62) = some a62 := by kernel_rfl
theorem s63 : compS Tryz.prog 63 (anOf ans 63) = some a63 := by kernel_rfl
theorem s64 : compS Tryz.prog 64 (anOf ans 64) = some a64 := by kernel_rfl
theorem s65 : compS Tryz.prog 65 (anOf ans 65) = some a65 := by kernel_rfl
theorem s66 : compS Tryz.prog 66 (anOf ans 66) = some a66 := by kernel_rfl
theorem s67 : compS Tryz.prog 67 (anOf ans 67) = some a67 := by kernel_rfl
theorem s68 : compS Tryz.prog 68 (anOf ans 68) = some a68 := by kernel_rfl
theorem s69 : compS Tryz.prog 69 (anOf ans 69) = some a69 := by kernel_rfl
theorem s70 : compS Tryz.prog 70 (anOf ans 70) = some a70 := by kernel_rfl
theorem s71 : compS Tryz.prog 71 (anOf ans 71) = some a71 := by kernel_rfl
theorem s72 : compS Tryz.prog 72 (anOf ans 72) = some a72 := by kernel_rfl
theorem s73 : compS Tryz.prog 73 (anOf ans 73) = some a73 := by kernel_rfl
theorem s74 : compS Tryz.prog 74 (anOf ans 74) = some a74 := by kernel_rfl
theorem s75 : compS Tryz.prog 75 (anOf ans 75) = some a75 := by kernel_rfl
theorem s76 : compS Tryz.prog 76 (anOf ans 76) = some a76 := by kernel_rfl
theorem s77 : compS Tryz.prog 77 (anOf ans 77) = some a77 := by kernel_rfl
theorem s78 : compS Tryz.prog 78 (anOf ans 78) = some a78 := by kernel_rfl
theorem s79 : compS Tryz.prog 79 (anOf ans 79) = some a79 := by kernel_rfl
theorem s80 : compS Tryz.prog 80 (anOf ans 80) = some a80 := by kernel_rfl
theorem s81 : compS Tryz.prog 81 (anOf ans 81) = some a81 := by kernel_rfl
theorem s82 : compS Tryz.prog 82 (anOf ans 82) = some a82 := by kernel_rfl
theorem s83 : compS Tryz.prog 83 (anOf ans 83) = some a83 := by kernel_rfl
theorem s84 : compS Tryz.prog 84 (anOf ans 84) = some a84 := by kernel_rfl
theorem s85 : compS Tryz.prog 85 (anOf ans 85) = some a85 := by kernel_rfl
theorem s86 : compS Tryz.prog 86 (anOf ans 86) = some a86 := by kernel_rfl
theorem s87 : compS Tryz.prog 87 (anOf ans 87) = some a87 := by kernel_rfl
theorem s88 : compS Tryz.prog 88 (anOf ans 88) = some a88 := by kernel_rfl
theorem s89 : compS Tryz.prog 89 (anOf ans 89) = some a89 := by kernel_rfl
theorem s90 : compS Tryz.prog 90 (anOf ans 90) = some a90 := by kernel_rfl
theorem s91 : compS Tryz.prog 91 (anOf ans 91) = some a91 := by kernel_rfl
theorem s92 : compS Tryz.prog 92 (anOf ans 92) = some a92 := by kernel_rfl
theorem s93 : compS Tryz.prog 93 (anOf ans 93) = some a93 := by kernel_rfl
theorem s94 : compS Tryz.prog 94 (anOf ans 94) = some a94 := by kernel_rfl
theorem s95 : compS Tryz.prog 95 (anOf ans 95) = some a95 := by kernel_rfl
theorem s96 : compS Tryz.prog 96 (anOf ans 96) = some a96 := by kernel_rfl
theorem s97 : compS Tryz.prog 97 (anOf ans 97) = some a97 := by kernel_rfl
theorem s98 : compS Tryz.prog 98 (anOf ans 98) = some a98 := by kernel_rfl
theorem s99 : compS Tryz.prog 99 (anOf ans 99) = some a99 := by kernel_rfl
theorem s100 : compS Tryz.prog 100 (anOf ans 100) = some a100 := by kernel_rfl
theorem s101 : compS Tryz.prog 101 (anOf ans 101) = some a101 := by kernel_rfl
theorem s103 : compS Tryz.prog 103 (anOf ans 103) = some a103 := by kernel_rfl
theorem s104 : compS Tryz.prog 104 (anOf ans 104) = some a104 := by kernel_rfl
theorem s105 : compS Tryz.prog 105 (anOf ans 105) = some a105 := by kernel_rfl
theorem s106 : compS Tryz.prog 106 (anOf ans 106) = some a106 := by kernel_rfl
theorem s107 : compS Tryz.prog 107 (anOf ans 107) = some a107 := by kernel_rfl
theorem s108 : compS Tryz.prog 108 (anOf ans 108) = some a108 := by kernel_rfl
theorem s110 : compS Tryz.prog 110 (anOf ans 110) = some a110 := by kernel_rfl
theorem s111 : compS Tryz.prog 111 (anOf ans 111) = some a111 := by kernel_rfl
theorem s112 : compS Tryz.prog 112 (anOf ans 112) = some a112 := by kernel_rfl
theorem s113 : compS Tryz.prog 113 (anOf ans 113) = some a113 := by kernel_rfl
theorem s114 : compS Tryz.prog 114 (anOf ans 114) = some a114 := by kernel_rfl
theorem s115 : compS Tryz.prog 115 (anOf ans 115) = some a115 := by kernel_rfl
theorem s116 : compS Tryz.prog 116 (anOf ans 116) = some a116 := by kernel_rfl
theorem s117 : compS Tryz.prog 117 (anOf ans 117) = some a117 := by kernel_rfl
theorem s118 : compS Tryz.prog 118 (anOf ans 118) = some a118 := by kernel_rfl
theorem s119 : compS Tryz.prog 119 (anOf ans 119) = some a119 := by kernel_rfl
theorem s120 : compS Tryz.prog 120 (anOf ans 120) = some a120 := by kernel_rfl
theorem s121 : compS Tryz.prog 121 (anOf ans 121) = some a121 := by kernel_rfl
theorem s122 : compS Tryz.prog 122 (anOf ans 122) = some a122 := by kernel_rfl
theorem s123 : compS Tryz.prog 123 (anOf ans 123) = some a123 := by kernel_rfl
theorem s126 : compS Tryz.prog 126 (anOf ans 126) = some a126 := by kernel_rfl
theorem s127 : compS Tryz.prog 127 (anOf ans 127) = some a127 := by kernel_rfl
theorem s128 : compS Tryz.prog 128 (anOf ans 128) = some a128 := by kernel_rfl
theorem s129 : compS Tryz.prog 129 (anOf ans 129) = some a129 := by kernel_rfl
theorem s130 : compS Tryz.prog 130 (anOf ans 130) = some a130 := by kernel_rfl
theorem s131 : compS Tryz.prog 131 (anOf ans 131) = some a131 := by kernel_rfl
theorem s132 : compS Tryz.prog 132 (anOf ans 132) = some a132 := by kernel_rfl
theorem s133 : compS Tryz.prog 133 (anOf ans 133) = some a133 := by kernel_rfl
theorem s134 : compS Tryz.prog 134 (anOf ans 134) = some a134 := by kernel_rfl
theorem s135 : compS Tryz.prog 135 (anOf ans 135) = some a135 := by kernel_rfl
theorem s136 : compS Tryz.prog 136 (anOf ans 136) = some a136 := by kernel_rfl
theorem s137 : compS Tryz.prog 137 (anOf ans 137) = some a137 := by kernel_rfl
theorem s138 : compS Tryz.prog 138 (anOf ans 138) = some a138 := by kernel_rfl
theorem s139 : compS Tryz.prog 139 (anOf ans 139) = some a139 := by kernel_rfl
def lib : Lib := ⟨[(124, 3, 40)], [(102, 3, 40)], [(109, 3)]⟩
noncomputable abbrev call : Phi := callU (progOf Tryz.prog (anOf ans)) (libPr lib)
theorem c124 (rows : List (List D)) (h1 : okRows 3 rows = true) (h2 : rows.length * 40 ≤ 140737488355328) (h3 : rows.length ≤ 9223372036854775807) (H : Hp) : callIso call 124 [.one (.d (.l rows))] H = some (.one (.sl (H.length + 1) 3 0 rows.length), H ++ [.dead, .arr 3 rows 0]) := clone_callL rfl rfl rfl rfl rows h1 h2 h3 H
end Go.Proofs.YtijnkmjbfekajaaGreat

