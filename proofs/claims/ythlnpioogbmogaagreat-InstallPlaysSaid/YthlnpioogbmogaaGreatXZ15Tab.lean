import Derived.Test.YthlnpioogbmogaaGreatVid
import Derived.Test.YthlnpioogbmogaaGreatChecked
import Derived.KernelRfl
set_option linter.unusedSimpArgs false
set_option linter.unusedVariables false
namespace Go.Proofs.YthlnpioogbmogaaGreat
open Go.Vi
def a3 : AF := ⟨57,
 (.seq
 (rg [
 o 1 (.box (.t 0)),
 o 2 (.mv (kb false))])
 (.seq
 (rg [
 o 10 (.fa 0 (.t 1)),
 o 11 (.ld none (.t 10)),
 o 12 (.cvi .i64 (.t 11)),
 o 13 (.bin .add (kc 20) (.t 12)),
 o 14 (.fa 1 (.t 1)),
 o 15 (.ld none (.t 14)),
 o 16 (.callp 6 [(.t 13), (.t 15)]),
 o 9 (.mv (.t 16)),
 o 17 (.ext (.t 9) 0),
 o 18 (.ext (.t 9) 1),
 o 3 (.alloc [.ns, .d (.i .i64 0), .d (.b false), .d (.i .i64 0), .d (.b false), .d (.i .i64 0), .ns, .d (.i .i64 0), .d (.i .i64 0), .d (.i .i64 0), .d (.i .u32 0)]),
 on (.st 11 (.t 3) (.t 17)),
 o 4 (.mv (.t 18))])
 (.seq
 (.seq
 (rg [
 o 19 (.mv (.t 4)),
 o 20 (.un .not (.t 19)),
 o 21 (.mv (.t 20)),
 og 22 21 false (.fa 3 (.t 1)),
 og 23 21 false (.ld none (.t 22)),
 og 24 21 false (.len true (.t 23)),
 og 25 21 false (.bin .gtr (.t 24) (kc 1000)),
 o 26 (.pick (.t 21) (kb true) (.t 25))])
 (.cond (.t 26)
 (.seq
 (rg [
 o 27 (.callp 7 []),
 o 2 (.mv (.t 27))])
 .ret)
 .skip))
 (.seq
 (rg [
 o 29 (.ld (some 11) (.t 3)),
 o 30 (.fa 2 (.t 1)),
 o 31 (.ld none (.t 30)),
 o 32 (.fa 3 (.t 1)),
 o 33 (.ld none (.t 32)),
 o 34 (.callp 8 [(.t 29), (.t 31), (.t 33)]),
 o 28 (.mv (.t 34)),
 o 35 (.ext (.t 28) 0),
 o 36 (.ext (.t 28) 1),
 o 5 (.alloc [.ns, .d (.i .i64 0), .d (.b false), .d (.i .i64 0), .d (.b false), .d (.i .i64 0), .ns, .d (.i .i64 0), .d (.i .i64 0), .d (.i .i64 0), .d (.i .u32 0)]),
 on (.st 11 (.t 5) (.t 35)),
 o 6 (.mv (.t 36))])
 (.seq
 (rg [
 o 38 (.ld (some 11) (.t 3)),
 o 39 (.fa 2 (.t 1)),
 o 40 (.ld none (.t 39)),
 o 41 (.fa 3 (.t 1)),
 o 42 (.ld none (.t 41)),
 o 43 (.callp 9 [(.t 38), (.t 40), (.t 42)]),
 o 37 (.mv (.t 43)),
 o 44 (.ext (.t 37) 0),
 o 45 (.ext (.t 37) 1),
 o 7 (.alloc [.ns, .d (.i .i64 0), .d (.b false), .d (.i .i64 0), .d (.b false), .d (.i .i64 0), .ns, .d (.i .i64 0), .d (.i .i64 0), .d (.i .i64 0), .d (.i .u32 0)]),
 on (.st 11 (.t 7) (.t 44)),
 o 8 (.mv (.t 45))])
 (.seq
 (rg [
 o 46 (.callp 7 []),
 o 47 (.mv (.t 46)),
 og 48 47 true (.ld (some 11) (.t 5)),
 og 49 47 true (.ld (some 11) (.t 7)),
 og 50 47 true (.callp 10 [(.t 48), (.t 49)]),
 o 51 (.pick (.t 47) (.t 50) (kb false)),
 o 52 (.mv (.t 51)),
 og 53 52 true (.mv (.t 6)),
 og 54 52 true (.mv (.t 8)),
 og 55 52 true (.bin .eql (.t 53) (.t 54)),
 o 56 (.pick (.t 52) (.t 55) (kb false)),
 o 2 (.mv (.t 56))])
 .ret)))))),
 [.t 2], false⟩
def a4_0 : AC :=
 (.seq
 (.seq
 (rg [
 o 128 (.mv (.t 13)),
 o 129 (.mv (.t 1)),
 o 130 (.len false (.t 129)),
 o 131 (.bin .lss (.t 128) (.t 130))])
 (.cond (.t 131)
 .skip
 (.exit 0)))
 (.seq
 (.block 1
 (.seq
 (rd [
 o 135 (.ld (some 11) (.t 7)),
 o 136 (.fa 0 (.t 2)),
 od 137 [1] (.ld none (.t 136)),
 od 138 [1, 2] (.cvi .i64 (.t 137)),
 od 139 [2, 1, 3] (.bin .add (kc 20) (.t 138)),
 o 140 (.fa 7 (.t 7)),
 od 141 [5] (.ld none (.t 140)),
 o 142 (.mv (.t 1)),
 o 143 (.mv (.t 13)),
 od 144 [8, 7] (.ia 1 (.t 142) (.t 143)),
 od 145 [7, 8, 9] (.ld none (.t 144)),
 od 146 [9, 8, 7, 10, 5, 6] (.build [.d (.i .i64 0), .d (.i .i64 0), .d (.s [])] [(0, 1, (.t 141)), (2, 1, (.t 145))]),
 od 147 [6, 5, 10, 7, 8, 9, 11, 3, 1, 2, 4, 0] (.callp 16 [(.t 135), (.t 139), (.t 146)]),
 od 134 [0, 4, 2, 1, 3, 11, 9, 8, 7, 10, 5, 6, 12] (.mv (.t 147)),
 od 148 [12, 6, 5, 10, 7, 8, 9, 11, 3, 1, 2, 4, 0, 13] (.ext (.t 134) 0),
 od 149 [12, 6, 5, 10, 7, 8, 9, 11, 3, 1, 2, 4, 0, 13] (.ext (.t 134) 1),
 o 14 (.alloc [.ns, .d (.i .i64 0), .d (.b false), .d (.i .i64 0), .d (.b false), .d (.i .i64 0), .ns, .d (.i .i64 0), .d (.i .i64 0), .d (.i .i64 0), .d (.i .u32 0)]),
 ⟨none, .st 11 (.t 14) (.t 148), none, [13, 0, 4, 2, 1, 3, 11, 9, 8, 7, 10, 5, 6, 12, 14, 16], false⟩,
 od 15 [16, 14, 17, 13, 0, 4, 2, 1, 3, 11, 9, 8, 7, 10, 5, 6, 12, 15] (.mv (.t 149))])
 (.seq
 (.seq
 (rg [
 o 150 (.mv (.t 15)),
 o 151 (.bin .neq (.t 150) (kc 0))])
 (.cond (.t 151)
 (.exit 0)
 .skip))
 (.seq
 (rg [
 o 152 (.ld (some 11) (.t 14)),
 on (.st 11 (.t 7) (.t 152))])
 (rg [
 o 153 (.mv (.t 9)),
 o 154 (.mv (.t 1)),
 o 155 (.mv (.t 13)),
 o 156 (.ia 1 (.t 154) (.t 155)),
 o 157 (.ld none (.t 156)),
 o 158 (.callp 17 [(.t 153), (.t 157)]),
 o 9 (.mv (.t 158))])))))
 (rg [
 o 132 (.mv (.t 13)),
 o 133 (.bin .add (.t 132) (kc 1)),
 o 13 (.mv (.t 133))])))
def a4 : AF := ⟨168,
 (.seq
 (rg [
 o 2 (.box (.t 0)),
 o 4 (.mv (kb false))])
 (.seq
 (rg [
 o 17 (.fa 0 (.t 2)),
 o 18 (.ld none (.t 17)),
 o 19 (.cvi .i64 (.t 18)),
 o 20 (.bin .add (kc 20) (.t 19)),
 o 21 (.fa 1 (.t 2)),
 o 22 (.ld none (.t 21)),
 o 23 (.callp 6 [(.t 20), (.t 22)]),
 o 16 (.mv (.t 23)),
 o 24 (.ext (.t 16) 0),
 o 25 (.ext (.t 16) 1),
 o 5 (.alloc [.ns, .d (.i .i64 0), .d (.b false), .d (.i .i64 0), .d (.b false), .d (.i .i64 0), .ns, .d (.i .i64 0), .d (.i .i64 0), .d (.i .i64 0), .d (.i .u32 0)]),
 on (.st 11 (.t 5) (.t 24)),
 o 6 (.mv (.t 25))])
 (.seq
 (.seq
 (rg [
 o 26 (.mv (.t 6)),
 o 27 (.un .not (.t 26)),
 o 28 (.mv (.t 27)),
 og 29 28 false (.fa 3 (.t 2)),
 og 30 28 false (.ld none (.t 29)),
 og 31 28 false (.len true (.t 30)),
 og 32 28 false (.bin .gtr (.t 31) (kc 1000)),
 o 33 (.pick (.t 28) (kb true) (.t 32)),
 o 34 (.mv (.t 33)),
 og 35 34 false (.mv (.t 1)),
 og 36 34 false (.len false (.t 35)),
 og 37 34 false (.bin .gtr (.t 36) (kc 20)),
 o 38 (.pick (.t 34) (kb true) (.t 37)),
 o 39 (.mv (.t 38)),
 og 40 39 false (.fa 2 (.t 2)),
 og 41 39 false (.ld none (.t 40)),
 og 42 39 false (.bin .gtr (.t 41) (kc 549755813888)),
 o 43 (.pick (.t 39) (kb true) (.t 42))])
 (.cond (.t 43)
 (.seq
 (rg [
 o 44 (.callp 7 []),
 o 4 (.mv (.t 44))])
 .ret)
 .skip))
 (.seq
 (rg [
 o 46 (.ld (some 11) (.t 5)),
 o 47 (.fa 2 (.t 2)),
 o 48 (.ld none (.t 47)),
 o 49 (.fa 3 (.t 2)),
 o 50 (.ld none (.t 49)),
 o 51 (.callp 8 [(.t 46), (.t 48), (.t 50)]),
 o 45 (.mv (.t 51)),
 o 52 (.ext (.t 45) 0),
 o 53 (.ext (.t 45) 1),
 o 7 (.alloc [.ns, .d (.i .i64 0), .d (.b false), .d (.i .i64 0), .d (.b false), .d (.i .i64 0), .ns, .d (.i .i64 0), .d (.i .i64 0), .d (.i .i64 0), .d (.i .u32 0)]),
 on (.st 11 (.t 7) (.t 52)),
 o 8 (.mv (.t 53))])
 (.seq
 (.seq
 (rg [
 o 54 (.mv (.t 8)),
 o 55 (.bin .neq (.t 54) (kc 0))])
 (.cond (.t 55)
 (.seq
 (rg [
 o 56 (.fa 0 (.t 5)),
 o 57 (.fa 4 (.t 56)),
 o 58 (.ld none (.t 57)),
 o 59 (.fa 0 (.t 7)),
 o 60 (.fa 4 (.t 59)),
 on (.st 1 (.t 60) (.t 58))])
 (.seq
 (rg [
 o 61 (.callp 7 []),
 o 62 (.mv (.t 61)),
 og 63 62 true (.mv (.t 8)),
 og 64 62 true (.bin .eql (.t 63) (kc 10)),
 og 65 62 true (.mv (.t 64)),
 og 66 65 false (.fa 0 (.t 7)),
 og 67 65 false (.ld (some 5) (.t 66)),
 og 68 65 false (.fa 0 (.t 5)),
 og 69 65 false (.ld (some 5) (.t 68)),
 og 70 65 false (.callp 11 [(.t 67), (.t 69)]),
 og 71 62 true (.pick (.t 65) (kb true) (.t 70)),
 og 72 62 true (.mv (.t 71)),
 og 73 72 false (.fa 0 (.t 5)),
 og 74 72 false (.fa 2 (.t 73)),
 og 75 72 false (.ld none (.t 74)),
 og 76 62 true (.pick (.t 72) (kb true) (.t 75)),
 o 77 (.pick (.t 62) (.t 76) (kb false)),
 o 78 (.mv (.t 77)),
 og 79 78 true (.mv (.t 8)),
 og 80 78 true (.bin .eql (.t 79) (kc 10)),
 og 81 78 true (.mv (.t 80)),
 og 82 81 false (.fa 7 (.t 7)),
 og 83 81 false (.ld none (.t 82)),
 og 84 81 false (.fa 7 (.t 5)),
 og 85 81 false (.ld none (.t 84)),
 og 86 81 false (.bin .eql (.t 83) (.t 85)),
 og 87 81 false (.mv (.t 86)),
 og 88 87 true (.fa 5 (.t 7)),
 og 89 87 true (.ld none (.t 88)),
 og 90 87 true (.fa 5 (.t 5)),
 og 91 87 true (.ld none (.t 90)),
 og 92 87 true (.bin .eql (.t 89) (.t 91)),
 og 93 81 false (.pick (.t 87) (.t 92) (kb false)),
 og 94 78 true (.pick (.t 81) (kb true) (.t 93)),
 o 95 (.pick (.t 78) (.t 94) (kb false)),
 o 4 (.mv (.t 95))])
 .ret))
 .skip))
 (.seq
 (rg [
 o 97 (.fa 3 (.t 2)),
 o 98 (.ld none (.t 97)),
 o 99 (.callp 12 [(.t 98)]),
 o 96 (.mv (.t 99)),
 o 100 (.ext (.t 96) 0),
 o 101 (.ext (.t 96) 1),
 o 9 (.mv (.t 100)),
 o 10 (.mv (.t 101))])
 (.seq
 (rg [
 o 103 (.ld (some 11) (.t 7)),
 o 104 (.fa 2 (.t 2)),
 o 105 (.ld none (.t 104)),
 o 106 (.bin .sub (.t 105) (kc 1)),
 o 107 (.callp 13 [(.t 103), (.t 106)]),
 o 102 (.mv (.t 107)),
 o 108 (.ext (.t 102) 0),
 o 109 (.ext (.t 102) 1),
 o 11 (.alloc [.d (.i .i64 0), .d (.i .i64 0), .d (.s [])]),
 on (.st 3 (.t 11) (.t 108)),
 o 12 (.mv (.t 109))])
 (.seq
 (.seq
 (rg [
 o 110 (.fa 7 (.t 7)),
 o 111 (.ld none (.t 110)),
 o 112 (.fa 2 (.t 2)),
 o 113 (.ld none (.t 112)),
 o 114 (.bin .neq (.t 111) (.t 113)),
 o 115 (.mv (.t 114)),
 og 116 115 false (.ld (some 11) (.t 7)),
 og 117 115 false (.fa 7 (.t 7)),
 og 118 115 false (.ld none (.t 117)),
 og 119 115 false (.callp 15 [(.t 116), (.t 118)]),
 og 120 115 false (.mv (.t 9)),
 og 121 115 false (.callp 14 [(.t 119), (.t 120)]),
 og 122 115 false (.un .not (.t 121)),
 o 123 (.pick (.t 115) (kb true) (.t 122)),
 o 124 (.mv (.t 123)),
 og 125 124 false (.mv (.t 12)),
 og 126 124 false (.bin .neq (.t 125) (kc 11)),
 o 127 (.pick (.t 124) (kb true) (.t 126))])
 (.cond (.t 127)
 (.seq
 (rg [
 o 4 (.mv (kb false))])
 .ret)
 .skip))
 (.seq
 (.seq
 (rg [
 o 13 (.mv (kc 0))])
 (.block 0
 (.loop [1, 2, 7, 9, 13] a4_0)))
 (.seq
 (rg [
 o 159 (.callp 7 []),
 o 160 (.mv (.t 159)),
 og 161 160 true (.ld (some 11) (.t 7)),
 og 162 160 true (.fa 7 (.t 7)),
 og 163 160 true (.ld none (.t 162)),
 og 164 160 true (.callp 15 [(.t 161), (.t 163)]),
 og 165 160 true (.mv (.t 9)),
 og 166 160 true (.callp 14 [(.t 164), (.t 165)]),
 o 167 (.pick (.t 160) (.t 166) (kb false)),
 o 4 (.mv (.t 167))])
 .ret)))))))))),
 [.t 4], false⟩
def a5 : AF := ⟨136,
 (.seq
 (rg [
 o 2 (.box (.t 0)),
 o 4 (.mv (kb false))])
 (.seq
 (rg [
 o 14 (.fa 0 (.t 2)),
 o 15 (.ld none (.t 14)),
 o 16 (.cvi .i64 (.t 15)),
 o 17 (.bin .add (kc 20) (.t 16)),
 o 18 (.fa 1 (.t 2)),
 o 19 (.ld none (.t 18)),
 o 20 (.callp 6 [(.t 17), (.t 19)]),
 o 13 (.mv (.t 20)),
 o 21 (.ext (.t 13) 0),
 o 22 (.ext (.t 13) 1),
 o 5 (.alloc [.ns, .d (.i .i64 0), .d (.b false), .d (.i .i64 0), .d (.b false), .d (.i .i64 0), .ns, .d (.i .i64 0), .d (.i .i64 0), .d (.i .i64 0), .d (.i .u32 0)]),
 on (.st 11 (.t 5) (.t 21)),
 o 6 (.mv (.t 22))])
 (.seq
 (.seq
 (rg [
 o 23 (.mv (.t 6)),
 o 24 (.un .not (.t 23)),
 o 25 (.mv (.t 24)),
 og 26 25 false (.fa 3 (.t 2)),
 og 27 25 false (.ld none (.t 26)),
 og 28 25 false (.len true (.t 27)),
 og 29 25 false (.bin .gtr (.t 28) (kc 1000)),
 o 30 (.pick (.t 25) (kb true) (.t 29)),
 o 31 (.mv (.t 30)),
 og 32 31 false (.fa 0 (.t 5)),
 og 33 31 false (.fa 1 (.t 32)),
 og 34 31 false (.ld none (.t 33)),
 og 35 31 false (.bin .gtr (.t 34) (kc 0)),
 o 36 (.pick (.t 31) (kb true) (.t 35)),
 o 37 (.mv (.t 36)),
 og 38 37 false (.fa 0 (.t 5)),
 og 39 37 false (.fa 4 (.t 38)),
 og 40 37 false (.ld none (.t 39)),
 o 41 (.pick (.t 37) (kb true) (.t 40)),
 o 42 (.mv (.t 41)),
 og 43 42 false (.fa 6 (.t 5)),
 og 44 42 false (.ld none (.t 43)),
 og 45 42 false (.len false (.t 44)),
 og 46 42 false (.bin .eql (.t 45) (kc 0)),
 o 47 (.pick (.t 42) (kb true) (.t 46))])
 (.cond (.t 47)
 (.seq
 (rg [
 o 48 (.callp 7 []),
 o 4 (.mv (.t 48))])
 .ret)
 .skip))
 (.seq
 (rg [
 o 50 (.ld (some 11) (.t 5)),
 o 51 (.callp 18 [(.t 50)]),
 o 49 (.mv (.t 51)),
 o 52 (.ext (.t 49) 0),
 o 53 (.ext (.t 49) 1),
 on (.st 11 (.t 5) (.t 52))])
 (.seq
 (.seq
 (rg [
 o 54 (.fa 0 (.t 5)),
 o 55 (.fa 4 (.t 54)),
 o 56 (.ld none (.t 55))])
 (.cond (.t 56)
 (.seq
 (rg [
 o 57 (.callp 7 []),
 o 4 (.mv (.t 57))])
 .ret)
 .skip))
 (.seq
 (rg [
 o 58 (.fa 0 (.t 5)),
 o 59 (.ld (some 5) (.t 58)),
 o 60 (.mv (.t 1)),
 o 61 (.bin .rem (.t 60) (kx (.d (.i .u8 16)))),
 o 62 (.cvi .i64 (.t 61)),
 o 63 (.callp 19 [(.t 59), (.t 62)]),
 o 64 (.fa 0 (.t 5)),
 on (.st 5 (.t 64) (.t 63))])
 (.seq
 (rg [
 o 66 (.ld (some 11) (.t 5)),
 o 67 (.fa 2 (.t 2)),
 o 68 (.ld none (.t 67)),
 o 69 (.fa 3 (.t 2)),
 o 70 (.ld none (.t 69)),
 o 71 (.callp 8 [(.t 66), (.t 68), (.t 70)]),
 o 65 (.mv (.t 71)),
 o 72 (.ext (.t 65) 0),
 o 73 (.ext (.t 65) 1),
 o 7 (.alloc [.ns, .d (.i .i64 0), .d (.b false), .d (.i .i64 0), .d (.b false), .d (.i .i64 0), .ns, .d (.i .i64 0), .d (.i .i64 0), .d (.i .i64 0), .d (.i .u32 0)]),
 on (.st 11 (.t 7) (.t 72)),
 o 8 (.mv (.t 73))])
 (.seq
 (rg [
 o 75 (.fa 0 (.t 7)),
 o 76 (.ld (some 5) (.t 75)),
 o 77 (.callp 21 [(.t 76), (kx (.ns))]),
 o 78 (.callp 20 [(.t 77)]),
 o 74 (.mv (.t 78)),
 o 79 (.ext (.t 74) 0),
 o 80 (.ext (.t 74) 1),
 o 9 (.alloc [.ns, .d (.i .i64 0), .d (.b false), .d (.i .i64 0), .d (.b false), .d (.i .i64 0), .ns, .d (.i .i64 0), .d (.i .i64 0), .d (.i .i64 0), .d (.i .u32 0)]),
 on (.st 11 (.t 9) (.t 79)),
 o 10 (.mv (.t 80))])
 (.seq
 (.seq
 (rg [
 o 81 (.mv (.t 10)),
 o 82 (.bin .neq (.t 81) (kc 0))])
 (.cond (.t 82)
 (.seq
 (rg [
 o 4 (.mv (kb false))])
 .ret)
 .skip))
 (.seq
 (.seq
 (rg [
 o 83 (.mv (.t 8)),
 o 84 (.bin .eql (.t 83) (kc 1))])
 (.cond (.t 84)
 (.seq
 (rg [
 o 85 (.callp 7 []),
 o 86 (.mv (.t 85)),
 og 87 86 true (.fa 7 (.t 9)),
 og 88 86 true (.ld none (.t 87)),
 og 89 86 true (.fa 8 (.t 5)),
 og 90 86 true (.ld none (.t 89)),
 og 91 86 true (.bin .eql (.t 88) (.t 90)),
 o 92 (.pick (.t 86) (.t 91) (kb false)),
 o 4 (.mv (.t 92))])
 .ret)
 .skip))
 (.seq
 (rg [
 o 94 (.fa 3 (.t 2)),
 o 95 (.ld none (.t 94)),
 o 96 (.callp 12 [(.t 95)]),
 o 93 (.mv (.t 96)),
 o 97 (.ext (.t 93) 0),
 o 98 (.ext (.t 93) 1),
 o 11 (.mv (.t 97)),
 o 12 (.mv (.t 98))])
 (.seq
 (.seq
 (rg [
 o 99 (.fa 7 (.t 9)),
 o 100 (.ld none (.t 99)),
 o 101 (.fa 2 (.t 2)),
 o 102 (.ld none (.t 101)),
 o 103 (.bin .eql (.t 100) (.t 102))])
 (.cond (.t 103)
 (.seq
 (rg [
 o 104 (.callp 7 []),
 o 105 (.mv (.t 104)),
 og 106 105 true (.ld (some 11) (.t 9)),
 og 107 105 true (.fa 7 (.t 9)),
 og 108 105 true (.ld none (.t 107)),
 og 109 105 true (.callp 15 [(.t 106), (.t 108)]),
 og 110 105 true (.mv (.t 11)),
 og 111 105 true (.callp 14 [(.t 109), (.t 110)]),
 o 112 (.pick (.t 105) (.t 111) (kb false)),
 o 4 (.mv (.t 112))])
 .ret)
 .skip))
 (.seq
 (rg [
 o 113 (.callp 7 []),
 o 114 (.mv (.t 113)),
 og 115 114 true (.mv (.t 8)),
 og 116 114 true (.bin .eql (.t 115) (kc 10)),
 o 117 (.pick (.t 114) (.t 116) (kb false)),
 o 118 (.mv (.t 117)),
 og 119 118 true (.fa 7 (.t 9)),
 og 120 118 true (.ld none (.t 119)),
 og 121 118 true (.fa 7 (.t 5)),
 og 122 118 true (.ld none (.t 121)),
 og 123 118 true (.bin .eql (.t 120) (.t 122)),
 o 124 (.pick (.t 118) (.t 123) (kb false)),
 o 125 (.mv (.t 124)),
 og 126 125 true (.ld (some 11) (.t 9)),
 og 127 125 true (.fa 7 (.t 9)),
 og 128 125 true (.ld none (.t 127)),
 og 129 125 true (.callp 15 [(.t 126), (.t 128)]),
 og 130 125 true (.ld (some 11) (.t 5)),
 og 131 125 true (.fa 7 (.t 5)),
 og 132 125 true (.ld none (.t 131)),
 og 133 125 true (.callp 15 [(.t 130), (.t 132)]),
 og 134 125 true (.callp 14 [(.t 129), (.t 133)]),
 o 135 (.pick (.t 125) (.t 134) (kb false)),
 o 4 (.mv (.t 135))])
 .ret))))))))))))),
 [.t 4], false⟩
def a6_0 : AC :=
 (.seq
 (.seq
 (rg [
 o 18 (.mv (.t 8)),
 o 19 (.mv (.t 1)),
 o 20 (.len false (.t 19)),
 o 21 (.bin .lss (.t 18) (.t 20))])
 (.cond (.t 21)
 .skip
 (.exit 0)))
 (.seq
 (.block 1
 (.seq
 (.seq
 (rg [
 o 24 (.mv (.t 1)),
 o 25 (.mv (.t 8)),
 o 26 (.ia 4 (.t 24) (.t 25)),
 o 27 (.fa 3 (.t 26)),
 o 28 (.ld none (.t 27)),
 o 29 (.len true (.t 28)),
 o 30 (.bin .gtr (.t 29) (kc 64))])
 (.cond (.t 30)
 (.seq
 (rg [
 o 31 (.ld (some 11) (.t 6)),
 on (.st 11 (.t 4) (.t 31)),
 o 5 (.mv (kb false))])
 .ret)
 .skip))
 (.seq
 (rg [
 o 32 (.mv (.t 1)),
 o 33 (.mv (.t 8)),
 o 34 (.ia 4 (.t 32) (.t 33)),
 o 35 (.fa 0 (.t 34)),
 o 36 (.ld none (.t 35))])
 (.block 2
 (.seq
 (rg [
 o 53 (.bin .eql (.t 36) (kc 1)),
 o 52 (.mv (.t 53))])
 (.cond (.t 52)
 (rg [
 o 55 (.ld (some 11) (.t 6)),
 o 56 (.callp 18 [(.t 55)]),
 o 54 (.mv (.t 56)),
 o 57 (.ext (.t 54) 0),
 o 58 (.ext (.t 54) 1),
 on (.st 11 (.t 6) (.t 57))])
 (.seq
 (rg [
 o 60 (.bin .eql (.t 36) (kc 2)),
 o 59 (.mv (.t 60))])
 (.cond (.t 59)
 (rg [
 o 62 (.ld (some 11) (.t 6)),
 o 63 (.mv (.t 1)),
 o 64 (.mv (.t 8)),
 o 65 (.ia 4 (.t 63) (.t 64)),
 o 66 (.fa 1 (.t 65)),
 o 67 (.ld none (.t 66)),
 o 68 (.mv (.t 1)),
 o 69 (.mv (.t 8)),
 o 70 (.ia 4 (.t 68) (.t 69)),
 o 71 (.fa 2 (.t 70)),
 o 72 (.ld none (.t 71)),
 o 73 (.callp 23 [(.t 62), (.t 67), (.t 72)]),
 o 61 (.mv (.t 73)),
 o 74 (.ext (.t 61) 0),
 o 75 (.ext (.t 61) 1),
 on (.st 11 (.t 6) (.t 74))])
 (.seq
 (rg [
 o 77 (.bin .eql (.t 36) (kc 3)),
 o 76 (.mv (.t 77))])
 (.cond (.t 76)
 (rg [
 o 78 (.fa 0 (.t 6)),
 o 79 (.ld (some 5) (.t 78)),
 o 80 (.mv (.t 1)),
 o 81 (.mv (.t 8)),
 o 82 (.ia 4 (.t 80) (.t 81)),
 o 83 (.fa 1 (.t 82)),
 o 84 (.ld none (.t 83)),
 o 85 (.callp 19 [(.t 79), (.t 84)]),
 o 86 (.fa 0 (.t 6)),
 on (.st 5 (.t 86) (.t 85))])
 (.seq
 (rg [
 o 88 (.bin .eql (.t 36) (kc 4)),
 o 87 (.mv (.t 88))])
 (.cond (.t 87)
 (rg [
 o 89 (.fa 0 (.t 6)),
 o 90 (.ld (some 5) (.t 89)),
 o 91 (.mv (.t 1)),
 o 92 (.mv (.t 8)),
 o 93 (.ia 4 (.t 91) (.t 92)),
 o 94 (.fa 1 (.t 93)),
 o 95 (.ld none (.t 94)),
 o 96 (.callp 24 [(.t 90), (.t 95)]),
 o 97 (.fa 0 (.t 6)),
 on (.st 5 (.t 97) (.t 96))])
 (rg [
 o 38 (.ld (some 11) (.t 6)),
 o 39 (.mv (.t 0)),
 o 40 (.fa 7 (.t 6)),
 o 41 (.ld none (.t 40)),
 o 42 (.mv (.t 8)),
 o 43 (.mv (.t 1)),
 o 44 (.mv (.t 8)),
 o 45 (.ia 4 (.t 43) (.t 44)),
 o 46 (.fa 3 (.t 45)),
 o 47 (.ld none (.t 46)),
 o 48 (.build [.d (.i .i64 0), .d (.i .i64 0), .d (.s [])] [(0, 1, (.t 41)), (1, 1, (.t 42)), (2, 1, (.t 47))]),
 o 49 (.callp 16 [(.t 38), (.t 39), (.t 48)]),
 o 37 (.mv (.t 49)),
 o 50 (.ext (.t 37) 0),
 o 51 (.ext (.t 37) 1),
 on (.st 11 (.t 6) (.t 50))])))))))))))))
 (rg [
 o 22 (.mv (.t 8)),
 o 23 (.bin .add (.t 22) (kc 1)),
 o 8 (.mv (.t 23))])))
def a6 : AF := ⟨99,
 (.seq
 (rg [
 o 4 (.alloc [.ns, .d (.i .i64 0), .d (.b false), .d (.i .i64 0), .d (.b false), .d (.i .i64 0), .ns, .d (.i .i64 0), .d (.i .i64 0), .d (.i .i64 0), .d (.i .u32 0)]),
 o 5 (.mv (kb false))])
 (.seq
 (rg [
 o 10 (.build [.ns, .d (.i .i64 0), .d (.b false), .d (.i .i64 0), .d (.b false)] []),
 o 11 (.callp 22 [(.t 10)]),
 o 9 (.mv (.t 11)),
 o 12 (.ext (.t 9) 0),
 o 13 (.ext (.t 9) 1),
 o 6 (.alloc [.ns, .d (.i .i64 0), .d (.b false), .d (.i .i64 0), .d (.b false), .d (.i .i64 0), .ns, .d (.i .i64 0), .d (.i .i64 0), .d (.i .i64 0), .d (.i .u32 0)]),
 on (.st 11 (.t 6) (.t 12)),
 o 7 (.mv (.t 13))])
 (.seq
 (.seq
 (rg [
 o 14 (.mv (.t 1)),
 o 15 (.len false (.t 14)),
 o 16 (.bin .gtr (.t 15) (kc 40))])
 (.cond (.t 16)
 (.seq
 (rg [
 o 17 (.ld (some 11) (.t 6)),
 on (.st 11 (.t 4) (.t 17)),
 o 5 (.mv (kb false))])
 .ret)
 .skip))
 (.seq
 (.seq
 (rg [
 o 8 (.mv (kc 0))])
 (.block 0
 (.loop [0, 1, 4, 6, 8] a6_0)))
 (.seq
 (rg [
 o 98 (.ld (some 11) (.t 6)),
 on (.st 11 (.t 4) (.t 98)),
 o 5 (.mv (kb true))])
 .ret))))),
 [.c (some 11) 4, .t 5], false⟩
def a7 : AF := ⟨41,
 (.seq
 (rg [
 o 0 (.mv (kb false))])
 (.seq
 (rg [
 o 6 (.build [.ns, .d (.i .i64 0), .d (.b false), .d (.i .i64 0), .d (.b false)] []),
 o 7 (.callp 22 [(.t 6)]),
 o 5 (.mv (.t 7)),
 o 8 (.ext (.t 5) 0),
 o 9 (.ext (.t 5) 1),
 o 1 (.alloc [.ns, .d (.i .i64 0), .d (.b false), .d (.i .i64 0), .d (.b false), .d (.i .i64 0), .ns, .d (.i .i64 0), .d (.i .i64 0), .d (.i .i64 0), .d (.i .u32 0)]),
 on (.st 11 (.t 1) (.t 8)),
 o 2 (.mv (.t 9))])
 (.seq
 (rg [
 o 11 (.ld (some 11) (.t 1)),
 o 12 (.callp 8 [(.t 11), (kc 7), (ks [1, 97, 1, 49])]),
 o 10 (.mv (.t 12)),
 o 13 (.ext (.t 10) 0),
 o 14 (.ext (.t 10) 1),
 o 3 (.alloc [.ns, .d (.i .i64 0), .d (.b false), .d (.i .i64 0), .d (.b false), .d (.i .i64 0), .ns, .d (.i .i64 0), .d (.i .i64 0), .d (.i .i64 0), .d (.i .u32 0)]),
 on (.st 11 (.t 3) (.t 13)),
 o 4 (.mv (.t 14))])
 (.seq
 (rg [
 o 15 (.mv (.t 4)),
 o 16 (.bin .eql (.t 15) (kc 0)),
 o 17 (.mv (.t 16)),
 og 18 17 true (.fa 6 (.t 3)),
 og 19 17 true (.ld none (.t 18)),
 og 20 17 true (.len false (.t 19)),
 og 21 17 true (.bin .eql (.t 20) (kc 1)),
 o 22 (.pick (.t 17) (.t 21) (kb false)),
 o 23 (.mv (.t 22)),
 og 24 23 true (.fa 6 (.t 3)),
 og 25 23 true (.ld none (.t 24)),
 og 26 23 true (.ia 3 (.t 25) (kc 0)),
 og 27 23 true (.fa 0 (.t 26)),
 og 28 23 true (.ld none (.t 27)),
 og 29 23 true (.bin .eql (.t 28) (kc 7)),
 o 30 (.pick (.t 23) (.t 29) (kb false)),
 o 31 (.mv (.t 30)),
 og 32 31 true (.fa 7 (.t 3)),
 og 33 31 true (.ld none (.t 32)),
 og 34 31 true (.bin .eql (.t 33) (kc 7)),
 o 35 (.pick (.t 31) (.t 34) (kb false)),
 o 36 (.mv (.t 35)),
 og 37 36 true (.ld (some 11) (.t 3)),
 og 38 36 true (.callp 25 [(.t 37)]),
 og 39 36 true (.bin .eql (.t 38) (ks [1, 97, 1, 49])),
 o 40 (.pick (.t 36) (.t 39) (kb false)),
 o 0 (.mv (.t 40))])
 .ret)))),
 [.t 0], false⟩
def a8_0 : AC :=
 (.seq
 (rg [
 o 87 (.bin .lss (.t 86) (.t 85))])
 (.seq
 (.cond (.t 87)
 .skip
 (.exit 0))
 (.seq
 (.block 1
 (.seq
 (rg [
 o 88 (.ia 3 (.t 84) (.t 86)),
 o 89 (.ld (some 3) (.t 88)),
 o 17 (.alloc [.d (.i .i64 0), .d (.i .i64 0), .d (.i .i64 0)]),
 on (.st 3 (.t 17) (.t 89))])
 (rg [
 o 90 (.mv (.t 15)),
 o 91 (.fa 0 (.t 17)),
 o 92 (.ld none (.t 91)),
 o 93 (.callp 29 [(.t 92)]),
 o 94 (.call 41 [(.t 93)]),
 o 95 (.bs1 2 (.t 94)),
 o 96 (.app false 2 32 (.t 90) (.t 95)),
 o 15 (.mv (.t 96))])))
 (rg [
 o 97 (.bin .add (.t 86) (kc 1)),
 o 86 (.mv (.t 97))]))))
def a8 : AF := ⟨117,
 (.seq
 (rg [
 o 3 (.box (.t 0)),
 o 5 (.box (.t 2)),
 o 6 (.alloc [.ns, .d (.i .i64 0), .d (.b false), .d (.i .i64 0), .d (.b false), .d (.i .i64 0), .ns, .d (.i .i64 0), .d (.i .i64 0), .d (.i .i64 0), .d (.i .u32 0)]),
 o 7 (.mv (kc 0))])
 (.seq
 (.seq
 (rg [
 o 20 (.ld none (.t 5)),
 o 21 (.callp 26 [(.t 20)]),
 o 19 (.mv (.t 21)),
 o 22 (.ext (.t 19) 0),
 o 23 (.ext (.t 19) 1),
 o 8 (.mv (.t 22)),
 o 9 (.mv (.t 23))])
 (.seq
 (rg [
 o 24 (.mv (.t 9)),
 o 25 (.un .not (.t 24)),
 o 26 (.mv (.t 25)),
 og 27 26 false (.mv (.t 1)),
 og 28 26 false (.fa 7 (.t 3)),
 og 29 26 false (.ld none (.t 28)),
 og 30 26 false (.bin .leq (.t 27) (.t 29)),
 o 31 (.pick (.t 26) (kb true) (.t 30)),
 o 32 (.mv (.t 31)),
 og 33 32 false (.mv (.t 1)),
 og 34 32 false (.bin .gtr (.t 33) (kc 1099511627776)),
 o 35 (.pick (.t 32) (kb true) (.t 34))])
 (.cond (.t 35)
 (.seq
 (rg [
 o 36 (.ld (some 11) (.t 3)),
 on (.st 11 (.t 6) (.t 36)),
 o 7 (.mv (kc 1))])
 .ret)
 .skip)))
 (.seq
 (rd [
 o 37 (.fa 5 (.t 3)),
 od 38 [0] (.ld none (.t 37)),
 od 39 [0, 1] (.bin .add (.t 38) (kc 1)),
 o 40 (.mv (.t 1)),
 od 41 [3] (.build [.d (.i .i64 0), .d (.i .i64 0), .d (.i .i64 0)] [(0, 1, (.t 40))]),
 od 42 [3, 4] (.bsl 3 [[.i .i64 0, .i .i64 0, .i .i64 0]] [(0, (.t 41))]),
 o 43 (.mv (.t 1)),
 o 44 (.mv (.t 1)),
 o 45 (.ld none (.t 5)),
 od 46 [8] (.len true (.t 45)),
 o 47 (.ld none (.t 5)),
 od 48 [10] (.bsl 1 [[.s []]] [(0, (.t 47))]),
 od 49 [10, 11] (.callz 27 [(.t 48)]),
 od 50 [11, 10, 12, 8, 9, 7, 6, 4, 3, 5, 1, 0, 2] (.build [.ns, .d (.i .i64 0), .d (.b false), .d (.i .i64 0), .d (.b false), .d (.i .i64 0), .ns, .d (.i .i64 0), .d (.i .i64 0), .d (.i .i64 0), .d (.i .u32 0)] [(5, 1, (.t 39)), (6, 1, (.t 42)), (7, 1, (.t 43)), (8, 1, (.t 44)), (9, 1, (.t 46)), (10, 1, (.t 49))]),
 o 10 (.alloc [.ns, .d (.i .i64 0), .d (.b false), .d (.i .i64 0), .d (.b false), .d (.i .i64 0), .ns, .d (.i .i64 0), .d (.i .i64 0), .d (.i .i64 0), .d (.i .u32 0)]),
 ⟨none, .st 11 (.t 10) (.t 50), none, [2, 0, 1, 5, 3, 4, 6, 7, 9, 8, 12, 10, 11, 13, 14], false⟩])
 (.seq
 (rg [
 o 51 (.mv (.t 1)),
 o 52 (.callp 28 [(.t 51)]),
 o 53 (.mv (.t 1)),
 o 54 (.callp 29 [(.t 53)]),
 o 11 (.alloc [.d (.s [])]),
 o 12 (.alloc [.d (.s [])]),
 on (.st 1 (.t 11) (.t 52)),
 on (.st 1 (.t 12) (.t 54))])
 (.seq
 (rg [
 o 56 (.fa 0 (.t 3)),
 o 57 (.ld (some 5) (.t 56)),
 o 58 (.mkf 31 [(.t 11)]),
 o 59 (.build [.nf, .ns] [(0, 1, (.t 58))]),
 o 60 (.mkf 33 [(.t 11), (.t 5)]),
 o 61 (.ld none (.t 11)),
 o 62 (.bsl 1 [[.s []]] [(0, (.t 61))]),
 o 63 (.build [.nf, .ns] [(0, 1, (.t 60)), (1, 1, (.t 62))]),
 o 64 (.mkf 35 [(.t 11)]),
 o 65 (.build [.nf, .ns] [(0, 1, (.t 64))]),
 o 66 (.mkf 37 [(.t 12)]),
 o 67 (.build [.nf, .ns] [(0, 1, (.t 66))]),
 o 68 (.mkf 38 [(.t 10)]),
 o 69 (.ld none (.t 12)),
 o 70 (.ld none (.t 11)),
 o 71 (.bsl 1 [[.s []], [.s []]] [(0, (.t 69)), (1, (.t 70))]),
 o 72 (.build [.nf, .ns] [(0, 1, (.t 68)), (1, 1, (.t 71))]),
 o 73 (.bsp 5 [.nf, .ns, .nf, .ns, .nf, .ns, .nf, .ns, .nf, .ns] [(0, 2, (.t 59)), (2, 2, (.t 63)), (4, 2, (.t 65)), (6, 2, (.t 67)), (8, 2, (.t 72))]),
 o 74 (.call 30 [(.t 57), (.t 73)]),
 o 55 (.mv (.t 74)),
 o 75 (.ext (.t 55) 0),
 o 76 (.ext (.t 55) 1),
 o 13 (.alloc [.ns, .d (.i .i64 0), .d (.b false), .d (.i .i64 0), .d (.b false)]),
 on (.st 5 (.t 13) (.t 75)),
 o 14 (.mv (.t 76))])
 (.seq
 (.seq
 (rg [
 o 77 (.mv (.t 14)),
 o 78 (.bin .neq (.t 77) (kc 0))])
 (.cond (.t 78)
 (.seq
 (rg [
 o 79 (.ld (some 5) (.t 13)),
 o 80 (.fa 0 (.t 3)),
 on (.st 5 (.t 80) (.t 79))])
 (.seq
 (rg [
 o 81 (.ld (some 11) (.t 3)),
 o 82 (.mv (.t 14)),
 on (.st 11 (.t 6) (.t 81)),
 o 7 (.mv (.t 82))])
 .ret))
 .skip))
 (.seq
 (rg [
 o 15 (.own 2)])
 (.seq
 (.seq
 (rg [
 o 83 (.fa 6 (.t 3)),
 o 84 (.ld none (.t 83)),
 o 85 (.len false (.t 84)),
 o 86 (.mv (kc 0))])
 (.block 0
 (.loop [3, 6, 10, 13, 15, 84, 85, 86] a8_0)))
 (.seq
 (.seq
 (rg [
 o 98 (.ld (some 11) (.t 3)),
 o 99 (.callp 42 [(.t 98)]),
 o 18 (.mv (.t 99))])
 (.seq
 (rg [
 o 100 (.mv (.t 18)),
 o 101 (.bin .gtr (.t 100) (kc 0))])
 (.cond (.t 101)
 (rg [
 o 102 (.mv (.t 15)),
 o 103 (.mv (.t 18)),
 o 104 (.callp 28 [(.t 103)]),
 o 105 (.call 41 [(.t 104)]),
 o 106 (.bs1 2 (.t 105)),
 o 107 (.app false 2 32 (.t 102) (.t 106)),
 o 15 (.mv (.t 107))])
 .skip)))
 (.seq
 (rg [
 o 109 (.ld (some 5) (.t 13)),
 o 110 (.mv (.t 15)),
 o 111 (.callz 30 [(.t 109), (.t 110)]),
 o 108 (.mv (.t 111)),
 o 112 (.ext (.t 108) 0),
 o 113 (.ext (.t 108) 1),
 o 114 (.fa 0 (.t 10)),
 on (.st 5 (.t 114) (.t 112)),
 o 14 (.mv (.t 113))])
 (.seq
 (rg [
 o 115 (.ld (some 11) (.t 10)),
 o 116 (.mv (.t 14)),
 on (.st 11 (.t 6) (.t 115)),
 o 7 (.mv (.t 116))])
 .ret))))))))))),
 [.c (some 11) 6, .t 7], false⟩
def a9_0 : AC :=
 (.seq
 (.seq
 (rg [
 o 60 (.mv (.t 13)),
 o 61 (.fa 6 (.t 3)),
 o 62 (.ld none (.t 61)),
 o 63 (.len false (.t 62)),
 o 64 (.bin .lss (.t 60) (.t 63)),
 o 65 (.mv (.t 64)),
 og 66 65 true (.mv (.t 12)),
 og 67 65 true (.bin .eql (.t 66) (kc 0)),
 o 68 (.pick (.t 65) (.t 67) (kb false))])
 (.cond (.t 68)
 .skip
 (.exit 0)))
 (.seq
 (.block 1
 (rg [
 o 72 (.ld (some 5) (.t 11)),
 o 73 (.fa 6 (.t 3)),
 o 74 (.ld none (.t 73)),
 o 75 (.mv (.t 13)),
 o 76 (.ia 3 (.t 74) (.t 75)),
 o 77 (.fa 0 (.t 76)),
 o 78 (.ld none (.t 77)),
 o 79 (.callp 47 [(.t 78)]),
 o 80 (.callp 46 [(.t 72), (.t 79)]),
 o 71 (.mv (.t 80)),
 o 81 (.ext (.t 71) 0),
 o 82 (.ext (.t 71) 1),
 on (.st 5 (.t 11) (.t 81)),
 o 12 (.mv (.t 82))]))
 (rg [
 o 69 (.mv (.t 13)),
 o 70 (.bin .add (.t 69) (kc 1)),
 o 13 (.mv (.t 70))])))
def a9 : AF := ⟨102,
 (.seq
 (rg [
 o 3 (.box (.t 0)),
 o 6 (.alloc [.ns, .d (.i .i64 0), .d (.b false), .d (.i .i64 0), .d (.b false), .d (.i .i64 0), .ns, .d (.i .i64 0), .d (.i .i64 0), .d (.i .i64 0), .d (.i .u32 0)]),
 o 7 (.mv (kc 0))])
 (.seq
 (rg [
 o 15 (.mv (.t 2)),
 o 16 (.callp 12 [(.t 15)]),
 o 14 (.mv (.t 16)),
 o 17 (.ext (.t 14) 0),
 o 18 (.ext (.t 14) 1),
 o 8 (.mv (.t 17)),
 o 9 (.mv (.t 18))])
 (.seq
 (.seq
 (rg [
 o 19 (.mv (.t 1)),
 o 20 (.fa 7 (.t 3)),
 o 21 (.ld none (.t 20)),
 o 22 (.bin .leq (.t 19) (.t 21)),
 o 23 (.mv (.t 22)),
 og 24 23 false (.mv (.t 1)),
 og 25 23 false (.bin .gtr (.t 24) (kc 1099511627776)),
 o 26 (.pick (.t 23) (kb true) (.t 25)),
 o 27 (.mv (.t 26)),
 og 28 27 false (.mv (.t 9)),
 og 29 27 false (.un .not (.t 28)),
 o 30 (.pick (.t 27) (kb true) (.t 29))])
 (.cond (.t 30)
 (.seq
 (rg [
 o 31 (.ld (some 11) (.t 3)),
 on (.st 11 (.t 6) (.t 31)),
 o 7 (.mv (kc 1))])
 .ret)
 .skip))
 (.seq
 (rd [
 o 32 (.fa 5 (.t 3)),
 od 33 [0] (.ld none (.t 32)),
 od 34 [0, 1] (.bin .add (.t 33) (kc 1)),
 o 35 (.mv (.t 1)),
 od 36 [3] (.build [.d (.i .i64 0), .d (.i .i64 0), .d (.i .i64 0)] [(0, 1, (.t 35))]),
 od 37 [3, 4] (.bsl 3 [[.i .i64 0, .i .i64 0, .i .i64 0]] [(0, (.t 36))]),
 o 38 (.mv (.t 1)),
 o 39 (.mv (.t 1)),
 o 40 (.mv (.t 2)),
 od 41 [8] (.len true (.t 40)),
 o 42 (.mv (.t 2)),
 od 43 [10] (.callp 43 [(.t 42)]),
 od 44 [10, 11, 8, 9, 7, 6, 4, 3, 5, 1, 0, 2] (.build [.ns, .d (.i .i64 0), .d (.b false), .d (.i .i64 0), .d (.b false), .d (.i .i64 0), .ns, .d (.i .i64 0), .d (.i .i64 0), .d (.i .i64 0), .d (.i .u32 0)] [(5, 1, (.t 34)), (6, 1, (.t 37)), (7, 1, (.t 38)), (8, 1, (.t 39)), (9, 1, (.t 41)), (10, 1, (.t 43))]),
 o 10 (.alloc [.ns, .d (.i .i64 0), .d (.b false), .d (.i .i64 0), .d (.b false), .d (.i .i64 0), .ns, .d (.i .i64 0), .d (.i .i64 0), .d (.i .i64 0), .d (.i .u32 0)]),
 ⟨none, .st 11 (.t 10) (.t 44), none, [2, 0, 1, 5, 3, 4, 6, 7, 9, 8, 11, 10, 12, 13], false⟩])
 (.seq
 (rd [
 o 46 (.fa 0 (.t 3)),
 od 47 [0] (.ld (some 5) (.t 46)),
 o 48 (.ld (some 11) (.t 10)),
 od 49 [2] (.callz 45 [(.t 48)]),
 o 50 (.mv (.t 2)),
 od 51 [4, 2, 3, 0, 1] (.callp 44 [(.t 47), (.t 49), (.t 50)]),
 od 45 [1, 0, 3, 2, 4, 5] (.mv (.t 51)),
 od 52 [5, 4, 2, 3, 0, 1, 6] (.ext (.t 45) 0),
 od 53 [5, 4, 2, 3, 0, 1, 6] (.ext (.t 45) 1),
 o 11 (.alloc [.ns, .d (.i .i64 0), .d (.b false), .d (.i .i64 0), .d (.b false)]),
 ⟨none, .st 5 (.t 11) (.t 52), none, [6, 1, 0, 3, 2, 4, 5, 7, 9], false⟩,
 od 12 [9, 7, 10, 6, 1, 0, 3, 2, 4, 5, 8] (.mv (.t 53))])
 (.seq
 (.seq
 (rg [
 o 54 (.mv (.t 12)),
 o 55 (.bin .neq (.t 54) (kc 0))])
 (.cond (.t 55)
 (.seq
 (rg [
 o 56 (.ld (some 5) (.t 11)),
 o 57 (.fa 0 (.t 3)),
 on (.st 5 (.t 57) (.t 56))])
 (.seq
 (rg [
 o 58 (.ld (some 11) (.t 3)),
 o 59 (.mv (.t 12)),
 on (.st 11 (.t 6) (.t 58)),
 o 7 (.mv (.t 59))])
 .ret))
 .skip))
 (.seq
 (.seq
 (rg [
 o 13 (.mv (kc 0))])
 (.block 0
 (.loop [3, 6, 10, 11, 12, 13] a9_0)))
 (.seq
 (.seq
 (rg [
 o 83 (.mv (.t 12)),
 o 84 (.bin .eql (.t 83) (kc 0)),
 o 85 (.mv (.t 84)),
 og 86 85 true (.ld (some 11) (.t 3)),
 og 87 85 true (.callp 48 [(.t 86)]),
 og 88 85 true (.bin .gtr (.t 87) (kc 0)),
 o 89 (.pick (.t 85) (.t 88) (kb false))])
 (.cond (.t 89)
 (rg [
 o 91 (.ld (some 5) (.t 11)),
 o 92 (.ld (some 11) (.t 3)),
 o 93 (.callp 48 [(.t 92)]),
 o 94 (.callp 49 [(.t 93)]),
 o 95 (.callp 46 [(.t 91), (.t 94)]),
 o 90 (.mv (.t 95)),
 o 96 (.ext (.t 90) 0),
 o 97 (.ext (.t 90) 1),
 on (.st 5 (.t 11) (.t 96)),
 o 12 (.mv (.t 97))])
 .skip))
 (.seq
 (rg [
 o 98 (.ld (some 5) (.t 11)),
 o 99 (.fa 0 (.t 10)),
 on (.st 5 (.t 99) (.t 98))])
 (.seq
 (rg [
 o 100 (.ld (some 11) (.t 10)),
 o 101 (.mv (.t 12)),
 on (.st 11 (.t 6) (.t 100)),
 o 7 (.mv (.t 101))])
 .ret)))))))))),
 [.c (some 11) 6, .t 7], false⟩
def a10_0 : AC :=
 (.seq
 (.seq
 (rg [
 o 56 (.mv (.t 5)),
 o 57 (.fa 6 (.t 2)),
 o 58 (.ld none (.t 57)),
 o 59 (.len false (.t 58)),
 o 60 (.bin .lss (.t 56) (.t 59))])
 (.cond (.t 60)
 .skip
 (.exit 0)))
 (.seq
 (.block 1
 (.seq
 (rg [
 o 63 (.fa 6 (.t 2)),
 o 64 (.ld none (.t 63)),
 o 65 (.mv (.t 5)),
 o 66 (.ia 3 (.t 64) (.t 65)),
 o 67 (.ld (some 3) (.t 66)),
 o 68 (.fa 6 (.t 3)),
 o 69 (.ld none (.t 68)),
 o 70 (.mv (.t 5)),
 o 71 (.ia 3 (.t 69) (.t 70)),
 o 72 (.ld (some 3) (.t 71)),
 o 73 (.eqa true [0, 0, 0] (.t 67) (.t 72))])
 (.cond (.t 73)
 (.seq
 (rg [
 o 4 (.mv (kb false))])
 .ret)
 .skip)))
 (rg [
 o 61 (.mv (.t 5)),
 o 62 (.bin .add (.t 61) (kc 1)),
 o 5 (.mv (.t 62))])))
def a10 : AF := ⟨74,
 (.seq
 (rg [
 o 2 (.box (.t 0)),
 o 3 (.box (.t 1)),
 o 4 (.mv (kb false))])
 (.seq
 (.seq
 (rg [
 o 6 (.fa 0 (.t 2)),
 o 7 (.ld (some 5) (.t 6)),
 o 8 (.fa 0 (.t 3)),
 o 9 (.ld (some 5) (.t 8)),
 o 10 (.callp 11 [(.t 7), (.t 9)]),
 o 11 (.un .not (.t 10)),
 o 12 (.mv (.t 11)),
 og 13 12 false (.fa 5 (.t 2)),
 og 14 12 false (.ld none (.t 13)),
 og 15 12 false (.fa 5 (.t 3)),
 og 16 12 false (.ld none (.t 15)),
 og 17 12 false (.bin .neq (.t 14) (.t 16)),
 o 18 (.pick (.t 12) (kb true) (.t 17)),
 o 19 (.mv (.t 18)),
 og 20 19 false (.fa 7 (.t 2)),
 og 21 19 false (.ld none (.t 20)),
 og 22 19 false (.fa 7 (.t 3)),
 og 23 19 false (.ld none (.t 22)),
 og 24 19 false (.bin .neq (.t 21) (.t 23)),
 o 25 (.pick (.t 19) (kb true) (.t 24)),
 o 26 (.mv (.t 25)),
 og 27 26 false (.fa 8 (.t 2)),
 og 28 26 false (.ld none (.t 27)),
 og 29 26 false (.fa 8 (.t 3)),
 og 30 26 false (.ld none (.t 29)),
 og 31 26 false (.bin .neq (.t 28) (.t 30)),
 o 32 (.pick (.t 26) (kb true) (.t 31)),
 o 33 (.mv (.t 32)),
 og 34 33 false (.fa 9 (.t 2)),
 og 35 33 false (.ld none (.t 34)),
 og 36 33 false (.fa 9 (.t 3)),
 og 37 33 false (.ld none (.t 36)),
 og 38 33 false (.bin .neq (.t 35) (.t 37)),
 o 39 (.pick (.t 33) (kb true) (.t 38)),
 o 40 (.mv (.t 39)),
 og 41 40 false (.fa 10 (.t 2)),
 og 42 40 false (.ld none (.t 41)),
 og 43 40 false (.fa 10 (.t 3)),
 og 44 40 false (.ld none (.t 43)),
 og 45 40 false (.bin .neq (.t 42) (.t 44)),
 o 46 (.pick (.t 40) (kb true) (.t 45)),
 o 47 (.mv (.t 46)),
 og 48 47 false (.fa 6 (.t 2)),
 og 49 47 false (.ld none (.t 48)),
 og 50 47 false (.len false (.t 49)),
 og 51 47 false (.fa 6 (.t 3)),
 og 52 47 false (.ld none (.t 51)),
 og 53 47 false (.len false (.t 52)),
 og 54 47 false (.bin .neq (.t 50) (.t 53)),
 o 55 (.pick (.t 47) (kb true) (.t 54))])
 (.cond (.t 55)
 (.seq
 (rg [
 o 4 (.mv (kb false))])
 .ret)
 .skip))
 (.seq
 (.seq
 (rg [
 o 5 (.mv (kc 0))])
 (.block 0
 (.loop [2, 3, 5] a10_0)))
 (.seq
 (rg [
 o 4 (.mv (kb true))])
 .ret)))),
 [.t 4], false⟩
def a11_0 : AC :=
 (.seq
 (.seq
 (rg [
 o 41 (.mv (.t 5)),
 o 42 (.fa 0 (.t 2)),
 o 43 (.ld none (.t 42)),
 o 44 (.len false (.t 43)),
 o 45 (.bin .lss (.t 41) (.t 44))])
 (.cond (.t 45)
 .skip
 (.exit 0)))
 (.seq
 (.block 1
 (.seq
 (rg [
 o 48 (.fa 0 (.t 2)),
 o 49 (.ld none (.t 48)),
 o 50 (.mv (.t 5)),
 o 51 (.ia 3 (.t 49) (.t 50)),
 o 52 (.ld (some 3) (.t 51)),
 o 53 (.fa 0 (.t 3)),
 o 54 (.ld none (.t 53)),
 o 55 (.mv (.t 5)),
 o 56 (.ia 3 (.t 54) (.t 55)),
 o 57 (.ld (some 3) (.t 56)),
 o 58 (.eqa true [2, 2, 0] (.t 52) (.t 57))])
 (.cond (.t 58)
 (.seq
 (rg [
 o 4 (.mv (kb false))])
 .ret)
 .skip)))
 (rg [
 o 46 (.mv (.t 5)),
 o 47 (.bin .add (.t 46) (kc 1)),
 o 5 (.mv (.t 47))])))
def a11 : AF := ⟨59,
 (.seq
 (rg [
 o 2 (.box (.t 0)),
 o 3 (.box (.t 1)),
 o 4 (.mv (kb false))])
 (.seq
 (.seq
 (rg [
 o 6 (.fa 0 (.t 2)),
 o 7 (.ld none (.t 6)),
 o 8 (.len false (.t 7)),
 o 9 (.fa 0 (.t 3)),
 o 10 (.ld none (.t 9)),
 o 11 (.len false (.t 10)),
 o 12 (.bin .neq (.t 8) (.t 11)),
 o 13 (.mv (.t 12)),
 og 14 13 false (.fa 1 (.t 2)),
 og 15 13 false (.ld none (.t 14)),
 og 16 13 false (.fa 1 (.t 3)),
 og 17 13 false (.ld none (.t 16)),
 og 18 13 false (.bin .neq (.t 15) (.t 17)),
 o 19 (.pick (.t 13) (kb true) (.t 18)),
 o 20 (.mv (.t 19)),
 og 21 20 false (.fa 2 (.t 2)),
 og 22 20 false (.ld none (.t 21)),
 og 23 20 false (.fa 2 (.t 3)),
 og 24 20 false (.ld none (.t 23)),
 og 25 20 false (.eqb true (.t 22) (.t 24)),
 o 26 (.pick (.t 20) (kb true) (.t 25)),
 o 27 (.mv (.t 26)),
 og 28 27 false (.fa 3 (.t 2)),
 og 29 27 false (.ld none (.t 28)),
 og 30 27 false (.fa 3 (.t 3)),
 og 31 27 false (.ld none (.t 30)),
 og 32 27 false (.bin .neq (.t 29) (.t 31)),
 o 33 (.pick (.t 27) (kb true) (.t 32)),
 o 34 (.mv (.t 33)),
 og 35 34 false (.fa 4 (.t 2)),
 og 36 34 false (.ld none (.t 35)),
 og 37 34 false (.fa 4 (.t 3)),
 og 38 34 false (.ld none (.t 37)),
 og 39 34 false (.eqb true (.t 36) (.t 38)),
 o 40 (.pick (.t 34) (kb true) (.t 39))])
 (.cond (.t 40)
 (.seq
 (rg [
 o 4 (.mv (kb false))])
 .ret)
 .skip))
 (.seq
 (.seq
 (rg [
 o 5 (.mv (kc 0))])
 (.block 0
 (.loop [2, 3, 5] a11_0)))
 (.seq
 (rg [
 o 4 (.mv (kb true))])
 .ret)))),
 [.t 4], false⟩
def a12_0 : AC :=
 (.seq
 (.seq
 (rg [
 o 24 (.mv (.t 8)),
 o 25 (.mv (.t 4)),
 o 26 (.bin .lss (.t 24) (.t 25))])
 (.cond (.t 26)
 .skip
 (.exit 0)))
 (.seq
 (.block 1
 (.seq
 (.seq
 (rg [
 o 29 (.mv (.t 5)),
 o 30 (.mv (.t 0)),
 o 31 (.len true (.t 30)),
 o 32 (.bin .geq (.t 29) (.t 31))])
 (.cond (.t 32)
 (.seq
 (rg [
 oz 2 (.mv (kx (.ns))),
 o 3 (.mv (kb false))])
 .ret)
 .skip))
 (.seq
 (rg [
 o 34 (.mv (.t 0)),
 o 35 (.mv (.t 5)),
 o 36 (.bin .add (.t 35) (kc 1)),
 o 37 (.callp 50 [(.t 34), (.t 36)]),
 o 33 (.mv (.t 37)),
 o 38 (.ext (.t 33) 0),
 o 39 (.ext (.t 33) 1),
 o 40 (.ext (.t 33) 2),
 o 9 (.mv (.t 38)),
 o 10 (.mv (.t 39)),
 o 11 (.mv (.t 40))])
 (.seq
 (.seq
 (rg [
 o 41 (.mv (.t 11)),
 o 42 (.un .not (.t 41)),
 o 43 (.mv (.t 42)),
 og 44 43 false (.mv (.t 9)),
 og 45 43 false (.mv (.t 0)),
 og 46 43 false (.len true (.t 45)),
 og 47 43 false (.mv (.t 10)),
 og 48 43 false (.bin .sub (.t 46) (.t 47)),
 og 49 43 false (.bin .gtr (.t 44) (.t 48)),
 o 50 (.pick (.t 43) (kb true) (.t 49))])
 (.cond (.t 50)
 (.seq
 (rg [
 oz 2 (.mv (kx (.ns))),
 o 3 (.mv (kb false))])
 .ret)
 .skip))
 (.seq
 (rg [
 o 51 (.mv (.t 7)),
 o 52 (.mv (.t 0)),
 o 53 (.mv (.t 5)),
 o 54 (.ixs (.t 52) (.t 53)),
 o 55 (.mv (.t 0)),
 o 56 (.mv (.t 10)),
 o 57 (.mv (.t 10)),
 o 58 (.mv (.t 9)),
 o 59 (.bin .add (.t 57) (.t 58)),
 o 60 (.sls (.t 55) (some (.t 56)) (some (.t 59))),
 o 61 (.build [.d (.i .u8 0), .d (.s [])] [(0, 1, (.t 54)), (1, 1, (.t 60))]),
 o 62 (.bsl 2 [[.i .u8 0, .s []]] [(0, (.t 61))]),
 o 63 (.app false 2 24 (.t 51) (.t 62)),
 o 7 (.mv (.t 63))])
 (rg [
 o 64 (.mv (.t 10)),
 o 65 (.mv (.t 9)),
 o 66 (.bin .add (.t 64) (.t 65)),
 o 5 (.mv (.t 66))]))))))
 (rg [
 o 27 (.mv (.t 8)),
 o 28 (.bin .add (.t 27) (kc 1)),
 o 8 (.mv (.t 28))])))
def a12 : AF := ⟨77,
 (.seq
 (rg [
 oz 2 (.mv (kx (.ns))),
 o 3 (.mv (kb false))])
 (.seq
 (rg [
 o 13 (.mv (.t 0)),
 o 14 (.callp 50 [(.t 13), (kc 0)]),
 o 12 (.mv (.t 14)),
 o 15 (.ext (.t 12) 0),
 o 16 (.ext (.t 12) 1),
 o 17 (.ext (.t 12) 2),
 o 4 (.mv (.t 15)),
 o 5 (.mv (.t 16)),
 o 6 (.mv (.t 17))])
 (.seq
 (.seq
 (rg [
 o 18 (.mv (.t 6)),
 o 19 (.un .not (.t 18)),
 o 20 (.mv (.t 19)),
 og 21 20 false (.mv (.t 4)),
 og 22 20 false (.bin .gtr (.t 21) (kc 256)),
 o 23 (.pick (.t 20) (kb true) (.t 22))])
 (.cond (.t 23)
 (.seq
 (rg [
 oz 2 (.mv (kx (.ns))),
 o 3 (.mv (kb false))])
 .ret)
 .skip))
 (.seq
 (rg [
 o 7 (.own 2)])
 (.seq
 (.seq
 (rg [
 o 8 (.mv (kc 0))])
 (.block 0
 (.loop [0, 4, 5, 7, 8] a12_0)))
 (.seq
 (.seq
 (rg [
 o 67 (.mv (.t 5)),
 o 68 (.mv (.t 0)),
 o 69 (.len true (.t 68)),
 o 70 (.bin .neq (.t 67) (.t 69)),
 o 71 (.mv (.t 70)),
 og 72 71 false (.mv (.t 7)),
 og 73 71 false (.callz 51 [(.t 72)]),
 og 74 71 false (.un .not (.t 73)),
 o 75 (.pick (.t 71) (kb true) (.t 74))])
 (.cond (.t 75)
 (.seq
 (rg [
 oz 2 (.mv (kx (.ns))),
 o 3 (.mv (kb false))])
 .ret)
 .skip))
 (.seq
 (rg [
 o 76 (.mv (.t 7)),
 o 2 (.mv (.t 76)),
 o 3 (.mv (kb true))])
 .ret))))))),
 [.t 2, .t 3], false⟩
def a13_1 : AC :=
 (.seq
 (.seq
 (rg [
 o 32 (.mv (.t 8)),
 o 33 (.mv (.t 7)),
 o 34 (.len false (.t 33)),
 o 35 (.bin .lss (.t 32) (.t 34))])
 (.cond (.t 35)
 .skip
 (.exit 2)))
 (.seq
 (.block 3
 (.seq
 (rg [
 o 38 (.mv (.t 7)),
 o 39 (.mv (.t 8)),
 o 40 (.ia 3 (.t 38) (.t 39)),
 o 41 (.fa 0 (.t 40)),
 o 42 (.ld none (.t 41)),
 o 43 (.mv (.t 1)),
 o 44 (.bin .eql (.t 42) (.t 43))])
 (.cond (.t 44)
 (.seq
 (rg [
 o 45 (.mv (.t 7)),
 o 46 (.mv (.t 8)),
 o 47 (.ia 3 (.t 45) (.t 46)),
 o 48 (.ld (some 3) (.t 47)),
 on (.st 3 (.t 4) (.t 48)),
 o 5 (.mv (kc 0))])
 .ret)
 .skip)))
 (rg [
 o 36 (.mv (.t 8)),
 o 37 (.bin .add (.t 36) (kc 1)),
 o 8 (.mv (.t 37))])))
def a13_0 : AC :=
 (.seq
 (.seq
 (rg [
 o 18 (.mv (.t 6)),
 o 19 (.fa 6 (.t 2)),
 o 20 (.ld none (.t 19)),
 o 21 (.len false (.t 20)),
 o 22 (.bin .lss (.t 18) (.t 21))])
 (.cond (.t 22)
 .skip
 (.exit 0)))
 (.seq
 (.block 1
 (.seq
 (rg [
 o 25 (.ld (some 11) (.t 2)),
 o 26 (.fa 6 (.t 2)),
 o 27 (.ld none (.t 26)),
 o 28 (.mv (.t 6)),
 o 29 (.ia 3 (.t 27) (.t 28)),
 o 30 (.ld (some 3) (.t 29)),
 o 31 (.callp 52 [(.t 25), (.t 30)]),
 o 7 (.mv (.t 31))])
 (.seq
 (rg [
 o 8 (.mv (kc 0))])
 (.block 2
 (.loop [1, 2, 4, 6, 7, 8] a13_1)))))
 (rg [
 o 23 (.mv (.t 6)),
 o 24 (.bin .add (.t 23) (kc 1)),
 o 6 (.mv (.t 24))])))
def a13 : AF := ⟨50,
 (.seq
 (rg [
 o 2 (.box (.t 0)),
 o 4 (.alloc [.d (.i .i64 0), .d (.i .i64 0), .d (.s [])]),
 o 5 (.mv (kc 0))])
 (.seq
 (.seq
 (rg [
 o 9 (.mv (.t 1)),
 o 10 (.bin .lss (.t 9) (kc 0)),
 o 11 (.mv (.t 10)),
 og 12 11 false (.mv (.t 1)),
 og 13 11 false (.fa 7 (.t 2)),
 og 14 11 false (.ld none (.t 13)),
 og 15 11 false (.bin .geq (.t 12) (.t 14)),
 o 16 (.pick (.t 11) (kb true) (.t 15))])
 (.cond (.t 16)
 (.seq
 (rg [
 o 17 (.build [.d (.i .i64 0), .d (.i .i64 0), .d (.s [])] []),
 on (.st 3 (.t 4) (.t 17)),
 o 5 (.mv (kc 6))])
 .ret)
 .skip))
 (.seq
 (.seq
 (rg [
 o 6 (.mv (kc 0))])
 (.block 0
 (.loop [1, 2, 4, 6] a13_0)))
 (.seq
 (rg [
 o 49 (.build [.d (.i .i64 0), .d (.i .i64 0), .d (.s [])] []),
 on (.st 3 (.t 4) (.t 49)),
 o 5 (.mv (kc 11))])
 .ret)))),
 [.c (some 3) 4, .t 5], false⟩
def a15_0 : AC :=
 (.seq
 (.seq
 (rg [
 o 18 (.mv (.t 7)),
 o 19 (.mv (.t 1)),
 o 20 (.bin .lss (.t 18) (.t 19))])
 (.cond (.t 20)
 .skip
 (.exit 0)))
 (.seq
 (.block 1
 (.seq
 (rg [
 o 24 (.ld (some 11) (.t 2)),
 o 25 (.mv (.t 7)),
 o 26 (.callp 13 [(.t 24), (.t 25)]),
 o 23 (.mv (.t 26)),
 o 27 (.ext (.t 23) 0),
 o 28 (.ext (.t 23) 1),
 o 8 (.alloc [.d (.i .i64 0), .d (.i .i64 0), .d (.s [])]),
 on (.st 3 (.t 8) (.t 27)),
 o 9 (.mv (.t 28))])
 (rg [
 o 29 (.mv (.t 5)),
 o 30 (.fa 2 (.t 8)),
 o 31 (.ld none (.t 30)),
 o 32 (.callp 17 [(.t 29), (.t 31)]),
 o 5 (.mv (.t 32))])))
 (rg [
 o 21 (.mv (.t 7)),
 o 22 (.bin .add (.t 21) (kc 1)),
 o 7 (.mv (.t 22))])))
def a15 : AF := ⟨34,
 (.seq
 (rg [
 o 2 (.box (.t 0)),
 oz 4 (.mv (kx (.ns)))])
 (.seq
 (rg [
 o 11 (.ld (some 11) (.t 2)),
 o 12 (.callp 25 [(.t 11)]),
 o 13 (.callp 12 [(.t 12)]),
 o 10 (.mv (.t 13)),
 o 14 (.ext (.t 10) 0),
 o 15 (.ext (.t 10) 1),
 o 5 (.mv (.t 14)),
 o 6 (.mv (.t 15))])
 (.seq
 (.seq
 (rg [
 o 16 (.ld (some 11) (.t 2)),
 o 17 (.callp 48 [(.t 16)]),
 o 7 (.mv (.t 17))])
 (.block 0
 (.loop [1, 2, 5, 7] a15_0)))
 (.seq
 (rg [
 o 33 (.mv (.t 5)),
 o 4 (.mv (.t 33))])
 .ret)))),
 [.t 4], false⟩
def a16 : AF := ⟨108,
 (.seq
 (rg [
 o 3 (.box (.t 0)),
 o 5 (.box (.t 2)),
 o 6 (.alloc [.ns, .d (.i .i64 0), .d (.b false), .d (.i .i64 0), .d (.b false), .d (.i .i64 0), .ns, .d (.i .i64 0), .d (.i .i64 0), .d (.i .i64 0), .d (.i .u32 0)]),
 o 7 (.mv (kc 0))])
 (.seq
 (.seq
 (rg [
 o 15 (.ld (some 3) (.t 5)),
 o 16 (.callp 53 [(.t 15)]),
 o 17 (.un .not (.t 16)),
 o 18 (.mv (.t 17)),
 og 19 18 false (.fa 0 (.t 5)),
 og 20 18 false (.ld none (.t 19)),
 og 21 18 false (.fa 7 (.t 3)),
 og 22 18 false (.ld none (.t 21)),
 og 23 18 false (.bin .neq (.t 20) (.t 22)),
 o 24 (.pick (.t 18) (kb true) (.t 23))])
 (.cond (.t 24)
 (.seq
 (rg [
 o 25 (.ld (some 11) (.t 3)),
 on (.st 11 (.t 6) (.t 25)),
 o 7 (.mv (kc 1))])
 .ret)
 .skip))
 (.seq
 (.seq
 (rg [
 o 26 (.fa 7 (.t 3)),
 o 27 (.ld none (.t 26)),
 o 28 (.bin .geq (.t 27) (kc 1099511627776))])
 (.cond (.t 28)
 (.seq
 (rg [
 o 29 (.ld (some 11) (.t 3)),
 on (.st 11 (.t 6) (.t 29)),
 o 7 (.mv (kc 13))])
 .ret)
 .skip))
 (.seq
 (.seq
 (rg [
 o 30 (.fa 6 (.t 3)),
 o 31 (.ld none (.t 30)),
 o 32 (.fa 6 (.t 3)),
 o 33 (.ld none (.t 32)),
 o 34 (.len false (.t 33)),
 o 35 (.bin .sub (.t 34) (kc 1)),
 o 36 (.ia 3 (.t 31) (.t 35)),
 o 37 (.fa 2 (.t 36)),
 o 38 (.ld none (.t 37)),
 o 39 (.mv (.t 1)),
 o 40 (.bin .geq (.t 38) (.t 39))])
 (.cond (.t 40)
 (.seq
 (rg [
 o 42 (.ld (some 11) (.t 3)),
 o 43 (.callp 54 [(.t 42)]),
 o 41 (.mv (.t 43)),
 o 44 (.ext (.t 41) 0),
 o 45 (.ext (.t 41) 1),
 o 8 (.alloc [.ns, .d (.i .i64 0), .d (.b false), .d (.i .i64 0), .d (.b false), .d (.i .i64 0), .ns, .d (.i .i64 0), .d (.i .i64 0), .d (.i .i64 0), .d (.i .u32 0)]),
 on (.st 11 (.t 8) (.t 44)),
 o 9 (.mv (.t 45))])
 (.seq
 (.seq
 (rg [
 o 46 (.mv (.t 9)),
 o 47 (.bin .neq (.t 46) (kc 0))])
 (.cond (.t 47)
 (.seq
 (rg [
 o 48 (.ld (some 11) (.t 8)),
 o 49 (.mv (.t 9)),
 on (.st 11 (.t 6) (.t 48)),
 o 7 (.mv (.t 49))])
 .ret)
 .skip))
 (rg [
 o 50 (.ld (some 11) (.t 8)),
 on (.st 11 (.t 3) (.t 50))])))
 .skip))
 (.seq
 (rg [
 o 52 (.ld (some 3) (.t 5)),
 o 53 (.callp 55 [(.t 52)]),
 o 51 (.mv (.t 53)),
 o 54 (.ext (.t 51) 0),
 o 55 (.ext (.t 51) 1),
 o 10 (.mv (.t 54)),
 o 11 (.mv (.t 55))])
 (.seq
 (rd [
 o 57 (.fa 0 (.t 3)),
 od 58 [0] (.ld (some 5) (.t 57)),
 o 59 (.ld (some 11) (.t 3)),
 od 60 [2] (.callp 57 [(.t 59)]),
 o 61 (.mv (.t 10)),
 od 62 [4, 2, 3, 0, 1] (.callp 56 [(.t 58), (.t 60), (.t 61)]),
 od 56 [1, 0, 3, 2, 4, 5] (.mv (.t 62)),
 od 63 [5, 4, 2, 3, 0, 1, 6] (.ext (.t 56) 0),
 od 64 [5, 4, 2, 3, 0, 1, 6] (.ext (.t 56) 1),
 o 12 (.alloc [.ns, .d (.i .i64 0), .d (.b false), .d (.i .i64 0), .d (.b false)]),
 ⟨none, .st 5 (.t 12) (.t 63), none, [6, 1, 0, 3, 2, 4, 5, 7, 9], false⟩,
 od 13 [9, 7, 10, 6, 1, 0, 3, 2, 4, 5, 8] (.mv (.t 64))])
 (.seq
 (rg [
 o 65 (.ld (some 5) (.t 12)),
 o 66 (.fa 0 (.t 3)),
 on (.st 5 (.t 66) (.t 65))])
 (.seq
 (.seq
 (rg [
 o 67 (.mv (.t 13)),
 o 68 (.bin .neq (.t 67) (kc 0))])
 (.cond (.t 68)
 (.seq
 (rg [
 o 69 (.ld (some 11) (.t 3)),
 o 70 (.mv (.t 13)),
 on (.st 11 (.t 6) (.t 69)),
 o 7 (.mv (.t 70))])
 .ret)
 .skip))
 (.seq
 (rg [
 o 71 (.bsl 3 [] []),
 o 72 (.fa 6 (.t 3)),
 o 73 (.ld none (.t 72)),
 o 74 (.app false 3 24 (.t 71) (.t 73)),
 o 75 (.fa 6 (.t 3)),
 on (.st 1 (.t 75) (.t 74))])
 (.seq
 (rg [
 o 76 (.fa 6 (.t 3)),
 o 77 (.ld none (.t 76)),
 o 78 (.len false (.t 77)),
 o 79 (.bin .sub (.t 78) (kc 1)),
 o 14 (.mv (.t 79))])
 (.seq
 (rg [
 o 80 (.fa 6 (.t 3)),
 o 81 (.ld none (.t 80)),
 o 82 (.mv (.t 14)),
 o 83 (.ia 3 (.t 81) (.t 82)),
 o 84 (.fa 1 (.t 83)),
 o 85 (.ld none (.t 84)),
 o 86 (.bin .add (.t 85) (kc 1)),
 o 87 (.ia 3 (.t 81) (.t 82)),
 o 88 (.fa 1 (.t 87)),
 on (.st 1 (.t 88) (.t 86))])
 (.seq
 (rg [
 o 89 (.fa 6 (.t 3)),
 o 90 (.ld none (.t 89)),
 o 91 (.mv (.t 14)),
 o 92 (.fa 6 (.t 3)),
 o 93 (.ld none (.t 92)),
 o 94 (.mv (.t 14)),
 o 95 (.ia 3 (.t 93) (.t 94)),
 o 96 (.fa 2 (.t 95)),
 o 97 (.ld none (.t 96)),
 o 98 (.mv (.t 10)),
 o 99 (.len true (.t 98)),
 o 100 (.bin .add (.t 97) (.t 99)),
 o 101 (.ia 3 (.t 90) (.t 91)),
 o 102 (.fa 2 (.t 101)),
 on (.st 1 (.t 102) (.t 100))])
 (.seq
 (rg [
 o 103 (.fa 7 (.t 3)),
 o 104 (.ld none (.t 103)),
 o 105 (.bin .add (.t 104) (kc 1)),
 o 106 (.fa 7 (.t 3)),
 on (.st 1 (.t 106) (.t 105))])
 (.seq
 (rg [
 o 107 (.ld (some 11) (.t 3)),
 on (.st 11 (.t 6) (.t 107)),
 o 7 (.mv (kc 0))])
 .ret)))))))))))))),
 [.c (some 11) 6, .t 7], false⟩
def a17_0 : AC :=
 (.seq
 (.seq
 (rg [
 o 13 (.mv (.t 6)),
 o 14 (.mv (.t 0)),
 o 15 (.len false (.t 14)),
 o 16 (.bin .lss (.t 13) (.t 15)),
 o 17 (.mv (.t 16)),
 og 18 17 true (.mv (.t 0)),
 og 19 17 true (.mv (.t 6)),
 og 20 17 true (.ia 2 (.t 18) (.t 19)),
 og 21 17 true (.fa 0 (.t 20)),
 og 22 17 true (.ld none (.t 21)),
 og 23 17 true (.mv (.t 1)),
 og 24 17 true (.ixs (.t 23) (kc 0)),
 og 25 17 true (.bin .lss (.t 22) (.t 24)),
 o 26 (.pick (.t 17) (.t 25) (kb false))])
 (.cond (.t 26)
 .skip
 (.exit 0)))
 (.seq
 (.block 1
 (rg [
 o 29 (.mv (.t 5)),
 o 30 (.mv (.t 0)),
 o 31 (.mv (.t 6)),
 o 32 (.ia 2 (.t 30) (.t 31)),
 o 33 (.ld (some 2) (.t 32)),
 o 34 (.bsl 2 [[.i .u8 0, .s []]] [(0, (.t 33))]),
 o 35 (.app false 2 24 (.t 29) (.t 34)),
 o 5 (.mv (.t 35))]))
 (rg [
 o 27 (.mv (.t 6)),
 o 28 (.bin .add (.t 27) (kc 1)),
 o 6 (.mv (.t 28))])))
def a17_1 : AC :=
 (.seq
 (.seq
 (rg [
 o 47 (.mv (.t 7)),
 o 48 (.mv (.t 0)),
 o 49 (.len false (.t 48)),
 o 50 (.bin .lss (.t 47) (.t 49))])
 (.cond (.t 50)
 .skip
 (.exit 2)))
 (.seq
 (.block 3
 (.seq
 (rg [
 o 53 (.mv (.t 0)),
 o 54 (.mv (.t 7)),
 o 55 (.ia 2 (.t 53) (.t 54)),
 o 56 (.fa 0 (.t 55)),
 o 57 (.ld none (.t 56)),
 o 58 (.mv (.t 1)),
 o 59 (.ixs (.t 58) (kc 0)),
 o 60 (.bin .gtr (.t 57) (.t 59))])
 (.cond (.t 60)
 (rg [
 o 61 (.mv (.t 5)),
 o 62 (.mv (.t 0)),
 o 63 (.mv (.t 7)),
 o 64 (.ia 2 (.t 62) (.t 63)),
 o 65 (.ld (some 2) (.t 64)),
 o 66 (.bsl 2 [[.i .u8 0, .s []]] [(0, (.t 65))]),
 o 67 (.app false 2 24 (.t 61) (.t 66)),
 o 5 (.mv (.t 67))])
 .skip)))
 (rg [
 o 51 (.mv (.t 7)),
 o 52 (.bin .add (.t 51) (kc 1)),
 o 7 (.mv (.t 52))])))
def a17 : AF := ⟨69,
 (.seq
 (rg [
 o 4 (.own 2)])
 (.seq
 (.seq
 (rg [
 o 8 (.mv (.t 1)),
 o 9 (.bin .eql (.t 8) (ks []))])
 (.cond (.t 9)
 (.seq
 (rg [
 o 10 (.bsl 2 [] []),
 o 11 (.mv (.t 0)),
 o 12 (.app false 2 24 (.t 10) (.t 11)),
 oz 4 (.mv (.t 12))])
 .ret)
 .skip))
 (.seq
 (rg [
 o 5 (.own 2)])
 (.seq
 (.seq
 (rg [
 o 6 (.mv (kc 0))])
 (.block 0
 (.loop [0, 1, 5, 6] a17_0)))
 (.seq
 (.seq
 (rg [
 o 36 (.mv (.t 1)),
 o 37 (.len true (.t 36)),
 o 38 (.bin .gtr (.t 37) (kc 1))])
 (.cond (.t 38)
 (rg [
 o 39 (.mv (.t 5)),
 o 40 (.mv (.t 1)),
 o 41 (.ixs (.t 40) (kc 0)),
 o 42 (.mv (.t 1)),
 o 43 (.sls (.t 42) (some (kc 1)) none),
 o 44 (.build [.d (.i .u8 0), .d (.s [])] [(0, 1, (.t 41)), (1, 1, (.t 43))]),
 o 45 (.bsl 2 [[.i .u8 0, .s []]] [(0, (.t 44))]),
 o 46 (.app false 2 24 (.t 39) (.t 45)),
 o 5 (.mv (.t 46))])
 .skip))
 (.seq
 (.seq
 (rg [
 o 7 (.mv (kc 0))])
 (.block 2
 (.loop [0, 1, 5, 7] a17_1)))
 (.seq
 (rg [
 o 68 (.mv (.t 5)),
 o 4 (.mv (.t 68))])
 .ret))))))),
 [.t 4], false⟩
def a18 : AF := ⟨23,
 (.seq
 (rg [
 o 1 (.box (.t 0)),
 o 2 (.alloc [.ns, .d (.i .i64 0), .d (.b false), .d (.i .i64 0), .d (.b false), .d (.i .i64 0), .ns, .d (.i .i64 0), .d (.i .i64 0), .d (.i .i64 0), .d (.i .u32 0)]),
 o 3 (.mv (kc 0))])
 (.seq
 (rd [
 o 7 (.fa 0 (.t 1)),
 od 8 [0] (.ld (some 5) (.t 7)),
 o 9 (.ld (some 11) (.t 1)),
 od 10 [2] (.callp 57 [(.t 9)]),
 od 11 [2, 3, 0, 1] (.callp 58 [(.t 8), (.t 10)]),
 od 6 [1, 0, 3, 2, 4] (.mv (.t 11)),
 od 12 [4, 2, 3, 0, 1, 5] (.ext (.t 6) 0),
 od 13 [4, 2, 3, 0, 1, 5] (.ext (.t 6) 1),
 o 4 (.alloc [.ns, .d (.i .i64 0), .d (.b false), .d (.i .i64 0), .d (.b false)]),
 ⟨none, .st 5 (.t 4) (.t 12), none, [5, 1, 0, 3, 2, 4, 6, 8], false⟩,
 od 5 [8, 6, 9, 5, 1, 0, 3, 2, 4, 7] (.mv (.t 13))])
 (.seq
 (rg [
 o 14 (.ld (some 5) (.t 4)),
 o 15 (.fa 0 (.t 1)),
 on (.st 5 (.t 15) (.t 14))])
 (.seq
 (.seq
 (rg [
 o 16 (.mv (.t 5)),
 o 17 (.bin .eql (.t 16) (kc 0))])
 (.cond (.t 17)
 (rg [
 o 18 (.fa 7 (.t 1)),
 o 19 (.ld none (.t 18)),
 o 20 (.fa 8 (.t 1)),
 on (.st 1 (.t 20) (.t 19))])
 .skip))
 (.seq
 (rg [
 o 21 (.ld (some 11) (.t 1)),
 o 22 (.mv (.t 5)),
 on (.st 11 (.t 2) (.t 21)),
 o 3 (.mv (.t 22))])
 .ret))))),
 [.c (some 11) 2, .t 3], false⟩
def a19 : AF := ⟨12,
 (.seq
 (rg [
 o 2 (.box (.t 0)),
 o 4 (.alloc [.ns, .d (.i .i64 0), .d (.b false), .d (.i .i64 0), .d (.b false)])])
 (.seq
 (rg [
 o 5 (.mv (.t 1)),
 o 6 (.bin .geq (.t 5) (kc 0)),
 o 7 (.mv (.t 1)),
 o 8 (.mm true (.t 7) (kc 0)),
 o 9 (.fa 2 (.t 2)),
 on (.st 1 (.t 9) (.t 6)),
 o 10 (.fa 3 (.t 2)),
 on (.st 1 (.t 10) (.t 8))])
 (.seq
 (rg [
 o 11 (.ld (some 5) (.t 2)),
 on (.st 5 (.t 4) (.t 11))])
 .ret))),
 [.c (some 5) 4], false⟩
def a22 : AF := ⟨36,
 (.seq
 (rg [
 o 1 (.box (.t 0)),
 o 2 (.alloc [.ns, .d (.i .i64 0), .d (.b false), .d (.i .i64 0), .d (.b false), .d (.i .i64 0), .ns, .d (.i .i64 0), .d (.i .i64 0), .d (.i .i64 0), .d (.i .u32 0)]),
 o 3 (.mv (kc 0))])
 (.seq
 (rg [
 o 7 (.ld (some 5) (.t 1)),
 o 8 (.callp 47 [(kc 0)]),
 o 9 (.callp 65 [(.t 7), (.t 8)]),
 o 6 (.mv (.t 9)),
 o 10 (.ext (.t 6) 0),
 o 11 (.ext (.t 6) 1),
 on (.st 5 (.t 1) (.t 10)),
 o 4 (.mv (.t 11))])
 (.seq
 (.seq
 (rg [
 o 12 (.mv (.t 4)),
 o 13 (.bin .neq (.t 12) (kc 0))])
 (.cond (.t 13)
 (.seq
 (rg [
 o 14 (.ld (some 5) (.t 1)),
 o 15 (.build [.ns, .d (.i .i64 0), .d (.b false), .d (.i .i64 0), .d (.b false), .d (.i .i64 0), .ns, .d (.i .i64 0), .d (.i .i64 0), .d (.i .i64 0), .d (.i .u32 0)] [(0, 5, (.t 14))]),
 o 16 (.mv (.t 4)),
 on (.st 11 (.t 2) (.t 15)),
 o 3 (.mv (.t 16))])
 .ret)
 .skip))
 (.seq
 (rg [
 o 17 (.ld (some 5) (.t 1)),
 o 18 (.build [.d (.i .i64 0), .d (.i .i64 0), .d (.i .i64 0)] []),
 o 19 (.bsl 3 [[.i .i64 0, .i .i64 0, .i .i64 0]] [(0, (.t 18))]),
 o 20 (.build [.ns, .d (.i .i64 0), .d (.b false), .d (.i .i64 0), .d (.b false), .d (.i .i64 0), .ns, .d (.i .i64 0), .d (.i .i64 0), .d (.i .i64 0), .d (.i .u32 0)] [(0, 5, (.t 17)), (5, 1, (kc 1)), (6, 1, (.t 19))]),
 o 5 (.alloc [.ns, .d (.i .i64 0), .d (.b false), .d (.i .i64 0), .d (.b false), .d (.i .i64 0), .ns, .d (.i .i64 0), .d (.i .i64 0), .d (.i .i64 0), .d (.i .u32 0)]),
 on (.st 11 (.t 5) (.t 20))])
 (.seq
 (rd [
 o 22 (.ld (some 5) (.t 1)),
 o 23 (.ld (some 11) (.t 5)),
 od 24 [1] (.callz 45 [(.t 23)]),
 od 25 [1, 2, 0] (.callp 66 [(.t 22), (.t 24)]),
 od 21 [0, 2, 1, 3] (.mv (.t 25)),
 od 26 [3, 1, 2, 0, 4] (.ext (.t 21) 0),
 od 27 [3, 1, 2, 0, 4] (.ext (.t 21) 1),
 ⟨none, .st 5 (.t 1) (.t 26), none, [4, 0, 2, 1, 3, 5], false⟩,
 od 4 [5, 7, 4, 0, 2, 1, 3, 6] (.mv (.t 27))])
 (.seq
 (.seq
 (rg [
 o 28 (.mv (.t 4)),
 o 29 (.bin .neq (.t 28) (kc 0))])
 (.cond (.t 29)
 (.seq
 (rg [
 o 30 (.ld (some 5) (.t 1)),
 o 31 (.build [.ns, .d (.i .i64 0), .d (.b false), .d (.i .i64 0), .d (.b false), .d (.i .i64 0), .ns, .d (.i .i64 0), .d (.i .i64 0), .d (.i .i64 0), .d (.i .u32 0)] [(0, 5, (.t 30))]),
 o 32 (.mv (.t 4)),
 on (.st 11 (.t 2) (.t 31)),
 o 3 (.mv (.t 32))])
 .ret)
 .skip))
 (.seq
 (rg [
 o 33 (.ld (some 5) (.t 1)),
 o 34 (.fa 0 (.t 5)),
 on (.st 5 (.t 34) (.t 33))])
 (.seq
 (rg [
 o 35 (.ld (some 11) (.t 5)),
 on (.st 11 (.t 2) (.t 35)),
 o 3 (.mv (kc 0))])
 .ret)))))))),
 [.c (some 11) 2, .t 3], false⟩
def a23_0 : AC :=
 (.seq
 (.seq
 (rg [
 o 107 (.mv (.t 15)),
 o 108 (.mv (.t 8)),
 o 109 (.bin .lss (.t 107) (.t 108)),
 o 110 (.mv (.t 109)),
 og 111 110 true (.mv (.t 13)),
 og 112 110 true (.bin .eql (.t 111) (kc 0)),
 o 113 (.pick (.t 110) (.t 112) (kb false))])
 (.cond (.t 113)
 .skip
 (.exit 0)))
 (.seq
 (.block 1
 (rg [
 o 117 (.ld (some 5) (.t 12)),
 o 118 (.fa 6 (.t 3)),
 o 119 (.ld none (.t 118)),
 o 120 (.mv (.t 15)),
 o 121 (.ia 3 (.t 119) (.t 120)),
 o 122 (.fa 0 (.t 121)),
 o 123 (.ld none (.t 122)),
 o 124 (.callp 47 [(.t 123)]),
 o 125 (.callp 46 [(.t 117), (.t 124)]),
 o 116 (.mv (.t 125)),
 o 126 (.ext (.t 116) 0),
 o 127 (.ext (.t 116) 1),
 on (.st 5 (.t 12) (.t 126)),
 o 13 (.mv (.t 127))]))
 (rg [
 o 114 (.mv (.t 15)),
 o 115 (.bin .add (.t 114) (kc 1)),
 o 15 (.mv (.t 115))])))
def a23 : AF := ⟨147,
 (.seq
 (rg [
 o 3 (.box (.t 0)),
 o 6 (.alloc [.ns, .d (.i .i64 0), .d (.b false), .d (.i .i64 0), .d (.b false), .d (.i .i64 0), .ns, .d (.i .i64 0), .d (.i .i64 0), .d (.i .i64 0), .d (.i .u32 0)]),
 o 7 (.mv (kc 0))])
 (.seq
 (rg [
 o 16 (.fa 6 (.t 3)),
 o 17 (.ld none (.t 16)),
 o 18 (.mv (.t 1)),
 o 19 (.mv (.t 2)),
 o 20 (.callp 67 [(.t 17), (.t 18), (.t 19)]),
 o 8 (.mv (.t 20))])
 (.seq
 (.seq
 (rg [
 o 21 (.mv (.t 8)),
 o 22 (.bin .eql (.t 21) (kc 0))])
 (.cond (.t 22)
 (.seq
 (rg [
 o 23 (.ld (some 11) (.t 3)),
 on (.st 11 (.t 6) (.t 23)),
 o 7 (.mv (kc 0))])
 .ret)
 .skip))
 (.seq
 (rg [
 o 24 (.fa 6 (.t 3)),
 o 25 (.ld none (.t 24)),
 o 26 (.mv (.t 8)),
 o 27 (.ia 3 (.t 25) (.t 26)),
 o 28 (.fa 0 (.t 27)),
 o 29 (.ld none (.t 28)),
 o 9 (.mv (.t 29))])
 (.seq
 (rg [
 o 30 (.mv (.t 9)),
 o 31 (.callp 49 [(.t 30)]),
 o 10 (.mv (.t 31))])
 (.seq
 (rg [
 o 32 (.ld (some 11) (.t 3)),
 o 33 (.mv (.t 9)),
 o 34 (.callp 15 [(.t 32), (.t 33)]),
 o 35 (.callp 68 [(.t 34)]),
 o 11 (.mv (.t 35))])
 (.seq
 (rg [
 o 37 (.fa 0 (.t 3)),
 o 38 (.ld (some 5) (.t 37)),
 o 39 (.mv (.t 10)),
 o 40 (.callp 65 [(.t 38), (.t 39)]),
 o 36 (.mv (.t 40)),
 o 41 (.ext (.t 36) 0),
 o 42 (.ext (.t 36) 1),
 o 12 (.alloc [.ns, .d (.i .i64 0), .d (.b false), .d (.i .i64 0), .d (.b false)]),
 on (.st 5 (.t 12) (.t 41)),
 o 13 (.mv (.t 42))])
 (.seq
 (.seq
 (rg [
 o 43 (.mv (.t 13)),
 o 44 (.bin .eql (.t 43) (kc 0))])
 (.cond (.t 44)
 (.seq
 (rg [
 o 46 (.ld (some 5) (.t 12)),
 o 47 (.mv (.t 10)),
 o 48 (.mv (.t 11)),
 o 49 (.callp 56 [(.t 46), (.t 47), (.t 48)]),
 o 45 (.mv (.t 49)),
 o 50 (.ext (.t 45) 0),
 o 51 (.ext (.t 45) 1),
 on (.st 5 (.t 12) (.t 50)),
 o 13 (.mv (.t 51))])
 (rg [
 o 53 (.ld (some 5) (.t 12)),
 o 54 (.mv (.t 13)),
 o 55 (.mv (.t 10)),
 o 56 (.callp 69 [(.t 53), (.t 54), (.t 55)]),
 o 52 (.mv (.t 56)),
 o 57 (.ext (.t 52) 0),
 o 58 (.ext (.t 52) 1),
 on (.st 5 (.t 12) (.t 57)),
 o 13 (.mv (.t 58))]))
 .skip))
 (.seq
 (.seq
 (rg [
 o 59 (.mv (.t 13)),
 o 60 (.bin .eql (.t 59) (kc 0))])
 (.cond (.t 60)
 (rg [
 o 62 (.ld (some 5) (.t 12)),
 o 63 (.mv (.t 10)),
 o 64 (.callp 58 [(.t 62), (.t 63)]),
 o 61 (.mv (.t 64)),
 o 65 (.ext (.t 61) 0),
 o 66 (.ext (.t 61) 1),
 on (.st 5 (.t 12) (.t 65)),
 o 13 (.mv (.t 66))])
 .skip))
 (.seq
 (rg [
 o 67 (.ld (some 11) (.t 3)),
 o 14 (.alloc [.ns, .d (.i .i64 0), .d (.b false), .d (.i .i64 0), .d (.b false), .d (.i .i64 0), .ns, .d (.i .i64 0), .d (.i .i64 0), .d (.i .i64 0), .d (.i .u32 0)]),
 on (.st 11 (.t 14) (.t 67))])
 (.seq
 (rg [
 o 68 (.fa 5 (.t 3)),
 o 69 (.ld none (.t 68)),
 o 70 (.bin .add (.t 69) (kc 1)),
 o 71 (.fa 5 (.t 14)),
 on (.st 1 (.t 71) (.t 70))])
 (.seq
 (rg [
 o 72 (.bsl 3 [] []),
 o 73 (.fa 6 (.t 3)),
 o 74 (.ld none (.t 73)),
 o 75 (.mv (.t 8)),
 o 76 (.slc 3 (.t 74) (some (.t 75)) none none),
 o 77 (.app false 3 24 (.t 72) (.t 76)),
 o 78 (.fa 6 (.t 14)),
 on (.st 1 (.t 78) (.t 77))])
 (.seq
 (rg [
 o 79 (.mv (.t 11)),
 o 80 (.len true (.t 79)),
 o 81 (.mv (.t 11)),
 o 82 (.callp 43 [(.t 81)]),
 o 83 (.fa 9 (.t 14)),
 on (.st 1 (.t 83) (.t 80)),
 o 84 (.fa 10 (.t 14)),
 on (.st 1 (.t 84) (.t 82))])
 (.seq
 (.seq
 (rg [
 o 85 (.mv (.t 13)),
 o 86 (.bin .eql (.t 85) (kc 0))])
 (.cond (.t 86)
 (.seq
 (rd [
 o 88 (.ld (some 5) (.t 12)),
 o 89 (.ld (some 11) (.t 14)),
 od 90 [1] (.callz 45 [(.t 89)]),
 od 91 [1, 2, 0] (.callp 66 [(.t 88), (.t 90)]),
 od 87 [0, 2, 1, 3] (.mv (.t 91)),
 od 92 [3, 1, 2, 0, 4] (.ext (.t 87) 0),
 od 93 [3, 1, 2, 0, 4] (.ext (.t 87) 1),
 ⟨none, .st 5 (.t 12) (.t 92), none, [4, 0, 2, 1, 3, 5], false⟩,
 od 13 [5, 7, 4, 0, 2, 1, 3, 6] (.mv (.t 93))])
 (rg [
 o 95 (.ld (some 5) (.t 12)),
 o 96 (.mv (.t 13)),
 o 97 (.mv (.t 10)),
 o 98 (.callp 69 [(.t 95), (.t 96), (.t 97)]),
 o 94 (.mv (.t 98)),
 o 99 (.ext (.t 94) 0),
 o 100 (.ext (.t 94) 1),
 on (.st 5 (.t 12) (.t 99)),
 o 13 (.mv (.t 100))]))
 .skip))
 (.seq
 (.seq
 (rg [
 o 101 (.mv (.t 13)),
 o 102 (.bin .neq (.t 101) (kc 0))])
 (.cond (.t 102)
 (.seq
 (rg [
 o 103 (.ld (some 5) (.t 12)),
 o 104 (.fa 0 (.t 3)),
 on (.st 5 (.t 104) (.t 103))])
 (.seq
 (rg [
 o 105 (.ld (some 11) (.t 3)),
 o 106 (.mv (.t 13)),
 on (.st 11 (.t 6) (.t 105)),
 o 7 (.mv (.t 106))])
 .ret))
 .skip))
 (.seq
 (.seq
 (rg [
 o 15 (.mv (kc 0))])
 (.block 0
 (.loop [3, 6, 8, 12, 13, 14, 15] a23_0)))
 (.seq
 (.seq
 (rg [
 o 128 (.mv (.t 13)),
 o 129 (.bin .eql (.t 128) (kc 0)),
 o 130 (.mv (.t 129)),
 og 131 130 true (.ld (some 11) (.t 3)),
 og 132 130 true (.callp 48 [(.t 131)]),
 og 133 130 true (.bin .gtr (.t 132) (kc 0)),
 o 134 (.pick (.t 130) (.t 133) (kb false))])
 (.cond (.t 134)
 (rg [
 o 136 (.ld (some 5) (.t 12)),
 o 137 (.ld (some 11) (.t 3)),
 o 138 (.callp 48 [(.t 137)]),
 o 139 (.callp 49 [(.t 138)]),
 o 140 (.callp 46 [(.t 136), (.t 139)]),
 o 135 (.mv (.t 140)),
 o 141 (.ext (.t 135) 0),
 o 142 (.ext (.t 135) 1),
 on (.st 5 (.t 12) (.t 141)),
 o 13 (.mv (.t 142))])
 .skip))
 (.seq
 (rg [
 o 143 (.ld (some 5) (.t 12)),
 o 144 (.fa 0 (.t 14)),
 on (.st 5 (.t 144) (.t 143))])
 (.seq
 (rg [
 o 145 (.ld (some 11) (.t 14)),
 o 146 (.mv (.t 13)),
 on (.st 11 (.t 6) (.t 145)),
 o 7 (.mv (.t 146))])
 .ret))))))))))))))))))),
 [.c (some 11) 6, .t 7], false⟩
def a24 : AF := ⟨9,
 (.seq
 (rg [
 o 2 (.box (.t 0)),
 o 4 (.alloc [.ns, .d (.i .i64 0), .d (.b false), .d (.i .i64 0), .d (.b false)])])
 (.seq
 (rg [
 o 5 (.mv (.t 1)),
 o 6 (.mm true (.t 5) (kc 0)),
 o 7 (.fa 1 (.t 2)),
 on (.st 1 (.t 7) (.t 6))])
 (.seq
 (rg [
 o 8 (.ld (some 5) (.t 2)),
 on (.st 5 (.t 4) (.t 8))])
 .ret))),
 [.c (some 5) 4], false⟩
def a25 : AF := ⟨18,
 (.seq
 (rg [
 o 1 (.box (.t 0)),
 o 2 (.mv (ks []))])
 (.seq
 (.seq
 (rg [
 o 5 (.ld (some 11) (.t 1)),
 o 6 (.callp 48 [(.t 5)]),
 o 7 (.bin .eql (.t 6) (kc 0))])
 (.cond (.t 7)
 (.seq
 (rg [
 o 2 (.mv (ks []))])
 .ret)
 .skip))
 (.seq
 (rg [
 o 9 (.fa 0 (.t 1)),
 o 10 (.ld (some 5) (.t 9)),
 o 11 (.ld (some 11) (.t 1)),
 o 12 (.callp 48 [(.t 11)]),
 o 13 (.callp 49 [(.t 12)]),
 o 14 (.callp 59 [(.t 10), (.t 13)]),
 o 8 (.mv (.t 14)),
 o 15 (.ext (.t 8) 0),
 o 16 (.ext (.t 8) 1),
 o 3 (.mv (.t 15)),
 o 4 (.mv (.t 16))])
 (.seq
 (rg [
 o 17 (.mv (.t 3)),
 o 2 (.mv (.t 17))])
 .ret)))),
 [.t 2], false⟩
def a26_0 : AC :=
 (.seq
 (rg [
 o 25 (.bin .lss (.t 24) (.t 23))])
 (.seq
 (.cond (.t 25)
 .skip
 (.exit 0))
 (.seq
 (.block 1
 (.seq
 (rg [
 o 27 (.mv (.t 0)),
 o 28 (.mv (.t 5)),
 o 29 (.bin .add (.t 28) (kc 1)),
 o 30 (.callp 70 [(.t 27), (.t 29)]),
 o 26 (.mv (.t 30)),
 o 31 (.ext (.t 26) 0),
 o 32 (.ext (.t 26) 1),
 o 33 (.ext (.t 26) 2),
 o 8 (.mv (.t 31)),
 o 9 (.mv (.t 32)),
 o 10 (.mv (.t 33))])
 (.seq
 (.seq
 (rg [
 o 34 (.mv (.t 10)),
 o 35 (.un .not (.t 34)),
 o 36 (.mv (.t 35)),
 og 37 36 false (.mv (.t 8)),
 og 38 36 false (.mv (.t 0)),
 og 39 36 false (.len true (.t 38)),
 og 40 36 false (.mv (.t 9)),
 og 41 36 false (.bin .sub (.t 39) (.t 40)),
 og 42 36 false (.bin .gtr (.t 37) (.t 41)),
 o 43 (.pick (.t 36) (kb true) (.t 42))])
 (.cond (.t 43)
 (.seq
 (rg [
 oz 2 (.mv (kx (.ns))),
 o 3 (.mv (kb false))])
 .ret)
 .skip))
 (.seq
 (rg [
 o 44 (.mv (.t 7)),
 o 45 (.mv (.t 0)),
 o 46 (.mv (.t 5)),
 o 47 (.ixs (.t 45) (.t 46)),
 o 48 (.mv (.t 0)),
 o 49 (.mv (.t 9)),
 o 50 (.mv (.t 9)),
 o 51 (.mv (.t 8)),
 o 52 (.bin .add (.t 50) (.t 51)),
 o 53 (.sls (.t 48) (some (.t 49)) (some (.t 52))),
 o 54 (.build [.d (.i .u8 0), .d (.s [])] [(0, 1, (.t 47)), (1, 1, (.t 53))]),
 o 55 (.bsl 2 [[.i .u8 0, .s []]] [(0, (.t 54))]),
 o 56 (.app false 2 24 (.t 44) (.t 55)),
 o 7 (.mv (.t 56))])
 (rg [
 o 57 (.mv (.t 9)),
 o 58 (.mv (.t 8)),
 o 59 (.bin .add (.t 57) (.t 58)),
 o 5 (.mv (.t 59))])))))
 (rg [
 o 60 (.bin .add (.t 24) (kc 1)),
 o 24 (.mv (.t 60))]))))
def a26 : AF := ⟨71,
 (.seq
 (rg [
 oz 2 (.mv (kx (.ns))),
 o 3 (.mv (kb false))])
 (.seq
 (rg [
 o 12 (.mv (.t 0)),
 o 13 (.callp 70 [(.t 12), (kc 0)]),
 o 11 (.mv (.t 13)),
 o 14 (.ext (.t 11) 0),
 o 15 (.ext (.t 11) 1),
 o 16 (.ext (.t 11) 2),
 o 4 (.mv (.t 14)),
 o 5 (.mv (.t 15)),
 o 6 (.mv (.t 16))])
 (.seq
 (.seq
 (rg [
 o 17 (.mv (.t 6)),
 o 18 (.un .not (.t 17)),
 o 19 (.mv (.t 18)),
 og 20 19 false (.mv (.t 4)),
 og 21 19 false (.bin .gtr (.t 20) (kc 256)),
 o 22 (.pick (.t 19) (kb true) (.t 21))])
 (.cond (.t 22)
 (.seq
 (rg [
 oz 2 (.mv (kx (.ns))),
 o 3 (.mv (kb false))])
 .ret)
 .skip))
 (.seq
 (rg [
 o 7 (.own 2)])
 (.seq
 (.seq
 (rg [
 o 23 (.mv (.t 4)),
 o 24 (.mv (kc 0))])
 (.block 0
 (.loop [0, 5, 7, 23, 24] a26_0)))
 (.seq
 (.seq
 (rg [
 o 61 (.mv (.t 5)),
 o 62 (.mv (.t 0)),
 o 63 (.len true (.t 62)),
 o 64 (.bin .lss (.t 61) (.t 63)),
 o 65 (.mv (.t 64)),
 og 66 65 false (.mv (.t 7)),
 og 67 65 false (.callz 71 [(.t 66)]),
 og 68 65 false (.un .not (.t 67)),
 o 69 (.pick (.t 65) (kb true) (.t 68))])
 (.cond (.t 69)
 (.seq
 (rg [
 oz 2 (.mv (kx (.ns))),
 o 3 (.mv (kb false))])
 .ret)
 .skip))
 (.seq
 (rg [
 o 70 (.mv (.t 7)),
 o 2 (.mv (.t 70)),
 o 3 (.mv (kb true))])
 .ret))))))),
 [.t 2, .t 3], false⟩
def a27_0 : AC :=
 (.seq
 (rg [
 o 9 (.bin .lss (.t 8) (.t 7))])
 (.seq
 (.cond (.t 9)
 .skip
 (.exit 0))
 (.seq
 (.block 1
 (.seq
 (rg [
 o 10 (.ia 1 (.t 6) (.t 8)),
 o 11 (.ld none (.t 10)),
 o 5 (.mv (.t 11))])
 (rg [
 o 12 (.mv (.t 3)),
 o 13 (.mv (.t 5)),
 o 14 (.callp 72 [(.t 12), (.t 13)]),
 o 3 (.mv (.t 14))])))
 (rg [
 o 15 (.bin .add (.t 8) (kc 1)),
 o 8 (.mv (.t 15))]))))
def a27 : AF := ⟨17,
 (.seq
 (rg [
 o 2 (.mv (kx (.d (.i .u32 0))))])
 (.seq
 (rg [
 o 3 (.mv (kx (.d (.i .u32 0))))])
 (.seq
 (.seq
 (rg [
 o 6 (.mv (.t 0)),
 o 7 (.len false (.t 6)),
 o 8 (.mv (kc 0))])
 (.block 0
 (.loop [3, 6, 7, 8] a27_0)))
 (.seq
 (rg [
 o 16 (.mv (.t 3)),
 o 2 (.mv (.t 16))])
 .ret)))),
 [.t 2], false⟩
def a28 : AF := ⟨5,
 (.seq
 (rg [
 o 2 (.mv (ks []))])
 (.seq
 (rg [
 o 3 (.mv (.t 0)),
 o 4 (.callp 73 [(kx (.d (.i .u8 116))), (.t 3)]),
 o 2 (.mv (.t 4))])
 .ret)),
 [.t 2], false⟩
def a29 : AF := ⟨5,
 (.seq
 (rg [
 o 2 (.mv (ks []))])
 (.seq
 (rg [
 o 3 (.mv (.t 0)),
 o 4 (.callp 73 [(kx (.d (.i .u8 115))), (.t 3)]),
 o 2 (.mv (.t 4))])
 .ret)),
 [.t 2], false⟩
def a30_0 : AC :=
 (.seq
 (rg [
 o 13 (.bin .lss (.t 12) (.t 11))])
 (.seq
 (.cond (.t 13)
 .skip
 (.exit 0))
 (.seq
 (.block 1
 (.seq
 (rg [
 o 14 (.ia 2 (.t 10) (.t 12)),
 o 15 (.ld (some 2) (.t 14)),
 o 7 (.alloc [.nf, .ns]),
 on (.st 2 (.t 7) (.t 15))])
 (.seq
 (rg [
 o 17 (.fa 0 (.t 7)),
 o 18 (.ld none (.t 17)),
 o 19 (.ld (some 5) (.t 2)),
 o 20 (.callv (.t 18) [(.t 19)]),
 o 16 (.mv (.t 20)),
 o 21 (.ext (.t 16) 0),
 o 22 (.ext (.t 16) 1),
 o 8 (.alloc [.ns, .d (.i .i64 0), .d (.b false), .d (.i .i64 0), .d (.b false)]),
 on (.st 5 (.t 8) (.t 21)),
 o 9 (.mv (.t 22))])
 (.seq
 (rg [
 o 23 (.ld (some 5) (.t 8)),
 on (.st 5 (.t 2) (.t 23))])
 (.seq
 (.seq
 (rg [
 o 24 (.mv (.t 9)),
 o 25 (.bin .eql (.t 24) (kc 9))])
 (.cond (.t 25)
 (.seq
 (rg [
 o 26 (.ld (some 5) (.t 2)),
 o 27 (.fa 1 (.t 7)),
 o 28 (.ld none (.t 27)),
 o 29 (.callz 74 [(.t 26), (.t 28)]),
 o 30 (.ext (.t 29) 0),
 o 31 (.ext (.t 29) 1),
 on (.st 5 (.t 4) (.t 30)),
 o 5 (.mv (.t 31))])
 .ret)
 .skip))
 (.seq
 (rg [
 o 32 (.mv (.t 9)),
 o 33 (.bin .neq (.t 32) (kc 0))])
 (.cond (.t 33)
 (.seq
 (rg [
 o 34 (.ld (some 5) (.t 2)),
 o 35 (.mv (.t 9)),
 on (.st 5 (.t 4) (.t 34)),
 o 5 (.mv (.t 35))])
 .ret)
 .skip)))))))
 (rg [
 o 36 (.bin .add (.t 12) (kc 1)),
 o 12 (.mv (.t 36))]))))
def a30 : AF := ⟨38,
 (.seq
 (rg [
 o 2 (.box (.t 0)),
 o 4 (.alloc [.ns, .d (.i .i64 0), .d (.b false), .d (.i .i64 0), .d (.b false)]),
 o 5 (.mv (kc 0))])
 (.seq
 (.seq
 (rg [
 o 10 (.mv (.t 1)),
 o 11 (.len false (.t 10)),
 o 12 (.mv (kc 0))])
 (.block 0
 (.loop [2, 4, 10, 11, 12] a30_0)))
 (.seq
 (rg [
 o 37 (.ld (some 5) (.t 2)),
 on (.st 5 (.t 4) (.t 37)),
 o 5 (.mv (kc 0))])
 .ret))),
 [.c (some 5) 4, .t 5], false⟩
def a31 : AF := ⟨10,
 (.seq
 (rg [
 o 2 (.box (.t 0)),
 o 3 (.alloc [.ns, .d (.i .i64 0), .d (.b false), .d (.i .i64 0), .d (.b false)]),
 o 4 (.mv (kc 0))])
 (.seq
 (rg [
 o 5 (.ld (some 5) (.t 2)),
 o 6 (.ld none (.t 1)),
 o 7 (.callp 32 [(.t 5), (.t 6)]),
 o 8 (.ext (.t 7) 0),
 o 9 (.ext (.t 7) 1),
 on (.st 5 (.t 3) (.t 8)),
 o 4 (.mv (.t 9))])
 .ret)),
 [.c (some 5) 3, .t 4], false⟩
def a32 : AF := ⟨12,
 (.seq
 (rg [
 o 2 (.box (.t 0)),
 o 3 (.box (.t 1)),
 o 4 (.alloc [.ns, .d (.i .i64 0), .d (.b false), .d (.i .i64 0), .d (.b false)]),
 o 5 (.mv (kc 0))])
 (.seq
 (rg [
 o 6 (.ld (some 5) (.t 2)),
 o 7 (.ld none (.t 3)),
 o 8 (.mkf 76 [(.t 3)]),
 o 9 (.call 75 [(.t 6), (.t 7), (.t 8)]),
 o 10 (.ext (.t 9) 0),
 o 11 (.ext (.t 9) 1),
 on (.st 5 (.t 4) (.t 10)),
 o 5 (.mv (.t 11))])
 .ret)),
 [.c (some 5) 4, .t 5], false⟩
def a33 : AF := ⟨12,
 (.seq
 (rg [
 o 3 (.box (.t 0)),
 o 4 (.alloc [.ns, .d (.i .i64 0), .d (.b false), .d (.i .i64 0), .d (.b false)]),
 o 5 (.mv (kc 0))])
 (.seq
 (rg [
 o 6 (.ld (some 5) (.t 3)),
 o 7 (.ld none (.t 1)),
 o 8 (.ld none (.t 2)),
 o 9 (.callp 34 [(.t 6), (.t 7), (.t 8)]),
 o 10 (.ext (.t 9) 0),
 o 11 (.ext (.t 9) 1),
 on (.st 5 (.t 4) (.t 10)),
 o 5 (.mv (.t 11))])
 .ret)),
 [.c (some 5) 4, .t 5], false⟩
def a34 : AF := ⟨14,
 (.seq
 (rg [
 o 3 (.box (.t 0)),
 o 5 (.box (.t 2)),
 o 6 (.alloc [.ns, .d (.i .i64 0), .d (.b false), .d (.i .i64 0), .d (.b false)]),
 o 7 (.mv (kc 0))])
 (.seq
 (rg [
 o 8 (.ld (some 5) (.t 3)),
 o 9 (.mv (.t 1)),
 o 10 (.mkf 79 [(.t 3), (.t 5)]),
 o 11 (.call 75 [(.t 8), (.t 9), (.t 10)]),
 o 12 (.ext (.t 11) 0),
 o 13 (.ext (.t 11) 1),
 on (.st 5 (.t 6) (.t 12)),
 o 7 (.mv (.t 13))])
 .ret)),
 [.c (some 5) 6, .t 7], false⟩
def a35 : AF := ⟨10,
 (.seq
 (rg [
 o 2 (.box (.t 0)),
 o 3 (.alloc [.ns, .d (.i .i64 0), .d (.b false), .d (.i .i64 0), .d (.b false)]),
 o 4 (.mv (kc 0))])
 (.seq
 (rg [
 o 5 (.ld (some 5) (.t 2)),
 o 6 (.ld none (.t 1)),
 o 7 (.callp 36 [(.t 5), (.t 6)]),
 o 8 (.ext (.t 7) 0),
 o 9 (.ext (.t 7) 1),
 on (.st 5 (.t 3) (.t 8)),
 o 4 (.mv (.t 9))])
 .ret)),
 [.c (some 5) 3, .t 4], false⟩
def a36 : AF := ⟨11,
 (.seq
 (rg [
 o 2 (.box (.t 0)),
 o 4 (.alloc [.ns, .d (.i .i64 0), .d (.b false), .d (.i .i64 0), .d (.b false)]),
 o 5 (.mv (kc 0))])
 (.seq
 (rg [
 o 6 (.ld (some 5) (.t 2)),
 o 7 (.mv (.t 1)),
 o 8 (.call 75 [(.t 6), (.t 7), (kx (.f 81 []))]),
 o 9 (.ext (.t 8) 0),
 o 10 (.ext (.t 8) 1),
 on (.st 5 (.t 4) (.t 9)),
 o 5 (.mv (.t 10))])
 .ret)),
 [.c (some 5) 4, .t 5], false⟩
def a37 : AF := ⟨10,
 (.seq
 (rg [
 o 2 (.box (.t 0)),
 o 3 (.alloc [.ns, .d (.i .i64 0), .d (.b false), .d (.i .i64 0), .d (.b false)]),
 o 4 (.mv (kc 0))])
 (.seq
 (rg [
 o 5 (.ld (some 5) (.t 2)),
 o 6 (.ld none (.t 1)),
 o 7 (.callp 32 [(.t 5), (.t 6)]),
 o 8 (.ext (.t 7) 0),
 o 9 (.ext (.t 7) 1),
 on (.st 5 (.t 3) (.t 8)),
 o 4 (.mv (.t 9))])
 .ret)),
 [.c (some 5) 3, .t 4], false⟩
def a38 : AF := ⟨11,
 (.seq
 (rg [
 o 2 (.box (.t 0)),
 o 3 (.alloc [.ns, .d (.i .i64 0), .d (.b false), .d (.i .i64 0), .d (.b false)]),
 o 4 (.mv (kc 0))])
 (.seq
 (rd [
 o 5 (.ld (some 5) (.t 2)),
 o 6 (.ld (some 11) (.t 1)),
 od 7 [1] (.callz 40 [(.t 6)]),
 od 8 [1, 2, 0] (.callp 39 [(.t 5), (.t 7)]),
 od 9 [0, 2, 1, 3] (.ext (.t 8) 0),
 od 10 [0, 2, 1, 3] (.ext (.t 8) 1),
 ⟨none, .st 5 (.t 3) (.t 9), none, [5, 3, 1, 2, 0, 4], false⟩,
 od 4 [4, 6, 3, 1, 2, 0, 5] (.mv (.t 10))])
 .ret)),
 [.c (some 5) 3, .t 4], false⟩
def a39 : AF := ⟨21,
 (.seq
 (rg [
 o 2 (.box (.t 0)),
 o 3 (.box (.t 1)),
 o 4 (.alloc [.ns, .d (.i .i64 0), .d (.b false), .d (.i .i64 0), .d (.b false)]),
 o 5 (.mv (kc 0))])
 (.seq
 (rg [
 o 7 (.ld (some 5) (.t 2)),
 o 8 (.build [.ns, .d (.i .i64 0), .d (.b false), .d (.i .i64 0), .d (.b false), .d (.i .i64 0)] [(0, 5, (.t 7))]),
 o 9 (.box (.t 8)),
 o 6 (.mv (.t 9))])
 (.seq
 (rg [
 o 10 (.mv (.t 6)),
 o 11 (.ld (some 4) (.t 3)),
 o 12 (.call 82 [(.t 10), (.t 11)])])
 (.seq
 (rd [
 o 13 (.mv (.t 6)),
 od 14 [0] (.nck (.t 13)),
 od 15 [0, 1] (.fa 0 (.t 14)),
 od 16 [1, 0, 2] (.ld (some 5) (.t 15)),
 o 17 (.mv (.t 6)),
 od 18 [4] (.nck (.t 17)),
 od 19 [4, 5] (.fa 5 (.t 18)),
 od 20 [5, 4, 6] (.ld none (.t 19)),
 ⟨none, .st 5 (.t 4) (.t 16), none, [2, 0, 1, 3], false⟩,
 od 5 [3, 1, 0, 2, 8, 6, 4, 5, 7] (.mv (.t 20))])
 .ret)))),
 [.c (some 5) 4, .t 5], false⟩
def a40_0 : AC :=
 (.seq
 (rg [
 o 21 (.bin .lss (.t 20) (.t 19))])
 (.seq
 (.cond (.t 21)
 .skip
 (.exit 0))
 (.seq
 (.block 1
 (.seq
 (rg [
 o 22 (.mv (.t 20)),
 o 23 (.ia 3 (.t 18) (.t 20)),
 o 24 (.ld (some 3) (.t 23)),
 o 5 (.alloc [.d (.i .i64 0), .d (.i .i64 0), .d (.i .i64 0)]),
 o 4 (.mv (.t 22)),
 on (.st 3 (.t 5) (.t 24))])
 (rg [
 o 25 (.fa 1 (.t 3)),
 o 26 (.ld none (.t 25)),
 o 27 (.mv (.t 4)),
 o 28 (.fa 0 (.t 5)),
 o 29 (.ld none (.t 28)),
 o 30 (.ia 1 (.t 26) (.t 27)),
 on (.st 1 (.t 30) (.t 29))])))
 (rg [
 o 31 (.bin .add (.t 20) (kc 1)),
 o 20 (.mv (.t 31))]))))
def a40 : AF := ⟨33,
 (.seq
 (rg [
 o 1 (.box (.t 0)),
 o 2 (.alloc [.d (.i .i64 0), .ns, .d (.i .i64 0), .d (.i .u32 0)])])
 (.seq
 (rd [
 o 6 (.fa 5 (.t 1)),
 od 7 [0] (.ld none (.t 6)),
 o 8 (.fa 9 (.t 1)),
 od 9 [2] (.ld none (.t 8)),
 o 10 (.fa 10 (.t 1)),
 od 11 [4] (.ld none (.t 10)),
 o 12 (.fa 6 (.t 1)),
 od 13 [6] (.ld none (.t 12)),
 od 14 [6, 7] (.len false (.t 13)),
 od 15 [7, 6, 8] (.mks 1 8 [.i .i64 0] (.t 14) (.t 14)),
 od 16 [8, 6, 7, 9, 4, 5, 2, 3, 0, 1] (.build [.d (.i .i64 0), .ns, .d (.i .i64 0), .d (.i .u32 0)] [(0, 1, (.t 7)), (2, 1, (.t 9)), (3, 1, (.t 11)), (1, 1, (.t 15))]),
 o 3 (.alloc [.d (.i .i64 0), .ns, .d (.i .i64 0), .d (.i .u32 0)]),
 ⟨none, .st 4 (.t 3) (.t 16), none, [1, 0, 3, 2, 5, 4, 9, 7, 6, 8, 10, 11], false⟩])
 (.seq
 (.seq
 (rg [
 o 17 (.fa 6 (.t 1)),
 o 18 (.ld none (.t 17)),
 o 19 (.len false (.t 18)),
 o 20 (.mv (kc 0))])
 (.block 0
 (.loop [2, 3, 18, 19, 20] a40_0)))
 (.seq
 (rg [
 o 32 (.ld (some 4) (.t 3)),
 on (.st 4 (.t 2) (.t 32))])
 .ret)))),
 [.c (some 4) 2], false⟩
def a41 : AF := ⟨5,
 (.seq
 (rg [
 o 1 (.box (.t 0)),
 o 2 (.alloc [.nf, .ns])])
 (.seq
 (rg [
 o 3 (.mkf 83 [(.t 1)]),
 o 4 (.build [.nf, .ns] [(0, 1, (.t 3))]),
 on (.st 2 (.t 2) (.t 4))])
 .ret)),
 [.c (some 2) 2], true⟩
def a42 : AF := ⟨12,
 (.seq
 (rg [
 o 1 (.box (.t 0)),
 o 2 (.mv (kc 0))])
 (.seq
 (.seq
 (rg [
 o 3 (.fa 6 (.t 1)),
 o 4 (.ld none (.t 3)),
 o 5 (.len false (.t 4)),
 o 6 (.bin .eql (.t 5) (kc 0))])
 (.cond (.t 6)
 (.seq
 (rg [
 o 2 (.mv (kc 0))])
 .ret)
 .skip))
 (.seq
 (rg [
 o 7 (.fa 6 (.t 1)),
 o 8 (.ld none (.t 7)),
 o 9 (.ia 3 (.t 8) (kc 0)),
 o 10 (.fa 0 (.t 9)),
 o 11 (.ld none (.t 10)),
 o 2 (.mv (.t 11))])
 .ret))),
 [.t 2], false⟩
def a43 : AF := ⟨5,
 (.seq
 (rg [
 o 2 (.mv (kx (.d (.i .u32 0))))])
 (.seq
 (rg [
 o 3 (.mv (.t 0)),
 o 4 (.callp 85 [(kx (.d (.i .u32 0))), (.t 3)]),
 o 2 (.mv (.t 4))])
 .ret)),
 [.t 2], false⟩
def a44 : AF := ⟨80,
 (.seq
 (rg [
 o 3 (.box (.t 0)),
 o 4 (.box (.t 1)),
 o 6 (.alloc [.ns, .d (.i .i64 0), .d (.b false), .d (.i .i64 0), .d (.b false)]),
 o 7 (.mv (kc 0))])
 (.seq
 (rg [
 o 11 (.fa 1 (.t 4)),
 o 12 (.ld none (.t 11)),
 o 13 (.ia 1 (.t 12) (kc 0)),
 o 14 (.ld none (.t 13)),
 o 15 (.callp 49 [(.t 14)]),
 o 16 (.fa 1 (.t 4)),
 o 17 (.ld none (.t 16)),
 o 18 (.ia 1 (.t 17) (kc 0)),
 o 19 (.ld none (.t 18)),
 o 20 (.callp 47 [(.t 19)]),
 o 8 (.mv (.t 15)),
 o 9 (.mv (.t 20))])
 (.seq
 (rg [
 o 22 (.ld (some 5) (.t 3)),
 o 23 (.mv (.t 8)),
 o 24 (.callp 65 [(.t 22), (.t 23)]),
 o 21 (.mv (.t 24)),
 o 25 (.ext (.t 21) 0),
 o 26 (.ext (.t 21) 1),
 on (.st 5 (.t 3) (.t 25)),
 o 10 (.mv (.t 26))])
 (.seq
 (.seq
 (rg [
 o 27 (.mv (.t 10)),
 o 28 (.bin .neq (.t 27) (kc 0))])
 (.cond (.t 28)
 (.seq
 (rg [
 o 29 (.ld (some 5) (.t 3)),
 o 30 (.mv (.t 10)),
 on (.st 5 (.t 6) (.t 29)),
 o 7 (.mv (.t 30))])
 .ret)
 .skip))
 (.seq
 (rg [
 o 32 (.ld (some 5) (.t 3)),
 o 33 (.mv (.t 8)),
 o 34 (.mv (.t 2)),
 o 35 (.callp 56 [(.t 32), (.t 33), (.t 34)]),
 o 31 (.mv (.t 35)),
 o 36 (.ext (.t 31) 0),
 o 37 (.ext (.t 31) 1),
 on (.st 5 (.t 3) (.t 36)),
 o 10 (.mv (.t 37))])
 (.seq
 (rg [
 o 39 (.ld (some 5) (.t 3)),
 o 40 (.mv (.t 10)),
 o 41 (.mv (.t 8)),
 o 42 (.bsl 1 [[.s []]] [(0, (.t 41))]),
 o 43 (.callz 86 [(.t 39), (.t 40), (.t 42)]),
 o 38 (.mv (.t 43)),
 o 44 (.ext (.t 38) 0),
 o 45 (.ext (.t 38) 1),
 on (.st 5 (.t 3) (.t 44)),
 o 10 (.mv (.t 45))])
 (.seq
 (.seq
 (rg [
 o 46 (.mv (.t 10)),
 o 47 (.bin .eql (.t 46) (kc 0))])
 (.cond (.t 47)
 (rg [
 o 49 (.ld (some 5) (.t 3)),
 o 50 (.mv (.t 8)),
 o 51 (.callp 58 [(.t 49), (.t 50)]),
 o 48 (.mv (.t 51)),
 o 52 (.ext (.t 48) 0),
 o 53 (.ext (.t 48) 1),
 on (.st 5 (.t 3) (.t 52)),
 o 10 (.mv (.t 53))])
 .skip))
 (.seq
 (.seq
 (rg [
 o 54 (.mv (.t 10)),
 o 55 (.bin .eql (.t 54) (kc 0))])
 (.cond (.t 55)
 (rg [
 o 57 (.ld (some 5) (.t 3)),
 o 58 (.mv (.t 9)),
 o 59 (.callp 65 [(.t 57), (.t 58)]),
 o 56 (.mv (.t 59)),
 o 60 (.ext (.t 56) 0),
 o 61 (.ext (.t 56) 1),
 on (.st 5 (.t 3) (.t 60)),
 o 10 (.mv (.t 61))])
 .skip))
 (.seq
 (.seq
 (rg [
 o 62 (.mv (.t 10)),
 o 63 (.bin .neq (.t 62) (kc 0))])
 (.cond (.t 63)
 (.seq
 (rg [
 o 64 (.ld (some 5) (.t 3)),
 o 65 (.mv (.t 10)),
 on (.st 5 (.t 6) (.t 64)),
 o 7 (.mv (.t 65))])
 .ret)
 .skip))
 (.seq
 (rg [
 o 67 (.ld (some 5) (.t 3)),
 o 68 (.ld (some 4) (.t 4)),
 o 69 (.callp 66 [(.t 67), (.t 68)]),
 o 66 (.mv (.t 69)),
 o 70 (.ext (.t 66) 0),
 o 71 (.ext (.t 66) 1),
 on (.st 5 (.t 3) (.t 70)),
 o 10 (.mv (.t 71))])
 (.seq
 (rg [
 o 72 (.ld (some 5) (.t 3)),
 o 73 (.mv (.t 10)),
 o 74 (.mv (.t 9)),
 o 75 (.mv (.t 8)),
 o 76 (.bsl 1 [[.s []], [.s []]] [(0, (.t 74)), (1, (.t 75))]),
 o 77 (.callz 86 [(.t 72), (.t 73), (.t 76)]),
 o 78 (.ext (.t 77) 0),
 o 79 (.ext (.t 77) 1),
 on (.st 5 (.t 6) (.t 78)),
 o 7 (.mv (.t 79))])
 .ret))))))))))),
 [.c (some 5) 6, .t 7], false⟩
def a45_0 : AC :=
 (.seq
 (.seq
 (rg [
 o 12 (.mv (.t 4)),
 o 13 (.fa 6 (.t 1)),
 o 14 (.ld none (.t 13)),
 o 15 (.len false (.t 14)),
 o 16 (.bin .lss (.t 12) (.t 15))])
 (.cond (.t 16)
 .skip
 (.exit 0)))
 (.seq
 (.block 1
 (rd [
 o 19 (.fa 1 (.t 3)),
 od 20 [0] (.ld none (.t 19)),
 o 21 (.fa 6 (.t 1)),
 od 22 [2] (.ld none (.t 21)),
 o 23 (.mv (.t 4)),
 od 24 [4, 2, 3] (.ia 3 (.t 22) (.t 23)),
 od 25 [3, 2, 4, 5] (.fa 0 (.t 24)),
 od 26 [5, 4, 2, 3, 6] (.ld none (.t 25)),
 od 27 [6, 3, 2, 4, 5, 7] (.bsl 1 [[.i .i64 0]] [(0, (.t 26))]),
 od 28 [7, 5, 4, 2, 3, 6, 8, 0, 1] (.app false 1 8 (.t 20) (.t 27)),
 od 29 [9, 8, 7, 6, 5, 4, 3, 2, 1, 0] (.fa 1 (.t 3)),
 ⟨none, .st 1 (.t 29) (.t 28), none, [0, 1, 2, 3, 4, 5, 6, 7, 8, 9, 10], false⟩]))
 (rg [
 o 17 (.mv (.t 4)),
 o 18 (.bin .add (.t 17) (kc 1)),
 o 4 (.mv (.t 18))])))
def a45 : AF := ⟨31,
 (.seq
 (rg [
 o 1 (.box (.t 0)),
 o 2 (.alloc [.d (.i .i64 0), .ns, .d (.i .i64 0), .d (.i .u32 0)])])
 (.seq
 (rg [
 o 5 (.fa 5 (.t 1)),
 o 6 (.ld none (.t 5)),
 o 7 (.fa 9 (.t 1)),
 o 8 (.ld none (.t 7)),
 o 9 (.fa 10 (.t 1)),
 o 10 (.ld none (.t 9)),
 o 11 (.build [.d (.i .i64 0), .ns, .d (.i .i64 0), .d (.i .u32 0)] [(0, 1, (.t 6)), (2, 1, (.t 8)), (3, 1, (.t 10))]),
 o 3 (.alloc [.d (.i .i64 0), .ns, .d (.i .i64 0), .d (.i .u32 0)]),
 on (.st 4 (.t 3) (.t 11))])
 (.seq
 (.seq
 (rg [
 o 4 (.mv (kc 0))])
 (.block 0
 (.loop [1, 2, 3, 4] a45_0)))
 (.seq
 (rg [
 o 30 (.ld (some 4) (.t 3)),
 on (.st 4 (.t 2) (.t 30))])
 .ret)))),
 [.c (some 4) 2], false⟩
def a46 : AF := ⟨22,
 (.seq
 (rg [
 o 2 (.box (.t 0)),
 o 4 (.alloc [.ns, .d (.i .i64 0), .d (.b false), .d (.i .i64 0), .d (.b false)]),
 o 5 (.mv (kc 0))])
 (.seq
 (.seq
 (rg [
 o 6 (.ld (some 5) (.t 2)),
 o 7 (.mv (.t 1)),
 o 8 (.callp 87 [(.t 6), (.t 7)]),
 o 9 (.bin .lss (.t 8) (kc 0))])
 (.cond (.t 9)
 (.seq
 (rg [
 o 10 (.ld (some 5) (.t 2)),
 o 11 (.callp 88 [(.t 10), (kx (.ns)), (kc 7)]),
 o 12 (.ext (.t 11) 0),
 o 13 (.ext (.t 11) 1),
 on (.st 5 (.t 4) (.t 12)),
 o 5 (.mv (.t 13))])
 .ret)
 .skip))
 (.seq
 (rg [
 o 14 (.ld (some 5) (.t 2)),
 o 15 (.fa 0 (.t 2)),
 o 16 (.ld none (.t 15)),
 o 17 (.mv (.t 1)),
 o 18 (.callp 89 [(.t 16), (.t 17)]),
 o 19 (.callp 88 [(.t 14), (.t 18), (kc 0)]),
 o 20 (.ext (.t 19) 0),
 o 21 (.ext (.t 19) 1),
 on (.st 5 (.t 4) (.t 20)),
 o 5 (.mv (.t 21))])
 .ret))),
 [.c (some 5) 4, .t 5], false⟩
def a47 : AF := ⟨12,
 (.seq
 (rg [
 o 2 (.mv (ks []))])
 (.seq
 (.seq
 (rg [
 o 3 (.mv (.t 0)),
 o 4 (.bin .lss (.t 3) (kc 0)),
 o 5 (.mv (.t 4)),
 og 6 5 false (.mv (.t 0)),
 og 7 5 false (.bin .gtr (.t 6) (kc 1099511627776)),
 o 8 (.pick (.t 5) (kb true) (.t 7))])
 (.cond (.t 8)
 (.seq
 (rg [
 o 2 (.mv (ks []))])
 .ret)
 .skip))
 (.seq
 (rg [
 o 9 (.mv (.t 0)),
 o 10 (.callp 90 [(.t 9)]),
 o 11 (.bin .add (ks [115]) (.t 10)),
 o 2 (.mv (.t 11))])
 .ret))),
 [.t 2], false⟩
def a48 : AF := ⟨12,
 (.seq
 (rg [
 o 1 (.box (.t 0)),
 o 2 (.mv (kc 0))])
 (.seq
 (.seq
 (rg [
 o 3 (.fa 6 (.t 1)),
 o 4 (.ld none (.t 3)),
 o 5 (.len false (.t 4)),
 o 6 (.bin .eql (.t 5) (kc 0))])
 (.cond (.t 6)
 (.seq
 (rg [
 o 2 (.mv (kc 0))])
 .ret)
 .skip))
 (.seq
 (rg [
 o 7 (.fa 6 (.t 1)),
 o 8 (.ld none (.t 7)),
 o 9 (.ia 3 (.t 8) (kc 0)),
 o 10 (.fa 0 (.t 9)),
 o 11 (.ld none (.t 10)),
 o 2 (.mv (.t 11))])
 .ret))),
 [.t 2], false⟩
def a49 : AF := ⟨12,
 (.seq
 (rg [
 o 2 (.mv (ks []))])
 (.seq
 (.seq
 (rg [
 o 3 (.mv (.t 0)),
 o 4 (.bin .lss (.t 3) (kc 0)),
 o 5 (.mv (.t 4)),
 og 6 5 false (.mv (.t 0)),
 og 7 5 false (.bin .gtr (.t 6) (kc 1099511627776)),
 o 8 (.pick (.t 5) (kb true) (.t 7))])
 (.cond (.t 8)
 (.seq
 (rg [
 o 2 (.mv (ks []))])
 .ret)
 .skip))
 (.seq
 (rg [
 o 9 (.mv (.t 0)),
 o 10 (.callp 90 [(.t 9)]),
 o 11 (.bin .add (ks [116]) (.t 10)),
 o 2 (.mv (.t 11))])
 .ret))),
 [.t 2], false⟩
def a50_0 : AC :=
 (.seq
 (.seq
 (rg [
 o 19 (.mv (.t 9)),
 o 20 (.bin .lss (.t 19) (kc 9)),
 o 21 (.mv (.t 20)),
 og 22 21 true (.mv (.t 9)),
 og 23 21 true (.mv (.t 0)),
 og 24 21 true (.len true (.t 23)),
 og 25 21 true (.mv (.t 1)),
 og 26 21 true (.bin .sub (.t 24) (.t 25)),
 og 27 21 true (.bin .lss (.t 22) (.t 26)),
 o 28 (.pick (.t 21) (.t 27) (kb false))])
 (.cond (.t 28)
 .skip
 (.exit 0)))
 (.seq
 (.block 1
 (.seq
 (rg [
 o 31 (.mv (.t 0)),
 o 32 (.mv (.t 1)),
 o 33 (.mv (.t 9)),
 o 34 (.bin .add (.t 32) (.t 33)),
 o 35 (.ixs (.t 31) (.t 34)),
 o 36 (.cvi .i64 (.t 35)),
 o 10 (.mv (.t 36))])
 (.seq
 (rg [
 o 37 (.mv (.t 7)),
 o 38 (.mv (.t 10)),
 o 39 (.bin .rem (.t 38) (kc 128)),
 o 40 (.mv (.t 8)),
 o 41 (.bin .mul (.t 39) (.t 40)),
 o 42 (.bin .add (.t 37) (.t 41)),
 o 7 (.mv (.t 42))])
 (.seq
 (.seq
 (rg [
 o 43 (.mv (.t 10)),
 o 44 (.bin .lss (.t 43) (kc 128))])
 (.cond (.t 44)
 (.seq
 (.seq
 (rg [
 o 45 (.mv (.t 7)),
 o 46 (.callp 91 [(.t 45)]),
 o 47 (.mv (.t 0)),
 o 48 (.mv (.t 1)),
 o 49 (.mv (.t 1)),
 o 50 (.mv (.t 9)),
 o 51 (.bin .add (.t 49) (.t 50)),
 o 52 (.bin .add (.t 51) (kc 1)),
 o 53 (.sls (.t 47) (some (.t 48)) (some (.t 52))),
 o 54 (.bin .neq (.t 46) (.t 53))])
 (.cond (.t 54)
 (.seq
 (rg [
 o 4 (.mv (kc 0)),
 o 5 (.mv (kc 0)),
 o 6 (.mv (kb false))])
 .ret)
 .skip))
 (.seq
 (rg [
 o 55 (.mv (.t 7)),
 o 56 (.mv (.t 1)),
 o 57 (.mv (.t 9)),
 o 58 (.bin .add (.t 56) (.t 57)),
 o 59 (.bin .add (.t 58) (kc 1)),
 o 4 (.mv (.t 55)),
 o 5 (.mv (.t 59)),
 o 6 (.mv (kb true))])
 .ret))
 .skip))
 (.seq
 (rg [
 o 60 (.mv (.t 9)),
 o 61 (.bin .lss (.t 60) (kc 8))])
 (.cond (.t 61)
 (rg [
 o 62 (.mv (.t 8)),
 o 63 (.bin .mul (.t 62) (kc 128)),
 o 8 (.mv (.t 63))])
 .skip))))))
 (rg [
 o 29 (.mv (.t 9)),
 o 30 (.bin .add (.t 29) (kc 1)),
 o 9 (.mv (.t 30))])))
def a50 : AF := ⟨64,
 (.seq
 (rg [
 o 4 (.mv (kc 0)),
 o 5 (.mv (kc 0)),
 o 6 (.mv (kb false))])
 (.seq
 (.seq
 (rg [
 o 11 (.mv (.t 1)),
 o 12 (.bin .lss (.t 11) (kc 0)),
 o 13 (.mv (.t 12)),
 og 14 13 false (.mv (.t 1)),
 og 15 13 false (.mv (.t 0)),
 og 16 13 false (.len true (.t 15)),
 og 17 13 false (.bin .geq (.t 14) (.t 16)),
 o 18 (.pick (.t 13) (kb true) (.t 17))])
 (.cond (.t 18)
 (.seq
 (rg [
 o 4 (.mv (kc 0)),
 o 5 (.mv (kc 0)),
 o 6 (.mv (kb false))])
 .ret)
 .skip))
 (.seq
 (rg [
 o 7 (.mv (kc 0)),
 o 8 (.mv (kc 1))])
 (.seq
 (.seq
 (rg [
 o 9 (.mv (kc 0))])
 (.block 0
 (.loop [0, 1, 7, 8, 9] a50_0)))
 (.seq
 (rg [
 o 4 (.mv (kc 0)),
 o 5 (.mv (kc 0)),
 o 6 (.mv (kb false))])
 .ret))))),
 [.t 4, .t 5, .t 6], false⟩
def a51_0 : AC :=
 (.seq
 (.seq
 (rg [
 o 4 (.mv (.t 3)),
 o 5 (.mv (.t 0)),
 o 6 (.len false (.t 5)),
 o 7 (.bin .lss (.t 4) (.t 6))])
 (.cond (.t 7)
 .skip
 (.exit 0)))
 (.seq
 (.block 1
 (.seq
 (rg [
 o 10 (.mv (.t 0)),
 o 11 (.mv (.t 3)),
 o 12 (.ia 2 (.t 10) (.t 11)),
 o 13 (.fa 1 (.t 12)),
 o 14 (.ld none (.t 13)),
 o 15 (.len true (.t 14)),
 o 16 (.bin .lss (.t 15) (kc 1)),
 o 17 (.mv (.t 16)),
 og 18 17 false (.mv (.t 0)),
 og 19 17 false (.mv (.t 3)),
 og 20 17 false (.ia 2 (.t 18) (.t 19)),
 og 21 17 false (.fa 1 (.t 20)),
 og 22 17 false (.ld none (.t 21)),
 og 23 17 false (.len true (.t 22)),
 og 24 17 false (.bin .gtr (.t 23) (kc 63)),
 o 25 (.pick (.t 17) (kb true) (.t 24)),
 o 26 (.mv (.t 25)),
 og 27 26 false (.mv (.t 3)),
 og 28 26 false (.bin .gtr (.t 27) (kc 0)),
 og 29 26 false (.mv (.t 28)),
 og 30 29 true (.mv (.t 0)),
 og 31 29 true (.mv (.t 3)),
 og 32 29 true (.ia 2 (.t 30) (.t 31)),
 og 33 29 true (.fa 0 (.t 32)),
 og 34 29 true (.ld none (.t 33)),
 og 35 29 true (.mv (.t 0)),
 og 36 29 true (.mv (.t 3)),
 og 37 29 true (.bin .sub (.t 36) (kc 1)),
 og 38 29 true (.ia 2 (.t 35) (.t 37)),
 og 39 29 true (.fa 0 (.t 38)),
 og 40 29 true (.ld none (.t 39)),
 og 41 29 true (.bin .leq (.t 34) (.t 40)),
 og 42 26 false (.pick (.t 29) (.t 41) (kb false)),
 o 43 (.pick (.t 26) (kb true) (.t 42))])
 (.cond (.t 43)
 (.seq
 (rg [
 o 2 (.mv (kb false))])
 .ret)
 .skip)))
 (rg [
 o 8 (.mv (.t 3)),
 o 9 (.bin .add (.t 8) (kc 1)),
 o 3 (.mv (.t 9))])))
def a51 : AF := ⟨44,
 (.seq
 (rg [
 o 2 (.mv (kb false))])
 (.seq
 (.seq
 (rg [
 o 3 (.mv (kc 0))])
 (.block 0
 (.loop [0, 3] a51_0)))
 (.seq
 (rg [
 o 2 (.mv (kb true))])
 .ret))),
 [.t 2], false⟩
def a52 : AF := ⟨28,
 (.seq
 (rg [
 o 2 (.box (.t 0)),
 o 3 (.box (.t 1)),
 oz 4 (.mv (kx (.ns)))])
 (.seq
 (rg [
 o 11 (.fa 0 (.t 2)),
 o 12 (.ld (some 5) (.t 11)),
 o 13 (.fa 0 (.t 3)),
 o 14 (.ld none (.t 13)),
 o 15 (.callp 47 [(.t 14)]),
 o 16 (.callp 59 [(.t 12), (.t 15)]),
 o 10 (.mv (.t 16)),
 o 17 (.ext (.t 10) 0),
 o 18 (.ext (.t 10) 1),
 o 5 (.mv (.t 17)),
 o 6 (.mv (.t 18))])
 (.seq
 (rg [
 o 20 (.mv (.t 5)),
 o 21 (.fa 0 (.t 3)),
 o 22 (.ld none (.t 21)),
 o 23 (.callp 92 [(.t 20), (.t 22)]),
 o 19 (.mv (.t 23)),
 o 24 (.ext (.t 19) 0),
 o 25 (.ext (.t 19) 1),
 o 26 (.ext (.t 19) 2),
 o 7 (.mv (.t 24)),
 o 8 (.mv (.t 25)),
 o 9 (.mv (.t 26))])
 (.seq
 (rg [
 o 27 (.mv (.t 7)),
 o 4 (.mv (.t 27))])
 .ret)))),
 [.t 4], false⟩
def a53 : AF := ⟨17,
 (.seq
 (rg [
 o 1 (.box (.t 0)),
 o 2 (.mv (kb false))])
 (.seq
 (rg [
 o 3 (.fa 0 (.t 1)),
 o 4 (.ld none (.t 3)),
 o 5 (.callp 93 [(.t 4)]),
 o 6 (.mv (.t 5)),
 og 7 6 true (.fa 1 (.t 1)),
 og 8 6 true (.ld none (.t 7)),
 og 9 6 true (.callp 93 [(.t 8)]),
 o 10 (.pick (.t 6) (.t 9) (kb false)),
 o 11 (.mv (.t 10)),
 og 12 11 true (.fa 2 (.t 1)),
 og 13 11 true (.ld none (.t 12)),
 og 14 11 true (.len true (.t 13)),
 og 15 11 true (.bin .leq (.t 14) (kc 64)),
 o 16 (.pick (.t 11) (.t 15) (kb false)),
 o 2 (.mv (.t 16))])
 .ret)),
 [.t 2], false⟩
def a54 : AF := ⟨79,
 (.seq
 (rg [
 o 1 (.box (.t 0)),
 o 2 (.alloc [.ns, .d (.i .i64 0), .d (.b false), .d (.i .i64 0), .d (.b false), .d (.i .i64 0), .ns, .d (.i .i64 0), .d (.i .i64 0), .d (.i .i64 0), .d (.i .u32 0)]),
 o 3 (.mv (kc 0))])
 (.seq
 (.seq
 (rg [
 o 7 (.fa 6 (.t 1)),
 o 8 (.ld none (.t 7)),
 o 9 (.len false (.t 8)),
 o 10 (.bin .geq (.t 9) (kc 64))])
 (.cond (.t 10)
 (.seq
 (rg [
 o 11 (.ld (some 11) (.t 1)),
 on (.st 11 (.t 2) (.t 11)),
 o 3 (.mv (kc 9))])
 .ret)
 .skip))
 (.seq
 (rg [
 o 13 (.ld (some 11) (.t 1)),
 o 14 (.callp 18 [(.t 13)]),
 o 12 (.mv (.t 14)),
 o 15 (.ext (.t 12) 0),
 o 16 (.ext (.t 12) 1),
 on (.st 11 (.t 1) (.t 15)),
 o 4 (.mv (.t 16))])
 (.seq
 (.seq
 (rg [
 o 17 (.mv (.t 4)),
 o 18 (.bin .neq (.t 17) (kc 0))])
 (.cond (.t 18)
 (.seq
 (rg [
 o 19 (.ld (some 11) (.t 1)),
 o 20 (.mv (.t 4)),
 on (.st 11 (.t 2) (.t 19)),
 o 3 (.mv (.t 20))])
 .ret)
 .skip))
 (.seq
 (rg [
 o 22 (.fa 0 (.t 1)),
 o 23 (.ld (some 5) (.t 22)),
 o 24 (.fa 7 (.t 1)),
 o 25 (.ld none (.t 24)),
 o 26 (.callp 47 [(.t 25)]),
 o 27 (.callp 65 [(.t 23), (.t 26)]),
 o 21 (.mv (.t 27)),
 o 28 (.ext (.t 21) 0),
 o 29 (.ext (.t 21) 1),
 o 30 (.fa 0 (.t 1)),
 on (.st 5 (.t 30) (.t 28)),
 o 4 (.mv (.t 29))])
 (.seq
 (.seq
 (rg [
 o 31 (.mv (.t 4)),
 o 32 (.bin .neq (.t 31) (kc 0))])
 (.cond (.t 32)
 (.seq
 (rg [
 o 33 (.ld (some 11) (.t 1)),
 o 34 (.mv (.t 4)),
 on (.st 11 (.t 2) (.t 33)),
 o 3 (.mv (.t 34))])
 .ret)
 .skip))
 (.seq
 (rg [
 o 35 (.ld (some 11) (.t 1)),
 o 5 (.alloc [.ns, .d (.i .i64 0), .d (.b false), .d (.i .i64 0), .d (.b false), .d (.i .i64 0), .ns, .d (.i .i64 0), .d (.i .i64 0), .d (.i .i64 0), .d (.i .u32 0)]),
 on (.st 11 (.t 5) (.t 35))])
 (.seq
 (rg [
 o 36 (.fa 5 (.t 1)),
 o 37 (.ld none (.t 36)),
 o 38 (.bin .add (.t 37) (kc 1)),
 o 39 (.fa 5 (.t 5)),
 on (.st 1 (.t 39) (.t 38))])
 (.seq
 (rd [
 o 40 (.bsl 3 [] []),
 o 41 (.fa 6 (.t 1)),
 od 42 [1] (.ld none (.t 41)),
 od 43 [1, 2, 0] (.app false 3 24 (.t 40) (.t 42)),
 o 44 (.fa 7 (.t 1)),
 od 45 [4] (.ld none (.t 44)),
 od 46 [4, 5] (.build [.d (.i .i64 0), .d (.i .i64 0), .d (.i .i64 0)] [(0, 1, (.t 45))]),
 od 47 [5, 4, 6] (.bsl 3 [[.i .i64 0, .i .i64 0, .i .i64 0]] [(0, (.t 46))]),
 od 48 [6, 4, 5, 7, 0, 2, 1, 3] (.app false 3 24 (.t 43) (.t 47)),
 od 49 [8, 7, 6, 5, 4, 3, 2, 1, 0] (.fa 6 (.t 5)),
 ⟨none, .st 1 (.t 49) (.t 48), none, [0, 1, 2, 3, 4, 5, 6, 7, 8, 9], false⟩])
 (.seq
 (rd [
 o 51 (.fa 0 (.t 1)),
 od 52 [0] (.ld (some 5) (.t 51)),
 o 53 (.ld (some 11) (.t 5)),
 od 54 [2] (.callz 45 [(.t 53)]),
 od 55 [2, 3, 0, 1] (.callp 66 [(.t 52), (.t 54)]),
 od 50 [1, 0, 3, 2, 4] (.mv (.t 55)),
 od 56 [4, 2, 3, 0, 1, 5] (.ext (.t 50) 0),
 od 57 [4, 2, 3, 0, 1, 5] (.ext (.t 50) 1),
 o 6 (.alloc [.ns, .d (.i .i64 0), .d (.b false), .d (.i .i64 0), .d (.b false)]),
 ⟨none, .st 5 (.t 6) (.t 56), none, [5, 1, 0, 3, 2, 4, 6, 8], false⟩,
 od 4 [8, 6, 9, 5, 1, 0, 3, 2, 4, 7] (.mv (.t 57))])
 (.seq
 (.seq
 (rg [
 o 58 (.mv (.t 4)),
 o 59 (.bin .eql (.t 58) (kc 9))])
 (.cond (.t 59)
 (.seq
 (rg [
 o 61 (.ld (some 5) (.t 6)),
 o 62 (.fa 7 (.t 1)),
 o 63 (.ld none (.t 62)),
 o 64 (.callp 47 [(.t 63)]),
 o 65 (.callp 46 [(.t 61), (.t 64)]),
 o 60 (.mv (.t 65)),
 o 66 (.ext (.t 60) 0),
 o 67 (.ext (.t 60) 1),
 on (.st 5 (.t 6) (.t 66)),
 o 4 (.mv (.t 67))])
 (.seq
 (rg [
 o 68 (.mv (.t 4)),
 o 69 (.bin .eql (.t 68) (kc 0))])
 (.cond (.t 69)
 (rg [
 o 4 (.mv (kc 9))])
 .skip)))
 .skip))
 (.seq
 (.seq
 (rg [
 o 70 (.mv (.t 4)),
 o 71 (.bin .neq (.t 70) (kc 0))])
 (.cond (.t 71)
 (.seq
 (rg [
 o 72 (.ld (some 5) (.t 6)),
 o 73 (.fa 0 (.t 1)),
 on (.st 5 (.t 73) (.t 72))])
 (.seq
 (rg [
 o 74 (.ld (some 11) (.t 1)),
 o 75 (.mv (.t 4)),
 on (.st 11 (.t 2) (.t 74)),
 o 3 (.mv (.t 75))])
 .ret))
 .skip))
 (.seq
 (rg [
 o 76 (.ld (some 5) (.t 6)),
 o 77 (.fa 0 (.t 5)),
 on (.st 5 (.t 77) (.t 76))])
 (.seq
 (rg [
 o 78 (.ld (some 11) (.t 5)),
 on (.st 11 (.t 2) (.t 78)),
 o 3 (.mv (kc 0))])
 .ret)))))))))))))),
 [.c (some 11) 2, .t 3], false⟩
def a55 : AF := ⟨15,
 (.seq
 (rg [
 o 1 (.box (.t 0)),
 o 2 (.mv (ks [])),
 o 3 (.mv (kc 0))])
 (.seq
 (.seq
 (rg [
 o 5 (.ld (some 3) (.t 1)),
 o 6 (.callp 94 [(.t 5)]),
 o 4 (.mv (.t 6))])
 (.seq
 (rg [
 o 7 (.mv (.t 4)),
 o 8 (.bin .neq (.t 7) (kc 0))])
 (.cond (.t 8)
 (.seq
 (rg [
 o 9 (.mv (.t 4)),
 o 2 (.mv (ks [])),
 o 3 (.mv (.t 9))])
 .ret)
 .skip)))
 (.seq
 (rg [
 o 10 (.ld (some 3) (.t 1)),
 o 11 (.callp 96 [(.t 10)]),
 o 12 (.callp 95 [(.t 11)]),
 o 13 (.ext (.t 12) 0),
 o 14 (.ext (.t 12) 1),
 o 2 (.mv (.t 13)),
 o 3 (.mv (.t 14))])
 .ret))),
 [.t 2, .t 3], false⟩
def a56 : AF := ⟨54,
 (.seq
 (rg [
 o 3 (.box (.t 0)),
 o 6 (.alloc [.ns, .d (.i .i64 0), .d (.b false), .d (.i .i64 0), .d (.b false)]),
 o 7 (.mv (kc 0))])
 (.seq
 (rg [
 o 10 (.ld (some 5) (.t 3)),
 o 11 (.mv (.t 1)),
 o 12 (.callp 87 [(.t 10), (.t 11)]),
 o 8 (.mv (.t 12))])
 (.seq
 (.seq
 (rg [
 o 13 (.mv (.t 8)),
 o 14 (.bin .lss (.t 13) (kc 0))])
 (.cond (.t 14)
 (.seq
 (rg [
 o 15 (.ld (some 5) (.t 3)),
 o 16 (.callp 88 [(.t 15), (kx (.ns)), (kc 7)]),
 o 17 (.ext (.t 16) 0),
 o 18 (.ext (.t 16) 1),
 on (.st 5 (.t 6) (.t 17)),
 o 7 (.mv (.t 18))])
 .ret)
 .skip))
 (.seq
 (.seq
 (rg [
 o 19 (.fa 1 (.t 3)),
 o 20 (.ld none (.t 19)),
 o 21 (.bin .gtr (.t 20) (kc 0)),
 o 22 (.mv (.t 21)),
 og 23 22 true (.ld (some 5) (.t 3)),
 og 24 22 true (.callp 97 [(.t 23)]),
 og 25 22 true (.mv (.t 2)),
 og 26 22 true (.len true (.t 25)),
 og 27 22 true (.bin .add (.t 24) (.t 26)),
 og 28 22 true (.fa 1 (.t 3)),
 og 29 22 true (.ld none (.t 28)),
 og 30 22 true (.bin .gtr (.t 27) (.t 29)),
 o 31 (.pick (.t 22) (.t 30) (kb false))])
 (.cond (.t 31)
 (.seq
 (rg [
 o 32 (.ld (some 5) (.t 3)),
 o 33 (.callp 88 [(.t 32), (kx (.ns)), (kc 9)]),
 o 34 (.ext (.t 33) 0),
 o 35 (.ext (.t 33) 1),
 on (.st 5 (.t 6) (.t 34)),
 o 7 (.mv (.t 35))])
 .ret)
 .skip))
 (.seq
 (rg [
 o 36 (.fa 0 (.t 3)),
 o 37 (.ld none (.t 36)),
 o 38 (.mv (.t 8)),
 o 39 (.ia 3 (.t 37) (.t 38)),
 o 40 (.ld (some 3) (.t 39)),
 o 9 (.alloc [.d (.s []), .d (.s []), .d (.i .i64 0)]),
 on (.st 3 (.t 9) (.t 40))])
 (.seq
 (rg [
 o 41 (.fa 1 (.t 9)),
 o 42 (.ld none (.t 41)),
 o 43 (.mv (.t 2)),
 o 44 (.bin .add (.t 42) (.t 43)),
 o 45 (.fa 1 (.t 9)),
 on (.st 1 (.t 45) (.t 44))])
 (.seq
 (rg [
 o 46 (.ld (some 5) (.t 3)),
 o 47 (.fa 0 (.t 3)),
 o 48 (.ld none (.t 47)),
 o 49 (.ld (some 3) (.t 9)),
 o 50 (.callp 98 [(.t 48), (.t 49)]),
 o 51 (.callp 88 [(.t 46), (.t 50), (kc 0)]),
 o 52 (.ext (.t 51) 0),
 o 53 (.ext (.t 51) 1),
 on (.st 5 (.t 6) (.t 52)),
 o 7 (.mv (.t 53))])
 .ret))))))),
 [.c (some 5) 6, .t 7], false⟩
def a57 : AF := ⟨13,
 (.seq
 (rg [
 o 1 (.box (.t 0)),
 o 2 (.mv (ks []))])
 (.seq
 (rg [
 o 3 (.fa 6 (.t 1)),
 o 4 (.ld none (.t 3)),
 o 5 (.fa 6 (.t 1)),
 o 6 (.ld none (.t 5)),
 o 7 (.len false (.t 6)),
 o 8 (.bin .sub (.t 7) (kc 1)),
 o 9 (.ia 3 (.t 4) (.t 8)),
 o 10 (.fa 0 (.t 9)),
 o 11 (.ld none (.t 10)),
 o 12 (.callp 47 [(.t 11)]),
 o 2 (.mv (.t 12))])
 .ret)),
 [.t 2], false⟩
def a58 : AF := ⟨34,
 (.seq
 (rg [
 o 2 (.box (.t 0)),
 o 4 (.alloc [.ns, .d (.i .i64 0), .d (.b false), .d (.i .i64 0), .d (.b false)]),
 o 5 (.mv (kc 0))])
 (.seq
 (rg [
 o 8 (.ld (some 5) (.t 2)),
 o 9 (.mv (.t 1)),
 o 10 (.callp 87 [(.t 8), (.t 9)]),
 o 6 (.mv (.t 10))])
 (.seq
 (.seq
 (rg [
 o 11 (.mv (.t 6)),
 o 12 (.bin .lss (.t 11) (kc 0))])
 (.cond (.t 12)
 (.seq
 (rg [
 o 13 (.ld (some 5) (.t 2)),
 o 14 (.callp 88 [(.t 13), (kx (.ns)), (kc 7)]),
 o 15 (.ext (.t 14) 0),
 o 16 (.ext (.t 14) 1),
 on (.st 5 (.t 4) (.t 15)),
 o 5 (.mv (.t 16))])
 .ret)
 .skip))
 (.seq
 (rg [
 o 17 (.fa 0 (.t 2)),
 o 18 (.ld none (.t 17)),
 o 19 (.mv (.t 6)),
 o 20 (.ia 3 (.t 18) (.t 19)),
 o 21 (.ld (some 3) (.t 20)),
 o 7 (.alloc [.d (.s []), .d (.s []), .d (.i .i64 0)]),
 on (.st 3 (.t 7) (.t 21))])
 (.seq
 (rg [
 o 22 (.fa 1 (.t 7)),
 o 23 (.ld none (.t 22)),
 o 24 (.len true (.t 23)),
 o 25 (.fa 2 (.t 7)),
 on (.st 1 (.t 25) (.t 24))])
 (.seq
 (rg [
 o 26 (.ld (some 5) (.t 2)),
 o 27 (.fa 0 (.t 2)),
 o 28 (.ld none (.t 27)),
 o 29 (.ld (some 3) (.t 7)),
 o 30 (.callp 98 [(.t 28), (.t 29)]),
 o 31 (.callp 88 [(.t 26), (.t 30), (kc 0)]),
 o 32 (.ext (.t 31) 0),
 o 33 (.ext (.t 31) 1),
 on (.st 5 (.t 4) (.t 32)),
 o 5 (.mv (.t 33))])
 .ret)))))),
 [.c (some 5) 4, .t 5], false⟩
def a59 : AF := ⟨18,
 (.seq
 (rg [
 o 2 (.box (.t 0)),
 o 4 (.mv (ks [])),
 o 5 (.mv (kc 0))])
 (.seq
 (rg [
 o 7 (.ld (some 5) (.t 2)),
 o 8 (.mv (.t 1)),
 o 9 (.callp 87 [(.t 7), (.t 8)]),
 o 6 (.mv (.t 9))])
 (.seq
 (.seq
 (rg [
 o 10 (.mv (.t 6)),
 o 11 (.bin .lss (.t 10) (kc 0))])
 (.cond (.t 11)
 (.seq
 (rg [
 o 4 (.mv (ks [])),
 o 5 (.mv (kc 7))])
 .ret)
 .skip))
 (.seq
 (rg [
 o 12 (.fa 0 (.t 2)),
 o 13 (.ld none (.t 12)),
 o 14 (.mv (.t 6)),
 o 15 (.ia 3 (.t 13) (.t 14)),
 o 16 (.fa 1 (.t 15)),
 o 17 (.ld none (.t 16)),
 o 4 (.mv (.t 17)),
 o 5 (.mv (kc 0))])
 .ret)))),
 [.t 4, .t 5], false⟩
def a65 : AF := ⟨30,
 (.seq
 (rg [
 o 2 (.box (.t 0)),
 o 4 (.alloc [.ns, .d (.i .i64 0), .d (.b false), .d (.i .i64 0), .d (.b false)]),
 o 5 (.mv (kc 0))])
 (.seq
 (.seq
 (rg [
 o 6 (.mv (.t 1)),
 o 7 (.callp 102 [(.t 6)]),
 o 8 (.un .not (.t 7))])
 (.cond (.t 8)
 (.seq
 (rg [
 o 9 (.ld (some 5) (.t 2)),
 o 10 (.callp 88 [(.t 9), (kx (.ns)), (kc 1)]),
 o 11 (.ext (.t 10) 0),
 o 12 (.ext (.t 10) 1),
 on (.st 5 (.t 4) (.t 11)),
 o 5 (.mv (.t 12))])
 .ret)
 .skip))
 (.seq
 (.seq
 (rg [
 o 13 (.ld (some 5) (.t 2)),
 o 14 (.mv (.t 1)),
 o 15 (.callp 87 [(.t 13), (.t 14)]),
 o 16 (.bin .geq (.t 15) (kc 0))])
 (.cond (.t 16)
 (.seq
 (rg [
 o 17 (.ld (some 5) (.t 2)),
 o 18 (.callp 88 [(.t 17), (kx (.ns)), (kc 8)]),
 o 19 (.ext (.t 18) 0),
 o 20 (.ext (.t 18) 1),
 on (.st 5 (.t 4) (.t 19)),
 o 5 (.mv (.t 20))])
 .ret)
 .skip))
 (.seq
 (rg [
 o 21 (.ld (some 5) (.t 2)),
 o 22 (.fa 0 (.t 2)),
 o 23 (.ld none (.t 22)),
 o 24 (.mv (.t 1)),
 o 25 (.build [.d (.s []), .d (.s []), .d (.i .i64 0)] [(0, 1, (.t 24))]),
 o 26 (.callp 98 [(.t 23), (.t 25)]),
 o 27 (.callp 88 [(.t 21), (.t 26), (kc 0)]),
 o 28 (.ext (.t 27) 0),
 o 29 (.ext (.t 27) 1),
 on (.st 5 (.t 4) (.t 28)),
 o 5 (.mv (.t 29))])
 .ret)))),
 [.c (some 5) 4, .t 5], false⟩
def a66 : AF := ⟨72,
 (.seq
 (rg [
 o 2 (.box (.t 0)),
 o 3 (.box (.t 1)),
 o 4 (.alloc [.ns, .d (.i .i64 0), .d (.b false), .d (.i .i64 0), .d (.b false)]),
 o 5 (.mv (kc 0))])
 (.seq
 (rg [
 o 9 (.ld (some 4) (.t 3)),
 o 10 (.callp 100 [(.t 9)]),
 o 8 (.mv (.t 10)),
 o 11 (.ext (.t 8) 0),
 o 12 (.ext (.t 8) 1),
 o 6 (.mv (.t 11)),
 o 7 (.mv (.t 12))])
 (.seq
 (.seq
 (rg [
 o 13 (.mv (.t 7)),
 o 14 (.bin .neq (.t 13) (kc 0))])
 (.cond (.t 14)
 (.seq
 (rg [
 o 15 (.ld (some 5) (.t 2)),
 o 16 (.mv (.t 7)),
 on (.st 5 (.t 4) (.t 15)),
 o 5 (.mv (.t 16))])
 .ret)
 .skip))
 (.seq
 (.seq
 (rg [
 o 17 (.ld (some 5) (.t 2)),
 o 18 (.callp 87 [(.t 17), (ks [110])]),
 o 19 (.bin .geq (.t 18) (kc 0))])
 (.cond (.t 19)
 (.seq
 (rg [
 o 21 (.ld (some 5) (.t 2)),
 o 22 (.callp 46 [(.t 21), (ks [110])]),
 o 20 (.mv (.t 22)),
 o 23 (.ext (.t 20) 0),
 o 24 (.ext (.t 20) 1),
 on (.st 5 (.t 2) (.t 23)),
 o 7 (.mv (.t 24))])
 (.seq
 (rg [
 o 25 (.mv (.t 7)),
 o 26 (.bin .neq (.t 25) (kc 0))])
 (.cond (.t 26)
 (.seq
 (rg [
 o 27 (.ld (some 5) (.t 2)),
 o 28 (.mv (.t 7)),
 on (.st 5 (.t 4) (.t 27)),
 o 5 (.mv (.t 28))])
 .ret)
 .skip)))
 .skip))
 (.seq
 (rg [
 o 30 (.ld (some 5) (.t 2)),
 o 31 (.callp 65 [(.t 30), (ks [110])]),
 o 29 (.mv (.t 31)),
 o 32 (.ext (.t 29) 0),
 o 33 (.ext (.t 29) 1),
 on (.st 5 (.t 2) (.t 32)),
 o 7 (.mv (.t 33))])
 (.seq
 (.seq
 (rg [
 o 34 (.mv (.t 7)),
 o 35 (.bin .neq (.t 34) (kc 0))])
 (.cond (.t 35)
 (.seq
 (rg [
 o 36 (.ld (some 5) (.t 2)),
 o 37 (.mv (.t 7)),
 on (.st 5 (.t 4) (.t 36)),
 o 5 (.mv (.t 37))])
 .ret)
 .skip))
 (.seq
 (rg [
 o 39 (.ld (some 5) (.t 2)),
 o 40 (.mv (.t 6)),
 o 41 (.callp 56 [(.t 39), (ks [110]), (.t 40)]),
 o 38 (.mv (.t 41)),
 o 42 (.ext (.t 38) 0),
 o 43 (.ext (.t 38) 1),
 on (.st 5 (.t 2) (.t 42)),
 o 7 (.mv (.t 43))])
 (.seq
 (.seq
 (rg [
 o 44 (.mv (.t 7)),
 o 45 (.bin .eql (.t 44) (kc 9))])
 (.cond (.t 45)
 (.seq
 (rg [
 o 47 (.ld (some 5) (.t 2)),
 o 48 (.callp 46 [(.t 47), (ks [110])]),
 o 46 (.mv (.t 48)),
 o 49 (.ext (.t 46) 0),
 o 50 (.ext (.t 46) 1),
 on (.st 5 (.t 2) (.t 49)),
 o 7 (.mv (.t 50))])
 (.seq
 (.seq
 (rg [
 o 51 (.mv (.t 7)),
 o 52 (.bin .eql (.t 51) (kc 0))])
 (.cond (.t 52)
 (rg [
 o 7 (.mv (kc 9))])
 .skip))
 (.seq
 (rg [
 o 53 (.ld (some 5) (.t 2)),
 o 54 (.mv (.t 7)),
 on (.st 5 (.t 4) (.t 53)),
 o 5 (.mv (.t 54))])
 .ret)))
 .skip))
 (.seq
 (.seq
 (rg [
 o 55 (.mv (.t 7)),
 o 56 (.bin .neq (.t 55) (kc 0))])
 (.cond (.t 56)
 (.seq
 (rg [
 o 57 (.ld (some 5) (.t 2)),
 o 58 (.mv (.t 7)),
 on (.st 5 (.t 4) (.t 57)),
 o 5 (.mv (.t 58))])
 .ret)
 .skip))
 (.seq
 (rg [
 o 60 (.ld (some 5) (.t 2)),
 o 61 (.callp 58 [(.t 60), (ks [110])]),
 o 59 (.mv (.t 61)),
 o 62 (.ext (.t 59) 0),
 o 63 (.ext (.t 59) 1),
 on (.st 5 (.t 2) (.t 62)),
 o 7 (.mv (.t 63))])
 (.seq
 (.seq
 (rg [
 o 64 (.mv (.t 7)),
 o 65 (.bin .neq (.t 64) (kc 0))])
 (.cond (.t 65)
 (.seq
 (rg [
 o 66 (.ld (some 5) (.t 2)),
 o 67 (.mv (.t 7)),
 on (.st 5 (.t 4) (.t 66)),
 o 5 (.mv (.t 67))])
 .ret)
 .skip))
 (.seq
 (rg [
 o 68 (.ld (some 5) (.t 2)),
 o 69 (.callp 103 [(.t 68), (ks [110]), (ks [109])]),
 o 70 (.ext (.t 69) 0),
 o 71 (.ext (.t 69) 1),
 on (.st 5 (.t 4) (.t 70)),
 o 5 (.mv (.t 71))])
 .ret)))))))))))),
 [.c (some 5) 4, .t 5], false⟩
def a67_0 : AC :=
 (.seq
 (.seq
 (rg [
 o 8 (.mv (.t 7)),
 o 9 (.mv (.t 0)),
 o 10 (.len false (.t 9)),
 o 11 (.bin .lss (.t 8) (.t 10))])
 (.cond (.t 11)
 .skip
 (.exit 0)))
 (.seq
 (.block 1
 (.seq
 (rg [
 o 14 (.mv (.t 0)),
 o 15 (.mv (.t 7)),
 o 16 (.slc 3 (.t 14) (some (.t 15)) none none),
 o 17 (.mv (.t 1)),
 o 18 (.mv (.t 2)),
 o 19 (.callp 104 [(.t 16), (.t 17), (.t 18)]),
 o 20 (.un .not (.t 19))])
 (.cond (.t 20)
 (.seq
 (rg [
 o 21 (.mv (.t 7)),
 o 6 (.mv (.t 21))])
 .ret)
 .skip)))
 (rg [
 o 12 (.mv (.t 7)),
 o 13 (.bin .add (.t 12) (kc 1)),
 o 7 (.mv (.t 13))])))
def a67 : AF := ⟨22,
 (.seq
 (rg [
 o 6 (.mv (kc 0))])
 (.seq
 (.seq
 (rg [
 o 7 (.mv (kc 0))])
 (.block 0
 (.loop [0, 1, 2, 7] a67_0)))
 (.seq
 (rg [
 o 6 (.mv (kc 0))])
 .ret))),
 [.t 6], false⟩
def a68_0 : AC :=
 (.seq
 (.seq
 (rg [
 o 8 (.mv (.t 4)),
 o 9 (.mv (.t 0)),
 o 10 (.len false (.t 9)),
 o 11 (.bin .lss (.t 8) (.t 10))])
 (.cond (.t 11)
 .skip
 (.exit 0)))
 (.seq
 (.block 1
 (rd [
 o 14 (.mv (.t 3)),
 o 15 (.mv (.t 0)),
 o 16 (.mv (.t 4)),
 od 17 [2, 1] (.ia 2 (.t 15) (.t 16)),
 od 18 [1, 2, 3] (.fa 0 (.t 17)),
 od 19 [3, 2, 1, 4] (.ld none (.t 18)),
 od 20 [4, 1, 2, 3, 5] (.bsl 1 [[.i .u8 0]] [(0, (.t 19))]),
 od 21 [5, 3, 2, 1, 4, 6] (.b2s (.t 20)),
 od 22 [6, 4, 1, 2, 3, 5, 7, 0] (.bin .add (.t 14) (.t 21)),
 o 23 (.mv (.t 0)),
 o 24 (.mv (.t 4)),
 od 25 [10, 9] (.ia 2 (.t 23) (.t 24)),
 od 26 [9, 10, 11] (.fa 1 (.t 25)),
 od 27 [11, 10, 9, 12] (.ld none (.t 26)),
 od 28 [12, 9, 10, 11, 13] (.len true (.t 27)),
 od 29 [13, 11, 10, 9, 12, 14] (.callp 91 [(.t 28)]),
 od 30 [14, 12, 9, 10, 11, 13, 15, 0, 7, 5, 3, 2, 1, 4, 6, 8] (.bin .add (.t 22) (.t 29)),
 o 31 (.mv (.t 0)),
 o 32 (.mv (.t 4)),
 od 33 [18, 17] (.ia 2 (.t 31) (.t 32)),
 od 34 [17, 18, 19] (.fa 1 (.t 33)),
 od 35 [19, 18, 17, 20] (.ld none (.t 34)),
 od 36 [20, 17, 18, 19, 21, 8, 6, 4, 1, 2, 3, 5, 7, 0, 15, 13, 11, 10, 9, 12, 14, 16] (.bin .add (.t 30) (.t 35)),
 od 3 [16, 14, 12, 9, 10, 11, 13, 15, 0, 7, 5, 3, 2, 1, 4, 6, 8, 21, 19, 18, 17, 20, 22] (.mv (.t 36))]))
 (rg [
 o 12 (.mv (.t 4)),
 o 13 (.bin .add (.t 12) (kc 1)),
 o 4 (.mv (.t 13))])))
def a68 : AF := ⟨38,
 (.seq
 (rg [
 o 2 (.mv (ks []))])
 (.seq
 (rg [
 o 5 (.mv (.t 0)),
 o 6 (.len false (.t 5)),
 o 7 (.callp 91 [(.t 6)]),
 o 3 (.mv (.t 7))])
 (.seq
 (.seq
 (rg [
 o 4 (.mv (kc 0))])
 (.block 0
 (.loop [0, 3, 4] a68_0)))
 (.seq
 (rg [
 o 37 (.mv (.t 3)),
 o 2 (.mv (.t 37))])
 .ret)))),
 [.t 2], false⟩
def a69 : AF := ⟨24,
 (.seq
 (rg [
 o 3 (.box (.t 0)),
 o 6 (.alloc [.ns, .d (.i .i64 0), .d (.b false), .d (.i .i64 0), .d (.b false)]),
 o 7 (.mv (kc 0))])
 (.seq
 (.seq
 (rg [
 o 9 (.mv (.t 1)),
 o 10 (.bin .neq (.t 9) (kc 9))])
 (.cond (.t 10)
 (.seq
 (rg [
 o 11 (.ld (some 5) (.t 3)),
 o 12 (.mv (.t 1)),
 on (.st 5 (.t 6) (.t 11)),
 o 7 (.mv (.t 12))])
 .ret)
 .skip))
 (.seq
 (rg [
 o 14 (.ld (some 5) (.t 3)),
 o 15 (.mv (.t 2)),
 o 16 (.callp 46 [(.t 14), (.t 15)]),
 o 13 (.mv (.t 16)),
 o 17 (.ext (.t 13) 0),
 o 18 (.ext (.t 13) 1),
 on (.st 5 (.t 3) (.t 17)),
 o 8 (.mv (.t 18))])
 (.seq
 (.seq
 (rg [
 o 19 (.mv (.t 8)),
 o 20 (.bin .neq (.t 19) (kc 0))])
 (.cond (.t 20)
 (.seq
 (rg [
 o 21 (.ld (some 5) (.t 3)),
 o 22 (.mv (.t 8)),
 on (.st 5 (.t 6) (.t 21)),
 o 7 (.mv (.t 22))])
 .ret)
 .skip))
 (.seq
 (rg [
 o 23 (.ld (some 5) (.t 3)),
 on (.st 5 (.t 6) (.t 23)),
 o 7 (.mv (kc 9))])
 .ret))))),
 [.c (some 5) 6, .t 7], false⟩
def a70_0 : AC :=
 (.seq
 (.seq
 (rg [
 o 12 (.mv (.t 8)),
 o 13 (.bin .lss (.t 12) (kc 9)),
 o 14 (.mv (.t 13)),
 og 15 14 true (.mv (.t 8)),
 og 16 14 true (.mv (.t 0)),
 og 17 14 true (.len true (.t 16)),
 og 18 14 true (.mv (.t 1)),
 og 19 14 true (.bin .sub (.t 17) (.t 18)),
 og 20 14 true (.bin .lss (.t 15) (.t 19)),
 o 21 (.pick (.t 14) (.t 20) (kb false))])
 (.cond (.t 21)
 .skip
 (.exit 0)))
 (.seq
 (.block 1
 (.seq
 (rg [
 o 24 (.mv (.t 0)),
 o 25 (.mv (.t 1)),
 o 26 (.mv (.t 8)),
 o 27 (.bin .add (.t 25) (.t 26)),
 o 28 (.ixs (.t 24) (.t 27)),
 o 9 (.mv (.t 28))])
 (.seq
 (rg [
 o 29 (.mv (.t 7)),
 o 30 (.mv (.t 9)),
 o 31 (.bin .and (.t 30) (kx (.d (.i .u8 127)))),
 o 32 (.cvi .i64 (.t 31)),
 o 33 (.mv (.t 8)),
 o 34 (.bin .mul (kc 7) (.t 33)),
 o 35 (.cvi .u64 (.t 34)),
 o 36 (.bin .shl (.t 32) (.t 35)),
 o 37 (.bin .or (.t 29) (.t 36)),
 o 7 (.mv (.t 37))])
 (.block 2
 (.seq
 (rg [
 o 44 (.mv (.t 9)),
 o 45 (.bin .geq (.t 44) (kx (.d (.i .u8 128)))),
 o 43 (.mv (.t 45))])
 (.cond (.t 43)
 .skip
 (.seq
 (rg [
 o 47 (.mv (.t 9)),
 o 48 (.bin .eql (.t 47) (kx (.d (.i .u8 0)))),
 o 49 (.mv (.t 48)),
 og 50 49 true (.mv (.t 8)),
 og 51 49 true (.bin .gtr (.t 50) (kc 0)),
 o 52 (.pick (.t 49) (.t 51) (kb false)),
 o 46 (.mv (.t 52))])
 (.cond (.t 46)
 (.exit 0)
 (.seq
 (rg [
 o 38 (.mv (.t 7)),
 o 39 (.mv (.t 1)),
 o 40 (.mv (.t 8)),
 o 41 (.bin .add (.t 39) (.t 40)),
 o 42 (.bin .add (.t 41) (kc 1)),
 o 4 (.mv (.t 38)),
 o 5 (.mv (.t 42)),
 o 6 (.mv (kb true))])
 .ret)))))))))
 (rg [
 o 22 (.mv (.t 8)),
 o 23 (.bin .add (.t 22) (kc 1)),
 o 8 (.mv (.t 23))])))
def a70 : AF := ⟨53,
 (.seq
 (rg [
 o 4 (.mv (kc 0)),
 o 5 (.mv (kc 0)),
 o 6 (.mv (kb false))])
 (.seq
 (.seq
 (rg [
 o 10 (.mv (.t 1)),
 o 11 (.bin .lss (.t 10) (kc 0))])
 (.cond (.t 11)
 (.seq
 (rg [
 o 4 (.mv (kc 0)),
 o 5 (.mv (kc 0)),
 o 6 (.mv (kb false))])
 .ret)
 .skip))
 (.seq
 (rg [
 o 7 (.mv (kc 0))])
 (.seq
 .skip
 (.seq
 (.seq
 (rg [
 o 8 (.mv (kc 0))])
 (.block 0
 (.loop [0, 1, 7, 8] a70_0)))
 (.seq
 (rg [
 o 4 (.mv (kc 0)),
 o 5 (.mv (kc 0)),
 o 6 (.mv (kb false))])
 .ret)))))),
 [.t 4, .t 5, .t 6], false⟩
def a71_0 : AC :=
 (.seq
 (rg [
 o 8 (.bin .lss (.t 7) (.t 6))])
 (.seq
 (.cond (.t 8)
 .skip
 (.exit 0))
 (.seq
 (.block 1
 (.seq
 (rg [
 o 9 (.mv (.t 7)),
 o 10 (.ia 2 (.t 5) (.t 7)),
 o 11 (.ld (some 2) (.t 10)),
 o 4 (.alloc [.d (.i .u8 0), .d (.s [])]),
 o 3 (.mv (.t 9)),
 on (.st 2 (.t 4) (.t 11))])
 (.seq
 (rg [
 o 12 (.fa 1 (.t 4)),
 o 13 (.ld none (.t 12)),
 o 14 (.bin .eql (.t 13) (ks [])),
 o 15 (.mv (.t 14)),
 og 16 15 false (.fa 1 (.t 4)),
 og 17 15 false (.ld none (.t 16)),
 og 18 15 false (.len true (.t 17)),
 og 19 15 false (.bin .geq (.t 18) (kc 64)),
 o 20 (.pick (.t 15) (kb true) (.t 19)),
 o 21 (.mv (.t 20)),
 og 22 21 false (.mv (.t 3)),
 og 23 21 false (.bin .gtr (.t 22) (kc 0)),
 og 24 21 false (.mv (.t 23)),
 og 25 24 true (.fa 0 (.t 4)),
 og 26 24 true (.ld none (.t 25)),
 og 27 24 true (.mv (.t 0)),
 og 28 24 true (.mv (.t 3)),
 og 29 24 true (.bin .sub (.t 28) (kc 1)),
 og 30 24 true (.ia 2 (.t 27) (.t 29)),
 og 31 24 true (.fa 0 (.t 30)),
 og 32 24 true (.ld none (.t 31)),
 og 33 24 true (.bin .leq (.t 26) (.t 32)),
 og 34 21 false (.pick (.t 24) (.t 33) (kb false)),
 o 35 (.pick (.t 21) (kb true) (.t 34))])
 (.cond (.t 35)
 (.seq
 (rg [
 o 2 (.mv (kb false))])
 .ret)
 .skip))))
 (rg [
 o 36 (.bin .add (.t 7) (kc 1)),
 o 7 (.mv (.t 36))]))))
def a71 : AF := ⟨37,
 (.seq
 (rg [
 o 2 (.mv (kb false))])
 (.seq
 (.seq
 (rg [
 o 5 (.mv (.t 0)),
 o 6 (.len false (.t 5)),
 o 7 (.mv (kc 0))])
 (.block 0
 (.loop [0, 5, 6, 7] a71_0)))
 (.seq
 (rg [
 o 2 (.mv (kb true))])
 .ret))),
 [.t 2], false⟩
def a72_0 : AC :=
 (.seq
 (rg [
 o 14 (.bin .lss (.t 13) (.t 12))])
 (.seq
 (.cond (.t 14)
 .skip
 (.exit 0))
 (.seq
 (.block 1
 (.seq
 (rg [
 o 15 (.mv (.t 13)),
 o 7 (.mv (.t 15))])
 (.seq
 (rg [
 o 16 (.mv (.t 6)),
 o 17 (.mv (.t 1)),
 o 18 (.mv (.t 7)),
 o 19 (.ixs (.t 17) (.t 18)),
 o 20 (.cvi .u32 (.t 19)),
 o 21 (.bin .xor (.t 16) (.t 20)),
 o 6 (.mv (.t 21))])
 (.seq
 (rg [
 o 22 (.mv (.t 6)),
 o 23 (.bin .shr (.t 22) (kx (.d (.i .u64 4)))),
 o 24 (.mv (.t 6)),
 o 25 (.bin .and (.t 24) (kx (.d (.i .u32 15)))),
 o 26 (.iar 16 1 (.t 5) (.t 25)),
 o 27 (.ld none (.t 26)),
 o 28 (.bin .xor (.t 23) (.t 27)),
 o 6 (.mv (.t 28))])
 (rg [
 o 29 (.mv (.t 6)),
 o 30 (.bin .shr (.t 29) (kx (.d (.i .u64 4)))),
 o 31 (.mv (.t 6)),
 o 32 (.bin .and (.t 31) (kx (.d (.i .u32 15)))),
 o 33 (.iar 16 1 (.t 5) (.t 32)),
 o 34 (.ld none (.t 33)),
 o 35 (.bin .xor (.t 30) (.t 34)),
 o 6 (.mv (.t 35))])))))
 (rg [
 o 36 (.bin .add (.t 13) (kc 1)),
 o 13 (.mv (.t 36))]))))
def a72 : AF := ⟨39,
 (.seq
 (rg [
 o 4 (.mv (kx (.d (.i .u32 0))))])
 (.seq
 (rg [
 o 8 (.callp 105 []),
 o 5 (.alloc [.d (.i .u32 0), .d (.i .u32 0), .d (.i .u32 0), .d (.i .u32 0), .d (.i .u32 0), .d (.i .u32 0), .d (.i .u32 0), .d (.i .u32 0), .d (.i .u32 0), .d (.i .u32 0), .d (.i .u32 0), .d (.i .u32 0), .d (.i .u32 0), .d (.i .u32 0), .d (.i .u32 0), .d (.i .u32 0)]),
 on (.st 16 (.t 5) (.t 8))])
 (.seq
 (rg [
 o 9 (.mv (.t 0)),
 o 10 (.un .xor (.t 9)),
 o 6 (.mv (.t 10))])
 (.seq
 (.seq
 (rg [
 o 11 (.mv (.t 1)),
 o 12 (.len true (.t 11)),
 o 13 (.mv (kc 0))])
 (.block 0
 (.loop [1, 5, 6, 12, 13] a72_0)))
 (.seq
 (rg [
 o 37 (.mv (.t 6)),
 o 38 (.un .xor (.t 37)),
 o 4 (.mv (.t 38))])
 .ret))))),
 [.t 4], false⟩
def a73_0 : AC :=
 (.seq
 (.seq
 (rg [
 o 10 (.mv (.t 6)),
 o 11 (.bin .gtr (.t 10) (kc 0))])
 (.cond (.t 11)
 .skip
 (.exit 0)))
 (.seq
 (.block 1
 (.seq
 (rg [
 o 14 (.mv (.t 6)),
 o 15 (.mv (.t 1)),
 o 16 (.bin .rem (.t 15) (kc 10)),
 o 17 (.bin .add (kc 48) (.t 16)),
 o 18 (.cvi .u8 (.t 17)),
 o 19 (.iar 14 1 (.t 5) (.t 14)),
 on (.st 1 (.t 19) (.t 18))])
 (rg [
 o 20 (.mv (.t 1)),
 o 21 (.bin .quo (.t 20) (kc 10)),
 o 1 (.mv (.t 21))])))
 (rg [
 o 12 (.mv (.t 6)),
 o 13 (.bin .sub (.t 12) (kc 1)),
 o 6 (.mv (.t 13))])))
def a73 : AF := ⟨26,
 (.seq
 (rg [
 o 4 (.mv (ks []))])
 (.seq
 (.seq
 (rg [
 o 7 (.mv (.t 1)),
 o 8 (.cvi .u64 (.t 7)),
 o 9 (.bin .gtr (.t 8) (kx (.d (.i .u64 1099511627776))))])
 (.cond (.t 9)
 (.seq
 (rg [
 o 4 (.mv (ks []))])
 .ret)
 .skip))
 (.seq
 (rg [
 o 5 (.alloc [.d (.i .u8 0), .d (.i .u8 0), .d (.i .u8 0), .d (.i .u8 0), .d (.i .u8 0), .d (.i .u8 0), .d (.i .u8 0), .d (.i .u8 0), .d (.i .u8 0), .d (.i .u8 0), .d (.i .u8 0), .d (.i .u8 0), .d (.i .u8 0), .d (.i .u8 0)])])
 (.seq
 (.seq
 (rg [
 o 6 (.mv (kc 13))])
 (.block 0
 (.loop [0, 1, 5, 6] a73_0)))
 (.seq
 (rg [
 o 22 (.mv (.t 0)),
 o 23 (.iar 14 1 (.t 5) (kc 0)),
 on (.st 1 (.t 23) (.t 22))])
 (.seq
 (rg [
 o 24 (.slar 14 (.t 5)),
 o 25 (.b2s (.t 24)),
 o 4 (.mv (.t 25))])
 .ret)))))),
 [.t 4], false⟩
def a74_0 : AC :=
 (.seq
 (rg [
 o 13 (.bin .lss (.t 12) (.t 11))])
 (.seq
 (.cond (.t 13)
 .skip
 (.exit 0))
 (.seq
 (.block 1
 (.seq
 (rg [
 o 14 (.ia 1 (.t 10) (.t 12)),
 o 15 (.ld none (.t 14)),
 o 7 (.mv (.t 15))])
 (.seq
 (rg [
 o 17 (.ld (some 5) (.t 2)),
 o 18 (.mv (.t 7)),
 o 19 (.callp 84 [(.t 17), (.t 18)]),
 o 16 (.mv (.t 19)),
 o 20 (.ext (.t 16) 0),
 o 21 (.ext (.t 16) 1),
 o 8 (.alloc [.ns, .d (.i .i64 0), .d (.b false), .d (.i .i64 0), .d (.b false)]),
 on (.st 5 (.t 8) (.t 20)),
 o 9 (.mv (.t 21))])
 (.seq
 (rg [
 o 22 (.ld (some 5) (.t 8)),
 on (.st 5 (.t 2) (.t 22))])
 (.seq
 (rg [
 o 23 (.mv (.t 9)),
 o 24 (.bin .neq (.t 23) (kc 0))])
 (.cond (.t 24)
 (.seq
 (rg [
 o 25 (.ld (some 5) (.t 2)),
 o 26 (.mv (.t 9)),
 on (.st 5 (.t 4) (.t 25)),
 o 5 (.mv (.t 26))])
 .ret)
 .skip))))))
 (rg [
 o 27 (.bin .add (.t 12) (kc 1)),
 o 12 (.mv (.t 27))]))))
def a74 : AF := ⟨29,
 (.seq
 (rg [
 o 2 (.box (.t 0)),
 o 4 (.alloc [.ns, .d (.i .i64 0), .d (.b false), .d (.i .i64 0), .d (.b false)]),
 o 5 (.mv (kc 0))])
 (.seq
 (.seq
 (rg [
 o 10 (.mv (.t 1)),
 o 11 (.len false (.t 10)),
 o 12 (.mv (kc 0))])
 (.block 0
 (.loop [2, 4, 10, 11, 12] a74_0)))
 (.seq
 (rg [
 o 28 (.ld (some 5) (.t 2)),
 on (.st 5 (.t 4) (.t 28)),
 o 5 (.mv (kc 9))])
 .ret))),
 [.c (some 5) 4, .t 5], false⟩
def a75 : AF := ⟨50,
 (.seq
 (rg [
 o 3 (.box (.t 0)),
 o 6 (.alloc [.ns, .d (.i .i64 0), .d (.b false), .d (.i .i64 0), .d (.b false)]),
 o 7 (.mv (kc 0))])
 (.seq
 (.seq
 (rg [
 o 12 (.fa 4 (.t 3)),
 o 13 (.ld none (.t 12))])
 (.cond (.t 13)
 (.seq
 (rg [
 o 14 (.ld (some 5) (.t 3)),
 on (.st 5 (.t 6) (.t 14)),
 o 7 (.mv (kc 10))])
 .ret)
 .skip))
 (.seq
 (rg [
 o 15 (.fa 0 (.t 3)),
 o 16 (.ld none (.t 15)),
 o 17 (.call 106 [(.t 16)]),
 o 8 (.mv (.t 17))])
 (.seq
 (rg [
 o 19 (.mv (.t 8)),
 o 20 (.mv (.t 1)),
 o 21 (.call 107 [(.t 19), (.t 20)]),
 o 18 (.mv (.t 21)),
 o 22 (.ext (.t 18) 0),
 o 23 (.ext (.t 18) 1),
 o 9 (.mv (.t 22)),
 o 10 (.mv (.t 23))])
 (.seq
 (rg [
 o 25 (.mv (.t 2)),
 o 26 (.mv (.t 8)),
 o 27 (.mv (.t 9)),
 o 28 (.mv (.t 10)),
 o 29 (.callv (.t 25) [(.t 26), (.t 27), (.t 28)]),
 o 24 (.mv (.t 29)),
 o 30 (.ext (.t 24) 0),
 o 31 (.ext (.t 24) 1),
 o 8 (.mv (.t 30)),
 o 11 (.mv (.t 31))])
 (.seq
 (.seq
 (rg [
 o 32 (.mv (.t 11)),
 o 33 (.bin .neq (.t 32) (kc 0))])
 (.cond (.t 33)
 (.seq
 (rg [
 o 34 (.ld (some 5) (.t 3)),
 o 35 (.mv (.t 11)),
 on (.st 5 (.t 6) (.t 34)),
 o 7 (.mv (.t 35))])
 .ret)
 .skip))
 (.seq
 (.seq
 (rg [
 o 36 (.fa 2 (.t 3)),
 o 37 (.ld none (.t 36))])
 (.cond (.t 37)
 (.seq
 (.seq
 (rg [
 o 38 (.fa 3 (.t 3)),
 o 39 (.ld none (.t 38)),
 o 40 (.bin .eql (.t 39) (kc 0))])
 (.cond (.t 40)
 (.seq
 (rg [
 o 41 (.fa 4 (.t 3)),
 on (.st 1 (.t 41) (kb true))])
 (.seq
 (rg [
 o 42 (.ld (some 5) (.t 3)),
 on (.st 5 (.t 6) (.t 42)),
 o 7 (.mv (kc 10))])
 .ret))
 .skip))
 (rg [
 o 43 (.fa 3 (.t 3)),
 o 44 (.ld none (.t 43)),
 o 45 (.bin .sub (.t 44) (kc 1)),
 o 46 (.fa 3 (.t 3)),
 on (.st 1 (.t 46) (.t 45))]))
 .skip))
 (.seq
 (rg [
 o 47 (.mv (.t 8)),
 o 48 (.fa 0 (.t 3)),
 on (.st 1 (.t 48) (.t 47))])
 (.seq
 (rg [
 o 49 (.ld (some 5) (.t 3)),
 on (.st 5 (.t 6) (.t 49)),
 o 7 (.mv (kc 0))])
 .ret))))))))),
 [.c (some 5) 6, .t 7], false⟩
def a76 : AF := ⟨21,
 (.seq
 (rg [
 oz 7 (.mv (kx (.ns))),
 o 8 (.mv (kc 0))])
 (.seq
 (.block 0
 (.seq
 (rg [
 o 10 (.ld none (.t 3)),
 o 11 (.callp 77 [(.t 10)]),
 o 12 (.un .not (.t 11)),
 o 9 (.mv (.t 12))])
 (.cond (.t 9)
 (.seq
 (rg [
 oz 7 (.mv (kx (.ns))),
 o 8 (.mv (kc 1))])
 .ret)
 (.seq
 (rg [
 o 14 (.mv (.t 2)),
 o 13 (.mv (.t 14))])
 (.cond (.t 13)
 (.seq
 (rg [
 oz 7 (.mv (kx (.ns))),
 o 8 (.mv (kc 8))])
 .ret)
 .skip)))))
 (.seq
 (rg [
 o 15 (.mv (.t 0)),
 o 16 (.mv (.t 1)),
 o 17 (.ld none (.t 3)),
 o 18 (.build [.d (.s []), .d (.s []), .d (.i .i64 0)] [(0, 1, (.t 17))]),
 o 19 (.bsl 3 [[.s [], .s [], .i .i64 0]] [(0, (.t 18))]),
 o 20 (.call 78 [(.t 15), (.t 16), (.t 19)]),
 oz 7 (.mv (.t 20)),
 o 8 (.mv (kc 0))])
 .ret))),
 [.t 7, .t 8], false⟩
def a77 : AF := ⟨10,
 (.seq
 (rg [
 o 2 (.mv (kb false))])
 (.seq
 (rg [
 o 3 (.mv (.t 0)),
 o 4 (.bin .neq (.t 3) (ks [])),
 o 5 (.mv (.t 4)),
 og 6 5 true (.mv (.t 0)),
 og 7 5 true (.len true (.t 6)),
 og 8 5 true (.bin .leq (.t 7) (kc 32)),
 o 9 (.pick (.t 5) (.t 8) (kb false)),
 o 2 (.mv (.t 9))])
 .ret)),
 [.t 2], false⟩
def a79 : AF := ⟨37,
 (.seq
 (rg [
 oz 8 (.mv (kx (.ns))),
 o 9 (.mv (kc 0))])
 (.seq
 (.block 0
 (.seq
 (rg [
 o 11 (.mv (.t 2)),
 o 12 (.un .not (.t 11)),
 o 10 (.mv (.t 12))])
 (.cond (.t 10)
 (.seq
 (rg [
 oz 8 (.mv (kx (.ns))),
 o 9 (.mv (kc 7))])
 .ret)
 (.seq
 (rg [
 o 14 (.fa 1 (.t 3)),
 o 15 (.ld none (.t 14)),
 o 16 (.bin .gtr (.t 15) (kc 0)),
 o 17 (.mv (.t 16)),
 og 18 17 true (.ld none (.t 4)),
 og 19 17 true (.len true (.t 18)),
 og 20 17 true (.fa 1 (.t 3)),
 og 21 17 true (.ld none (.t 20)),
 og 22 17 true (.ld (some 5) (.t 3)),
 og 23 17 true (.callp 80 [(.t 22)]),
 og 24 17 true (.bin .sub (.t 21) (.t 23)),
 og 25 17 true (.bin .gtr (.t 19) (.t 24)),
 o 26 (.pick (.t 17) (.t 25) (kb false)),
 o 13 (.mv (.t 26))])
 (.cond (.t 13)
 (.seq
 (rg [
 oz 8 (.mv (kx (.ns))),
 o 9 (.mv (kc 9))])
 .ret)
 .skip)))))
 (.seq
 (rg [
 o 27 (.mv (.t 0)),
 o 28 (.mv (.t 1)),
 o 29 (.ia 3 (.t 27) (.t 28)),
 o 30 (.fa 1 (.t 29)),
 o 31 (.ld none (.t 30)),
 o 32 (.ld none (.t 4)),
 o 33 (.bin .add (.t 31) (.t 32)),
 o 34 (.ia 3 (.t 27) (.t 28)),
 o 35 (.fa 1 (.t 34)),
 on (.st 1 (.t 35) (.t 33))])
 (.seq
 (rg [
 o 36 (.mv (.t 0)),
 o 8 (.mv (.t 36)),
 o 9 (.mv (kc 0))])
 .ret)))),
 [.t 8, .t 9], false⟩
def a80_0 : AC :=
 (.seq
 (rg [
 o 10 (.bin .lss (.t 9) (.t 8))])
 (.seq
 (.cond (.t 10)
 .skip
 (.exit 0))
 (.seq
 (.block 1
 (.seq
 (rg [
 o 11 (.ia 3 (.t 7) (.t 9)),
 o 12 (.ld (some 3) (.t 11)),
 o 5 (.alloc [.d (.s []), .d (.s []), .d (.i .i64 0)]),
 on (.st 3 (.t 5) (.t 12))])
 (rg [
 o 13 (.mv (.t 3)),
 o 14 (.fa 1 (.t 5)),
 o 15 (.ld none (.t 14)),
 o 16 (.len true (.t 15)),
 o 17 (.bin .add (.t 13) (.t 16)),
 o 3 (.mv (.t 17))])))
 (rg [
 o 18 (.bin .add (.t 9) (kc 1)),
 o 9 (.mv (.t 18))]))))
def a80 : AF := ⟨20,
 (.seq
 (rg [
 o 1 (.box (.t 0)),
 o 2 (.mv (kc 0))])
 (.seq
 (rg [
 o 3 (.mv (kc 0))])
 (.seq
 (.seq
 (rg [
 o 6 (.fa 0 (.t 1)),
 o 7 (.ld none (.t 6)),
 o 8 (.len false (.t 7)),
 o 9 (.mv (kc 0))])
 (.block 0
 (.loop [3, 7, 8, 9] a80_0)))
 (.seq
 (rg [
 o 19 (.mv (.t 3)),
 o 2 (.mv (.t 19))])
 .ret)))),
 [.t 2], false⟩
def a81 : AF := ⟨21,
 (.seq
 (rg [
 oz 6 (.mv (kx (.ns))),
 o 7 (.mv (kc 0))])
 (.seq
 (.seq
 (rg [
 o 8 (.mv (.t 2)),
 o 9 (.un .not (.t 8))])
 (.cond (.t 9)
 (.seq
 (rg [
 oz 6 (.mv (kx (.ns))),
 o 7 (.mv (kc 7))])
 .ret)
 .skip))
 (.seq
 (rg [
 o 10 (.mv (.t 0)),
 o 11 (.mv (.t 1)),
 o 12 (.mv (.t 0)),
 o 13 (.mv (.t 1)),
 o 14 (.ia 3 (.t 12) (.t 13)),
 o 15 (.fa 1 (.t 14)),
 o 16 (.ld none (.t 15)),
 o 17 (.len true (.t 16)),
 o 18 (.ia 3 (.t 10) (.t 11)),
 o 19 (.fa 2 (.t 18)),
 on (.st 1 (.t 19) (.t 17))])
 (.seq
 (rg [
 o 20 (.mv (.t 0)),
 o 6 (.mv (.t 20)),
 o 7 (.mv (kc 0))])
 .ret)))),
 [.t 6, .t 7], false⟩
def a82 : AF := ⟨50,
 (.seq
 (rg [
 o 3 (.box (.t 1))])
 (.seq
 (rg [
 o 9 (.ld (some 4) (.t 3)),
 o 10 (.callp 110 [(.t 9)]),
 o 8 (.mv (.t 10)),
 o 11 (.ext (.t 8) 0),
 o 12 (.ext (.t 8) 1),
 o 4 (.alloc [.d (.s [])]),
 on (.st 1 (.t 4) (.t 11)),
 o 5 (.mv (.t 12))])
 (.seq
 (.seq
 (rg [
 o 13 (.mv (.t 0)),
 o 14 (.nck (.t 13)),
 o 15 (.fa 5 (.t 14)),
 o 16 (.ld none (.t 15)),
 o 17 (.bin .eql (.t 16) (kc 0))])
 (.cond (.t 17)
 (rg [
 o 18 (.mv (.t 0)),
 o 19 (.mv (.t 5)),
 o 20 (.nck (.t 18)),
 o 21 (.fa 5 (.t 20)),
 on (.st 1 (.t 21) (.t 19))])
 .skip))
 (.seq
 (.seq
 (rg [
 o 23 (.mv (.t 0)),
 o 24 (.nck (.t 23)),
 o 25 (.fa 0 (.t 24)),
 o 26 (.ld (some 5) (.t 25)),
 o 27 (.callp 111 [(.t 26), (ks [110])]),
 o 22 (.mv (.t 27)),
 o 28 (.ext (.t 22) 0),
 o 29 (.ext (.t 22) 1),
 o 6 (.mv (.t 28)),
 o 7 (.mv (.t 29))])
 (.seq
 (rg [
 o 30 (.mv (.t 7)),
 o 31 (.bin .eql (.t 30) (kc 0))])
 (.cond (.t 31)
 (rg [
 o 32 (.mv (.t 0)),
 o 33 (.call 112 [(.t 32), (ks [110])])])
 .skip)))
 (.seq
 (rg [
 o 34 (.mv (.t 0)),
 o 35 (.call 113 [(.t 34), (ks [110])])])
 (.seq
 (.seq
 (rg [
 o 36 (.mv (.t 0)),
 o 37 (.nck (.t 36)),
 o 38 (.fa 5 (.t 37)),
 o 39 (.ld none (.t 38)),
 o 40 (.bin .neq (.t 39) (kc 0))])
 (.cond (.t 40)
 .ret
 .skip))
 (.seq
 (rg [
 o 41 (.mv (.t 0)),
 o 42 (.mkf 115 [(.t 4)]),
 o 43 (.call 114 [(.t 41), (.t 42)])])
 (.seq
 (rg [
 o 44 (.mv (.t 0)),
 o 45 (.call 116 [(.t 44), (ks [110])])])
 (.seq
 (rg [
 o 46 (.mv (.t 0)),
 o 47 (.call 117 [(.t 46), (ks [110])])])
 (rg [
 o 48 (.mv (.t 0)),
 o 49 (.call 114 [(.t 48), (kx (.f 118 []))])])))))))))),
 [], false⟩
def a83 : AF := ⟨10,
 (.seq
 (rg [
 o 2 (.box (.t 0)),
 o 3 (.alloc [.ns, .d (.i .i64 0), .d (.b false), .d (.i .i64 0), .d (.b false)]),
 o 4 (.mv (kc 0))])
 (.seq
 (rg [
 o 5 (.ld (some 5) (.t 2)),
 o 6 (.ld none (.t 1)),
 o 7 (.callp 84 [(.t 5), (.t 6)]),
 o 8 (.ext (.t 7) 0),
 o 9 (.ext (.t 7) 1),
 on (.st 5 (.t 3) (.t 8)),
 o 4 (.mv (.t 9))])
 .ret)),
 [.c (some 5) 3, .t 4], false⟩
def a84 : AF := ⟨11,
 (.seq
 (rg [
 o 2 (.box (.t 0)),
 o 4 (.alloc [.ns, .d (.i .i64 0), .d (.b false), .d (.i .i64 0), .d (.b false)]),
 o 5 (.mv (kc 0))])
 (.seq
 (rg [
 o 6 (.ld (some 5) (.t 2)),
 o 7 (.mv (.t 1)),
 o 8 (.call 75 [(.t 6), (.t 7), (kx (.f 120 []))]),
 o 9 (.ext (.t 8) 0),
 o 10 (.ext (.t 8) 1),
 on (.st 5 (.t 4) (.t 9)),
 o 5 (.mv (.t 10))])
 .ret)),
 [.c (some 5) 4, .t 5], false⟩
def a85_1 : AC :=
 (.seq
 (.seq
 (rg [
 o 23 (.mv (.t 7)),
 o 24 (.bin .lss (.t 23) (kc 8))])
 (.cond (.t 24)
 .skip
 (.exit 2)))
 (.seq
 (.block 3
 (.seq
 (rg [
 o 27 (.mv (.t 5)),
 o 28 (.bin .rem (.t 27) (kx (.d (.i .u32 2)))),
 o 29 (.bin .eql (.t 28) (kx (.d (.i .u32 1)))),
 o 8 (.mv (.t 29))])
 (.seq
 (rg [
 o 30 (.mv (.t 5)),
 o 31 (.bin .quo (.t 30) (kx (.d (.i .u32 2)))),
 o 5 (.mv (.t 31))])
 (.seq
 (rg [
 o 32 (.mv (.t 8))])
 (.cond (.t 32)
 (rg [
 o 33 (.mv (.t 5)),
 o 34 (.bin .xor (.t 33) (kx (.d (.i .u32 2197175160)))),
 o 5 (.mv (.t 34))])
 .skip)))))
 (rg [
 o 25 (.mv (.t 7)),
 o 26 (.bin .add (.t 25) (kc 1)),
 o 7 (.mv (.t 26))])))
def a85_0 : AC :=
 (.seq
 (.seq
 (rg [
 o 11 (.mv (.t 6)),
 o 12 (.mv (.t 1)),
 o 13 (.len true (.t 12)),
 o 14 (.bin .lss (.t 11) (.t 13))])
 (.cond (.t 14)
 .skip
 (.exit 0)))
 (.seq
 (.block 1
 (.seq
 (rg [
 o 17 (.mv (.t 5)),
 o 18 (.mv (.t 1)),
 o 19 (.mv (.t 6)),
 o 20 (.ixs (.t 18) (.t 19)),
 o 21 (.cvi .u32 (.t 20)),
 o 22 (.bin .xor (.t 17) (.t 21)),
 o 5 (.mv (.t 22))])
 (.seq
 (rg [
 o 7 (.mv (kc 0))])
 (.block 2
 (.loop [1, 5, 6, 7] a85_1)))))
 (rg [
 o 15 (.mv (.t 6)),
 o 16 (.bin .add (.t 15) (kc 1)),
 o 6 (.mv (.t 16))])))
def a85 : AF := ⟨37,
 (.seq
 (rg [
 o 4 (.mv (kx (.d (.i .u32 0))))])
 (.seq
 (rg [
 o 9 (.mv (.t 0)),
 o 10 (.un .xor (.t 9)),
 o 5 (.mv (.t 10))])
 (.seq
 (.seq
 (rg [
 o 6 (.mv (kc 0))])
 (.block 0
 (.loop [1, 5, 6] a85_0)))
 (.seq
 (rg [
 o 35 (.mv (.t 5)),
 o 36 (.un .xor (.t 35)),
 o 4 (.mv (.t 36))])
 .ret)))),
 [.t 4], false⟩
def a86_0 : AC :=
 (.seq
 (.seq
 (rg [
 o 15 (.mv (.t 8)),
 o 16 (.mv (.t 2)),
 o 17 (.len false (.t 16)),
 o 18 (.bin .lss (.t 15) (.t 17))])
 (.cond (.t 18)
 .skip
 (.exit 0)))
 (.seq
 (.block 1
 (.seq
 (rd [
 o 22 (.ld (some 5) (.t 3)),
 o 23 (.mv (.t 2)),
 o 24 (.mv (.t 8)),
 od 25 [2, 1] (.ia 1 (.t 23) (.t 24)),
 od 26 [1, 2, 3] (.ld none (.t 25)),
 od 27 [3, 2, 1, 4, 0] (.callp 46 [(.t 22), (.t 26)]),
 od 21 [0, 4, 1, 2, 3, 5] (.mv (.t 27)),
 od 28 [5, 3, 2, 1, 4, 0, 6] (.ext (.t 21) 0),
 od 29 [5, 3, 2, 1, 4, 0, 6] (.ext (.t 21) 1),
 o 9 (.alloc [.ns, .d (.i .i64 0), .d (.b false), .d (.i .i64 0), .d (.b false)]),
 ⟨none, .st 5 (.t 9) (.t 28), none, [6, 0, 4, 1, 2, 3, 5, 7, 9], false⟩,
 od 10 [9, 7, 10, 6, 0, 4, 1, 2, 3, 5, 8] (.mv (.t 29))])
 (.seq
 (rg [
 o 30 (.ld (some 5) (.t 9)),
 on (.st 5 (.t 3) (.t 30))])
 (.seq
 (rg [
 o 31 (.mv (.t 10)),
 o 32 (.bin .neq (.t 31) (kc 0))])
 (.cond (.t 32)
 (.seq
 (rg [
 o 33 (.ld (some 5) (.t 3)),
 o 34 (.mv (.t 10)),
 on (.st 5 (.t 6) (.t 33)),
 o 7 (.mv (.t 34))])
 .ret)
 .skip)))))
 (rg [
 o 19 (.mv (.t 8)),
 o 20 (.bin .add (.t 19) (kc 1)),
 o 8 (.mv (.t 20))])))
def a86 : AF := ⟨36,
 (.seq
 (rg [
 o 3 (.box (.t 0)),
 o 6 (.alloc [.ns, .d (.i .i64 0), .d (.b false), .d (.i .i64 0), .d (.b false)]),
 o 7 (.mv (kc 0))])
 (.seq
 (.seq
 (rg [
 o 11 (.mv (.t 1)),
 o 12 (.bin .neq (.t 11) (kc 9))])
 (.cond (.t 12)
 (.seq
 (rg [
 o 13 (.ld (some 5) (.t 3)),
 o 14 (.mv (.t 1)),
 on (.st 5 (.t 6) (.t 13)),
 o 7 (.mv (.t 14))])
 .ret)
 .skip))
 (.seq
 (.seq
 (rg [
 o 8 (.mv (kc 0))])
 (.block 0
 (.loop [2, 3, 6, 8] a86_0)))
 (.seq
 (rg [
 o 35 (.ld (some 5) (.t 3)),
 on (.st 5 (.t 6) (.t 35)),
 o 7 (.mv (kc 9))])
 .ret)))),
 [.c (some 5) 6, .t 7], false⟩
def a87_0 : AC :=
 (.seq
 (.seq
 (rg [
 o 6 (.mv (.t 5)),
 o 7 (.fa 0 (.t 2)),
 o 8 (.ld none (.t 7)),
 o 9 (.len false (.t 8)),
 o 10 (.bin .lss (.t 6) (.t 9))])
 (.cond (.t 10)
 .skip
 (.exit 0)))
 (.seq
 (.block 1
 (.seq
 (rg [
 o 13 (.fa 0 (.t 2)),
 o 14 (.ld none (.t 13)),
 o 15 (.mv (.t 5)),
 o 16 (.ia 3 (.t 14) (.t 15)),
 o 17 (.fa 0 (.t 16)),
 o 18 (.ld none (.t 17)),
 o 19 (.mv (.t 1)),
 o 20 (.bin .eql (.t 18) (.t 19))])
 (.cond (.t 20)
 (.seq
 (rg [
 o 21 (.mv (.t 5)),
 o 4 (.mv (.t 21))])
 .ret)
 .skip)))
 (rg [
 o 11 (.mv (.t 5)),
 o 12 (.bin .add (.t 11) (kc 1)),
 o 5 (.mv (.t 12))])))
def a87 : AF := ⟨22,
 (.seq
 (rg [
 o 2 (.box (.t 0)),
 o 4 (.mv (kc 0))])
 (.seq
 (.seq
 (rg [
 o 5 (.mv (kc 0))])
 (.block 0
 (.loop [1, 2, 5] a87_0)))
 (.seq
 (rg [
 o 4 (.mv (kc (-1)))])
 .ret))),
 [.t 4], false⟩
def a88 : AF := ⟨37,
 (.seq
 (rg [
 o 3 (.box (.t 0)),
 o 6 (.alloc [.ns, .d (.i .i64 0), .d (.b false), .d (.i .i64 0), .d (.b false)]),
 o 7 (.mv (kc 0))])
 (.seq
 (.block 0
 (.seq
 (rg [
 o 9 (.fa 4 (.t 3)),
 o 10 (.ld none (.t 9)),
 o 8 (.mv (.t 10))])
 (.cond (.t 8)
 (.seq
 (rg [
 o 11 (.ld (some 5) (.t 3)),
 on (.st 5 (.t 6) (.t 11)),
 o 7 (.mv (kc 10))])
 .ret)
 (.seq
 (rg [
 o 13 (.mv (.t 2)),
 o 14 (.bin .neq (.t 13) (kc 0)),
 o 12 (.mv (.t 14))])
 (.cond (.t 12)
 (.seq
 (rg [
 o 15 (.ld (some 5) (.t 3)),
 o 16 (.mv (.t 2)),
 on (.st 5 (.t 6) (.t 15)),
 o 7 (.mv (.t 16))])
 .ret)
 (.seq
 (rg [
 o 18 (.fa 2 (.t 3)),
 o 19 (.ld none (.t 18)),
 o 20 (.mv (.t 19)),
 og 21 20 true (.fa 3 (.t 3)),
 og 22 20 true (.ld none (.t 21)),
 og 23 20 true (.bin .eql (.t 22) (kc 0)),
 o 24 (.pick (.t 20) (.t 23) (kb false)),
 o 17 (.mv (.t 24))])
 (.cond (.t 17)
 (.seq
 (rg [
 o 25 (.fa 4 (.t 3)),
 on (.st 1 (.t 25) (kb true))])
 (.seq
 (rg [
 o 26 (.ld (some 5) (.t 3)),
 on (.st 5 (.t 6) (.t 26)),
 o 7 (.mv (kc 10))])
 .ret))
 (.seq
 (rg [
 o 28 (.fa 2 (.t 3)),
 o 29 (.ld none (.t 28)),
 o 27 (.mv (.t 29))])
 (.cond (.t 27)
 (rg [
 o 30 (.fa 3 (.t 3)),
 o 31 (.ld none (.t 30)),
 o 32 (.bin .sub (.t 31) (kc 1)),
 o 33 (.fa 3 (.t 3)),
 on (.st 1 (.t 33) (.t 32))])
 .skip)))))))))
 (.seq
 (rg [
 o 34 (.mv (.t 1)),
 o 35 (.fa 0 (.t 3)),
 on (.st 1 (.t 35) (.t 34))])
 (.seq
 (rg [
 o 36 (.ld (some 5) (.t 3)),
 on (.st 5 (.t 6) (.t 36)),
 o 7 (.mv (kc 0))])
 .ret)))),
 [.c (some 5) 6, .t 7], false⟩
def a89_0 : AC :=
 (.seq
 (.seq
 (rg [
 o 7 (.mv (.t 6)),
 o 8 (.mv (.t 0)),
 o 9 (.len false (.t 8)),
 o 10 (.bin .lss (.t 7) (.t 9))])
 (.cond (.t 10)
 .skip
 (.exit 0)))
 (.seq
 (.block 1
 (.seq
 (rg [
 o 13 (.mv (.t 0)),
 o 14 (.mv (.t 6)),
 o 15 (.ia 3 (.t 13) (.t 14)),
 o 16 (.fa 0 (.t 15)),
 o 17 (.ld none (.t 16)),
 o 18 (.mv (.t 1)),
 o 19 (.bin .neq (.t 17) (.t 18))])
 (.cond (.t 19)
 (rg [
 o 20 (.mv (.t 5)),
 o 21 (.mv (.t 0)),
 o 22 (.mv (.t 6)),
 o 23 (.ia 3 (.t 21) (.t 22)),
 o 24 (.ld (some 3) (.t 23)),
 o 25 (.bsl 3 [[.s [], .s [], .i .i64 0]] [(0, (.t 24))]),
 o 26 (.app false 3 40 (.t 20) (.t 25)),
 o 5 (.mv (.t 26))])
 .skip)))
 (rg [
 o 11 (.mv (.t 6)),
 o 12 (.bin .add (.t 11) (kc 1)),
 o 6 (.mv (.t 12))])))
def a89 : AF := ⟨28,
 (.seq
 (rg [
 oz 4 (.mv (kx (.ns)))])
 (.seq
 (rg [
 o 5 (.own 3)])
 (.seq
 (.seq
 (rg [
 o 6 (.mv (kc 0))])
 (.block 0
 (.loop [0, 1, 5, 6] a89_0)))
 (.seq
 (rg [
 o 27 (.mv (.t 5)),
 o 4 (.mv (.t 27))])
 .ret)))),
 [.t 4], false⟩
def a90_0 : AC :=
 (.seq
 (.seq
 (rg [
 o 5 (.mv (.t 4)),
 o 6 (.bin .lss (.t 5) (kc 13))])
 (.cond (.t 6)
 .skip
 (.exit 0)))
 (.seq
 (.block 1
 (.seq
 (rg [
 o 9 (.mv (.t 0)),
 o 10 (.bin .rem (.t 9) (kc 10)),
 o 11 (.bin .add (kc 48) (.t 10)),
 o 12 (.cvi .u8 (.t 11)),
 o 13 (.bsl 1 [[.i .u8 0]] [(0, (.t 12))]),
 o 14 (.b2s (.t 13)),
 o 15 (.mv (.t 3)),
 o 16 (.bin .add (.t 14) (.t 15)),
 o 3 (.mv (.t 16))])
 (rg [
 o 17 (.mv (.t 0)),
 o 18 (.bin .quo (.t 17) (kc 10)),
 o 0 (.mv (.t 18))])))
 (rg [
 o 7 (.mv (.t 4)),
 o 8 (.bin .add (.t 7) (kc 1)),
 o 4 (.mv (.t 8))])))
def a90 : AF := ⟨20,
 (.seq
 (rg [
 o 2 (.mv (ks []))])
 (.seq
 (rg [
 o 3 (.mv (ks []))])
 (.seq
 (.seq
 (rg [
 o 4 (.mv (kc 0))])
 (.block 0
 (.loop [0, 3, 4] a90_0)))
 (.seq
 (rg [
 o 19 (.mv (.t 3)),
 o 2 (.mv (.t 19))])
 .ret)))),
 [.t 2], false⟩
def a91_0 : AC :=
 (.seq
 (.seq
 (rg [
 o 6 (.mv (.t 0)),
 o 7 (.bin .geq (.t 6) (kc 128))])
 (.cond (.t 7)
 .skip
 (.exit 0)))
 (.block 1
 (.seq
 (rg [
 o 8 (.mv (.t 3)),
 o 9 (.mv (.t 0)),
 o 10 (.bin .rem (.t 9) (kc 128)),
 o 11 (.bin .add (kc 128) (.t 10)),
 o 12 (.cvi .u8 (.t 11)),
 o 13 (.bsl 1 [[.i .u8 0]] [(0, (.t 12))]),
 o 14 (.b2s (.t 13)),
 o 15 (.bin .add (.t 8) (.t 14)),
 o 3 (.mv (.t 15))])
 (rg [
 o 16 (.mv (.t 0)),
 o 17 (.bin .quo (.t 16) (kc 128)),
 o 0 (.mv (.t 17))]))))
def a91 : AF := ⟨24,
 (.seq
 (rg [
 o 2 (.mv (ks []))])
 (.seq
 (.seq
 (rg [
 o 4 (.mv (.t 0)),
 o 5 (.bin .lss (.t 4) (kc 0))])
 (.cond (.t 5)
 (.seq
 (rg [
 o 2 (.mv (ks []))])
 .ret)
 .skip))
 (.seq
 (rg [
 o 3 (.mv (ks []))])
 (.seq
 (.block 0
 (.loop [0, 3] a91_0))
 (.seq
 (rg [
 o 18 (.mv (.t 3)),
 o 19 (.mv (.t 0)),
 o 20 (.cvi .u8 (.t 19)),
 o 21 (.bsl 1 [[.i .u8 0]] [(0, (.t 20))]),
 o 22 (.b2s (.t 21)),
 o 23 (.bin .add (.t 18) (.t 22)),
 o 2 (.mv (.t 23))])
 .ret))))),
 [.t 2], false⟩
def a92 : AF := ⟨22,
 (.seq
 (rg [
 oz 4 (.mv (kx (.ns))),
 o 5 (.mv (kc 0)),
 o 6 (.mv (kc 0))])
 (.seq
 (rg [
 o 12 (.mv (.t 0)),
 o 13 (.mv (.t 1)),
 o 14 (.callp 122 [(.t 12), (.t 13)]),
 o 11 (.mv (.t 14)),
 o 15 (.ext (.t 11) 0),
 o 16 (.ext (.t 11) 1),
 o 17 (.ext (.t 11) 2),
 o 18 (.ext (.t 11) 3),
 o 7 (.mv (.t 15)),
 o 8 (.mv (.t 16)),
 o 9 (.mv (.t 17)),
 o 10 (.mv (.t 18))])
 (.seq
 (rg [
 o 19 (.mv (.t 7)),
 o 20 (.mv (.t 9)),
 o 21 (.mv (.t 10)),
 o 4 (.mv (.t 19)),
 o 5 (.mv (.t 20)),
 o 6 (.mv (.t 21))])
 .ret))),
 [.t 4, .t 5, .t 6], false⟩
def a93 : AF := ⟨9,
 (.seq
 (rg [
 o 2 (.mv (kb false))])
 (.seq
 (rg [
 o 3 (.mv (.t 0)),
 o 4 (.bin .geq (.t 3) (kc 0)),
 o 5 (.mv (.t 4)),
 og 6 5 true (.mv (.t 0)),
 og 7 5 true (.bin .leq (.t 6) (kc 1099511627776)),
 o 8 (.pick (.t 5) (.t 7) (kb false)),
 o 2 (.mv (.t 8))])
 .ret)),
 [.t 2], false⟩
def a94 : AF := ⟨17,
 (.seq
 (rg [
 o 1 (.box (.t 0)),
 o 2 (.mv (kc 0))])
 (.seq
 (.seq
 (rg [
 o 3 (.fa 0 (.t 1)),
 o 4 (.ld none (.t 3)),
 o 5 (.callp 93 [(.t 4)]),
 o 6 (.un .not (.t 5)),
 o 7 (.mv (.t 6)),
 og 8 7 false (.fa 1 (.t 1)),
 og 9 7 false (.ld none (.t 8)),
 og 10 7 false (.callp 93 [(.t 9)]),
 og 11 7 false (.un .not (.t 10)),
 o 12 (.pick (.t 7) (kb true) (.t 11))])
 (.cond (.t 12)
 (.seq
 (rg [
 o 2 (.mv (kc 6))])
 .ret)
 .skip))
 (.seq
 (.seq
 (rg [
 o 13 (.fa 2 (.t 1)),
 o 14 (.ld none (.t 13)),
 o 15 (.len true (.t 14)),
 o 16 (.bin .gtr (.t 15) (kc 64))])
 (.cond (.t 16)
 (.seq
 (rg [
 o 2 (.mv (kc 5))])
 .ret)
 .skip))
 (.seq
 (rg [
 o 2 (.mv (kc 0))])
 .ret)))),
 [.t 2], false⟩
def a95 : AF := ⟨25,
 (.seq
 (rg [
 o 2 (.mv (ks [])),
 o 3 (.mv (kc 0))])
 (.seq
 (.seq
 (rg [
 o 5 (.mv (.t 0)),
 o 6 (.len true (.t 5)),
 o 7 (.bin .lss (.t 6) (kc 1)),
 o 8 (.mv (.t 7)),
 og 9 8 false (.mv (.t 0)),
 og 10 8 false (.len true (.t 9)),
 og 11 8 false (.bin .gtr (.t 10) (kc 65536)),
 o 12 (.pick (.t 8) (kb true) (.t 11))])
 (.cond (.t 12)
 (.seq
 (rg [
 o 2 (.mv (ks [])),
 o 3 (.mv (kc 5))])
 .ret)
 .skip))
 (.seq
 (rg [
 o 13 (.mv (.t 0)),
 o 14 (.len true (.t 13)),
 o 15 (.callp 91 [(.t 14)]),
 o 4 (.mv (.t 15))])
 (.seq
 (rg [
 o 16 (.mv (.t 4)),
 o 17 (.mv (.t 4)),
 o 18 (.mv (.t 0)),
 o 19 (.bin .add (.t 17) (.t 18)),
 o 20 (.callp 43 [(.t 19)]),
 o 21 (.callp 123 [(.t 20)]),
 o 22 (.bin .add (.t 16) (.t 21)),
 o 23 (.mv (.t 0)),
 o 24 (.bin .add (.t 22) (.t 23)),
 o 2 (.mv (.t 24)),
 o 3 (.mv (kc 0))])
 .ret)))),
 [.t 2, .t 3], false⟩
def a96 : AF := ⟨13,
 (.seq
 (rg [
 o 1 (.box (.t 0)),
 o 2 (.mv (ks []))])
 (.seq
 (rg [
 o 3 (.fa 0 (.t 1)),
 o 4 (.ld none (.t 3)),
 o 5 (.callp 91 [(.t 4)]),
 o 6 (.fa 1 (.t 1)),
 o 7 (.ld none (.t 6)),
 o 8 (.callp 91 [(.t 7)]),
 o 9 (.bin .add (.t 5) (.t 8)),
 o 10 (.fa 2 (.t 1)),
 o 11 (.ld none (.t 10)),
 o 12 (.bin .add (.t 9) (.t 11)),
 o 2 (.mv (.t 12))])
 .ret)),
 [.t 2], false⟩
def a97_0 : AC :=
 (.seq
 (.seq
 (rg [
 o 5 (.mv (.t 4)),
 o 6 (.fa 0 (.t 1)),
 o 7 (.ld none (.t 6)),
 o 8 (.len false (.t 7)),
 o 9 (.bin .lss (.t 5) (.t 8))])
 (.cond (.t 9)
 .skip
 (.exit 0)))
 (.seq
 (.block 1
 (rg [
 o 12 (.mv (.t 3)),
 o 13 (.fa 0 (.t 1)),
 o 14 (.ld none (.t 13)),
 o 15 (.mv (.t 4)),
 o 16 (.ia 3 (.t 14) (.t 15)),
 o 17 (.fa 1 (.t 16)),
 o 18 (.ld none (.t 17)),
 o 19 (.len true (.t 18)),
 o 20 (.bin .add (.t 12) (.t 19)),
 o 3 (.mv (.t 20))]))
 (rg [
 o 10 (.mv (.t 4)),
 o 11 (.bin .add (.t 10) (kc 1)),
 o 4 (.mv (.t 11))])))
def a97 : AF := ⟨22,
 (.seq
 (rg [
 o 1 (.box (.t 0)),
 o 2 (.mv (kc 0))])
 (.seq
 (rg [
 o 3 (.mv (kc 0))])
 (.seq
 (.seq
 (rg [
 o 4 (.mv (kc 0))])
 (.block 0
 (.loop [1, 3, 4] a97_0)))
 (.seq
 (rg [
 o 21 (.mv (.t 3)),
 o 2 (.mv (.t 21))])
 .ret)))),
 [.t 2], false⟩
def a98_0 : AC :=
 (.seq
 (.seq
 (rg [
 o 10 (.mv (.t 5)),
 o 11 (.mv (.t 0)),
 o 12 (.len false (.t 11)),
 o 13 (.bin .lss (.t 10) (.t 12)),
 o 14 (.mv (.t 13)),
 og 15 14 true (.mv (.t 0)),
 og 16 14 true (.mv (.t 5)),
 og 17 14 true (.ia 3 (.t 15) (.t 16)),
 og 18 14 true (.fa 0 (.t 17)),
 og 19 14 true (.ld none (.t 18)),
 og 20 14 true (.fa 0 (.t 3)),
 og 21 14 true (.ld none (.t 20)),
 og 22 14 true (.bin .lss (.t 19) (.t 21)),
 o 23 (.pick (.t 14) (.t 22) (kb false))])
 (.cond (.t 23)
 .skip
 (.exit 0)))
 (.block 1
 (rg [
 o 24 (.mv (.t 5)),
 o 25 (.bin .add (.t 24) (kc 1)),
 o 5 (.mv (.t 25))])))
def a98 : AF := ⟨38,
 (.seq
 (rg [
 o 3 (.box (.t 1)),
 o 4 (.own 3)])
 (.seq
 (rg [
 o 6 (.mv (.t 0)),
 o 7 (.fa 0 (.t 3)),
 o 8 (.ld none (.t 7)),
 o 9 (.callp 89 [(.t 6), (.t 8)]),
 o 0 (.mv (.t 9))])
 (.seq
 (rg [
 o 5 (.mv (kc 0))])
 (.seq
 (.block 0
 (.loop [0, 3, 5] a98_0))
 (.seq
 (rd [
 o 26 (.bsl 3 [] []),
 o 27 (.mv (.t 0)),
 o 28 (.mv (.t 5)),
 od 29 [2, 1] (.slc 3 (.t 27) none (some (.t 28)) none),
 od 30 [1, 2, 3, 0] (.app false 3 40 (.t 26) (.t 29)),
 o 31 (.ld (some 3) (.t 3)),
 od 32 [5] (.bsl 3 [[.s [], .s [], .i .i64 0]] [(0, (.t 31))]),
 od 33 [5, 6, 0, 3, 2, 1, 4] (.app false 3 40 (.t 30) (.t 32)),
 o 34 (.mv (.t 0)),
 o 35 (.mv (.t 5)),
 od 36 [9, 8] (.slc 3 (.t 34) (some (.t 35)) none none),
 od 37 [8, 9, 10, 4, 1, 2, 3, 0, 6, 5, 7] (.app false 3 40 (.t 33) (.t 36)),
 od 4 [7, 5, 6, 0, 3, 2, 1, 4, 10, 9, 8, 11] (.mv (.t 37))])
 .ret))))),
 [.t 4], false⟩
def a99 : AF := ⟨77,
 (.seq
 (rg [
 o 4 (.mv (ks [])),
 o 5 (.mv (kc 0)),
 o 6 (.mv (kc 0))])
 (.seq
 (.seq
 (rg [
 o 13 (.mv (.t 1)),
 o 14 (.bin .lss (.t 13) (kc 0)),
 o 15 (.mv (.t 14)),
 og 16 15 false (.mv (.t 1)),
 og 17 15 false (.mv (.t 0)),
 og 18 15 false (.len true (.t 17)),
 og 19 15 false (.bin .geq (.t 16) (.t 18)),
 o 20 (.pick (.t 15) (kb true) (.t 19)),
 o 21 (.mv (.t 20)),
 og 22 21 false (.mv (.t 0)),
 og 23 21 false (.mv (.t 1)),
 og 24 21 false (.callp 124 [(.t 22), (.t 23)]),
 o 25 (.pick (.t 21) (kb true) (.t 24))])
 (.cond (.t 25)
 (.seq
 (rg [
 o 4 (.mv (ks [])),
 o 5 (.mv (kc 0)),
 o 6 (.mv (kc 2))])
 .ret)
 .skip))
 (.seq
 (rg [
 o 27 (.mv (.t 0)),
 o 28 (.mv (.t 1)),
 o 29 (.callp 50 [(.t 27), (.t 28)]),
 o 26 (.mv (.t 29)),
 o 30 (.ext (.t 26) 0),
 o 31 (.ext (.t 26) 1),
 o 32 (.ext (.t 26) 2),
 o 7 (.mv (.t 30)),
 o 8 (.mv (.t 31)),
 o 9 (.mv (.t 32))])
 (.seq
 (.seq
 (rg [
 o 33 (.mv (.t 9)),
 o 34 (.un .not (.t 33)),
 o 35 (.mv (.t 34)),
 og 36 35 false (.mv (.t 7)),
 og 37 35 false (.bin .lss (.t 36) (kc 1)),
 o 38 (.pick (.t 35) (kb true) (.t 37)),
 o 39 (.mv (.t 38)),
 og 40 39 false (.mv (.t 7)),
 og 41 39 false (.bin .gtr (.t 40) (kc 65536)),
 o 42 (.pick (.t 39) (kb true) (.t 41))])
 (.cond (.t 42)
 (.seq
 (rg [
 o 4 (.mv (ks [])),
 o 5 (.mv (kc 0)),
 o 6 (.mv (kc 3))])
 .ret)
 .skip))
 (.seq
 (.seq
 (rg [
 o 43 (.mv (.t 0)),
 o 44 (.len true (.t 43)),
 o 45 (.mv (.t 8)),
 o 46 (.bin .sub (.t 44) (.t 45)),
 o 47 (.mv (.t 7)),
 o 48 (.bin .add (kc 4) (.t 47)),
 o 49 (.bin .lss (.t 46) (.t 48))])
 (.cond (.t 49)
 (.seq
 (rg [
 o 4 (.mv (ks [])),
 o 5 (.mv (kc 0)),
 o 6 (.mv (kc 2))])
 .ret)
 .skip))
 (.seq
 (rg [
 o 50 (.mv (.t 0)),
 o 51 (.mv (.t 8)),
 o 52 (.bin .add (.t 51) (kc 4)),
 o 53 (.mv (.t 8)),
 o 54 (.bin .add (.t 53) (kc 4)),
 o 55 (.mv (.t 7)),
 o 56 (.bin .add (.t 54) (.t 55)),
 o 57 (.sls (.t 50) (some (.t 52)) (some (.t 56))),
 o 10 (.mv (.t 57))])
 (.seq
 (.seq
 (rg [
 o 59 (.mv (.t 10)),
 o 60 (.callp 95 [(.t 59)]),
 o 58 (.mv (.t 60)),
 o 61 (.ext (.t 58) 0),
 o 62 (.ext (.t 58) 1),
 o 11 (.mv (.t 61)),
 o 12 (.mv (.t 62))])
 (.seq
 (rg [
 o 63 (.mv (.t 11)),
 o 64 (.mv (.t 0)),
 o 65 (.mv (.t 1)),
 o 66 (.mv (.t 8)),
 o 67 (.bin .add (.t 66) (kc 4)),
 o 68 (.mv (.t 7)),
 o 69 (.bin .add (.t 67) (.t 68)),
 o 70 (.sls (.t 64) (some (.t 65)) (some (.t 69))),
 o 71 (.bin .neq (.t 63) (.t 70))])
 (.cond (.t 71)
 (.seq
 (rg [
 o 4 (.mv (ks [])),
 o 5 (.mv (kc 0)),
 o 6 (.mv (kc 4))])
 .ret)
 .skip)))
 (.seq
 (rg [
 o 72 (.mv (.t 10)),
 o 73 (.mv (.t 8)),
 o 74 (.bin .add (.t 73) (kc 4)),
 o 75 (.mv (.t 7)),
 o 76 (.bin .add (.t 74) (.t 75)),
 o 4 (.mv (.t 72)),
 o 5 (.mv (.t 76)),
 o 6 (.mv (kc 0))])
 .ret)))))))),
 [.t 4, .t 5, .t 6], false⟩
def a100_0 : AC :=
 (.seq
 (.seq
 (rg [
 o 17 (.mv (.t 5)),
 o 18 (.fa 1 (.t 1)),
 o 19 (.ld none (.t 18)),
 o 20 (.len false (.t 19)),
 o 21 (.bin .lss (.t 17) (.t 20))])
 (.cond (.t 21)
 .skip
 (.exit 0)))
 (.seq
 (.block 1
 (rg [
 o 24 (.mv (.t 4)),
 o 25 (.fa 1 (.t 1)),
 o 26 (.ld none (.t 25)),
 o 27 (.mv (.t 5)),
 o 28 (.ia 1 (.t 26) (.t 27)),
 o 29 (.ld none (.t 28)),
 o 30 (.callp 91 [(.t 29)]),
 o 31 (.bin .add (.t 24) (.t 30)),
 o 4 (.mv (.t 31))]))
 (rg [
 o 22 (.mv (.t 5)),
 o 23 (.bin .add (.t 22) (kc 1)),
 o 5 (.mv (.t 23))])))
def a100 : AF := ⟨44,
 (.seq
 (rg [
 o 1 (.box (.t 0)),
 o 2 (.mv (ks [])),
 o 3 (.mv (kc 0))])
 (.seq
 (.seq
 (rg [
 o 6 (.ld (some 4) (.t 1)),
 o 7 (.callp 125 [(.t 6)]),
 o 8 (.un .not (.t 7))])
 (.cond (.t 8)
 (.seq
 (rg [
 o 2 (.mv (ks [])),
 o 3 (.mv (kc 1))])
 .ret)
 .skip))
 (.seq
 (rg [
 o 9 (.fa 0 (.t 1)),
 o 10 (.ld none (.t 9)),
 o 11 (.callp 91 [(.t 10)]),
 o 12 (.fa 1 (.t 1)),
 o 13 (.ld none (.t 12)),
 o 14 (.len false (.t 13)),
 o 15 (.callp 91 [(.t 14)]),
 o 16 (.bin .add (.t 11) (.t 15)),
 o 4 (.mv (.t 16))])
 (.seq
 (.seq
 (rg [
 o 5 (.mv (kc 0))])
 (.block 0
 (.loop [1, 4, 5] a100_0)))
 (.seq
 (rg [
 o 32 (.mv (.t 4)),
 o 33 (.fa 2 (.t 1)),
 o 34 (.ld none (.t 33)),
 o 35 (.callp 91 [(.t 34)]),
 o 36 (.bin .add (.t 32) (.t 35)),
 o 37 (.fa 3 (.t 1)),
 o 38 (.ld none (.t 37)),
 o 39 (.callp 123 [(.t 38)]),
 o 40 (.bin .add (.t 36) (.t 39)),
 o 41 (.callp 95 [(.t 40)]),
 o 42 (.ext (.t 41) 0),
 o 43 (.ext (.t 41) 1),
 o 2 (.mv (.t 42)),
 o 3 (.mv (.t 43))])
 .ret))))),
 [.t 2, .t 3], false⟩
def a102 : AF := ⟨11,
 (.seq
 (rg [
 o 2 (.mv (kb false))])
 (.seq
 (rg [
 o 3 (.mv (.t 0)),
 o 4 (.len true (.t 3)),
 o 5 (.bin .geq (.t 4) (kc 1)),
 o 6 (.mv (.t 5)),
 og 7 6 true (.mv (.t 0)),
 og 8 6 true (.len true (.t 7)),
 og 9 6 true (.bin .leq (.t 8) (kc 32)),
 o 10 (.pick (.t 6) (.t 9) (kb false)),
 o 2 (.mv (.t 10))])
 .ret)),
 [.t 2], false⟩
def a103 : AF := ⟨43,
 (.seq
 (rg [
 o 3 (.box (.t 0)),
 o 6 (.alloc [.ns, .d (.i .i64 0), .d (.b false), .d (.i .i64 0), .d (.b false)]),
 o 7 (.mv (kc 0))])
 (.seq
 (rg [
 o 10 (.ld (some 5) (.t 3)),
 o 11 (.mv (.t 1)),
 o 12 (.callp 87 [(.t 10), (.t 11)]),
 o 8 (.mv (.t 12))])
 (.seq
 (.seq
 (rg [
 o 13 (.mv (.t 8)),
 o 14 (.bin .lss (.t 13) (kc 0))])
 (.cond (.t 14)
 (.seq
 (rg [
 o 15 (.ld (some 5) (.t 3)),
 o 16 (.callp 88 [(.t 15), (kx (.ns)), (kc 7)]),
 o 17 (.ext (.t 16) 0),
 o 18 (.ext (.t 16) 1),
 on (.st 5 (.t 6) (.t 17)),
 o 7 (.mv (.t 18))])
 .ret)
 .skip))
 (.seq
 (.seq
 (rg [
 o 19 (.mv (.t 2)),
 o 20 (.callp 102 [(.t 19)]),
 o 21 (.un .not (.t 20))])
 (.cond (.t 21)
 (.seq
 (rg [
 o 22 (.ld (some 5) (.t 3)),
 o 23 (.callp 88 [(.t 22), (kx (.ns)), (kc 1)]),
 o 24 (.ext (.t 23) 0),
 o 25 (.ext (.t 23) 1),
 on (.st 5 (.t 6) (.t 24)),
 o 7 (.mv (.t 25))])
 .ret)
 .skip))
 (.seq
 (rg [
 o 26 (.fa 0 (.t 3)),
 o 27 (.ld none (.t 26)),
 o 28 (.mv (.t 8)),
 o 29 (.ia 3 (.t 27) (.t 28)),
 o 30 (.ld (some 3) (.t 29)),
 o 9 (.alloc [.d (.s []), .d (.s []), .d (.i .i64 0)]),
 on (.st 3 (.t 9) (.t 30))])
 (.seq
 (rg [
 o 31 (.mv (.t 2)),
 o 32 (.fa 0 (.t 9)),
 on (.st 1 (.t 32) (.t 31))])
 (.seq
 (rg [
 o 33 (.ld (some 5) (.t 3)),
 o 34 (.fa 0 (.t 3)),
 o 35 (.ld none (.t 34)),
 o 36 (.mv (.t 1)),
 o 37 (.callp 89 [(.t 35), (.t 36)]),
 o 38 (.ld (some 3) (.t 9)),
 o 39 (.callp 98 [(.t 37), (.t 38)]),
 o 40 (.callp 88 [(.t 33), (.t 39), (kc 0)]),
 o 41 (.ext (.t 40) 0),
 o 42 (.ext (.t 40) 1),
 on (.st 5 (.t 6) (.t 41)),
 o 7 (.mv (.t 42))])
 .ret))))))),
 [.c (some 5) 6, .t 7], false⟩
def a104 : AF := ⟨26,
 (.seq
 (rg [
 o 6 (.mv (kb false))])
 (.seq
 (rg [
 o 7 (.mv (.t 0)),
 o 8 (.len false (.t 7)),
 o 9 (.bin .gtr (.t 8) (kc 1)),
 o 10 (.mv (.t 9)),
 og 11 10 true (.mv (.t 0)),
 og 12 10 true (.mv (.t 0)),
 og 13 10 true (.len false (.t 12)),
 og 14 10 true (.bin .sub (.t 13) (kc 1)),
 og 15 10 true (.slc 3 (.t 11) none (some (.t 14)) none),
 og 16 10 true (.callp 126 [(.t 15)]),
 og 17 10 true (.mv (.t 1)),
 og 18 10 true (.bin .gtr (.t 16) (.t 17)),
 og 19 10 true (.mv (.t 18)),
 og 20 19 false (.mv (.t 0)),
 og 21 19 false (.callp 127 [(.t 20)]),
 og 22 19 false (.mv (.t 2)),
 og 23 19 false (.bin .gtr (.t 21) (.t 22)),
 og 24 10 true (.pick (.t 19) (kb true) (.t 23)),
 o 25 (.pick (.t 10) (.t 24) (kb false)),
 o 6 (.mv (.t 25))])
 .ret)),
 [.t 6], false⟩
def a105_1 : AC :=
 (.seq
 (rg [
 o 10 (.bin .lss (.t 9) (kc 4))])
 (.seq
 (.cond (.t 10)
 .skip
 (.exit 2))
 (.seq
 (.block 3
 (rg [
 o 11 (.mv (.t 3)),
 o 12 (.bin .shr (.t 11) (kx (.d (.i .u64 1)))),
 o 13 (.mv (.t 3)),
 o 14 (.bin .and (.t 13) (kx (.d (.i .u32 1)))),
 o 15 (.un .neg (.t 14)),
 o 16 (.bin .and (kx (.d (.i .u32 2197175160))) (.t 15)),
 o 17 (.bin .xor (.t 12) (.t 16)),
 o 3 (.mv (.t 17))]))
 (rg [
 o 18 (.bin .add (.t 9) (kc 1)),
 o 9 (.mv (.t 18))]))))
def a105_0 : AC :=
 (.seq
 (rg [
 o 5 (.bin .lss (.t 4) (kc 16))])
 (.seq
 (.cond (.t 5)
 .skip
 (.exit 0))
 (.seq
 (.block 1
 (.seq
 (rg [
 o 6 (.mv (.t 4)),
 o 2 (.mv (.t 6))])
 (.seq
 (rg [
 o 7 (.mv (.t 2)),
 o 8 (.cvi .u32 (.t 7)),
 o 3 (.mv (.t 8))])
 (.seq
 (.seq
 (rg [
 o 9 (.mv (kc 0))])
 (.block 2
 (.loop [0, 1, 2, 3, 4, 9] a105_1)))
 (rg [
 o 19 (.mv (.t 2)),
 o 20 (.mv (.t 3)),
 o 21 (.iar 16 1 (.t 1) (.t 19)),
 on (.st 1 (.t 21) (.t 20))])))))
 (rg [
 o 22 (.bin .add (.t 4) (kc 1)),
 o 4 (.mv (.t 22))]))))
def a105 : AF := ⟨24,
 (.seq
 (rg [
 o 0 (.alloc [.d (.i .u32 0), .d (.i .u32 0), .d (.i .u32 0), .d (.i .u32 0), .d (.i .u32 0), .d (.i .u32 0), .d (.i .u32 0), .d (.i .u32 0), .d (.i .u32 0), .d (.i .u32 0), .d (.i .u32 0), .d (.i .u32 0), .d (.i .u32 0), .d (.i .u32 0), .d (.i .u32 0), .d (.i .u32 0)])])
 (.seq
 (rg [
 o 1 (.alloc [.d (.i .u32 0), .d (.i .u32 0), .d (.i .u32 0), .d (.i .u32 0), .d (.i .u32 0), .d (.i .u32 0), .d (.i .u32 0), .d (.i .u32 0), .d (.i .u32 0), .d (.i .u32 0), .d (.i .u32 0), .d (.i .u32 0), .d (.i .u32 0), .d (.i .u32 0), .d (.i .u32 0), .d (.i .u32 0)])])
 (.seq
 (.seq
 (rg [
 o 4 (.mv (kc 0))])
 (.block 0
 (.loop [0, 1, 4] a105_0)))
 (.seq
 (rg [
 o 23 (.ld (some 16) (.t 1)),
 on (.st 16 (.t 0) (.t 23))])
 .ret)))),
 [.c (some 16) 0], false⟩
def a107 : AF := ⟨11,
 (.seq
 (rg [
 o 4 (.mv (kc 0)),
 o 5 (.mv (kb false))])
 (.seq
 (rg [
 o 6 (.mv (.t 0)),
 o 7 (.mv (.t 1)),
 o 8 (.call 128 [(.t 6), (.t 7), (kx (.f 129 []))]),
 o 9 (.ext (.t 8) 0),
 o 10 (.ext (.t 8) 1),
 o 4 (.mv (.t 9)),
 o 5 (.mv (.t 10))])
 .ret)),
 [.t 4, .t 5], false⟩
def a110_0 : AC :=
 (.seq
 (rg [
 o 22 (.bin .lss (.t 21) (.t 20))])
 (.seq
 (.cond (.t 22)
 .skip
 (.exit 0))
 (.seq
 (.block 1
 (.seq
 (rg [
 o 23 (.ia 1 (.t 19) (.t 21)),
 o 24 (.ld none (.t 23)),
 o 6 (.mv (.t 24))])
 (rg [
 o 25 (.mv (.t 4)),
 o 26 (.mv (.t 6)),
 o 27 (.callp 132 [(.t 26)]),
 o 28 (.bin .add (.t 25) (.t 27)),
 o 4 (.mv (.t 28))])))
 (rg [
 o 29 (.bin .add (.t 21) (kc 1)),
 o 21 (.mv (.t 29))]))))
def a110 : AF := ⟨42,
 (.seq
 (rg [
 o 1 (.box (.t 0)),
 o 2 (.mv (ks [])),
 o 3 (.mv (kc 0))])
 (.seq
 (.seq
 (rg [
 o 7 (.ld (some 4) (.t 1)),
 o 8 (.callp 131 [(.t 7)]),
 o 9 (.un .not (.t 8))])
 (.cond (.t 9)
 (.seq
 (rg [
 o 2 (.mv (ks [])),
 o 3 (.mv (kc 1))])
 .ret)
 .skip))
 (.seq
 (rg [
 o 10 (.fa 0 (.t 1)),
 o 11 (.ld none (.t 10)),
 o 12 (.callp 132 [(.t 11)]),
 o 13 (.fa 1 (.t 1)),
 o 14 (.ld none (.t 13)),
 o 15 (.len false (.t 14)),
 o 16 (.callp 132 [(.t 15)]),
 o 17 (.bin .add (.t 12) (.t 16)),
 o 4 (.mv (.t 17))])
 (.seq
 (.seq
 (rg [
 o 18 (.fa 1 (.t 1)),
 o 19 (.ld none (.t 18)),
 o 20 (.len false (.t 19)),
 o 21 (.mv (kc 0))])
 (.block 0
 (.loop [1, 4, 19, 20, 21] a110_0)))
 (.seq
 (rg [
 o 30 (.mv (.t 4)),
 o 31 (.fa 2 (.t 1)),
 o 32 (.ld none (.t 31)),
 o 33 (.callp 132 [(.t 32)]),
 o 34 (.bin .add (.t 30) (.t 33)),
 o 35 (.fa 3 (.t 1)),
 o 36 (.ld none (.t 35)),
 o 37 (.callp 134 [(.t 36)]),
 o 38 (.bin .add (.t 34) (.t 37)),
 o 39 (.callp 133 [(.t 38)]),
 o 40 (.ext (.t 39) 0),
 o 41 (.ext (.t 39) 1),
 o 2 (.mv (.t 40)),
 o 3 (.mv (.t 41))])
 .ret))))),
 [.t 2, .t 3], false⟩
def a111 : AF := ⟨22,
 (.seq
 (rg [
 o 2 (.box (.t 0)),
 o 4 (.mv (ks [])),
 o 5 (.mv (kc 0))])
 (.seq
 (.seq
 (rg [
 o 9 (.fa 0 (.t 2)),
 o 10 (.ld none (.t 9)),
 o 11 (.mv (.t 1)),
 o 12 (.callp 107 [(.t 10), (.t 11)]),
 o 8 (.mv (.t 12)),
 o 13 (.ext (.t 8) 0),
 o 14 (.ext (.t 8) 1),
 o 6 (.mv (.t 13)),
 o 7 (.mv (.t 14))])
 (.seq
 (rg [
 o 15 (.mv (.t 7))])
 (.cond (.t 15)
 (.seq
 (rg [
 o 16 (.fa 0 (.t 2)),
 o 17 (.ld none (.t 16)),
 o 18 (.mv (.t 6)),
 o 19 (.ia 3 (.t 17) (.t 18)),
 o 20 (.fa 1 (.t 19)),
 o 21 (.ld none (.t 20)),
 o 4 (.mv (.t 21)),
 o 5 (.mv (kc 0))])
 .ret)
 .skip)))
 (.seq
 (rg [
 o 4 (.mv (ks [])),
 o 5 (.mv (kc 7))])
 .ret))),
 [.t 4, .t 5], false⟩
def a112 : AF := ⟨7,
 (.seq
 (rg [
 o 3 (.box (.t 1))])
 (rg [
 o 4 (.mv (.t 0)),
 o 5 (.mkf 135 [(.t 3)]),
 o 6 (.call 114 [(.t 4), (.t 5)])])),
 [], false⟩
def a113 : AF := ⟨7,
 (.seq
 (rg [
 o 3 (.box (.t 1))])
 (rg [
 o 4 (.mv (.t 0)),
 o 5 (.mkf 136 [(.t 3)]),
 o 6 (.call 114 [(.t 4), (.t 5)])])),
 [], false⟩
def a114 : AF := ⟨24,
 (.seq
 (rg [
 o 4 (.mv (.t 0)),
 o 5 (.nck (.t 4)),
 o 6 (.fa 5 (.t 5)),
 o 7 (.ld none (.t 6)),
 o 8 (.bin .eql (.t 7) (kc 0))])
 (.cond (.t 8)
 (rg [
 o 10 (.mv (.t 0)),
 o 11 (.mv (.t 0)),
 o 12 (.mv (.t 1)),
 o 13 (.mv (.t 0)),
 o 14 (.nck (.t 13)),
 o 15 (.fa 0 (.t 14)),
 o 16 (.ld (some 5) (.t 15)),
 o 17 (.callv (.t 12) [(.t 16)]),
 o 9 (.mv (.t 17)),
 o 18 (.ext (.t 9) 0),
 o 19 (.ext (.t 9) 1),
 o 20 (.nck (.t 10)),
 o 21 (.fa 0 (.t 20)),
 on (.st 5 (.t 21) (.t 18)),
 o 22 (.nck (.t 11)),
 o 23 (.fa 5 (.t 22)),
 on (.st 1 (.t 23) (.t 19))])
 .skip)),
 [], false⟩
def a115 : AF := ⟨10,
 (.seq
 (rg [
 o 2 (.box (.t 0)),
 o 3 (.alloc [.ns, .d (.i .i64 0), .d (.b false), .d (.i .i64 0), .d (.b false)]),
 o 4 (.mv (kc 0))])
 (.seq
 (rg [
 o 5 (.ld (some 5) (.t 2)),
 o 6 (.ld none (.t 1)),
 o 7 (.callp 34 [(.t 5), (ks [110]), (.t 6)]),
 o 8 (.ext (.t 7) 0),
 o 9 (.ext (.t 7) 1),
 on (.st 5 (.t 3) (.t 8)),
 o 4 (.mv (.t 9))])
 .ret)),
 [.c (some 5) 3, .t 4], false⟩
def a116 : AF := ⟨23,
 (.seq
 (.seq
 (rg [
 o 4 (.mv (.t 0)),
 o 5 (.nck (.t 4)),
 o 6 (.fa 5 (.t 5)),
 o 7 (.ld none (.t 6)),
 o 8 (.bin .neq (.t 7) (kc 9))])
 (.cond (.t 8)
 .ret
 .skip))
 (.seq
 (rg [
 o 9 (.mv (.t 0)),
 o 10 (.nck (.t 9)),
 o 11 (.fa 5 (.t 10)),
 on (.st 1 (.t 11) (kc 0))])
 (.seq
 (rg [
 o 12 (.mv (.t 0)),
 o 13 (.mv (.t 1)),
 o 14 (.call 112 [(.t 12), (.t 13)])])
 (.seq
 (rg [
 o 15 (.mv (.t 0)),
 o 16 (.nck (.t 15)),
 o 17 (.fa 5 (.t 16)),
 o 18 (.ld none (.t 17)),
 o 19 (.bin .eql (.t 18) (kc 0))])
 (.cond (.t 19)
 (rg [
 o 20 (.mv (.t 0)),
 o 21 (.nck (.t 20)),
 o 22 (.fa 5 (.t 21)),
 on (.st 1 (.t 22) (kc 9))])
 .skip))))),
 [], false⟩
def a117 : AF := ⟨7,
 (.seq
 (rg [
 o 3 (.box (.t 1))])
 (rg [
 o 4 (.mv (.t 0)),
 o 5 (.mkf 137 [(.t 3)]),
 o 6 (.call 114 [(.t 4), (.t 5)])])),
 [], false⟩
def a118 : AF := ⟨8,
 (.seq
 (rg [
 o 1 (.box (.t 0)),
 o 2 (.alloc [.ns, .d (.i .i64 0), .d (.b false), .d (.i .i64 0), .d (.b false)]),
 o 3 (.mv (kc 0))])
 (.seq
 (rg [
 o 4 (.ld (some 5) (.t 1)),
 o 5 (.callp 119 [(.t 4), (ks [110]), (ks [109])]),
 o 6 (.ext (.t 5) 0),
 o 7 (.ext (.t 5) 1),
 on (.st 5 (.t 2) (.t 6)),
 o 3 (.mv (.t 7))])
 .ret)),
 [.c (some 5) 2, .t 3], false⟩
def a119 : AF := ⟨14,
 (.seq
 (rg [
 o 3 (.box (.t 0)),
 o 5 (.box (.t 2)),
 o 6 (.alloc [.ns, .d (.i .i64 0), .d (.b false), .d (.i .i64 0), .d (.b false)]),
 o 7 (.mv (kc 0))])
 (.seq
 (rg [
 o 8 (.ld (some 5) (.t 3)),
 o 9 (.mv (.t 1)),
 o 10 (.mkf 138 [(.t 5)]),
 o 11 (.call 75 [(.t 8), (.t 9), (.t 10)]),
 o 12 (.ext (.t 11) 0),
 o 13 (.ext (.t 11) 1),
 on (.st 5 (.t 6) (.t 12)),
 o 7 (.mv (.t 13))])
 .ret)),
 [.c (some 5) 6, .t 7], false⟩
def a120 : AF := ⟨15,
 (.seq
 (rg [
 oz 6 (.mv (kx (.ns))),
 o 7 (.mv (kc 0))])
 (.seq
 (.seq
 (rg [
 o 8 (.mv (.t 2)),
 o 9 (.un .not (.t 8))])
 (.cond (.t 9)
 (.seq
 (rg [
 oz 6 (.mv (kx (.ns))),
 o 7 (.mv (kc 7))])
 .ret)
 .skip))
 (.seq
 (rg [
 o 10 (.mv (.t 0)),
 o 11 (.mv (.t 1)),
 o 12 (.mv (.t 1)),
 o 13 (.bin .add (.t 12) (kc 1)),
 o 14 (.call 121 [(.t 10), (.t 11), (.t 13)]),
 oz 6 (.mv (.t 14)),
 o 7 (.mv (kc 0))])
 .ret))),
 [.t 6, .t 7], false⟩
def a122_0 : AC :=
 (.seq
 (.seq
 (rg [
 o 21 (.mv (.t 10)),
 o 22 (.mv (.t 0)),
 o 23 (.len true (.t 22)),
 o 24 (.bin .lss (.t 21) (.t 23))])
 (.cond (.t 24)
 .skip
 (.exit 0)))
 (.block 1
 (.seq
 (rg [
 o 26 (.mv (.t 0)),
 o 27 (.mv (.t 10)),
 o 28 (.callp 99 [(.t 26), (.t 27)]),
 o 25 (.mv (.t 28)),
 o 29 (.ext (.t 25) 0),
 o 30 (.ext (.t 25) 1),
 o 31 (.ext (.t 25) 2),
 o 11 (.mv (.t 29)),
 o 12 (.mv (.t 30)),
 o 13 (.mv (.t 31))])
 (.seq
 (.seq
 (rg [
 o 32 (.mv (.t 13)),
 o 33 (.bin .neq (.t 32) (kc 0))])
 (.cond (.t 33)
 (.seq
 (rg [
 o 34 (.mv (.t 8)),
 o 35 (.mv (.t 9)),
 o 36 (.mv (.t 10)),
 o 37 (.mv (.t 13)),
 o 4 (.mv (.t 34)),
 o 5 (.mv (.t 35)),
 o 6 (.mv (.t 36)),
 o 7 (.mv (.t 37))])
 .ret)
 .skip))
 (.seq
 (rg [
 o 39 (.mv (.t 11)),
 o 40 (.callp 139 [(.t 39)]),
 o 38 (.mv (.t 40)),
 o 41 (.ext (.t 38) 0),
 o 42 (.ext (.t 38) 1),
 o 14 (.alloc [.d (.i .i64 0), .d (.i .i64 0), .d (.s [])]),
 on (.st 3 (.t 14) (.t 41)),
 o 13 (.mv (.t 42))])
 (.seq
 (.seq
 (rg [
 o 43 (.mv (.t 13)),
 o 44 (.bin .neq (.t 43) (kc 0))])
 (.cond (.t 44)
 (.seq
 (rg [
 o 45 (.mv (.t 8)),
 o 46 (.mv (.t 9)),
 o 47 (.mv (.t 10)),
 o 48 (.mv (.t 13)),
 o 4 (.mv (.t 45)),
 o 5 (.mv (.t 46)),
 o 6 (.mv (.t 47)),
 o 7 (.mv (.t 48))])
 .ret)
 .skip))
 (.seq
 (.seq
 (rg [
 o 49 (.fa 0 (.t 14)),
 o 50 (.ld none (.t 49)),
 o 51 (.mv (.t 1)),
 o 52 (.mv (.t 8)),
 o 53 (.len false (.t 52)),
 o 54 (.bin .add (.t 51) (.t 53)),
 o 55 (.bin .neq (.t 50) (.t 54))])
 (.cond (.t 55)
 (.seq
 (rg [
 o 56 (.mv (.t 8)),
 o 57 (.mv (.t 9)),
 o 58 (.mv (.t 10)),
 o 4 (.mv (.t 56)),
 o 5 (.mv (.t 57)),
 o 6 (.mv (.t 58)),
 o 7 (.mv (kc 3))])
 .ret)
 .skip))
 (.seq
 (rg [
 o 59 (.mv (.t 8)),
 o 60 (.ld (some 3) (.t 14)),
 o 61 (.bsl 3 [[.i .i64 0, .i .i64 0, .s []]] [(0, (.t 60))]),
 o 62 (.app false 3 32 (.t 59) (.t 61)),
 o 8 (.mv (.t 62))])
 (.seq
 (rg [
 o 63 (.mv (.t 9)),
 o 64 (.mv (.t 10)),
 o 65 (.bsl 1 [[.i .i64 0]] [(0, (.t 64))]),
 o 66 (.app false 1 8 (.t 63) (.t 65)),
 o 9 (.mv (.t 66))])
 (rg [
 o 67 (.mv (.t 12)),
 o 10 (.mv (.t 67))]))))))))))
def a122 : AF := ⟨71,
 (.seq
 (rg [
 oz 4 (.mv (kx (.ns))),
 oz 5 (.mv (kx (.ns))),
 o 6 (.mv (kc 0)),
 o 7 (.mv (kc 0))])
 (.seq
 (.seq
 (rg [
 o 15 (.mv (.t 1)),
 o 16 (.bin .lss (.t 15) (kc 0)),
 o 17 (.mv (.t 16)),
 og 18 17 false (.mv (.t 1)),
 og 19 17 false (.bin .gtr (.t 18) (kc 1099511627776)),
 o 20 (.pick (.t 17) (kb true) (.t 19))])
 (.cond (.t 20)
 (.seq
 (rg [
 oz 4 (.mv (kx (.ns))),
 oz 5 (.mv (kx (.ns))),
 o 6 (.mv (kc 0)),
 o 7 (.mv (kc 1))])
 .ret)
 .skip))
 (.seq
 (rg [
 o 8 (.own 3)])
 (.seq
 (rg [
 o 9 (.own 1)])
 (.seq
 (rg [
 o 10 (.mv (kc 0))])
 (.seq
 (.block 0
 (.loop [0, 1, 8, 9, 10] a122_0))
 (.seq
 (rg [
 o 68 (.mv (.t 8)),
 o 69 (.mv (.t 9)),
 o 70 (.mv (.t 10)),
 o 4 (.mv (.t 68)),
 o 5 (.mv (.t 69)),
 o 6 (.mv (.t 70)),
 o 7 (.mv (kc 0))])
 .ret))))))),
 [.t 4, .t 5, .t 6, .t 7], false⟩
def a123 : AF := ⟨16,
 (.seq
 (rg [
 o 2 (.mv (ks []))])
 (.seq
 (rg [
 o 3 (.mv (.t 0)),
 o 4 (.cvi .u8 (.t 3)),
 o 5 (.mv (.t 0)),
 o 6 (.bin .shr (.t 5) (kx (.d (.i .u64 8)))),
 o 7 (.cvi .u8 (.t 6)),
 o 8 (.mv (.t 0)),
 o 9 (.bin .shr (.t 8) (kx (.d (.i .u64 16)))),
 o 10 (.cvi .u8 (.t 9)),
 o 11 (.mv (.t 0)),
 o 12 (.bin .shr (.t 11) (kx (.d (.i .u64 24)))),
 o 13 (.cvi .u8 (.t 12)),
 o 14 (.bsl 1 (List.replicate 4 [.i .u8 0]) [(0, (.t 4)), (1, (.t 7)), (2, (.t 10)), (3, (.t 13))]),
 o 15 (.b2s (.t 14)),
 o 2 (.mv (.t 15))])
 .ret)),
 [.t 2], false⟩
def a124_0 : AC :=
 (.seq
 (.seq
 (rg [
 o 7 (.mv (.t 5)),
 o 8 (.mv (.t 0)),
 o 9 (.len true (.t 8)),
 o 10 (.bin .lss (.t 7) (.t 9))])
 (.cond (.t 10)
 .skip
 (.exit 0)))
 (.seq
 (.block 1
 (.seq
 (rg [
 o 13 (.mv (.t 0)),
 o 14 (.mv (.t 5)),
 o 15 (.ixs (.t 13) (.t 14)),
 o 16 (.bin .lss (.t 15) (kx (.d (.i .u8 128))))])
 (.cond (.t 16)
 (.seq
 (rg [
 o 4 (.mv (kb false))])
 .ret)
 .skip)))
 (rg [
 o 11 (.mv (.t 5)),
 o 12 (.bin .add (.t 11) (kc 1)),
 o 5 (.mv (.t 12))])))
def a124 : AF := ⟨22,
 (.seq
 (rg [
 o 4 (.mv (kb false))])
 (.seq
 (.seq
 (rg [
 o 6 (.mv (.t 1)),
 o 5 (.mv (.t 6))])
 (.block 0
 (.loop [0, 1, 5] a124_0)))
 (.seq
 (rg [
 o 17 (.mv (.t 0)),
 o 18 (.len true (.t 17)),
 o 19 (.mv (.t 1)),
 o 20 (.bin .sub (.t 18) (.t 19)),
 o 21 (.bin .leq (.t 20) (kc 8)),
 o 4 (.mv (.t 21))])
 .ret))),
 [.t 4], false⟩
def a125_0 : AC :=
 (.seq
 (.seq
 (rg [
 o 24 (.mv (.t 3)),
 o 25 (.fa 1 (.t 1)),
 o 26 (.ld none (.t 25)),
 o 27 (.len false (.t 26)),
 o 28 (.bin .lss (.t 24) (.t 27))])
 (.cond (.t 28)
 .skip
 (.exit 0)))
 (.seq
 (.block 1
 (.seq
 (rg [
 o 31 (.fa 1 (.t 1)),
 o 32 (.ld none (.t 31)),
 o 33 (.mv (.t 3)),
 o 34 (.ia 1 (.t 32) (.t 33)),
 o 35 (.ld none (.t 34)),
 o 36 (.bin .lss (.t 35) (kc 0)),
 o 37 (.mv (.t 36)),
 og 38 37 false (.fa 1 (.t 1)),
 og 39 37 false (.ld none (.t 38)),
 og 40 37 false (.mv (.t 3)),
 og 41 37 false (.ia 1 (.t 39) (.t 40)),
 og 42 37 false (.ld none (.t 41)),
 og 43 37 false (.bin .gtr (.t 42) (kc 1099511627776)),
 o 44 (.pick (.t 37) (kb true) (.t 43)),
 o 45 (.mv (.t 44)),
 og 46 45 false (.mv (.t 3)),
 og 47 45 false (.bin .gtr (.t 46) (kc 0)),
 og 48 45 false (.mv (.t 47)),
 og 49 48 true (.fa 1 (.t 1)),
 og 50 48 true (.ld none (.t 49)),
 og 51 48 true (.mv (.t 3)),
 og 52 48 true (.ia 1 (.t 50) (.t 51)),
 og 53 48 true (.ld none (.t 52)),
 og 54 48 true (.fa 1 (.t 1)),
 og 55 48 true (.ld none (.t 54)),
 og 56 48 true (.mv (.t 3)),
 og 57 48 true (.bin .sub (.t 56) (kc 1)),
 og 58 48 true (.ia 1 (.t 55) (.t 57)),
 og 59 48 true (.ld none (.t 58)),
 og 60 48 true (.bin .leq (.t 53) (.t 59)),
 og 61 45 false (.pick (.t 48) (.t 60) (kb false)),
 o 62 (.pick (.t 45) (kb true) (.t 61))])
 (.cond (.t 62)
 (.seq
 (rg [
 o 2 (.mv (kb false))])
 .ret)
 .skip)))
 (rg [
 o 29 (.mv (.t 3)),
 o 30 (.bin .add (.t 29) (kc 1)),
 o 3 (.mv (.t 30))])))
def a125 : AF := ⟨84,
 (.seq
 (rg [
 o 1 (.box (.t 0)),
 o 2 (.mv (kb false))])
 (.seq
 (.seq
 (rg [
 o 4 (.fa 0 (.t 1)),
 o 5 (.ld none (.t 4)),
 o 6 (.bin .lss (.t 5) (kc 1)),
 o 7 (.mv (.t 6)),
 og 8 7 false (.fa 0 (.t 1)),
 og 9 7 false (.ld none (.t 8)),
 og 10 7 false (.bin .gtr (.t 9) (kc 1099511627776)),
 o 11 (.pick (.t 7) (kb true) (.t 10)),
 o 12 (.mv (.t 11)),
 og 13 12 false (.fa 1 (.t 1)),
 og 14 12 false (.ld none (.t 13)),
 og 15 12 false (.len false (.t 14)),
 og 16 12 false (.bin .lss (.t 15) (kc 1)),
 o 17 (.pick (.t 12) (kb true) (.t 16)),
 o 18 (.mv (.t 17)),
 og 19 18 false (.fa 1 (.t 1)),
 og 20 18 false (.ld none (.t 19)),
 og 21 18 false (.len false (.t 20)),
 og 22 18 false (.bin .gtr (.t 21) (kc 64)),
 o 23 (.pick (.t 18) (kb true) (.t 22))])
 (.cond (.t 23)
 (.seq
 (rg [
 o 2 (.mv (kb false))])
 .ret)
 .skip))
 (.seq
 (.seq
 (rg [
 o 3 (.mv (kc 0))])
 (.block 0
 (.loop [1, 3] a125_0)))
 (.seq
 (.seq
 (rg [
 o 63 (.fa 1 (.t 1)),
 o 64 (.ld none (.t 63)),
 o 65 (.ia 1 (.t 64) (kc 0)),
 o 66 (.ld none (.t 65)),
 o 67 (.bin .eql (.t 66) (kc 0))])
 (.cond (.t 67)
 (.seq
 (rg [
 o 68 (.fa 2 (.t 1)),
 o 69 (.ld none (.t 68)),
 o 70 (.bin .eql (.t 69) (kc 0)),
 o 71 (.mv (.t 70)),
 og 72 71 true (.fa 3 (.t 1)),
 og 73 71 true (.ld none (.t 72)),
 og 74 71 true (.bin .eql (.t 73) (kx (.d (.i .u32 0)))),
 o 75 (.pick (.t 71) (.t 74) (kb false)),
 o 2 (.mv (.t 75))])
 .ret)
 .skip))
 (.seq
 (rg [
 o 76 (.fa 2 (.t 1)),
 o 77 (.ld none (.t 76)),
 o 78 (.bin .geq (.t 77) (kc 1)),
 o 79 (.mv (.t 78)),
 og 80 79 true (.fa 2 (.t 1)),
 og 81 79 true (.ld none (.t 80)),
 og 82 79 true (.bin .leq (.t 81) (kc 65536)),
 o 83 (.pick (.t 79) (.t 82) (kb false)),
 o 2 (.mv (.t 83))])
 .ret))))),
 [.t 2], false⟩
def a126_0 : AC :=
 (.seq
 (.seq
 (rg [
 o 5 (.mv (.t 4)),
 o 6 (.mv (.t 0)),
 o 7 (.len false (.t 6)),
 o 8 (.bin .lss (.t 5) (.t 7))])
 (.cond (.t 8)
 .skip
 (.exit 0)))
 (.seq
 (.block 1
 (rg [
 o 11 (.mv (.t 3)),
 o 12 (.mv (.t 0)),
 o 13 (.mv (.t 4)),
 o 14 (.ia 3 (.t 12) (.t 13)),
 o 15 (.fa 2 (.t 14)),
 o 16 (.ld none (.t 15)),
 o 17 (.bin .add (.t 11) (.t 16)),
 o 3 (.mv (.t 17))]))
 (rg [
 o 9 (.mv (.t 4)),
 o 10 (.bin .add (.t 9) (kc 1)),
 o 4 (.mv (.t 10))])))
def a126 : AF := ⟨19,
 (.seq
 (rg [
 o 2 (.mv (kc 0))])
 (.seq
 (rg [
 o 3 (.mv (kc 0))])
 (.seq
 (.seq
 (rg [
 o 4 (.mv (kc 0))])
 (.block 0
 (.loop [0, 3, 4] a126_0)))
 (.seq
 (rg [
 o 18 (.mv (.t 3)),
 o 2 (.mv (.t 18))])
 .ret)))),
 [.t 2], false⟩
def a127_0 : AC :=
 (.seq
 (.seq
 (rg [
 o 5 (.mv (.t 4)),
 o 6 (.mv (.t 0)),
 o 7 (.len false (.t 6)),
 o 8 (.bin .lss (.t 5) (.t 7))])
 (.cond (.t 8)
 .skip
 (.exit 0)))
 (.seq
 (.block 1
 (rg [
 o 11 (.mv (.t 3)),
 o 12 (.mv (.t 0)),
 o 13 (.mv (.t 4)),
 o 14 (.ia 3 (.t 12) (.t 13)),
 o 15 (.fa 1 (.t 14)),
 o 16 (.ld none (.t 15)),
 o 17 (.bin .add (.t 11) (.t 16)),
 o 3 (.mv (.t 17))]))
 (rg [
 o 9 (.mv (.t 4)),
 o 10 (.bin .add (.t 9) (kc 1)),
 o 4 (.mv (.t 10))])))
def a127 : AF := ⟨19,
 (.seq
 (rg [
 o 2 (.mv (kc 0))])
 (.seq
 (rg [
 o 3 (.mv (kc 0))])
 (.seq
 (.seq
 (rg [
 o 4 (.mv (kc 0))])
 (.block 0
 (.loop [0, 3, 4] a127_0)))
 (.seq
 (rg [
 o 18 (.mv (.t 3)),
 o 2 (.mv (.t 18))])
 .ret)))),
 [.t 2], false⟩
def a128_0 : AC :=
 (.seq
 (.seq
 (rg [
 o 15 (.mv (.t 9)),
 o 16 (.mv (.t 10)),
 o 17 (.bin .lss (.t 15) (.t 16))])
 (.cond (.t 17)
 .skip
 (.exit 0)))
 (.block 1
 (.seq
 (rg [
 o 18 (.mv (.t 9)),
 o 19 (.mv (.t 10)),
 o 20 (.bin .add (.t 18) (.t 19)),
 o 21 (.cvi .u64 (.t 20)),
 o 22 (.bin .shr (.t 21) (kx (.d (.i .u64 1)))),
 o 23 (.cvi .i64 (.t 22)),
 o 11 (.mv (.t 23))])
 (.seq
 (rg [
 o 24 (.mv (.t 2)),
 o 25 (.mv (.t 0)),
 o 26 (.mv (.t 11)),
 o 27 (.ia 3 (.t 25) (.t 26)),
 o 28 (.ld (some 3) (.t 27)),
 o 29 (.mv (.t 1)),
 o 30 (.callv (.t 24) [(.t 28), (.t 29)]),
 o 31 (.bin .lss (.t 30) (kc 0))])
 (.cond (.t 31)
 (rg [
 o 32 (.mv (.t 11)),
 o 33 (.bin .add (.t 32) (kc 1)),
 o 9 (.mv (.t 33))])
 (rg [
 o 34 (.mv (.t 11)),
 o 10 (.mv (.t 34))]))))))
def a128 : AF := ⟨49,
 (.seq
 (rg [
 o 6 (.mv (kc 0)),
 o 7 (.mv (kb false))])
 (.seq
 (rg [
 o 12 (.mv (.t 0)),
 o 13 (.len false (.t 12)),
 o 8 (.mv (.t 13))])
 (.seq
 (rg [
 o 14 (.mv (.t 8)),
 o 9 (.mv (kc 0)),
 o 10 (.mv (.t 14))])
 (.seq
 (.block 0
 (.loop [0, 1, 2, 8, 9, 10] a128_0))
 (.seq
 (rg [
 o 35 (.mv (.t 9)),
 o 36 (.mv (.t 9)),
 o 37 (.mv (.t 8)),
 o 38 (.bin .lss (.t 36) (.t 37)),
 o 39 (.mv (.t 38)),
 og 40 39 true (.mv (.t 2)),
 og 41 39 true (.mv (.t 0)),
 og 42 39 true (.mv (.t 9)),
 og 43 39 true (.ia 3 (.t 41) (.t 42)),
 og 44 39 true (.ld (some 3) (.t 43)),
 og 45 39 true (.mv (.t 1)),
 og 46 39 true (.callv (.t 40) [(.t 44), (.t 45)]),
 og 47 39 true (.bin .eql (.t 46) (kc 0)),
 o 48 (.pick (.t 39) (.t 47) (kb false)),
 o 6 (.mv (.t 35)),
 o 7 (.mv (.t 48))])
 .ret))))),
 [.t 6, .t 7], false⟩
def a129 : AF := ⟨15,
 (.seq
 (rg [
 o 2 (.box (.t 0)),
 o 4 (.mv (kc 0))])
 (.seq
 (.block 0
 (.seq
 (rg [
 o 6 (.fa 0 (.t 2)),
 o 7 (.ld none (.t 6)),
 o 8 (.mv (.t 1)),
 o 9 (.bin .lss (.t 7) (.t 8)),
 o 5 (.mv (.t 9))])
 (.cond (.t 5)
 (.seq
 (rg [
 o 4 (.mv (kc (-1)))])
 .ret)
 (.seq
 (rg [
 o 11 (.fa 0 (.t 2)),
 o 12 (.ld none (.t 11)),
 o 13 (.mv (.t 1)),
 o 14 (.bin .gtr (.t 12) (.t 13)),
 o 10 (.mv (.t 14))])
 (.cond (.t 10)
 (.seq
 (rg [
 o 4 (.mv (kc 1))])
 .ret)
 .skip)))))
 (.seq
 (rg [
 o 4 (.mv (kc 0))])
 .ret))),
 [.t 4], false⟩
def a131_0 : AC :=
 (.seq
 (rg [
 o 30 (.bin .lss (.t 29) (.t 28))])
 (.seq
 (.cond (.t 30)
 .skip
 (.exit 0))
 (.seq
 (.block 1
 (.seq
 (rg [
 o 31 (.ia 1 (.t 27) (.t 29)),
 o 32 (.ld none (.t 31)),
 o 5 (.mv (.t 32))])
 (.seq
 (.seq
 (rg [
 o 33 (.mv (.t 5)),
 o 34 (.mv (.t 3)),
 o 35 (.bin .leq (.t 33) (.t 34)),
 o 36 (.mv (.t 35)),
 og 37 36 false (.mv (.t 5)),
 og 38 36 false (.bin .gtr (.t 37) (kc 1099511627776)),
 o 39 (.pick (.t 36) (kb true) (.t 38))])
 (.cond (.t 39)
 (.seq
 (rg [
 o 2 (.mv (kb false))])
 .ret)
 .skip))
 (rg [
 o 40 (.mv (.t 5)),
 o 3 (.mv (.t 40))]))))
 (rg [
 o 41 (.bin .add (.t 29) (kc 1)),
 o 29 (.mv (.t 41))]))))
def a131 : AF := ⟨63,
 (.seq
 (rg [
 o 1 (.box (.t 0)),
 o 2 (.mv (kb false))])
 (.seq
 (.seq
 (rg [
 o 6 (.fa 0 (.t 1)),
 o 7 (.ld none (.t 6)),
 o 8 (.bin .lss (.t 7) (kc 1)),
 o 9 (.mv (.t 8)),
 og 10 9 false (.fa 0 (.t 1)),
 og 11 9 false (.ld none (.t 10)),
 og 12 9 false (.bin .gtr (.t 11) (kc 1099511627776)),
 o 13 (.pick (.t 9) (kb true) (.t 12)),
 o 14 (.mv (.t 13)),
 og 15 14 false (.fa 1 (.t 1)),
 og 16 14 false (.ld none (.t 15)),
 og 17 14 false (.len false (.t 16)),
 og 18 14 false (.bin .eql (.t 17) (kc 0)),
 o 19 (.pick (.t 14) (kb true) (.t 18)),
 o 20 (.mv (.t 19)),
 og 21 20 false (.fa 1 (.t 1)),
 og 22 20 false (.ld none (.t 21)),
 og 23 20 false (.len false (.t 22)),
 og 24 20 false (.bin .gtr (.t 23) (kc 64)),
 o 25 (.pick (.t 20) (kb true) (.t 24))])
 (.cond (.t 25)
 (.seq
 (rg [
 o 2 (.mv (kb false))])
 .ret)
 .skip))
 (.seq
 (rg [
 o 3 (.mv (kc (-1)))])
 (.seq
 (.seq
 (rg [
 o 26 (.fa 1 (.t 1)),
 o 27 (.ld none (.t 26)),
 o 28 (.len false (.t 27)),
 o 29 (.mv (kc 0))])
 (.block 0
 (.loop [1, 3, 27, 28, 29] a131_0)))
 (.seq
 (.seq
 (rg [
 o 42 (.fa 1 (.t 1)),
 o 43 (.ld none (.t 42)),
 o 44 (.ia 1 (.t 43) (kc 0)),
 o 45 (.ld none (.t 44)),
 o 46 (.bin .eql (.t 45) (kc 0))])
 (.cond (.t 46)
 (.seq
 (rg [
 o 47 (.fa 2 (.t 1)),
 o 48 (.ld none (.t 47)),
 o 49 (.bin .eql (.t 48) (kc 0)),
 o 50 (.mv (.t 49)),
 og 51 50 true (.fa 3 (.t 1)),
 og 52 50 true (.ld none (.t 51)),
 og 53 50 true (.bin .eql (.t 52) (kx (.d (.i .u32 0)))),
 o 54 (.pick (.t 50) (.t 53) (kb false)),
 o 2 (.mv (.t 54))])
 .ret)
 .skip))
 (.seq
 (rg [
 o 55 (.fa 2 (.t 1)),
 o 56 (.ld none (.t 55)),
 o 57 (.bin .gtr (.t 56) (kc 0)),
 o 58 (.mv (.t 57)),
 og 59 58 true (.fa 2 (.t 1)),
 og 60 58 true (.ld none (.t 59)),
 og 61 58 true (.bin .leq (.t 60) (kc 65536)),
 o 62 (.pick (.t 58) (.t 61) (kb false)),
 o 2 (.mv (.t 62))])
 .ret)))))),
 [.t 2], false⟩
def a132_0 : AC :=
 (.seq
 (rg [
 o 11 (.bin .lss (.t 10) (.t 9))])
 (.seq
 (.cond (.t 11)
 .skip
 (.exit 0))
 (.seq
 (.block 1
 (.seq
 (rg [
 o 12 (.mv (.t 10)),
 o 4 (.mv (.t 12))])
 (rg [
 o 13 (.mv (.t 3)),
 o 14 (.mv (.t 4)),
 o 15 (.mv (.t 0)),
 o 16 (.mv (.t 4)),
 o 17 (.bin .mul (kc 7) (.t 16)),
 o 18 (.cvi .u64 (.t 17)),
 o 19 (.bin .shr (.t 15) (.t 18)),
 o 20 (.cvi .u8 (.t 19)),
 o 21 (.bin .or (.t 20) (kx (.d (.i .u8 128)))),
 o 22 (.ia 1 (.t 13) (.t 14)),
 on (.st 1 (.t 22) (.t 21))])))
 (rg [
 o 23 (.bin .add (.t 10) (kc 1)),
 o 10 (.mv (.t 23))]))))
def a132 : AF := ⟨37,
 (.seq
 (rg [
 o 2 (.mv (ks []))])
 (.seq
 (rg [
 o 5 (.mv (.t 0)),
 o 6 (.callp 141 [(.t 5)]),
 o 7 (.mks 1 1 [.i .u8 0] (.t 6) (.t 6)),
 o 3 (.mv (.t 7))])
 (.seq
 (.seq
 (rg [
 o 8 (.mv (.t 3)),
 o 9 (.len false (.t 8)),
 o 10 (.mv (kc 0))])
 (.block 0
 (.loop [0, 3, 9, 10] a132_0)))
 (.seq
 (.seq
 (rg [
 o 24 (.mv (.t 3)),
 o 25 (.len false (.t 24)),
 o 26 (.bin .gtr (.t 25) (kc 0))])
 (.cond (.t 26)
 (rg [
 o 27 (.mv (.t 3)),
 o 28 (.mv (.t 3)),
 o 29 (.len false (.t 28)),
 o 30 (.bin .sub (.t 29) (kc 1)),
 o 31 (.ia 1 (.t 27) (.t 30)),
 o 32 (.ld none (.t 31)),
 o 33 (.bin .and (.t 32) (kx (.d (.i .u8 127)))),
 o 34 (.ia 1 (.t 27) (.t 30)),
 on (.st 1 (.t 34) (.t 33))])
 .skip))
 (.seq
 (rg [
 o 35 (.mv (.t 3)),
 o 36 (.b2s (.t 35)),
 o 2 (.mv (.t 36))])
 .ret))))),
 [.t 2], false⟩
def a133 : AF := ⟨21,
 (.seq
 (rg [
 o 2 (.mv (ks [])),
 o 3 (.mv (kc 0))])
 (.seq
 (.seq
 (rg [
 o 5 (.mv (.t 0)),
 o 6 (.len true (.t 5)),
 o 7 (.callp 142 [(.t 6)]),
 o 8 (.un .not (.t 7))])
 (.cond (.t 8)
 (.seq
 (rg [
 o 2 (.mv (ks [])),
 o 3 (.mv (kc 5))])
 .ret)
 .skip))
 (.seq
 (rg [
 o 9 (.mv (.t 0)),
 o 10 (.len true (.t 9)),
 o 11 (.callp 132 [(.t 10)]),
 o 4 (.mv (.t 11))])
 (.seq
 (rg [
 o 12 (.mv (.t 4)),
 o 13 (.mv (.t 4)),
 o 14 (.mv (.t 0)),
 o 15 (.bsl 1 [[.s []], [.s []]] [(0, (.t 13)), (1, (.t 14))]),
 o 16 (.callz 27 [(.t 15)]),
 o 17 (.callp 134 [(.t 16)]),
 o 18 (.bin .add (.t 12) (.t 17)),
 o 19 (.mv (.t 0)),
 o 20 (.bin .add (.t 18) (.t 19)),
 o 2 (.mv (.t 20)),
 o 3 (.mv (kc 0))])
 .ret)))),
 [.t 2, .t 3], false⟩
def a134 : AF := ⟨16,
 (.seq
 (rg [
 o 2 (.mv (ks []))])
 (.seq
 (rg [
 o 3 (.mv (.t 0)),
 o 4 (.cvi .u8 (.t 3)),
 o 5 (.mv (.t 0)),
 o 6 (.bin .shr (.t 5) (kx (.d (.i .u64 8)))),
 o 7 (.cvi .u8 (.t 6)),
 o 8 (.mv (.t 0)),
 o 9 (.bin .shr (.t 8) (kx (.d (.i .u64 16)))),
 o 10 (.cvi .u8 (.t 9)),
 o 11 (.mv (.t 0)),
 o 12 (.bin .shr (.t 11) (kx (.d (.i .u64 24)))),
 o 13 (.cvi .u8 (.t 12)),
 o 14 (.bsl 1 (List.replicate 4 [.i .u8 0]) [(0, (.t 4)), (1, (.t 7)), (2, (.t 10)), (3, (.t 13))]),
 o 15 (.b2s (.t 14)),
 o 2 (.mv (.t 15))])
 .ret)),
 [.t 2], false⟩
def a135 : AF := ⟨10,
 (.seq
 (rg [
 o 2 (.box (.t 0)),
 o 3 (.alloc [.ns, .d (.i .i64 0), .d (.b false), .d (.i .i64 0), .d (.b false)]),
 o 4 (.mv (kc 0))])
 (.seq
 (rg [
 o 5 (.ld (some 5) (.t 2)),
 o 6 (.ld none (.t 1)),
 o 7 (.callp 84 [(.t 5), (.t 6)]),
 o 8 (.ext (.t 7) 0),
 o 9 (.ext (.t 7) 1),
 on (.st 5 (.t 3) (.t 8)),
 o 4 (.mv (.t 9))])
 .ret)),
 [.c (some 5) 3, .t 4], false⟩
def a136 : AF := ⟨10,
 (.seq
 (rg [
 o 2 (.box (.t 0)),
 o 3 (.alloc [.ns, .d (.i .i64 0), .d (.b false), .d (.i .i64 0), .d (.b false)]),
 o 4 (.mv (kc 0))])
 (.seq
 (rg [
 o 5 (.ld (some 5) (.t 2)),
 o 6 (.ld none (.t 1)),
 o 7 (.callp 32 [(.t 5), (.t 6)]),
 o 8 (.ext (.t 7) 0),
 o 9 (.ext (.t 7) 1),
 on (.st 5 (.t 3) (.t 8)),
 o 4 (.mv (.t 9))])
 .ret)),
 [.c (some 5) 3, .t 4], false⟩
def a137 : AF := ⟨10,
 (.seq
 (rg [
 o 2 (.box (.t 0)),
 o 3 (.alloc [.ns, .d (.i .i64 0), .d (.b false), .d (.i .i64 0), .d (.b false)]),
 o 4 (.mv (kc 0))])
 (.seq
 (rg [
 o 5 (.ld (some 5) (.t 2)),
 o 6 (.ld none (.t 1)),
 o 7 (.callp 36 [(.t 5), (.t 6)]),
 o 8 (.ext (.t 7) 0),
 o 9 (.ext (.t 7) 1),
 on (.st 5 (.t 3) (.t 8)),
 o 4 (.mv (.t 9))])
 .ret)),
 [.c (some 5) 3, .t 4], false⟩
def a138 : AF := ⟨47,
 (.seq
 (rg [
 oz 7 (.mv (kx (.ns))),
 o 8 (.mv (kc 0))])
 (.seq
 (.block 0
 (.seq
 (rg [
 o 13 (.mv (.t 2)),
 o 14 (.un .not (.t 13)),
 o 12 (.mv (.t 14))])
 (.cond (.t 12)
 (.seq
 (rg [
 oz 7 (.mv (kx (.ns))),
 o 8 (.mv (kc 7))])
 .ret)
 (.seq
 (rg [
 o 16 (.ld none (.t 3)),
 o 17 (.callp 77 [(.t 16)]),
 o 18 (.un .not (.t 17)),
 o 15 (.mv (.t 18))])
 (.cond (.t 15)
 (.seq
 (rg [
 oz 7 (.mv (kx (.ns))),
 o 8 (.mv (kc 1))])
 .ret)
 .skip)))))
 (.seq
 (rg [
 o 19 (.mv (.t 0)),
 o 20 (.mv (.t 1)),
 o 21 (.ia 3 (.t 19) (.t 20)),
 o 22 (.ld (some 3) (.t 21)),
 o 9 (.alloc [.d (.s []), .d (.s []), .d (.i .i64 0)]),
 on (.st 3 (.t 9) (.t 22))])
 (.seq
 (rg [
 o 23 (.ld none (.t 3)),
 o 24 (.fa 0 (.t 9)),
 on (.st 1 (.t 24) (.t 23))])
 (.seq
 (rg [
 o 25 (.mv (.t 0)),
 o 26 (.mv (.t 1)),
 o 27 (.mv (.t 1)),
 o 28 (.bin .add (.t 27) (kc 1)),
 o 29 (.call 121 [(.t 25), (.t 26), (.t 28)]),
 o 0 (.mv (.t 29))])
 (.seq
 (rg [
 o 31 (.mv (.t 0)),
 o 32 (.ld none (.t 3)),
 o 33 (.call 107 [(.t 31), (.t 32)]),
 o 30 (.mv (.t 33)),
 o 34 (.ext (.t 30) 0),
 o 35 (.ext (.t 30) 1),
 o 10 (.mv (.t 34)),
 o 11 (.mv (.t 35))])
 (.seq
 (.seq
 (rg [
 o 36 (.mv (.t 11))])
 (.cond (.t 36)
 (.seq
 (rg [
 o 37 (.mv (.t 0)),
 o 38 (.mv (.t 10)),
 o 39 (.ld (some 3) (.t 9)),
 o 40 (.ia 3 (.t 37) (.t 38)),
 on (.st 3 (.t 40) (.t 39))])
 (.seq
 (rg [
 o 41 (.mv (.t 0)),
 o 7 (.mv (.t 41)),
 o 8 (.mv (kc 0))])
 .ret))
 .skip))
 (.seq
 (rg [
 o 42 (.mv (.t 0)),
 o 43 (.mv (.t 10)),
 o 44 (.ld (some 3) (.t 9)),
 o 45 (.bsl 3 [[.s [], .s [], .i .i64 0]] [(0, (.t 44))]),
 o 46 (.call 78 [(.t 42), (.t 43), (.t 45)]),
 oz 7 (.mv (.t 46)),
 o 8 (.mv (kc 0))])
 .ret)))))))),
 [.t 7, .t 8], false⟩
def a139 : AF := ⟨44,
 (.seq
 (rg [
 o 2 (.alloc [.d (.i .i64 0), .d (.i .i64 0), .d (.s [])]),
 o 3 (.mv (kc 0))])
 (.seq
 (rg [
 o 13 (.mv (.t 0)),
 o 14 (.callp 50 [(.t 13), (kc 0)]),
 o 12 (.mv (.t 14)),
 o 15 (.ext (.t 12) 0),
 o 16 (.ext (.t 12) 1),
 o 17 (.ext (.t 12) 2),
 o 4 (.mv (.t 15)),
 o 5 (.mv (.t 16)),
 o 6 (.mv (.t 17))])
 (.seq
 (.seq
 (rg [
 o 18 (.mv (.t 6)),
 o 19 (.un .not (.t 18))])
 (.cond (.t 19)
 (.seq
 (rg [
 o 20 (.build [.d (.i .i64 0), .d (.i .i64 0), .d (.s [])] []),
 on (.st 3 (.t 2) (.t 20)),
 o 3 (.mv (kc 3))])
 .ret)
 .skip))
 (.seq
 (rg [
 o 22 (.mv (.t 0)),
 o 23 (.mv (.t 5)),
 o 24 (.callp 50 [(.t 22), (.t 23)]),
 o 21 (.mv (.t 24)),
 o 25 (.ext (.t 21) 0),
 o 26 (.ext (.t 21) 1),
 o 27 (.ext (.t 21) 2),
 o 7 (.mv (.t 25)),
 o 8 (.mv (.t 26)),
 o 9 (.mv (.t 27))])
 (.seq
 (.seq
 (rg [
 o 28 (.mv (.t 9)),
 o 29 (.un .not (.t 28))])
 (.cond (.t 29)
 (.seq
 (rg [
 o 30 (.build [.d (.i .i64 0), .d (.i .i64 0), .d (.s [])] []),
 on (.st 3 (.t 2) (.t 30)),
 o 3 (.mv (kc 3))])
 .ret)
 .skip))
 (.seq
 (rg [
 o 31 (.mv (.t 4)),
 o 32 (.mv (.t 7)),
 o 33 (.mv (.t 0)),
 o 34 (.mv (.t 8)),
 o 35 (.sls (.t 33) (some (.t 34)) none),
 o 36 (.build [.d (.i .i64 0), .d (.i .i64 0), .d (.s [])] [(0, 1, (.t 31)), (1, 1, (.t 32)), (2, 1, (.t 35))]),
 o 10 (.alloc [.d (.i .i64 0), .d (.i .i64 0), .d (.s [])]),
 on (.st 3 (.t 10) (.t 36))])
 (.seq
 (.seq
 (rg [
 o 37 (.ld (some 3) (.t 10)),
 o 38 (.callp 94 [(.t 37)]),
 o 11 (.mv (.t 38))])
 (.seq
 (rg [
 o 39 (.mv (.t 11)),
 o 40 (.bin .neq (.t 39) (kc 0))])
 (.cond (.t 40)
 (.seq
 (rg [
 o 41 (.build [.d (.i .i64 0), .d (.i .i64 0), .d (.s [])] []),
 o 42 (.mv (.t 11)),
 on (.st 3 (.t 2) (.t 41)),
 o 3 (.mv (.t 42))])
 .ret)
 .skip)))
 (.seq
 (rg [
 o 43 (.ld (some 3) (.t 10)),
 on (.st 3 (.t 2) (.t 43)),
 o 3 (.mv (kc 0))])
 .ret)))))))),
 [.c (some 3) 2, .t 3], false⟩
def a141 : AF := ⟨11,
 (.seq
 (rg [
 o 2 (.mv (kc 0))])
 (.seq
 (.seq
 (rg [
 o 3 (.mv (.t 0)),
 o 4 (.bin .lss (.t 3) (kc 0))])
 (.cond (.t 4)
 (.seq
 (rg [
 o 2 (.mv (kc 0))])
 .ret)
 .skip))
 (.seq
 (rg [
 o 5 (.mv (.t 0)),
 o 6 (.cvi .u64 (.t 5)),
 o 7 (.callp 143 [(.t 6)]),
 o 8 (.bin .add (.t 7) (kc 6)),
 o 9 (.bin .quo (.t 8) (kc 7)),
 o 10 (.mm true (kc 1) (.t 9)),
 o 2 (.mv (.t 10))])
 .ret))),
 [.t 2], false⟩
def a142 : AF := ⟨9,
 (.seq
 (rg [
 o 2 (.mv (kb false))])
 (.seq
 (rg [
 o 3 (.mv (.t 0)),
 o 4 (.bin .geq (.t 3) (kc 1)),
 o 5 (.mv (.t 4)),
 og 6 5 true (.mv (.t 0)),
 og 7 5 true (.bin .leq (.t 6) (kc 65536)),
 o 8 (.pick (.t 5) (.t 7) (kb false)),
 o 2 (.mv (.t 8))])
 .ret)),
 [.t 2], false⟩
def a143 : AF := ⟨25,
 (.seq
 (rg [
 o 2 (.mv (kc 0))])
 (.seq
 (.seq
 (rg [
 o 3 (.mv (.t 0)),
 o 4 (.bin .geq (.t 3) (kx (.d (.i .u64 4294967296))))])
 (.cond (.t 4)
 (.seq
 (rg [
 o 5 (.mv (.t 0)),
 o 6 (.bin .shr (.t 5) (kx (.d (.i .u64 32)))),
 o 0 (.mv (.t 6))])
 (rg [
 o 2 (.mv (kc 32))]))
 .skip))
 (.seq
 (.seq
 (rg [
 o 7 (.mv (.t 0)),
 o 8 (.bin .geq (.t 7) (kx (.d (.i .u64 65536))))])
 (.cond (.t 8)
 (.seq
 (rg [
 o 9 (.mv (.t 0)),
 o 10 (.bin .shr (.t 9) (kx (.d (.i .u64 16)))),
 o 0 (.mv (.t 10))])
 (rg [
 o 11 (.mv (.t 2)),
 o 12 (.bin .add (.t 11) (kc 16)),
 o 2 (.mv (.t 12))]))
 .skip))
 (.seq
 (.seq
 (rg [
 o 13 (.mv (.t 0)),
 o 14 (.bin .geq (.t 13) (kx (.d (.i .u64 256))))])
 (.cond (.t 14)
 (.seq
 (rg [
 o 15 (.mv (.t 0)),
 o 16 (.bin .shr (.t 15) (kx (.d (.i .u64 8)))),
 o 0 (.mv (.t 16))])
 (rg [
 o 17 (.mv (.t 2)),
 o 18 (.bin .add (.t 17) (kc 8)),
 o 2 (.mv (.t 18))]))
 .skip))
 (.seq
 (rg [
 o 19 (.mv (.t 2)),
 o 20 (.mv (.t 0)),
 o 21 (.cvi .u8 (.t 20)),
 o 22 (.ixs (ks [0, 1, 2, 2, 3, 3, 3, 3, 4, 4, 4, 4, 4, 4, 4, 4, 5, 5, 5, 5, 5, 5, 5, 5, 5, 5, 5, 5, 5, 5, 5, 5, 6, 6, 6, 6, 6, 6, 6, 6, 6, 6, 6, 6, 6, 6, 6, 6, 6, 6, 6, 6, 6, 6, 6, 6, 6, 6, 6, 6, 6, 6, 6, 6, 7, 7, 7, 7, 7, 7, 7, 7, 7, 7, 7, 7, 7, 7, 7, 7, 7, 7, 7, 7, 7, 7, 7, 7, 7, 7, 7, 7, 7, 7, 7, 7, 7, 7, 7, 7, 7, 7, 7, 7, 7, 7, 7, 7, 7, 7, 7, 7, 7, 7, 7, 7, 7, 7, 7, 7, 7, 7, 7, 7, 7, 7, 7, 7, 8, 8, 8, 8, 8, 8, 8, 8, 8, 8, 8, 8, 8, 8, 8, 8, 8, 8, 8, 8, 8, 8, 8, 8, 8, 8, 8, 8, 8, 8, 8, 8, 8, 8, 8, 8, 8, 8, 8, 8, 8, 8, 8, 8, 8, 8, 8, 8, 8, 8, 8, 8, 8, 8, 8, 8, 8, 8, 8, 8, 8, 8, 8, 8, 8, 8, 8, 8, 8, 8, 8, 8, 8, 8, 8, 8, 8, 8, 8, 8, 8, 8, 8, 8, 8, 8, 8, 8, 8, 8, 8, 8, 8, 8, 8, 8, 8, 8, 8, 8, 8, 8, 8, 8, 8, 8, 8, 8, 8, 8, 8, 8, 8, 8, 8, 8, 8, 8, 8, 8, 8, 8, 8, 8, 8, 8, 8, 8]) (.t 21)),
 o 23 (.cvi .i64 (.t 22)),
 o 24 (.bin .add (.t 19) (.t 23)),
 o 2 (.mv (.t 24))])
 .ret))))),
 [.t 2], false⟩
def ans : List (Nat × Ann) := [
 (3, ⟨[], [], false, false⟩),
 (4, ⟨[], [[1, 2, 7, 9, 13]], false, false⟩),
 (5, ⟨[], [], false, false⟩),
 (6, ⟨[], [[0, 1, 4, 6, 8]], false, false⟩),
 (7, ⟨[], [], false, false⟩),
 (8, ⟨[(6, 18, 8), (19, 2, 9), (14, 4, 8), (18, 3, 8), (14, 5, 30), (18, 4, 30), (10, 0, 102), (4, 12, 9)], [[3, 6, 10, 13, 15, 84, 85, 86]], false, false⟩),
 (9, ⟨[(5, 3, 9)], [[3, 6, 10, 11, 12, 13]], false, false⟩),
 (10, ⟨[], [[2, 3, 5]], false, false⟩),
 (11, ⟨[], [[2, 3, 5]], false, false⟩),
 (12, ⟨[(0, 0, 2), (3, 0, 2), (4, 0, 102), (9, 0, 2), (12, 0, 2), (16, 0, 2), (15, 6, 9)], [[0, 4, 5, 7, 8]], false, false⟩),
 (13, ⟨[], [[1, 2, 4, 6], [1, 2, 4, 6, 7, 8]], false, false⟩),
 (14, ⟨[], [[0, 1, 5]], false, false⟩),
 (15, ⟨[(0, 1, 2)], [[1, 2, 5, 7]], false, false⟩),
 (16, ⟨[], [], false, false⟩),
 (17, ⟨[(0, 0, 102), (3, 0, 102), (2, 3, 2)], [[0, 1, 5, 6], [0, 1, 5, 7]], false, false⟩),
 (18, ⟨[], [], false, false⟩),
 (19, ⟨[], [], false, false⟩),
 (20, ⟨[(23, 2, 9)], [[1, 2, 6, 7, 11, 12, 14]], false, false⟩),
 (21, ⟨[(1, 0, 103)], [[1, 2, 4, 5, 6]], false, false⟩),
 (22, ⟨[(5, 2, 9)], [], false, false⟩),
 (23, ⟨[(18, 2, 9)], [[3, 6, 8, 12, 13, 14, 15]], false, false⟩),
 (24, ⟨[], [], false, false⟩),
 (25, ⟨[], [], false, false⟩),
 (26, ⟨[(0, 0, 2), (3, 0, 2), (4, 0, 102), (9, 0, 2), (14, 0, 2), (13, 6, 9)], [[0, 5, 7, 23, 24]], false, false⟩),
 (27, ⟨[], [[3, 6, 7, 8]], false, false⟩),
 (28, ⟨[], [], false, false⟩),
 (29, ⟨[], [], false, false⟩),
 (30, ⟨[(7, 3, 9)], [[2, 4, 10, 11, 12]], false, false⟩),
 (31, ⟨[], [], false, false⟩),
 (32, ⟨[(1, 3, 8)], [], false, false⟩),
 (33, ⟨[], [], false, false⟩),
 (34, ⟨[(1, 3, 8)], [], false, false⟩),
 (35, ⟨[], [], false, false⟩),
 (36, ⟨[(1, 2, 8)], [], false, false⟩),
 (37, ⟨[], [], false, false⟩),
 (38, ⟨[(1, 2, 9)], [], false, false⟩),
 (39, ⟨[(2, 2, 8)], [], false, false⟩),
 (40, ⟨[], [[2, 3, 18, 19, 20]], false, false⟩),
 (41, ⟨[], [], true, false⟩),
 (42, ⟨[], [], false, false⟩),
 (43, ⟨[], [], false, false⟩),
 (44, ⟨[(6, 4, 9), (14, 5, 9)], [], false, false⟩),
 (45, ⟨[], [[1, 2, 3, 4]], false, false⟩),
 (46, ⟨[], [], false, false⟩),
 (47, ⟨[], [], false, false⟩),
 (48, ⟨[], [], false, false⟩),
 (49, ⟨[], [], false, false⟩),
 (50, ⟨[], [[0, 1, 7, 8, 9]], false, false⟩),
 (51, ⟨[], [[0, 3]], false, false⟩),
 (52, ⟨[(0, 2, 2)], [], false, false⟩),
 (53, ⟨[], [], false, false⟩),
 (54, ⟨[(12, 3, 9)], [], false, false⟩),
 (55, ⟨[], [], false, false⟩),
 (56, ⟨[], [], false, false⟩),
 (57, ⟨[], [], false, false⟩),
 (58, ⟨[], [], false, false⟩),
 (59, ⟨[], [], false, false⟩),
 (60, ⟨[], [], false, false⟩),
 (61, ⟨[(4, 0, 101)], [[0, 2, 4, 7, 8], [0, 2, 4, 8, 12, 13]], false, false⟩),
 (62, ⟨[(0, 2, 2), (1, 0, 103), (8, 0, 2), (11, 0, 2)], [[2, 3, 7, 8, 9]], false, false⟩),
 (63, ⟨[], [[1, 2, 4, 6, 7], [1, 2, 4, 6, 7, 8, 9]], false, false⟩),
 (64, ⟨[], [], false, false⟩),
 (65, ⟨[], [], false, false⟩),
 (66, ⟨[], [], false, false⟩),
 (67, ⟨[], [[0, 1, 2, 7]], false, false⟩),
 (68, ⟨[], [[0, 3, 4]], false, false⟩),
 (69, ⟨[], [], false, false⟩),
 (70, ⟨[], [[0, 1, 7, 8]], false, false⟩),
 (71, ⟨[], [[0, 5, 6, 7]], false, false⟩),
 (72, ⟨[], [[1, 5, 6, 12, 13]], false, false⟩),
 (73, ⟨[], [[0, 1, 5, 6]], false, false⟩),
 (74, ⟨[], [[2, 4, 10, 11, 12]], false, false⟩),
 (75, ⟨[(3, 3, 0), (4, 2, 8), (3, 2, 8)], [], false, false⟩),
 (76, ⟨[(5, 5, 8), (0, 0, 2), (2, 0, 2), (4, 0, 2), (5, 6, 2)], [], false, false⟩),
 (77, ⟨[], [], false, false⟩),
 (78, ⟨[], [], true, true⟩),
 (79, ⟨[(0, 0, 2), (2, 0, 2), (4, 0, 2)], [], false, false⟩),
 (80, ⟨[], [[3, 7, 8, 9]], false, false⟩),
 (81, ⟨[(0, 0, 2), (2, 0, 2)], [], false, false⟩),
 (82, ⟨[(6, 1, 8), (7, 1, 8), (9, 2, 8), (10, 1, 8), (11, 1, 8), (12, 1, 8)], [], false, false⟩),
 (83, ⟨[], [], false, false⟩),
 (84, ⟨[(1, 2, 8)], [], false, false⟩),
 (85, ⟨[], [[1, 5, 6], [1, 5, 6, 7]], false, false⟩),
 (86, ⟨[], [[2, 3, 6, 8]], false, false⟩),
 (87, ⟨[], [[1, 2, 5]], false, false⟩),
 (88, ⟨[], [], false, false⟩),
 (89, ⟨[(0, 0, 2), (1, 0, 103)], [[0, 1, 5, 6]], false, false⟩),
 (90, ⟨[], [[0, 3, 4]], false, false⟩),
 (91, ⟨[], [[0, 3]], false, false⟩),
 (92, ⟨[(0, 0, 2)], [], false, false⟩),
 (93, ⟨[], [], false, false⟩),
 (94, ⟨[], [], false, false⟩),
 (95, ⟨[], [], false, false⟩),
 (96, ⟨[], [], false, false⟩),
 (97, ⟨[], [[1, 3, 4]], false, false⟩),
 (98, ⟨[(0, 1, 103)], [[0, 3, 5]], false, false⟩),
 (99, ⟨[], [], false, false⟩),
 (100, ⟨[], [[1, 4, 5]], false, false⟩),
 (101, ⟨[(0, 1, 2), (1, 0, 101)], [[1, 3, 4]], false, false⟩),
 (102, ⟨[], [], false, false⟩),
 (103, ⟨[], [], false, false⟩),
 (104, ⟨[], [], false, false⟩),
 (105, ⟨[], [[0, 1, 4], [0, 1, 2, 3, 4, 9]], false, false⟩),
 (106, ⟨[], [], true, true⟩),
 (107, ⟨[(1, 2, 8)], [], false, false⟩),
 (109, ⟨[], [], false, false⟩),
 (110, ⟨[], [[1, 4, 19, 20, 21]], false, false⟩),
 (111, ⟨[], [], false, false⟩),
 (112, ⟨[(1, 2, 8)], [], false, false⟩),
 (113, ⟨[(1, 2, 8)], [], false, false⟩),
 (114, ⟨[], [], false, false⟩),
 (115, ⟨[], [], false, false⟩),
 (116, ⟨[(2, 2, 8)], [], false, false⟩),
 (117, ⟨[(1, 2, 8)], [], false, false⟩),
 (118, ⟨[], [], false, false⟩),
 (119, ⟨[(1, 3, 8)], [], false, false⟩),
 (120, ⟨[(3, 4, 8), (0, 0, 2), (2, 0, 2), (3, 5, 2)], [], false, false⟩),
 (121, ⟨[], [], true, true⟩),
 (122, ⟨[(0, 0, 2), (0, 1, 2), (2, 0, 2), (2, 1, 2), (3, 0, 103), (4, 0, 101)], [[0, 1, 8, 9, 10]], false, false⟩),
 (123, ⟨[], [], false, false⟩),
 (124, ⟨[], [[0, 1, 5]], false, false⟩),
 (125, ⟨[], [[1, 3]], false, false⟩),
 (126, ⟨[], [[0, 3, 4]], false, false⟩),
 (127, ⟨[], [[0, 3, 4]], false, false⟩),
 (128, ⟨[], [[0, 1, 2, 8, 9, 10]], false, false⟩),
 (129, ⟨[], [], false, false⟩),
 (130, ⟨[], [], false, false⟩),
 (131, ⟨[], [[1, 3, 27, 28, 29]], false, false⟩),
 (132, ⟨[], [[0, 3, 9, 10]], false, false⟩),
 (133, ⟨[(4, 4, 9)], [], false, false⟩),
 (134, ⟨[], [], false, false⟩),
 (135, ⟨[], [], false, false⟩),
 (136, ⟨[], [], false, false⟩),
 (137, ⟨[], [], false, false⟩),
 (138, ⟨[(8, 2, 8), (7, 4, 8), (12, 4, 8), (0, 0, 2), (2, 0, 2), (4, 0, 2), (12, 5, 2)], [], false, false⟩),
 (139, ⟨[], [], false, false⟩),
 (140, ⟨[], [[0, 2, 3]], false, false⟩),
 (141, ⟨[], [], false, false⟩),
 (142, ⟨[], [], false, false⟩),
 (143, ⟨[], [], false, false⟩)]
theorem s3 : compS Tryz.prog 3 (anOf ans 3) = some a3 := by kernel_rfl
theorem s4 : compS Tryz.prog 4 (anOf ans 4) = some a4 := by kernel_rfl
theorem s5 : compS Tryz.prog 5 (anOf ans 5) = some a5 := by kernel_rfl
theorem s6 : compS Tryz.prog 6 (anOf ans 6) = some a6 := by kernel_rfl
theorem s7 : compS Tryz.prog 7 (anOf ans 7) = some a7 := by kernel_rfl
theorem s8 : compS Tryz.prog 8 (anOf ans 8) = some a8 := by kernel_rfl
theorem s9 : compS Tryz.prog 9 (anOf ans 9) = some a9 := by kernel_rfl
theorem s10 : compS Tryz.prog 10 (anOf ans 10) = some a10 := by kernel_rfl
theorem s11 : compS Tryz.prog 11 (anOf ans 11) = some a11 := by kernel_rfl
theorem s12 : compS Tryz.prog 12 (anOf ans 12) = some a12 := by kernel_rfl
theorem s13 : compS Tryz.prog 13 (anOf ans 13) = some a13 := by kernel_rfl
theorem s15 : compS Tryz.prog 15 (anOf ans 15) = some a15 := by kernel_rfl
theorem s16 : compS Tryz.prog 16 (anOf ans 16) = some a16 := by kernel_rfl
theorem s17 : compS Tryz.prog 17 (anOf ans 17) = some a17 := by kernel_rfl
theorem s18 : compS Tryz.prog 18 (anOf ans 18) = some a18 := by kernel_rfl
theorem s19 : compS Tryz.prog 19 (anOf ans 19) = some a19 := by kernel_rfl
theorem s22 : compS Tryz.prog 22 (anOf ans 22) = some a22 := by kernel_rfl
theorem s23 : compS Tryz.prog 23 (anOf ans 23) = some a23 := by kernel_rfl
theorem s24 : compS Tryz.prog 24 (anOf ans 24) = some a24 := by kernel_rfl
theorem s25 : compS Tryz.prog 25 (anOf ans 25) = some a25 := by kernel_rfl
theorem s26 : compS Tryz.prog 26 (anOf ans 26) = some a26 := by kernel_rfl
theorem s27 : compS Tryz.prog 27 (anOf ans 27) = some a27 := by kernel_rfl
theorem s28 : compS Tryz.prog 28 (anOf ans 28) = some a28 := by kernel_rfl
theorem s29 : compS Tryz.prog 29 (anOf ans 29) = some a29 := by kernel_rfl
theorem s30 : compS Tryz.prog 30 (anOf ans 30) = some a30 := by kernel_rfl
theorem s31 : compS Tryz.prog 31 (anOf ans 31) = some a31 := by kernel_rfl
theorem s32 : compS Tryz.prog 32 (anOf ans 32) = some a32 := by kernel_rfl
theorem s33 : compS Tryz.prog 33 (anOf ans 33) = some a33 := by kernel_rfl
theorem s34 : compS Tryz.prog 34 (anOf ans 34) = some a34 := by kernel_rfl
theorem s35 : compS Tryz.prog 35 (anOf ans 35) = some a35 := by kernel_rfl
theorem s36 : compS Tryz.prog 36 (anOf ans 36) = some a36 := by kernel_rfl
theorem s37 : compS Tryz.prog 37 (anOf ans 37) = some a37 := by kernel_rfl
theorem s38 : compS Tryz.prog 38 (anOf ans 38) = some a38 := by kernel_rfl
theorem s39 : compS Tryz.prog 39 (anOf ans 39) = some a39 := by kernel_rfl
theorem s40 : compS Tryz.prog 40 (anOf ans 40) = some a40 := by kernel_rfl
theorem s41 : compS Tryz.prog 41 (anOf ans 41) = some a41 := by kernel_rfl
theorem s42 : compS Tryz.prog 42 (anOf ans 42) = some a42 := by kernel_rfl
theorem s43 : compS Tryz.prog 43 (anOf ans 43) = some a43 := by kernel_rfl
theorem s44 : compS Tryz.prog 44 (anOf ans 44) = some a44 := by kernel_rfl
theorem s45 : compS Tryz.prog 45 (anOf ans 45) = some a45 := by kernel_rfl
theorem s46 : compS Tryz.prog 46 (anOf ans 46) = some a46 := by kernel_rfl
theorem s47 : compS Tryz.prog 47 (anOf ans 47) = some a47 := by kernel_rfl
theorem s48 : compS Tryz.prog 48 (anOf ans 48) = some a48 := by kernel_rfl
theorem s49 : compS Tryz.prog 49 (anOf ans 49) = some a49 := by kernel_rfl
theorem s50 : compS Tryz.prog 50 (anOf ans 50) = some a50 := by kernel_rfl
theorem s51 : compS Tryz.prog 51 (anOf ans 51) = some a51 := by kernel_rfl
theorem s52 : compS Tryz.prog 52 (anOf ans 52) = some a52 := by kernel_rfl
theorem s53 : compS Tryz.prog 53 (anOf ans 53) = some a53 := by kernel_rfl
theorem s54 : compS Tryz.prog 54 (anOf ans 54) = some a54 := by kernel_rfl
theorem s55 : compS Tryz.prog 55 (anOf ans 55) = some a55 := by kernel_rfl
theorem s56 : compS Tryz.prog 56 (anOf ans 56) = some a56 := by kernel_rfl
theorem s57 : compS Tryz.prog 57 (anOf ans 57) = some a57 := by kernel_rfl
theorem s58 : compS Tryz.prog 58 (anOf ans 58) = some a58 := by kernel_rfl
theorem s59 : compS Tryz.prog 59 (anOf ans 59) = some a59 := by kernel_rfl
theorem s65 : compS Tryz.prog 65 (anOf ans 65) = some a65 := by kernel_rfl
theorem s66 : compS Tryz.prog 66 (anOf ans 66) = some a66 := by kernel_rfl
theorem s67 : compS Tryz.prog 67 (anOf ans 67) = some a67 := by kernel_rfl
theorem s68 : compS Tryz.prog 68 (anOf ans 68) = some a68 := by kernel_rfl
theorem s69 : compS Tryz.prog 69 (anOf ans 69) = some a69 := by kernel_rfl
theorem s70 : compS Tryz.prog 70 (anOf ans 70) = some a70 := by kernel_rfl
theorem s71 : compS Tryz.prog 71 (anOf ans 71) = some a71 := by kernel_rfl
theorem s72 : compS Tryz.prog 72 (anOf ans 72) = some a72 := by kernel_rfl
theorem s73 : compS Tryz.prog 73 (anOf ans 73) = some a73 := by kernel_rfl
theorem s74 : compS Tryz.prog 74 (anOf ans 74) = some a74 := by kernel_rfl
theorem s75 : compS Tryz.prog 75 (anOf ans 75) = some a75 := by kernel_rfl
theorem s76 : compS Tryz.prog 76 (anOf ans 76) = some a76 := by kernel_rfl
theorem s77 : compS Tryz.prog 77 (anOf ans 77) = some a77 := by kernel_rfl
theorem s79 : compS Tryz.prog 79 (anOf ans 79) = some a79 := by kernel_rfl
theorem s80 : compS Tryz.prog 80 (anOf ans 80) = some a80 := by kernel_rfl
theorem s81 : compS Tryz.prog 81 (anOf ans 81) = some a81 := by kernel_rfl
theorem s82 : compS Tryz.prog 82 (anOf ans 82) = some a82 := by kernel_rfl
theorem s83 : compS Tryz.prog 83 (anOf ans 83) = some a83 := by kernel_rfl
theorem s84 : compS Tryz.prog 84 (anOf ans 84) = some a84 := by kernel_rfl
theorem s85 : compS Tryz.prog 85 (anOf ans 85) = some a85 := by kernel_rfl
theorem s86 : compS Tryz.prog 86 (anOf ans 86) = some a86 := by kernel_rfl
theorem s87 : compS Tryz.prog 87 (anOf ans 87) = some a87 := by kernel_rfl
theorem s88 : compS Tryz.prog 88 (anOf ans 88) = some a88 := by kernel_rfl
theorem s89 : compS Tryz.prog 89 (anOf ans 89) = some a89 := by kernel_rfl
theorem s90 : compS Tryz.prog 90 (anOf ans 90) = some a90 := by kernel_rfl
theorem s91 : compS Tryz.prog 91 (anOf ans 91) = some a91 := by kernel_rfl
theorem s92 : compS Tryz.prog 92 (anOf ans 92) = some a92 := by kernel_rfl
theorem s93 : compS Tryz.prog 93 (anOf ans 93) = some a93 := by kernel_rfl
theorem s94 : compS Tryz.prog 94 (anOf ans 94) = some a94 := by kernel_rfl
theorem s95 : compS Tryz.prog 95 (anOf ans 95) = some a95 := by kernel_rfl
theorem s96 : compS Tryz.prog 96 (anOf ans 96) = some a96 := by kernel_rfl
theorem s97 : compS Tryz.prog 97 (anOf ans 97) = some a97 := by kernel_rfl
theorem s98 : compS Tryz.prog 98 (anOf ans 98) = some a98 := by kernel_rfl
theorem s99 : compS Tryz.prog 99 (anOf ans 99) = some a99 := by kernel_rfl
theorem s100 : compS Tryz.prog 100 (anOf ans 100) = some a100 := by kernel_rfl
theorem s102 : compS Tryz.prog 102 (anOf ans 102) = some a102 := by kernel_rfl
theorem s103 : compS Tryz.prog 103 (anOf ans 103) = some a103 := by kernel_rfl
theorem s104 : compS Tryz.prog 104 (anOf ans 104) = some a104 := by kernel_rfl
theorem s105 : compS Tryz.prog 105 (anOf ans 105) = some a105 := by kernel_rfl
theorem s107 : compS Tryz.prog 107 (anOf ans 107) = some a107 := by kernel_rfl
theorem s110 : compS Tryz.prog 110 (anOf ans 110) = some a110 := by kernel_rfl
theorem s111 : compS Tryz.prog 111 (anOf ans 111) = some a111 := by kernel_rfl
theorem s112 : compS Tryz.prog 112 (anOf ans 112) = some a112 := by kernel_rfl
theorem s113 : compS Tryz.prog 113 (anOf ans 113) = some a113 := by kernel_rfl
theorem s114 : compS Tryz.prog 114 (anOf ans 114) = some a114 := by kernel_rfl
theorem s115 : compS Tryz.prog 115 (anOf ans 115) = some a115 := by kernel_rfl
theorem s116 : compS Tryz.prog 116 (anOf ans 116) = some a116 := by kernel_rfl
theorem s117 : compS Tryz.prog 117 (anOf ans 117) = some a117 := by kernel_rfl
theorem s118 : compS Tryz.prog 118 (anOf ans 118) = some a118 := by kernel_rfl
theorem s119 : compS Tryz.prog 119 (anOf ans 119) = some a119 := by kernel_rfl
theorem s120 : compS Tryz.prog 120 (anOf ans 120) = some a120 := by kernel_rfl
theorem s122 : compS Tryz.prog 122 (anOf ans 122) = some a122 := by kernel_rfl
theorem s123 : compS Tryz.prog 123 (anOf ans 123) = some a123 := by kernel_rfl
theorem s124 : compS Tryz.prog 124 (anOf ans 124) = some a124 := by kernel_rfl
theorem s125 : compS Tryz.prog 125 (anOf ans 125) = some a125 := by kernel_rfl
theorem s126 : compS Tryz.prog 126 (anOf ans 126) = some a126 := by kernel_rfl
theorem s127 : compS Tryz.prog 127 (anOf ans 127) = some a127 := by kernel_rfl
theorem s128 : compS Tryz.prog 128 (anOf ans 128) = some a128 := by kernel_rfl
theorem s129 : compS Tryz.prog 129 (anOf ans 129) = some a129 := by kernel_rfl
theorem s131 : compS Tryz.prog 131 (anOf ans 131) = some a131 := by kernel_rfl
theorem s132 : compS Tryz.prog 132 (anOf ans 132) = some a132 := by kernel_rfl
theorem s133 : compS Tryz.prog 133 (anOf ans 133) = some a133 := by kernel_rfl
theorem s134 : compS Tryz.prog 134 (anOf ans 134) = some a134 := by kernel_rfl
theorem s135 : compS Tryz.prog 135 (anOf ans 135) = some a135 := by kernel_rfl
theorem s136 : compS Tryz.prog 136 (anOf ans 136) = some a136 := by kernel_rfl
theorem s137 : compS Tryz.prog 137 (anOf ans 137) = some a137 := by kernel_rfl
theorem s138 : compS Tryz.prog 138 (anOf ans 138) = some a138 := by kernel_rfl
theorem s139 : compS Tryz.prog 139 (anOf ans 139) = some a139 := by kernel_rfl
theorem s141 : compS Tryz.prog 141 (anOf ans 141) = some a141 := by kernel_rfl
theorem s142 : compS Tryz.prog 142 (anOf ans 142) = some a142 := by kernel_rfl
theorem s143 : compS Tryz.prog 143 (anOf ans 143) = some a143 := by kernel_rfl
def lib : Lib := ⟨[(106, 3, 40)], [(78, 3, 40)], [(121, 3)]⟩
noncomputable abbrev call : Phi := callU (progOf Tryz.prog (anOf ans)) (libPr lib)
theorem c106 (rows : List (List D)) (h1 : okRows 3 rows = true) (h2 : rows.length * 40 ≤ 140737488355328) (h3 : rows.length ≤ 9223372036854775807) (H : Hp) : callIso call 106 [.one (.d (.l rows))] H = some (.one (.sl (H.length + 1) 3 0 rows.length), H ++ [.dead, .arr 3 rows 0]) := clone_callL rfl rfl rfl rfl rows h1 h2 h3 H
end Go.Proofs.YthlnpioogbmogaaGreat

