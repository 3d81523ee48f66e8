/- The abstract machine's code of the program's functions: printed by a program of this workplace. -/
import Derived.Test.YtgklpnendmhbjaaGreatDoorA1
import Derived.Test.YtgklpnendmhbjaaGreatDoorA5
import Derived.Test.YtgklpnendmhbjaaGreatDoorCa
set_option linter.unusedSimpArgs false
set_option linter.unusedVariables false
set_option linter.unusedSectionVars false
set_option linter.unnecessarySimpa false
namespace Am
open Go
set_option maxRecDepth 100000
def c168 : AFun := .code 21 [] <|
 q9 [
 y9 2 (.box 155 (.t 0))] <|
 .region true [
 y9 4 (.mv (.t 1)),
 y9 5 (.load true 3 (.t 2)),
 y9 6 (.call 206 [(.t 5),(.c (.int .i64 0))]),
 y9 7 (.field 0 true 3 (.t 6)),
 y9 8 (.field 1 false 1 (.t 7)),
 ⟨(some 9),.load true 3 (.t 2),none,[1,2]⟩,
 y9 10 (.call 206 [(.t 9),(.c (.int .i64 1))]),
 y9 11 (.field 0 true 3 (.t 10)),
 y9 12 (.field 1 false 1 (.t 11)),
 y9 13 (.faddr 0 (.t 2)),
 y9 14 (.faddr 2 (.t 13)),
 ⟨(some 15),.load false 1 (.t 14),none,[1,2,5,6]⟩,
 y9 16 (.len false (.t 15)),
 y9 17 (.bin .gtr (.t 16) (.c (.int .i64 1))),
 y9 18 (.build [(.str []),(.str []),(.bool false)] [(0,1,(.t 8)),(1,1,(.t 12)),(2,1,(.t 17))]),
 y9 19 (.nilck (.t 4)),
 y9 20 (.faddr 25 (.t 19)),
 w9 (.store 3 (.t 20) (.t 18))]
def c169 : AFun := .code 3 [.tmp 0] <|
 q9 [
 y9 0 (.mv (.c .junk))] <|
 q9 [
 y9 1 (.mkmap),
 w9 (.insert 1 (.t 1) (.c (.int .i64 0)) (.c (.func 212 []))),
 w9 (.insert 1 (.t 1) (.c (.int .i64 2)) (.c (.func 213 []))),
 w9 (.insert 1 (.t 1) (.c (.int .i64 3)) (.c (.func 214 []))),
 w9 (.insert 1 (.t 1) (.c (.int .i64 6)) (.c (.func 215 []))),
 w9 (.insert 1 (.t 1) (.c (.int .i64 8)) (.c (.func 216 []))),
 w9 (.insert 1 (.t 1) (.c (.int .i64 10)) (.c (.func 217 []))),
 w9 (.insert 1 (.t 1) (.c (.int .i64 12)) (.c (.func 218 []))),
 w9 (.insert 1 (.t 1) (.c (.int .i64 14)) (.c (.func 219 []))),
 w9 (.insert 1 (.t 1) (.c (.int .i64 16)) (.c (.func 220 []))),
 w9 (.insert 1 (.t 1) (.c (.int .i64 23)) (.c (.func 221 []))),
 y9 2 (.mv (.t 1)),
 y9 0 (.mv (.t 2))] <|
 .ret
def c170 : AFun := .code 40 [.tmp 4] <|
 q9 [
 y9 2 (.box 45 (.t 0)),
 y9 3 (.box 45 (.t 1)),
 y9 4 (.mv (.c (.bool false)))] <|
 .seq (q9 [
 y9 5 (.faddr 0 (.t 2)),
 y9 6 (.load false 1 (.t 5)),
 y9 7 (.bin .eql (.t 6) (.c (.int .i64 1))),
 y9 8 (.mv (.t 7)),
 ⟨(some 9),.faddr 0 (.t 3),some (8,true),[]⟩,
 ⟨(some 10),.load false 1 (.t 9),some (8,true),[]⟩,
 ⟨(some 11),.bin .eql (.t 10) (.c (.int .i64 1)),some (8,true),[]⟩,
 y9 12 (.pick (.t 8) (.t 11) (.c (.bool false))),
 y9 13 (.mv (.t 12)),
 ⟨(some 14),.faddr 2 (.t 2),some (13,true),[]⟩,
 ⟨(some 15),.load false 1 (.t 14),some (13,true),[]⟩,
 ⟨(some 16),.len false (.t 15),some (13,true),[]⟩,
 ⟨(some 17),.faddr 2 (.t 3),some (13,true),[]⟩,
 ⟨(some 18),.load false 1 (.t 17),some (13,true),[]⟩,
 ⟨(some 19),.len false (.t 18),some (13,true),[]⟩,
 ⟨(some 20),.bin .add (.t 16) (.t 19),some (13,true),[]⟩,
 ⟨(some 21),.bin .eql (.t 20) (.c (.int .i64 0)),some (13,true),[]⟩,
 y9 22 (.pick (.t 13) (.t 21) (.c (.bool false)))] <|
 .cond (.t 22) (.seq (.region true [
 y9 23 (.faddr 1 (.t 2)),
 y9 24 (.load false 1 (.t 23)),
 y9 25 (.len true (.t 24)),
 y9 26 (.faddr 1 (.t 3)),
 ⟨(some 27),.load false 1 (.t 26),none,[1]⟩,
 y9 28 (.len true (.t 27)),
 y9 29 (.bin .eql (.t 25) (.t 28)),
 y9 30 (.mv (.t 29)),
 ⟨(some 31),.load true 3 (.t 2),some (30,true),[]⟩,
 ⟨(some 32),.call 171 [(.t 31)],some (30,true),[]⟩,
 ⟨(some 33),.load true 3 (.t 3),some (30,true),[8,9]⟩,
 ⟨(some 34),.call 171 [(.t 33)],some (30,true),[]⟩,
 ⟨(some 35),.eq false .prim false (.t 32) (.t 34),some (30,true),[]⟩,
 y9 36 (.pick (.t 30) (.t 35) (.c (.bool false))),
 y9 4 (.mv (.t 36))]) <|
 .ret) <|
 .skip) <|
 q9 [
 y9 37 (.load true 3 (.t 2)),
 y9 38 (.load true 3 (.t 3)),
 y9 39 (.call 12 [(.t 37),(.t 38)]),
 y9 4 (.mv (.t 39))] <|
 .ret
def c171 : AFun := .code 16 [.tmp 2] <|
 q9 [
 y9 1 (.box 45 (.t 0)),
 y9 2 (.mv (.c (.bool false)))] <|
 q9 [
 y9 6 (.faddr 1 (.t 1)),
 y9 7 (.load false 1 (.t 6)),
 y9 8 (.call 222 [(.t 7)]),
 y9 5 (.mv (.t 8)),
 y9 9 (.extract 0 (.t 5)),
 y9 10 (.extract 1 (.t 5)),
 y9 3 (.mv (.t 9)),
 y9 4 (.mv (.t 10))] <|
 q9 [
 y9 11 (.mv (.t 4)),
 y9 12 (.bin .eql (.t 11) (.c (.int .i64 0))),
 y9 13 (.mv (.t 12)),
 ⟨(some 14),.mv (.t 3),some (13,true),[]⟩,
 y9 15 (.pick (.t 13) (.t 14) (.c (.bool false))),
 y9 2 (.mv (.t 15))] <|
 .ret
def c172 : AFun := .code 45 [.tmp 4] <|
 q9 [
 y9 2 (.box 27 (.t 0)),
 y9 3 (.box 27 (.t 1)),
 y9 4 (.mv (.c (.bool false)))] <|
 q9 [
 y9 5 (.faddr 0 (.t 2)),
 y9 6 (.load false 1 (.t 5)),
 y9 7 (.faddr 0 (.t 3)),
 y9 8 (.load false 1 (.t 7)),
 y9 9 (.bin .eql (.t 6) (.t 8)),
 y9 10 (.mv (.t 9)),
 ⟨(some 11),.faddr 1 (.t 2),some (10,true),[]⟩,
 ⟨(some 12),.load false 1 (.t 11),some (10,true),[]⟩,
 ⟨(some 13),.faddr 1 (.t 3),some (10,true),[]⟩,
 ⟨(some 14),.load false 1 (.t 13),some (10,true),[]⟩,
 ⟨(some 15),.bin .eql (.t 12) (.t 14),some (10,true),[]⟩,
 y9 16 (.pick (.t 10) (.t 15) (.c (.bool false))),
 y9 17 (.mv (.t 16)),
 ⟨(some 18),.faddr 2 (.t 2),some (17,true),[]⟩,
 ⟨(some 19),.load false 1 (.t 18),some (17,true),[]⟩,
 ⟨(some 20),.faddr 2 (.t 3),some (17,true),[]⟩,
 ⟨(some 21),.load false 1 (.t 20),some (17,true),[]⟩,
 ⟨(some 22),.bin .eql (.t 19) (.t 21),some (17,true),[]⟩,
 y9 23 (.pick (.t 17) (.t 22) (.c (.bool false))),
 y9 24 (.mv (.t 23)),
 ⟨(some 25),.faddr 4 (.t 2),some (24,true),[]⟩,
 ⟨(some 26),.load false 1 (.t 25),some (24,true),[]⟩,
 ⟨(some 27),.faddr 4 (.t 3),some (24,true),[]⟩,
 ⟨(some 28),.load false 1 (.t 27),some (24,true),[]⟩,
 ⟨(some 29),.bin .eql (.t 26) (.t 28),some (24,true),[]⟩,
 y9 30 (.pick (.t 24) (.t 29) (.c (.bool false))),
 y9 31 (.mv (.t 30)),
 ⟨(some 32),.faddr 3 (.t 2),some (31,true),[]⟩,
 ⟨(some 33),.load false 1 (.t 32),some (31,true),[]⟩,
 ⟨(some 34),.faddr 3 (.t 3),some (31,true),[]⟩,
 ⟨(some 35),.load false 1 (.t 34),some (31,true),[]⟩,
 ⟨(some 36),.call 223 [(.t 33),(.t 35)],some (31,true),[]⟩,
 y9 37 (.pick (.t 31) (.t 36) (.c (.bool false))),
 y9 38 (.mv (.t 37)),
 ⟨(some 39),.faddr 5 (.t 2),some (38,true),[]⟩,
 ⟨(some 40),.load false 1 (.t 39),some (38,true),[]⟩,
 ⟨(some 41),.faddr 5 (.t 3),some (38,true),[]⟩,
 ⟨(some 42),.load false 1 (.t 41),some (38,true),[]⟩,
 ⟨(some 43),.call 224 [(.t 40),(.t 42),(.c (.func 172 []))],some (38,true),[]⟩,
 y9 44 (.pick (.t 38) (.t 43) (.c (.bool false))),
 y9 4 (.mv (.t 44))] <|
 .ret
def c173 : AFun := .code 94 [] <|
 .scope <| .seq (.skip) <|
 .seq (.region true [
 y9 7 (.faddr 0 (.t 1)),
 y9 8 (.faddr 0 (.t 7)),
 y9 9 (.load false 1 (.t 8)),
 y9 10 (.bin .neq (.t 9) (.c (.int .i64 0))),
 y9 11 (.mv (.t 10)),
 ⟨(some 12),.faddr 0 (.t 1),some (11,false),[]⟩,
 ⟨(some 13),.faddr 34 (.t 12),some (11,false),[]⟩,
 ⟨(some 14),.load false 1 (.t 13),some (11,false),[]⟩,
 ⟨(some 15),.len false (.t 14),some (11,false),[]⟩,
 ⟨(some 16),.bin .gtr (.t 15) (.c (.int .i64 0)),some (11,false),[]⟩,
 y9 17 (.pick (.t 11) (.c (.bool true)) (.t 16)),
 y9 18 (.mv (.t 17)),
 ⟨(some 19),.faddr 0 (.t 1),some (18,false),[]⟩,
 ⟨(some 20),.faddr 32 (.t 19),some (18,false),[]⟩,
 ⟨(some 21),.load false 1 (.t 20),some (18,false),[]⟩,
 ⟨(some 22),.len false (.t 21),some (18,false),[]⟩,
 ⟨(some 23),.bin .gtr (.t 22) (.c (.int .i64 0)),some (18,false),[]⟩,
 y9 24 (.pick (.t 18) (.c (.bool true)) (.t 23)),
 y9 25 (.mv (.t 24)),
 ⟨(some 26),.load false 1 (.t 2),some (25,false),[]⟩,
 y9 27 (.pick (.t 25) (.c (.bool true)) (.t 26)),
 y9 28 (.build [(.slice [] .nil),(.bool false)] [(0,1,(.c (.slice [] .nil))),(1,1,(.t 27))]),
 ⟨(some 29),.bslice false false 7 1 [(.int .i64 0),(.int .i64 0),(.int .i64 0),(.int .i64 0),(.int .i64 0),(.int .i64 0),(.int .i64 0)] [(0,1,(.c (.int .i64 0))),(1,1,(.c (.int .i64 3))),(2,1,(.c (.int .i64 6))),(3,1,(.c (.int .i64 8))),(4,1,(.c (.int .i64 10))),(5,1,(.c (.int .i64 12))),(6,1,(.c (.int .i64 14)))],none,[2,7,14,19]⟩,
 y9 30 (.faddr 0 (.t 1)),
 y9 31 (.faddr 2 (.t 30)),
 ⟨(some 32),.load false 1 (.t 31),none,[2,7,14,19,22]⟩,
 y9 33 (.bin .neq (.t 32) (.c (.str []))),
 y9 34 (.build [(.slice [] .nil),(.bool false)] [(0,1,(.t 29)),(1,1,(.t 33))]),
 ⟨(some 35),.bslice false false 1 1 [(.int .i64 0)] [(0,1,(.c (.int .i64 0)))],none,[2,7,14,19,22,25]⟩,
 y9 36 (.faddr 0 (.t 1)),
 y9 37 (.faddr 21 (.t 36)),
 ⟨(some 38),.load true 4 (.t 37),none,[2,7,14,19,22,25,28]⟩,
 y9 39 (.build [(.bool false),(.str []),(.str []),(.bool false)] []),
 y9 40 (.eq true (.cells [0,2,2,0]) false (.t 38) (.t 39)),
 y9 41 (.build [(.slice [] .nil),(.bool false)] [(0,1,(.t 35)),(1,1,(.t 40))]),
 ⟨(some 42),.bslice false false 1 1 [(.int .i64 0)] [(0,1,(.c (.int .i64 3)))],none,[2,7,14,19,22,25,28,31]⟩,
 ⟨(some 43),.load false 1 (.t 3),none,[2,7,14,19,22,25,28,31,35]⟩,
 y9 44 (.build [(.slice [] .nil),(.bool false)] [(0,1,(.t 42)),(1,1,(.t 43))]),
 ⟨(some 45),.bslice false false 1 1 [(.int .i64 0)] [(0,1,(.c (.int .i64 6)))],none,[2,7,14,19,22,25,28,31,35,36]⟩,
 y9 46 (.faddr 0 (.t 1)),
 y9 47 (.faddr 4 (.t 46)),
 ⟨(some 48),.load false 1 (.t 47),none,[2,7,14,19,22,25,28,31,35,36,38]⟩,
 y9 49 (.len false (.t 48)),
 y9 50 (.bin .gtr (.t 49) (.c (.int .i64 0))),
 y9 51 (.build [(.slice [] .nil),(.bool false)] [(0,1,(.t 45)),(1,1,(.t 50))]),
 ⟨(some 52),.bslice false false 2 1 [(.int .i64 0),(.int .i64 0)] [(0,1,(.c (.int .i64 8))),(1,1,(.c (.int .i64 14)))],none,[2,7,14,19,22,25,28,31,35,36,38,41]⟩,
 y9 53 (.faddr 0 (.t 1)),
 y9 54 (.faddr 3 (.t 53)),
 ⟨(some 55),.load false 1 (.t 54),none,[2,7,14,19,22,25,28,31,35,36,38,41,45]⟩,
 y9 56 (.len false (.t 55)),
 y9 57 (.bin .gtr (.t 56) (.c (.int .i64 0))),
 y9 58 (.build [(.slice [] .nil),(.bool false)] [(0,1,(.t 52)),(1,1,(.t 57))]),
 ⟨(some 59),.bslice false false 1 1 [(.int .i64 0)] [(0,1,(.c (.int .i64 12)))],none,[2,7,14,19,22,25,28,31,35,36,38,41,45,48]⟩,
 y9 60 (.faddr 0 (.t 1)),
 y9 61 (.faddr 17 (.t 60)),
 ⟨(some 62),.load true 4 (.t 61),none,[2,7,14,19,22,25,28,31,35,36,38,41,45,48,52]⟩,
 y9 63 (.build [(.str []),(.bool false),(.str []),(.bool false)] []),
 y9 64 (.eq true (.cells [2,0,2,0]) false (.t 62) (.t 63)),
 y9 65 (.build [(.slice [] .nil),(.bool false)] [(0,1,(.t 59)),(1,1,(.t 64))]),
 ⟨(some 66),.bslice false false 1 1 [(.int .i64 0)] [(0,1,(.c (.int .i64 16)))],none,[2,7,14,19,22,25,28,31,35,36,38,41,45,48,52,55]⟩,
 y9 67 (.faddr 0 (.t 1)),
 y9 68 (.faddr 33 (.t 67)),
 ⟨(some 69),.load false 1 (.t 68),none,[2,7,14,19,22,25,28,31,35,36,38,41,45,48,52,55,59]⟩,
 y9 70 (.bin .neq (.t 69) (.c (.int .i64 0))),
 y9 71 (.build [(.slice [] .nil),(.bool false)] [(0,1,(.t 66)),(1,1,(.t 70))]),
 ⟨(some 72),.bslice false false 1 1 [(.int .i64 0)] [(0,1,(.c (.int .i64 23)))],none,[2,7,14,19,22,25,28,31,35,36,38,41,45,48,52,55,59,62]⟩,
 y9 73 (.faddr 0 (.t 1)),
 y9 74 (.faddr 25 (.t 73)),
 ⟨(some 75),.load true 3 (.t 74),none,[2,7,14,19,22,25,28,31,35,36,38,41,45,48,52,55,59,62,65]⟩,
 y9 76 (.build [(.str []),(.str []),(.bool false)] []),
 y9 77 (.eq true (.cells [2,2,0]) false (.t 75) (.t 76)),
 y9 78 (.build [(.slice [] .nil),(.bool false)] [(0,1,(.t 72)),(1,1,(.t 77))]),
 y9 79 (.bslice false true 9 2 [(.slice [] .nil),(.bool false),(.slice [] .nil),(.bool false),(.slice [] .nil),(.bool false),(.slice [] .nil),(.bool false),(.slice [] .nil),(.bool false),(.slice [] .nil),(.bool false),(.slice [] .nil),(.bool false),(.slice [] .nil),(.bool false),(.slice [] .nil),(.bool false)] [(0,2,(.t 28)),(2,2,(.t 34)),(4,2,(.t 41)),(6,2,(.t 44)),(8,2,(.t 51)),(10,2,(.t 58)),(12,2,(.t 65)),(14,2,(.t 71)),(16,2,(.t 78))]),
 y9 80 (.len false (.t 79)),
 y9 81 (.mv (.c (.int .i64 0)))]) <|
 .block 0 <| .loop <| q9 [
 y9 82 (.bin .lss (.t 81) (.t 80))] <|
 .seq (.cond (.t 82) (.skip) <|
 .exit 0) <|
 .seq (.block 1 <| q9 [
 y9 83 (.iaddr none 2 (.t 79) (.t 81)),
 y9 84 (.load true 2 (.t 83)),
 y9 6 (.alloc 222 [(.slice [] .nil),(.bool false)]),
 w9 (.store 2 (.t 6) (.t 84))] <|
 q9 [
 y9 85 (.mv (.t 0)),
 y9 86 (.faddr 0 (.t 6)),
 y9 87 (.load false 1 (.t 86)),
 y9 88 (.faddr 1 (.t 6)),
 y9 89 (.load false 1 (.t 88)),
 y9 90 (.un .not (.t 89)),
 y9 91 (.callV (.t 85) [(.t 87),(.t 90)]),
 y9 92 (.un .not (.t 91))] <|
 .cond (.t 92) (.exit 0) <|
 .skip) <|
 .region false [
 y9 93 (.bin .add (.t 81) (.c (.int .i64 1))),
 y9 81 (.mv (.t 93))]
def c174 : AFun := .code 19 [.tmp 4] <|
 q9 [
 y9 4 (.mv (.c (.int .i64 0)))] <|
 .seq (q9 [
 y9 6 (.mv (.t 0)),
 y9 7 (.len false (.t 6)),
 y9 8 (.mv (.c (.int .i64 0)))] <|
 .block 0 <| .loop <| q9 [
 y9 9 (.bin .lss (.t 8) (.t 7))] <|
 .seq (.cond (.t 9) (.skip) <|
 .exit 0) <|
 .seq (.block 1 <| q9 [
 y9 10 (.mv (.t 8)),
 y9 5 (.mv (.t 10))] <|
 q9 [
 y9 11 (.mv (.t 1)),
 y9 12 (.mv (.t 0)),
 y9 13 (.mv (.t 5)),
 y9 14 (.iaddr none 1 (.t 12) (.t 13)),
 y9 15 (.load false 1 (.t 14)),
 y9 16 (.bin .eql (.t 11) (.t 15))] <|
 .cond (.t 16) (q9 [
 y9 17 (.mv (.t 5)),
 y9 4 (.mv (.t 17))] <|
 .ret) <|
 .skip) <|
 .region false [
 y9 18 (.bin .add (.t 8) (.c (.int .i64 1))),
 y9 8 (.mv (.t 18))]) <|
 q9 [
 y9 4 (.mv (.c (.int .i64 (-1))))] <|
 .ret
def c175 : AFun := .code 4 [.tmp 2] <|
 q9 [
 y9 1 (.box 45 (.t 0)),
 y9 2 (.mv (.c .nilFunc))] <|
 q9 [
 y9 3 (.mkfn 225 [(.t 1)]),
 y9 2 (.mv (.t 3))] <|
 .ret
def c176 : AFun := .code 27 [.tmp 2] <|
 q9 [
 y9 1 (.box 45 (.t 0)),
 y9 2 (.mv (.c (.bool false)))] <|
 .seq (.block 0 <| .seq (.block 4 <| .seq (.block 3 <| .block 2 <| .block 1 <| .seq (.seq (q9 [
 y9 4 (.faddr 0 (.t 1)),
 y9 5 (.load false 1 (.t 4)),
 y9 6 (.bin .lss (.t 5) (.c (.int .i64 0))),
 y9 3 (.mv (.t 6))] <|
 .cond (.t 3) (.exit 1) <|
 .skip) <|
 .seq (q9 [
 y9 8 (.faddr 0 (.t 1)),
 y9 9 (.load false 1 (.t 8)),
 y9 10 (.bin .gtr (.t 9) (.c (.int .i64 255))),
 y9 7 (.mv (.t 10))] <|
 .cond (.t 7) (.exit 2) <|
 .skip) <|
 .seq (q9 [
 y9 12 (.faddr 0 (.t 1)),
 y9 13 (.load false 1 (.t 12)),
 y9 14 (.bin .and (.t 13) (.c (.int .i64 31))),
 y9 15 (.bin .eql (.t 14) (.c (.int .i64 31))),
 y9 11 (.mv (.t 15))] <|
 .cond (.t 11) (.exit 3) <|
 .skip) <|
 q9 [
 y9 17 (.faddr 0 (.t 1)),
 y9 18 (.load false 1 (.t 17)),
 y9 19 (.call 227 [(.t 18)]),
 y9 16 (.mv (.t 19))] <|
 .cond (.t 16) (.exit 4) <|
 .skip) <|
 .exit 0) <|
 .seq (q9 [
 y9 2 (.mv (.c (.bool false)))] <|
 .ret) <|
 .exit 0) <|
 .seq (q9 [
 y9 20 (.faddr 1 (.t 1)),
 y9 21 (.load false 1 (.t 20)),
 y9 22 (.bin .eql (.t 21) (.c (.str []))),
 y9 2 (.mv (.t 22))] <|
 .ret) <|
 .exit 0) <|
 q9 [
 y9 23 (.faddr 2 (.t 1)),
 y9 24 (.load false 1 (.t 23)),
 y9 25 (.len false (.t 24)),
 y9 26 (.bin .eql (.t 25) (.c (.int .i64 0))),
 y9 2 (.mv (.t 26))] <|
 .ret
def c177 : AFun := .prim 3
def c178 : AFun := .code 14 [.tmp 2,.tmp 3] <|
 q9 [
 y9 2 (.mv (.c (.str []))),
 y9 3 (.mv (.c (.int .i64 0)))] <|
 q9 [
 y9 7 (.mv (.t 0)),
 y9 8 (.call 231 [(.t 7)]),
 y9 6 (.mv (.t 8)),
 y9 9 (.extract 0 (.t 6)),
 y9 10 (.extract 1 (.t 6)),
 y9 4 (.mv (.t 9)),
 y9 5 (.mv (.t 10))] <|
 q9 [
 y9 11 (.mv (.t 4)),
 y9 12 (.mv (.t 5)),
 y9 13 (.call 232 [(.t 12)]),
 y9 2 (.mv (.t 11)),
 y9 3 (.mv (.t 13))] <|
 .ret
def c179 : AFun := .code 9 [.tmp 4] <|
 q9 [
 y9 4 (.mv (.c (.bool false)))] <|
 q9 [
 y9 5 (.mv (.t 0)),
 y9 6 (.mv (.t 1)),
 y9 7 (.call 233 [(.t 5),(.t 6)]),
 y9 8 (.bin .geq (.t 7) (.c (.int .i64 0))),
 y9 4 (.mv (.t 8))] <|
 .ret
def c180 : AFun := .code 17 [.tmp 2] <|
 q9 [
 y9 2 (.mv (.c (.bool false)))] <|
 .seq (q9 [
 y9 3 (.mv (.t 0)),
 y9 4 (.len true (.t 3)),
 y9 5 (.bin .gtr (.t 4) (.c (.int .i64 20)))] <|
 .cond (.t 5) (q9 [
 y9 2 (.mv (.c (.bool false)))] <|
 .ret) <|
 .skip) <|
 q9 [
 y9 6 (.mv (.t 0)),
 y9 7 (.call 234 [(.t 6)]),
 y9 8 (.mv (.t 7)),
 ⟨(some 9),.mv (.t 0),some (8,false),[]⟩,
 ⟨(some 10),.call 235 [(.t 9),(.c (.str [46]))],some (8,false),[]⟩,
 ⟨(some 11),.mv (.t 10),some (8,false),[]⟩,
 ⟨(some 12),.mv (.t 0),some (11,true),[]⟩,
 ⟨(some 13),.call 196 [(.t 12),(.c (.str [46]))],some (11,true),[]⟩,
 ⟨(some 14),.call 236 [(.c (.func 237 [])),(.t 13)],some (11,true),[]⟩,
 ⟨(some 15),.pick (.t 11) (.t 14) (.c (.bool false)),some (8,false),[]⟩,
 y9 16 (.pick (.t 8) (.c (.bool true)) (.t 15)),
 y9 2 (.mv (.t 16))] <|
 .ret
def c181 : AFun := .code 29 [] <|
 .scope <| .seq (.skip) <|
 q9 [
 y9 7 (.faddr 0 (.t 1)),
 y9 8 (.faddr 3 (.t 7)),
 y9 9 (.load false 1 (.t 8)),
 y9 10 (.len false (.t 9)),
 y9 11 (.mv (.c (.int .i64 0)))] <|
 .block 0 <| .loop <| q9 [
 y9 12 (.bin .lss (.t 11) (.t 10))] <|
 .seq (.cond (.t 12) (.skip) <|
 .exit 0) <|
 .seq (.block 1 <| q9 [
 y9 13 (.iaddr none 2 (.t 9) (.t 11)),
 y9 14 (.load true 2 (.t 13)),
 y9 4 (.alloc 64 [(.str []),(.slice [] .nil)]),
 w9 (.store 2 (.t 4) (.t 14))] <|
 q9 [
 y9 16 (.load true 2 (.t 4)),
 y9 17 (.call 77 [(.t 16),(.c (.int .i64 0))]),
 y9 15 (.mv (.t 17)),
 y9 18 (.extract 0 (.t 15)),
 y9 19 (.extract 1 (.t 15)),
 y9 5 (.alloc 45 [(.int .i64 0),(.str []),(.slice [] .nil)]),
 w9 (.store 3 (.t 5) (.t 18)),
 y9 6 (.mv (.t 19))] <|
 q9 [
 y9 20 (.mv (.t 6)),
 y9 21 (.bin .neq (.t 20) (.c (.int .i64 0))),
 y9 22 (.mv (.t 21)),
 ⟨(some 23),.mv (.t 0),some (22,true),[]⟩,
 ⟨(some 24),.load true 2 (.t 4),some (22,true),[]⟩,
 ⟨(some 25),.callV (.t 23) [(.t 24)],some (22,true),[]⟩,
 ⟨(some 26),.un .not (.t 25),some (22,true),[]⟩,
 y9 27 (.pick (.t 22) (.t 26) (.c (.bool false)))] <|
 .cond (.t 27) (.exit 0) <|
 .skip) <|
 .region false [
 y9 28 (.bin .add (.t 11) (.c (.int .i64 1))),
 y9 11 (.mv (.t 28))]
def c182 : AFun := .code 8 [.tmp 2] <|
 q9 [
 y9 2 (.mv (.c (.bool false)))] <|
 q9 [
 y9 3 (.mv (.t 0)),
 y9 4 (.build [(.str [])] [(0,1,(.t 3))]),
 y9 5 (.build [(.str [])] [(0,1,(.t 4))]),
 y9 6 (.call 238 [(.t 5)]),
 y9 7 (.eq false (.iface [15,127,157,165,234,252,336,354,360,378,420,427,428]) true (.t 6) (.c .nilIface)),
 y9 2 (.mv (.t 7))] <|
 .ret
def c183 : AFun := .prim 13
def c184 : AFun := .prim 14
def c185 : AFun := .code 19 [.tmp 4] <|
 q9 [
 y9 4 (.mv (.c .nilIface))] <|
 .seq (q9 [
 y9 7 (.mv (.t 1)),
 y9 8 (.len false (.t 7)),
 y9 9 (.mv (.c (.int .i64 0)))] <|
 .block 0 <| .loop <| q9 [
 y9 10 (.bin .lss (.t 9) (.t 8))] <|
 .seq (.cond (.t 10) (.skip) <|
 .exit 0) <|
 .seq (.block 1 <| q9 [
 y9 11 (.iaddr none 1 (.t 7) (.t 9)),
 y9 12 (.load false 1 (.t 11)),
 y9 6 (.mv (.t 12))] <|
 q9 [
 y9 13 (.mv (.t 6)),
 y9 14 (.un .not (.t 13))] <|
 .cond (.t 14) (q9 [
 y9 15 (.mv (.t 0)),
 y9 16 (.build [(.str [])] [(0,1,(.t 15))]),
 y9 17 (.mkif 251 (.t 16)),
 y9 4 (.mv (.t 17))] <|
 .ret) <|
 .skip) <|
 .region false [
 y9 18 (.bin .add (.t 9) (.c (.int .i64 1))),
 y9 9 (.mv (.t 18))]) <|
 q9 [
 y9 4 (.mv (.c .nilIface))] <|
 .ret
def c186 : AFun := .code 18 [.tmp 4] <|
 q9 [
 y9 4 (.mv (.c (.bool false)))] <|
 .seq (q9 [
 y9 7 (.mv (.t 1)),
 y9 8 (.len false (.t 7)),
 y9 9 (.mv (.c (.int .i64 0)))] <|
 .block 0 <| .loop <| q9 [
 y9 10 (.bin .lss (.t 9) (.t 8))] <|
 .seq (.cond (.t 10) (.skip) <|
 .exit 0) <|
 .seq (.block 1 <| q9 [
 y9 11 (.iaddr none 1 (.t 7) (.t 9)),
 y9 12 (.load false 1 (.t 11)),
 y9 6 (.mv (.t 12))] <|
 q9 [
 y9 13 (.mv (.t 6)),
 y9 14 (.len true (.t 13)),
 y9 15 (.mv (.t 0)),
 y9 16 (.bin .gtr (.t 14) (.t 15))] <|
 .cond (.t 16) (q9 [
 y9 4 (.mv (.c (.bool false)))] <|
 .ret) <|
 .skip) <|
 .region false [
 y9 17 (.bin .add (.t 9) (.c (.int .i64 1))),
 y9 9 (.mv (.t 17))]) <|
 q9 [
 y9 4 (.mv (.c (.bool true)))] <|
 .ret
def c187 : AFun := .code 26 [.tmp 2] <|
 q9 [
 y9 2 (.mv (.c (.bool false)))] <|
 .seq (q9 [
 y9 5 (.mv (.t 0)),
 y9 6 (.len false (.t 5)),
 y9 7 (.mv (.c (.int .i64 0)))] <|
 .block 0 <| .loop <| q9 [
 y9 8 (.bin .lss (.t 7) (.t 6))] <|
 .seq (.cond (.t 8) (.skip) <|
 .exit 0) <|
 .seq (.block 1 <| q9 [
 y9 9 (.iaddr none 1 (.t 5) (.t 7)),
 y9 10 (.load false 1 (.t 9)),
 y9 4 (.mv (.t 10))] <|
 q9 [
 y9 11 (.mv (.t 4)),
 y9 12 (.bin .eql (.t 11) (.c (.str []))),
 y9 13 (.mv (.t 12)),
 ⟨(some 14),.mv (.t 4),some (13,false),[]⟩,
 ⟨(some 15),.call 182 [(.t 14)],some (13,false),[]⟩,
 ⟨(some 16),.un .not (.t 15),some (13,false),[]⟩,
 y9 17 (.pick (.t 13) (.c (.bool true)) (.t 16))] <|
 .cond (.t 17) (q9 [
 y9 2 (.mv (.c (.bool false)))] <|
 .ret) <|
 .skip) <|
 .region false [
 y9 18 (.bin .add (.t 7) (.c (.int .i64 1))),
 y9 7 (.mv (.t 18))]) <|
 q9 [
 y9 19 (.mv (.t 0)),
 y9 20 (.len false (.t 19)),
 y9 21 (.bin .leq (.t 20) (.c (.int .i64 3))),
 y9 22 (.mv (.t 21)),
 ⟨(some 23),.mv (.t 0),some (22,true),[]⟩,
 ⟨(some 24),.call 186 [(.c (.int .i64 60)),(.t 23)],some (22,true),[]⟩,
 y9 25 (.pick (.t 22) (.t 24) (.c (.bool false))),
 y9 2 (.mv (.t 25))] <|
 .ret
def c188 : AFun := .code 31 [.tmp 2,.tmp 3] <|
 q9 [
 y9 2 (.mv (.c (.str []))),
 y9 3 (.mv (.c (.int .i64 0)))] <|
 q9 [
 y9 9 (.mv (.t 0)),
 y9 10 (.call 239 [(.t 9)]),
 y9 8 (.mv (.t 10)),
 y9 11 (.extract 0 (.t 8)),
 y9 12 (.extract 1 (.t 8)),
 y9 4 (.alloc 303 [(.int .i64 0),(.int .i64 0)]),
 w9 (.store 2 (.t 4) (.t 11)),
 y9 5 (.mv (.t 12))] <|
 .seq (q9 [
 y9 13 (.mv (.t 5)),
 y9 14 (.eq true (.iface [15,127,157,165,234,252,336,354,360,378,420,427,428]) true (.t 13) (.c .nilIface))] <|
 .cond (.t 14) (q9 [
 y9 15 (.mv (.t 5)),
 y9 16 (.call 240 [(.t 15)]),
 y9 2 (.mv (.c (.str []))),
 y9 3 (.mv (.t 16))] <|
 .ret) <|
 .skip) <|
 q9 [
 y9 6 (.alloc 229 [(.slice [] .nil)])] <|
 .seq (q9 [
 y9 17 (.load true 2 (.t 4)),
 y9 18 (.call 241 [(.t 17)])] <|
 .block 0 <| .rfunc (.t 18) [19] (.region false [
 y9 7 (.mv (.t 19))]) <|
 .block 1 <| .region false [
 y9 20 (.load false 1 (.t 6)),
 y9 21 (.mv (.t 7)),
 y9 22 (.bslice false false 1 1 [(.int .u8 0)] [(0,1,(.t 21))]),
 y9 23 (.append 5 1 1 (.t 20) (.t 22)),
 w9 (.store 1 (.t 6) (.t 23))]) <|
 q9 [
 y9 24 (.load false 1 (.t 6)),
 y9 25 (.load false 1 (.t 6)),
 y9 26 (.len false (.t 25)),
 y9 27 (.load false 1 (.t 6)),
 y9 28 (.len false (.t 27)),
 y9 29 (.slice false 1 (.t 24) none (some (.t 26)) (some (.t 28))),
 y9 30 (.conv .b2s (.t 29)),
 y9 2 (.mv (.t 30)),
 y9 3 (.mv (.c (.int .i64 0)))] <|
 .ret
def c189 : AFun := .code 49 [.cell 4 true 2,.tmp 5] <|
 q9 [
 y9 2 (.box 45 (.t 0)),
 y9 4 (.alloc 64 [(.str []),(.slice [] .nil)]),
 y9 5 (.mv (.c .nilIface))] <|
 q9 [
 y9 11 (.load true 3 (.t 2)),
 y9 12 (.call 242 [(.t 11),(.c (.int .i64 48))]),
 y9 6 (.mv (.t 12))] <|
 q9 [
 y9 13 (.mv (.t 6)),
 y9 14 (.call 243 [(.t 13),(.c (.int .i64 4))]),
 y9 15 (.mv (.t 6)),
 y9 16 (.call 244 [(.t 15),(.c (.int .i64 49))]),
 y9 17 (.build [(.str []),(.slice [] .nil)] [(0,1,(.t 14)),(1,1,(.t 16))]),
 y9 7 (.alloc 64 [(.str []),(.slice [] .nil)]),
 w9 (.store 2 (.t 7) (.t 17))] <|
 .seq (.seq (.region true [
 y9 18 (.mv (.t 6)),
 y9 19 (.nilck (.t 18)),
 y9 20 (.faddr 1 (.t 19)),
 y9 21 (.load false 1 (.t 20)),
 y9 22 (.un .not (.t 21)),
 y9 23 (.mv (.t 6)),
 ⟨(some 24),.call 245 [(.t 23)],none,[3]⟩,
 y9 25 (.bslice false false 2 1 [(.bool false),(.bool false)] [(0,1,(.t 22)),(1,1,(.t 24))]),
 y9 26 (.call 185 [(.c (.str [97,116,116,114,105,98,117,116,101])),(.t 25)]),
 y9 8 (.mv (.t 26))]) <|
 q9 [
 y9 27 (.mv (.t 8)),
 y9 28 (.eq true (.iface [15,127,157,165,234,252,336,354,360,378,420,427,428]) true (.t 27) (.c .nilIface))] <|
 .cond (.t 28) (q9 [
 y9 29 (.build [(.str []),(.slice [] .nil)] []),
 y9 30 (.mv (.t 8)),
 w9 (.store 2 (.t 4) (.t 29)),
 y9 5 (.mv (.t 30))] <|
 .ret) <|
 .skip) <|
 q9 [
 y9 32 (.load true 2 (.t 7)),
 y9 33 (.mv (.t 1)),
 y9 34 (.call 77 [(.t 32),(.t 33)]),
 y9 31 (.mv (.t 34)),
 y9 35 (.extract 0 (.t 31)),
 y9 36 (.extract 1 (.t 31)),
 y9 9 (.alloc 45 [(.int .i64 0),(.str []),(.slice [] .nil)]),
 w9 (.store 3 (.t 9) (.t 35)),
 y9 10 (.mv (.t 36))] <|
 .seq (q9 [
 y9 37 (.mv (.t 10)),
 y9 38 (.bin .neq (.t 37) (.c (.int .i64 0))),
 y9 39 (.mv (.t 38)),
 ⟨(some 40),.load true 3 (.t 9),some (39,false),[]⟩,
 ⟨(some 41),.load true 3 (.t 2),some (39,false),[]⟩,
 ⟨(some 42),.call 12 [(.t 40),(.t 41)],some (39,false),[]⟩,
 ⟨(some 43),.un .not (.t 42),some (39,false),[]⟩,
 y9 44 (.pick (.t 39) (.c (.bool true)) (.t 43))] <|
 .cond (.t 44) (q9 [
 y9 45 (.build [(.str []),(.slice [] .nil)] []),
 y9 46 (.build [(.str [])] [(0,1,(.c (.str [97,116,116,114,105,98,117,116,101])))]),
 y9 47 (.mkif 251 (.t 46)),
 w9 (.store 2 (.t 4) (.t 45)),
 y9 5 (.mv (.t 47))] <|
 .ret) <|
 .skip) <|
 q9 [
 y9 48 (.load true 2 (.t 7)),
 w9 (.store 2 (.t 4) (.t 48)),
 y9 5 (.mv (.c .nilIface))] <|
 .ret
def c190 : AFun := .code 53 [.cell 2 true 4,.cell 3 false 1] <|
 q9 [
 y9 2 (.alloc 37 [(.int .i64 0),(.str []),(.str []),(.slice [] .nil)]),
 y9 3 (.alloc 80 [.nilIface])] <|
 q9 [
 y9 8 (.mkfn 246 [(.t 3),(.t 2)]),
 w9 (.defer (.t 8) [])] <|
 q9 [
 y9 9 (.mv (.t 0)),
 y9 10 (.build [(.slice [] .nil)] [(0,1,(.t 9))]),
 y9 11 (.build [(.slice [] .nil),(.bool false)] [(0,1,(.t 10))]),
 y9 12 (.box 316 (.t 11)),
 y9 4 (.mv (.t 12))] <|
 q9 [
 y9 13 (.mv (.t 4)),
 y9 14 (.call 247 [(.t 13)]),
 y9 15 (.mv (.t 4)),
 y9 16 (.call 243 [(.t 15),(.c (.int .i64 4))]),
 y9 17 (.mv (.t 4)),
 y9 18 (.call 243 [(.t 17),(.c (.int .i64 4))]),
 y9 19 (.faddr 0 (.t 2)),
 w9 (.store 1 (.t 19) (.t 14)),
 y9 20 (.faddr 1 (.t 2)),
 w9 (.store 1 (.t 20) (.t 16)),
 y9 21 (.faddr 2 (.t 2)),
 w9 (.store 1 (.t 21) (.t 18))] <|
 .seq (q9 [
 y9 22 (.mv (.t 4)),
 y9 23 (.call 248 [(.t 22),(.c (.int .i64 163))])] <|
 .cond (.t 23) (.region false [
 y9 24 (.mv (.t 4)),
 y9 25 (.call 244 [(.t 24),(.c (.int .i64 163))]),
 y9 26 (.faddr 3 (.t 2)),
 w9 (.store 1 (.t 26) (.t 25))]) <|
 .skip) <|
 .seq (.seq (.region true [
 y9 27 (.mv (.t 4)),
 y9 28 (.nilck (.t 27)),
 y9 29 (.faddr 1 (.t 28)),
 y9 30 (.load false 1 (.t 29)),
 y9 31 (.un .not (.t 30)),
 y9 32 (.mv (.t 4)),
 ⟨(some 33),.call 245 [(.t 32)],none,[3]⟩,
 y9 34 (.bslice false false 2 1 [(.bool false),(.bool false)] [(0,1,(.t 31)),(1,1,(.t 33))]),
 y9 35 (.call 185 [(.c (.str [114,101,115,117,108,116])),(.t 34)]),
 y9 5 (.mv (.t 35))]) <|
 q9 [
 y9 36 (.mv (.t 5)),
 y9 37 (.eq true (.iface [15,127,157,165,234,252,336,354,360,378,420,427,428]) true (.t 36) (.c .nilIface))] <|
 .cond (.t 37) (q9 [
 y9 38 (.load true 4 (.t 2)),
 y9 39 (.mv (.t 5)),
 w9 (.store 4 (.t 2) (.t 38)),
 w9 (.store 1 (.t 3) (.t 39))] <|
 .ret) <|
 .skip) <|
 q9 [
 y9 41 (.load true 4 (.t 2)),
 y9 42 (.call 76 [(.t 41)]),
 y9 40 (.mv (.t 42)),
 y9 43 (.extract 0 (.t 40)),
 y9 44 (.extract 1 (.t 40)),
 y9 6 (.mv (.t 43)),
 y9 7 (.mv (.t 44))] <|
 .seq (.region true [
 y9 45 (.load true 4 (.t 2)),
 y9 46 (.mv (.t 7)),
 y9 47 (.bin .eql (.t 46) (.c (.int .i64 0))),
 y9 48 (.mv (.t 6)),
 y9 49 (.mv (.t 0)),
 ⟨(some 50),.call 39 [(.t 48),(.t 49),(.c (.func 12 []))],none,[0]⟩,
 ⟨(some 51),.bslice false false 2 1 [(.bool false),(.bool false)] [(0,1,(.t 47)),(1,1,(.t 50))],none,[0]⟩,
 ⟨(some 52),.call 185 [(.c (.str [114,101,115,117,108,116])),(.t 51)],none,[0]⟩,
 w9 (.store 4 (.t 2) (.t 45)),
 w9 (.store 1 (.t 3) (.t 52))]) <|
 .ret
def c191 : AFun := .code 65 [.tmp 4,.tmp 5] <|
 q9 [
 y9 4 (.mv (.c (.int .i64 0))),
 y9 5 (.mv (.c (.int .i64 0)))] <|
 q9 [
 y9 6 (.mv (.c (.int .i64 1)))] <|
 q9 [
 y9 9 (.mv (.t 0)),
 y9 10 (.mv (.t 1)),
 y9 11 (.index none (.t 9) (.t 10)),
 y9 12 (.conv (.toInt .i64) (.t 11)),
 y9 7 (.mv (.t 12))] <|
 .seq (.block 0 <| q9 [
 y9 14 (.mv (.t 7)),
 y9 15 (.bin .geq (.t 14) (.c (.int .i64 240))),
 y9 13 (.mv (.t 15))] <|
 .cond (.t 13) (q9 [
 y9 6 (.mv (.c (.int .i64 4)))] <|
 .region false [
 y9 16 (.mv (.t 7)),
 y9 17 (.bin .sub (.t 16) (.c (.int .i64 240))),
 y9 7 (.mv (.t 17))]) <|
 q9 [
 y9 19 (.mv (.t 7)),
 y9 20 (.bin .geq (.t 19) (.c (.int .i64 224))),
 y9 18 (.mv (.t 20))] <|
 .cond (.t 18) (q9 [
 y9 6 (.mv (.c (.int .i64 3)))] <|
 .region false [
 y9 21 (.mv (.t 7)),
 y9 22 (.bin .sub (.t 21) (.c (.int .i64 224))),
 y9 7 (.mv (.t 22))]) <|
 q9 [
 y9 24 (.mv (.t 7)),
 y9 25 (.bin .geq (.t 24) (.c (.int .i64 192))),
 y9 23 (.mv (.t 25))] <|
 .cond (.t 23) (q9 [
 y9 6 (.mv (.c (.int .i64 2)))] <|
 .region false [
 y9 26 (.mv (.t 7)),
 y9 27 (.bin .sub (.t 26) (.c (.int .i64 192))),
 y9 7 (.mv (.t 27))]) <|
 .skip) <|
 .seq (q9 [
 y9 28 (.mv (.t 6)),
 y9 29 (.mv (.t 0)),
 y9 30 (.len true (.t 29)),
 y9 31 (.mv (.t 1)),
 y9 32 (.bin .sub (.t 30) (.t 31)),
 y9 33 (.bin .gtr (.t 28) (.t 32))] <|
 .cond (.t 33) (q9 [
 y9 4 (.mv (.c (.int .i64 0))),
 y9 5 (.mv (.c (.int .i64 0)))] <|
 .ret) <|
 .skip) <|
 .seq (q9 [
 y9 8 (.mv (.c (.int .i64 1)))] <|
 .block 1 <| .loop <| .seq (q9 [
 y9 34 (.mv (.t 8)),
 y9 35 (.mv (.t 6)),
 y9 36 (.bin .lss (.t 34) (.t 35))] <|
 .cond (.t 36) (.skip) <|
 .exit 1) <|
 .seq (.block 2 <| .region false [
 y9 39 (.mv (.t 7)),
 y9 40 (.bin .mul (.c (.int .i64 64)) (.t 39)),
 y9 41 (.mv (.t 0)),
 y9 42 (.mv (.t 1)),
 y9 43 (.mv (.t 8)),
 y9 44 (.bin .add (.t 42) (.t 43)),
 y9 45 (.index none (.t 41) (.t 44)),
 y9 46 (.conv (.toInt .i64) (.t 45)),
 y9 47 (.bin .rem (.t 46) (.c (.int .i64 64))),
 y9 48 (.bin .add (.t 40) (.t 47)),
 y9 7 (.mv (.t 48))]) <|
 .region false [
 y9 37 (.mv (.t 8)),
 y9 38 (.bin .add (.t 37) (.c (.int .i64 1))),
 y9 8 (.mv (.t 38))]) <|
 .seq (.seq (.region true [
 y9 49 (.mv (.t 7)),
 y9 50 (.call 249 [(.t 49)]),
 y9 51 (.un .not (.t 50)),
 y9 52 (.mv (.t 51)),
 ⟨(some 53),.mv (.t 7),some (52,false),[]⟩,
 ⟨(some 54),.call 250 [(.t 53)],some (52,false),[]⟩,
 ⟨(some 55),.mv (.t 0),some (52,false),[]⟩,
 ⟨(some 56),.mv (.t 1),some (52,false),[]⟩,
 ⟨(some 57),.mv (.t 1),some (52,false),[]⟩,
 ⟨(some 58),.mv (.t 6),some (52,false),[]⟩,
 ⟨(some 59),.bin .add (.t 57) (.t 58),some (52,false),[]⟩,
 ⟨(some 60),.slice true 1 (.t 55) (some (.t 56)) (some (.t 59)) none,some (52,false),[]⟩,
 ⟨(some 61),.bin .neq (.t 54) (.t 60),some (52,false),[]⟩,
 y9 62 (.pick (.t 52) (.c (.bool true)) (.t 61))]) <|
 .cond (.t 62) (q9 [
 y9 4 (.mv (.c (.int .i64 0))),
 y9 5 (.mv (.c (.int .i64 0)))] <|
 .ret) <|
 .skip) <|
 q9 [
 y9 63 (.mv (.t 7)),
 y9 64 (.mv (.t 6)),
 y9 4 (.mv (.t 63)),
 y9 5 (.mv (.t 64))] <|
 .ret
def c192 : AFun := .code 92 [.tmp 2,.tmp 3] <|
 q9 [
 y9 2 (.mv (.c (.str []))),
 y9 3 (.mv (.c (.int .i64 0)))] <|
 .seq (q9 [
 y9 8 (.mv (.t 0)),
 y9 9 (.call 251 [(.t 8)]),
 y9 10 (.un .not (.t 9))] <|
 .cond (.t 10) (q9 [
 y9 2 (.mv (.c (.str []))),
 y9 3 (.mv (.c (.int .i64 60)))] <|
 .ret) <|
 .skip) <|
 q9 [
 y9 4 (.mv (.c (.str [])))] <|
 .seq (q9 [
 y9 5 (.mv (.c (.int .i64 0)))] <|
 .block 0 <| .loop <| .seq (q9 [
 y9 11 (.mv (.t 5)),
 y9 12 (.mv (.t 0)),
 y9 13 (.len true (.t 12)),
 y9 14 (.bin .lss (.t 11) (.t 13))] <|
 .cond (.t 14) (.skip) <|
 .exit 0) <|
 .seq (.block 1 <| .seq (q9 [
 y9 17 (.mv (.t 0)),
 y9 18 (.mv (.t 5)),
 y9 19 (.index none (.t 17) (.t 18)),
 y9 20 (.bin .eql (.t 19) (.c (.int .u8 92)))] <|
 .cond (.t 20) (.seq (q9 [
 y9 21 (.mv (.t 5)),
 y9 22 (.bin .add (.t 21) (.c (.int .i64 1))),
 y9 23 (.mv (.t 0)),
 y9 24 (.len true (.t 23)),
 y9 25 (.bin .lss (.t 22) (.t 24)),
 y9 26 (.mv (.t 25)),
 ⟨(some 27),.mv (.t 0),some (26,true),[]⟩,
 ⟨(some 28),.mv (.t 5),some (26,true),[]⟩,
 ⟨(some 29),.bin .add (.t 28) (.c (.int .i64 1)),some (26,true),[]⟩,
 ⟨(some 30),.index none (.t 27) (.t 29),some (26,true),[]⟩,
 ⟨(some 31),.call 252 [(.t 30),(.c (.str [34,43,44,59,60,62,92,32,35,61]))],some (26,true),[]⟩,
 y9 32 (.pick (.t 26) (.t 31) (.c (.bool false)))] <|
 .cond (.t 32) (q9 [
 y9 33 (.mv (.t 4)),
 y9 34 (.mv (.t 0)),
 y9 35 (.mv (.t 5)),
 y9 36 (.bin .add (.t 35) (.c (.int .i64 1))),
 y9 37 (.mv (.t 5)),
 y9 38 (.bin .add (.t 37) (.c (.int .i64 2))),
 y9 39 (.slice true 1 (.t 34) (some (.t 36)) (some (.t 38)) none),
 y9 40 (.bin .add (.t 33) (.t 39)),
 y9 4 (.mv (.t 40))] <|
 q9 [
 y9 41 (.mv (.t 5)),
 y9 42 (.bin .add (.t 41) (.c (.int .i64 1))),
 y9 5 (.mv (.t 42))] <|
 .exit 1) <|
 .skip) <|
 q9 [
 y9 44 (.mv (.t 0)),
 y9 45 (.mv (.t 5)),
 y9 46 (.bin .add (.t 45) (.c (.int .i64 1))),
 y9 47 (.call 253 [(.t 44),(.t 46)]),
 y9 43 (.mv (.t 47)),
 y9 48 (.extract 0 (.t 43)),
 y9 49 (.extract 1 (.t 43)),
 y9 6 (.mv (.t 48)),
 y9 7 (.mv (.t 49))] <|
 .seq (q9 [
 y9 50 (.mv (.t 7)),
 y9 51 (.un .not (.t 50))] <|
 .cond (.t 51) (q9 [
 y9 2 (.mv (.c (.str []))),
 y9 3 (.mv (.c (.int .i64 60)))] <|
 .ret) <|
 .skip) <|
 q9 [
 y9 52 (.mv (.t 4)),
 y9 53 (.mv (.t 6)),
 y9 54 (.bin .add (.t 52) (.t 53)),
 y9 4 (.mv (.t 54))] <|
 q9 [
 y9 55 (.mv (.t 5)),
 y9 56 (.bin .add (.t 55) (.c (.int .i64 2))),
 y9 5 (.mv (.t 56))] <|
 .exit 1) <|
 .skip) <|
 .seq (q9 [
 y9 57 (.mv (.t 0)),
 y9 58 (.mv (.t 5)),
 y9 59 (.index none (.t 57) (.t 58)),
 y9 60 (.call 252 [(.t 59),(.c (.str [34,43,44,59,60,62]))]),
 y9 61 (.mv (.t 60)),
 ⟨(some 62),.mv (.t 5),some (61,false),[]⟩,
 ⟨(some 63),.bin .eql (.t 62) (.c (.int .i64 0)),some (61,false),[]⟩,
 ⟨(some 64),.mv (.t 63),some (61,false),[]⟩,
 ⟨(some 65),.mv (.t 0),some (64,true),[]⟩,
 ⟨(some 66),.mv (.t 5),some (64,true),[]⟩,
 ⟨(some 67),.index none (.t 65) (.t 66),some (64,true),[]⟩,
 ⟨(some 68),.call 252 [(.t 67),(.c (.str [32,35]))],some (64,true),[]⟩,
 ⟨(some 69),.pick (.t 64) (.t 68) (.c (.bool false)),some (61,false),[]⟩,
 y9 70 (.pick (.t 61) (.c (.bool true)) (.t 69)),
 y9 71 (.mv (.t 70)),
 ⟨(some 72),.mv (.t 5),some (71,false),[]⟩,
 ⟨(some 73),.mv (.t 0),some (71,false),[]⟩,
 ⟨(some 74),.len true (.t 73),some (71,false),[]⟩,
 ⟨(some 75),.bin .sub (.t 74) (.c (.int .i64 1)),some (71,false),[]⟩,
 ⟨(some 76),.bin .eql (.t 72) (.t 75),some (71,false),[]⟩,
 ⟨(some 77),.mv (.t 76),some (71,false),[]⟩,
 ⟨(some 78),.mv (.t 0),some (77,true),[]⟩,
 ⟨(some 79),.mv (.t 5),some (77,true),[]⟩,
 ⟨(some 80),.index none (.t 78) (.t 79),some (77,true),[]⟩,
 ⟨(some 81),.bin .eql (.t 80) (.c (.int .u8 32)),some (77,true),[]⟩,
 ⟨(some 82),.pick (.t 77) (.t 81) (.c (.bool false)),some (71,false),[]⟩,
 y9 83 (.pick (.t 71) (.c (.bool true)) (.t 82))] <|
 .cond (.t 83) (q9 [
 y9 2 (.mv (.c (.str []))),
 y9 3 (.mv (.c (.int .i64 60)))] <|
 .ret) <|
 .skip) <|
 .region false [
 y9 84 (.mv (.t 4)),
 y9 85 (.mv (.t 0)),
 y9 86 (.mv (.t 5)),
 y9 87 (.mv (.t 5)),
 y9 88 (.bin .add (.t 87) (.c (.int .i64 1))),
 y9 89 (.slice true 1 (.t 85) (some (.t 86)) (some (.t 88)) none),
 y9 90 (.bin .add (.t 84) (.t 89)),
 y9 4 (.mv (.t 90))]) <|
 .region false [
 y9 15 (.mv (.t 5)),
 y9 16 (.bin .add (.t 15) (.c (.int .i64 1))),
 y9 5 (.mv (.t 16))]) <|
 q9 [
 y9 91 (.mv (.t 4)),
 y9 2 (.mv (.t 91)),
 y9 3 (.mv (.c (.int .i64 0)))] <|
 .ret
def c193 : AFun := .code 17 [.tmp 2] <|
 q9 [
 y9 2 (.mv (.c (.bool false)))] <|
 q9 [
 y9 3 (.mv (.t 0)),
 y9 4 (.bin .geq (.t 3) (.c (.int .u8 97))),
 y9 5 (.mv (.t 4)),
 ⟨(some 6),.mv (.t 0),some (5,true),[]⟩,
 ⟨(some 7),.bin .leq (.t 6) (.c (.int .u8 122)),some (5,true),[]⟩,
 y9 8 (.pick (.t 5) (.t 7) (.c (.bool false))),
 y9 9 (.mv (.t 8)),
 ⟨(some 10),.mv (.t 0),some (9,false),[]⟩,
 ⟨(some 11),.bin .geq (.t 10) (.c (.int .u8 65)),some (9,false),[]⟩,
 ⟨(some 12),.mv (.t 11),some (9,false),[]⟩,
 ⟨(some 13),.mv (.t 0),some (12,true),[]⟩,
 ⟨(some 14),.bin .leq (.t 13) (.c (.int .u8 90)),some (12,true),[]⟩,
 ⟨(some 15),.pick (.t 12) (.t 14) (.c (.bool false)),some (9,false),[]⟩,
 y9 16 (.pick (.t 9) (.c (.bool true)) (.t 15)),
 y9 2 (.mv (.t 16))] <|
 .ret
def c194 : AFun := .code 30 [.tmp 2] <|
 q9 [
 y9 2 (.mv (.c (.bool false)))] <|
 .seq (q9 [
 y9 3 (.mv (.c (.int .i64 0)))] <|
 .block 0 <| .loop <| .seq (q9 [
 y9 4 (.mv (.t 3)),
 y9 5 (.mv (.t 0)),
 y9 6 (.len true (.t 5)),
 y9 7 (.bin .lss (.t 4) (.t 6))] <|
 .cond (.t 7) (.skip) <|
 .exit 0) <|
 .seq (.block 1 <| q9 [
 y9 10 (.mv (.t 0)),
 y9 11 (.mv (.t 3)),
 y9 12 (.index none (.t 10) (.t 11)),
 y9 13 (.call 193 [(.t 12)]),
 y9 14 (.un .not (.t 13)),
 y9 15 (.mv (.t 14)),
 ⟨(some 16),.mv (.t 0),some (15,true),[]⟩,
 ⟨(some 17),.mv (.t 3),some (15,true),[]⟩,
 ⟨(some 18),.index none (.t 16) (.t 17),some (15,true),[]⟩,
 ⟨(some 19),.call 90 [(.t 18)],some (15,true),[]⟩,
 ⟨(some 20),.un .not (.t 19),some (15,true),[]⟩,
 y9 21 (.pick (.t 15) (.t 20) (.c (.bool false))),
 y9 22 (.mv (.t 21)),
 ⟨(some 23),.mv (.t 0),some (22,true),[]⟩,
 ⟨(some 24),.mv (.t 3),some (22,true),[]⟩,
 ⟨(some 25),.index none (.t 23) (.t 24),some (22,true),[]⟩,
 ⟨(some 26),.bin .neq (.t 25) (.c (.int .u8 45)),some (22,true),[]⟩,
 y9 27 (.pick (.t 22) (.t 26) (.c (.bool false)))] <|
 .cond (.t 27) (q9 [
 y9 2 (.mv (.c (.bool false)))] <|
 .ret) <|
 .skip) <|
 .region false [
 y9 8 (.mv (.t 3)),
 y9 9 (.bin .add (.t 8) (.c (.int .i64 1))),
 y9 3 (.mv (.t 9))]) <|
 q9 [
 y9 28 (.mv (.t 0)),
 y9 29 (.bin .neq (.t 28) (.c (.str []))),
 y9 2 (.mv (.t 29))] <|
 .ret
def c195 : AFun := .code 8 [.tmp 4] <|
 q9 [
 y9 4 (.mv (.c (.int .i64 0)))] <|
 q9 [
 y9 5 (.mv (.t 0)),
 y9 6 (.mv (.t 1)),
 y9 7 (.call 254 [(.t 5),(.t 6),(.c (.bool true))]),
 y9 4 (.mv (.t 7))] <|
 .ret
def c196 : AFun := .prim 2
def c197 : AFun := .code 12 [.tmp 2] <|
 q9 [
 y9 2 (.mv (.c (.bool false)))] <|
 q9 [
 y9 3 (.mv (.c (.func 256 [])))] <|
 q9 [
 y9 4 (.mv (.t 0)),
 y9 5 (.bin .neq (.t 4) (.c (.str []))),
 y9 6 (.mv (.t 5)),
 ⟨(some 7),.mv (.t 0),some (6,true),[]⟩,
 ⟨(some 8),.mv (.t 3),some (6,true),[]⟩,
 ⟨(some 9),.call 146 [(.t 7),(.t 8)],some (6,true),[]⟩,
 ⟨(some 10),.un .not (.t 9),some (6,true),[]⟩,
 y9 11 (.pick (.t 6) (.t 10) (.c (.bool false))),
 y9 2 (.mv (.t 11))] <|
 .ret
def c198 : AFun := .code 4 [.tmp 2] <|
 q9 [
 y9 1 (.box 27 (.t 0)),
 y9 2 (.mv (.c .nilFunc))] <|
 q9 [
 y9 3 (.mkfn 257 [(.t 1)]),
 y9 2 (.mv (.t 3))] <|
 .ret
def c199 : AFun := .code 107 [.tmp 2] <|
 q9 [
 y9 1 (.box 27 (.t 0)),
 y9 2 (.mv (.c (.bool false)))] <|
 .seq (.region true [
 y9 6 (.faddr 5 (.t 1)),
 y9 7 (.load false 1 (.t 6)),
 y9 8 (.len false (.t 7)),
 y9 9 (.faddr 2 (.t 1)),
 ⟨(some 10),.load false 1 (.t 9),none,[1]⟩,
 y9 11 (.bin .eql (.t 10) (.c (.str []))),
 y9 12 (.mv (.t 11)),
 ⟨(some 13),.faddr 3 (.t 1),some (12,true),[]⟩,
 ⟨(some 14),.load false 1 (.t 13),some (12,true),[1]⟩,
 ⟨(some 15),.len false (.t 14),some (12,true),[]⟩,
 ⟨(some 16),.bin .eql (.t 15) (.c (.int .i64 0)),some (12,true),[]⟩,
 y9 17 (.pick (.t 12) (.t 16) (.c (.bool false))),
 y9 18 (.mv (.t 17)),
 ⟨(some 19),.faddr 4 (.t 1),some (18,true),[]⟩,
 ⟨(some 20),.load false 1 (.t 19),some (18,true),[1]⟩,
 ⟨(some 21),.bin .eql (.t 20) (.c (.str [])),some (18,true),[]⟩,
 y9 22 (.pick (.t 18) (.t 21) (.c (.bool false))),
 y9 3 (.mv (.t 8)),
 y9 4 (.mv (.t 22))]) <|
 q9 [
 y9 23 (.faddr 1 (.t 1)),
 y9 24 (.load false 1 (.t 23)),
 y9 25 (.call 149 [(.t 24)]),
 y9 26 (.mv (.t 25)),
 ⟨(some 27),.mv (.t 3),some (26,true),[]⟩,
 ⟨(some 28),.bin .eql (.t 27) (.c (.int .i64 0)),some (26,true),[]⟩,
 y9 29 (.pick (.t 26) (.t 28) (.c (.bool false))),
 y9 30 (.mv (.t 29)),
 ⟨(some 31),.faddr 2 (.t 1),some (30,true),[]⟩,
 ⟨(some 32),.load false 1 (.t 31),some (30,true),[]⟩,
 ⟨(some 33),.faddr 4 (.t 1),some (30,true),[]⟩,
 ⟨(some 34),.load false 1 (.t 33),some (30,true),[]⟩,
 ⟨(some 35),.bslice false false 2 1 [(.str []),(.str [])] [(0,1,(.t 32)),(1,1,(.t 34))],some (30,true),[]⟩,
 ⟨(some 36),.faddr 3 (.t 1),some (30,true),[]⟩,
 ⟨(some 37),.load false 1 (.t 36),some (30,true),[]⟩,
 ⟨(some 38),.append 9 1 16 (.t 35) (.t 37),some (30,true),[]⟩,
 ⟨(some 39),.call 259 [(.t 38)],some (30,true),[]⟩,
 y9 40 (.pick (.t 30) (.t 39) (.c (.bool false))),
 y9 5 (.mv (.t 40))] <|
 .seq (q9 [
 y9 41 (.faddr 0 (.t 1)),
 y9 42 (.load false 1 (.t 41))] <|
 .block 0 <| .seq (.block 6 <| .block 5 <| .seq (.block 4 <| .seq (.block 3 <| .seq (.block 2 <| .seq (.block 1 <| .seq (.seq (q9 [
 y9 44 (.bin .eql (.t 42) (.c (.int .i64 2))),
 y9 43 (.mv (.t 44))] <|
 .cond (.t 43) (.exit 1) <|
 .skip) <|
 .seq (.seq (q9 [
 y9 46 (.bin .eql (.t 42) (.c (.int .i64 0))),
 y9 45 (.mv (.t 46))] <|
 .cond (.t 45) (.skip) <|
 .region false [
 y9 47 (.bin .eql (.t 42) (.c (.int .i64 1))),
 y9 45 (.mv (.t 47))]) <|
 .cond (.t 45) (.exit 2) <|
 .skip) <|
 .seq (q9 [
 y9 49 (.bin .eql (.t 42) (.c (.int .i64 7))),
 y9 48 (.mv (.t 49))] <|
 .cond (.t 48) (.exit 3) <|
 .skip) <|
 .seq (q9 [
 y9 51 (.bin .eql (.t 42) (.c (.int .i64 4))),
 y9 50 (.mv (.t 51))] <|
 .cond (.t 50) (.exit 4) <|
 .skip) <|
 .seq (.seq (q9 [
 y9 53 (.bin .eql (.t 42) (.c (.int .i64 3))),
 y9 52 (.mv (.t 53))] <|
 .cond (.t 52) (.skip) <|
 .region false [
 y9 54 (.bin .eql (.t 42) (.c (.int .i64 5))),
 y9 52 (.mv (.t 54))]) <|
 .cond (.t 52) (.exit 5) <|
 .skip) <|
 .seq (q9 [
 y9 56 (.bin .eql (.t 42) (.c (.int .i64 6))),
 y9 55 (.mv (.t 56))] <|
 .cond (.t 55) (.skip) <|
 .region false [
 y9 57 (.bin .eql (.t 42) (.c (.int .i64 8))),
 y9 55 (.mv (.t 57))]) <|
 .cond (.t 55) (.exit 6) <|
 .skip) <|
 .exit 0) <|
 q9 [
 y9 58 (.mv (.t 3)),
 y9 59 (.bin .gtr (.t 58) (.c (.int .i64 1)))] <|
 .cond (.t 59) (q9 [
 y9 2 (.mv (.c (.bool false)))] <|
 .ret) <|
 .skip) <|
 .seq (q9 [
 y9 60 (.faddr 1 (.t 1)),
 y9 61 (.load false 1 (.t 60)),
 y9 62 (.bin .eql (.t 61) (.c (.str []))),
 y9 63 (.mv (.t 62)),
 ⟨(some 64),.mv (.t 4),some (63,true),[]⟩,
 y9 65 (.pick (.t 63) (.t 64) (.c (.bool false))),
 y9 66 (.mv (.t 65)),
 ⟨(some 67),.mv (.t 3),some (66,true),[]⟩,
 ⟨(some 68),.bin .geq (.t 67) (.c (.int .i64 1)),some (66,true),[]⟩,
 y9 69 (.pick (.t 66) (.t 68) (.c (.bool false))),
 y9 70 (.mv (.t 69)),
 ⟨(some 71),.mv (.t 3),some (70,true),[]⟩,
 ⟨(some 72),.bin .leq (.t 71) (.c (.int .i64 8)),some (70,true),[]⟩,
 y9 73 (.pick (.t 70) (.t 72) (.c (.bool false))),
 y9 2 (.mv (.t 73))] <|
 .ret) <|
 .exit 0) <|
 .seq (q9 [
 y9 74 (.mv (.t 5)),
 y9 75 (.mv (.t 74)),
 ⟨(some 76),.mv (.t 4),some (75,true),[]⟩,
 y9 77 (.pick (.t 75) (.t 76) (.c (.bool false))),
 y9 2 (.mv (.t 77))] <|
 .ret) <|
 .exit 0) <|
 .seq (q9 [
 y9 78 (.mv (.t 5)),
 y9 79 (.mv (.t 78)),
 ⟨(some 80),.mv (.t 4),some (79,true),[]⟩,
 ⟨(some 81),.un .not (.t 80),some (79,true),[]⟩,
 y9 82 (.pick (.t 79) (.t 81) (.c (.bool false))),
 y9 83 (.mv (.t 82)),
 ⟨(some 84),.faddr 3 (.t 1),some (83,true),[]⟩,
 ⟨(some 85),.load false 1 (.t 84),some (83,true),[]⟩,
 ⟨(some 86),.len false (.t 85),some (83,true),[]⟩,
 ⟨(some 87),.bin .leq (.t 86) (.c (.int .i64 4)),some (83,true),[]⟩,
 y9 88 (.pick (.t 83) (.t 87) (.c (.bool false))),
 y9 89 (.mv (.t 88)),
 ⟨(some 90),.faddr 3 (.t 1),some (89,true),[]⟩,
 ⟨(some 91),.load false 1 (.t 90),some (89,true),[]⟩,
 ⟨(some 92),.call 260 [(.t 91),(.c (.str []))],some (89,true),[]⟩,
 ⟨(some 93),.un .not (.t 92),some (89,true),[]⟩,
 y9 94 (.pick (.t 89) (.t 93) (.c (.bool false))),
 y9 2 (.mv (.t 94))] <|
 .ret) <|
 .exit 0) <|
 .seq (q9 [
 y9 95 (.mv (.t 5)),
 y9 96 (.mv (.t 95)),
 ⟨(some 97),.faddr 3 (.t 1),some (96,true),[]⟩,
 ⟨(some 98),.load false 1 (.t 97),some (96,true),[]⟩,
 ⟨(some 99),.len false (.t 98),some (96,true),[]⟩,
 ⟨(some 100),.bin .eql (.t 99) (.c (.int .i64 0)),some (96,true),[]⟩,
 y9 101 (.pick (.t 96) (.t 100) (.c (.bool false))),
 y9 102 (.mv (.t 101)),
 ⟨(some 103),.faddr 4 (.t 1),some (102,true),[]⟩,
 ⟨(some 104),.load false 1 (.t 103),some (102,true),[]⟩,
 ⟨(some 105),.bin .eql (.t 104) (.c (.str [])),some (102,true),[]⟩,
 y9 106 (.pick (.t 102) (.t 105) (.c (.bool false))),
 y9 2 (.mv (.t 106))] <|
 .ret) <|
 .exit 0) <|
 q9 [
 y9 2 (.mv (.c (.bool false)))] <|
 .ret
def c200 : AFun := .code 19 [.tmp 4] <|
 q9 [
 y9 4 (.mv (.c (.int .i64 0)))] <|
 .seq (q9 [
 y9 6 (.mv (.t 0)),
 y9 7 (.len false (.t 6)),
 y9 8 (.mv (.c (.int .i64 0)))] <|
 .block 0 <| .loop <| q9 [
 y9 9 (.bin .lss (.t 8) (.t 7))] <|
 .seq (.cond (.t 9) (.skip) <|
 .exit 0) <|
 .seq (.block 1 <| q9 [
 y9 10 (.mv (.t 8)),
 y9 5 (.mv (.t 10))] <|
 q9 [
 y9 11 (.mv (.t 1)),
 y9 12 (.mv (.t 0)),
 y9 13 (.mv (.t 5)),
 y9 14 (.iaddr none 1 (.t 12) (.t 13)),
 y9 15 (.load false 1 (.t 14)),
 y9 16 (.callV (.t 11) [(.t 15)])] <|
 .cond (.t 16) (q9 [
 y9 17 (.mv (.t 5)),
 y9 4 (.mv (.t 17))] <|
 .ret) <|
 .skip) <|
 .region false [
 y9 18 (.bin .add (.t 8) (.c (.int .i64 1))),
 y9 8 (.mv (.t 18))]) <|
 q9 [
 y9 4 (.mv (.c (.int .i64 (-1))))] <|
 .ret
def c201 : AFun := .code 19 [.tmp 2] <|
 q9 [
 y9 1 (.box 67 (.t 0)),
 y9 2 (.mv (.c .nilIface))] <|
 q9 [
 y9 3 (.mv (.c (.int .i64 0)))] <|
 .seq (q9 [
 y9 4 (.faddr 0 (.t 1)),
 y9 5 (.load false 1 (.t 4))] <|
 .block 0 <| .seq (.block 2 <| .seq (.block 1 <| .seq (.seq (q9 [
 y9 7 (.bin .eql (.t 5) (.c (.int .i64 0))),
 y9 6 (.mv (.t 7))] <|
 .cond (.t 6) (.exit 1) <|
 .skip) <|
 .seq (q9 [
 y9 9 (.bin .eql (.t 5) (.c (.int .i64 1))),
 y9 8 (.mv (.t 9))] <|
 .cond (.t 8) (.skip) <|
 .region false [
 y9 10 (.bin .eql (.t 5) (.c (.int .i64 2))),
 y9 8 (.mv (.t 10))]) <|
 .cond (.t 8) (.exit 2) <|
 .skip) <|
 .exit 0) <|
 .region false [
 y9 11 (.mv (.t 3)),
 y9 12 (.bin .add (.t 11) (.c (.int .i64 1))),
 y9 3 (.mv (.t 12))]) <|
 .seq (q9 [
 y9 13 (.faddr 1 (.t 1)),
 y9 14 (.load true 2 (.t 13)),
 y9 15 (.mv (.t 3)),
 y9 16 (.call 128 [(.t 14),(.t 15)]),
 y9 2 (.mv (.t 16))] <|
 .ret) <|
 .exit 0) <|
 q9 [
 y9 17 (.build [(.str [])] [(0,1,(.c (.str [99,104,97,110,103,101])))]),
 y9 18 (.mkif 251 (.t 17)),
 y9 2 (.mv (.t 18))] <|
 .ret
def c202 : AFun := .code 19 [.tmp 4] <|
 q9 [
 y9 4 (.mv (.c (.int .i64 0)))] <|
 .seq (q9 [
 y9 6 (.mv (.t 0)),
 y9 7 (.len false (.t 6)),
 y9 8 (.mv (.c (.int .i64 0)))] <|
 .block 0 <| .loop <| q9 [
 y9 9 (.bin .lss (.t 8) (.t 7))] <|
 .seq (.cond (.t 9) (.skip) <|
 .exit 0) <|
 .seq (.block 1 <| q9 [
 y9 10 (.mv (.t 8)),
 y9 5 (.mv (.t 10))] <|
 q9 [
 y9 11 (.mv (.t 1)),
 y9 12 (.mv (.t 0)),
 y9 13 (.mv (.t 5)),
 y9 14 (.iaddr none 3 (.t 12) (.t 13)),
 y9 15 (.load true 3 (.t 14)),
 y9 16 (.callV (.t 11) [(.t 15)])] <|
 .cond (.t 16) (q9 [
 y9 17 (.mv (.t 5)),
 y9 4 (.mv (.t 17))] <|
 .ret) <|
 .skip) <|
 .region false [
 y9 18 (.bin .add (.t 8) (.c (.int .i64 1))),
 y9 8 (.mv (.t 18))]) <|
 q9 [
 y9 4 (.mv (.c (.int .i64 (-1))))] <|
 .ret
def c203 : AFun := .code 19 [.tmp 4] <|
 q9 [
 y9 4 (.mv (.c (.int .i64 0)))] <|
 .seq (q9 [
 y9 6 (.mv (.t 0)),
 y9 7 (.len false (.t 6)),
 y9 8 (.mv (.c (.int .i64 0)))] <|
 .block 0 <| .loop <| q9 [
 y9 9 (.bin .lss (.t 8) (.t 7))] <|
 .seq (.cond (.t 9) (.skip) <|
 .exit 0) <|
 .seq (.block 1 <| q9 [
 y9 10 (.mv (.t 8)),
 y9 5 (.mv (.t 10))] <|
 q9 [
 y9 11 (.mv (.t 1)),
 y9 12 (.mv (.t 0)),
 y9 13 (.mv (.t 5)),
 y9 14 (.iaddr none 2 (.t 12) (.t 13)),
 y9 15 (.load true 2 (.t 14)),
 y9 16 (.callV (.t 11) [(.t 15)])] <|
 .cond (.t 16) (q9 [
 y9 17 (.mv (.t 5)),
 y9 4 (.mv (.t 17))] <|
 .ret) <|
 .skip) <|
 .region false [
 y9 18 (.bin .add (.t 8) (.c (.int .i64 1))),
 y9 8 (.mv (.t 18))]) <|
 q9 [
 y9 4 (.mv (.c (.int .i64 (-1))))] <|
 .ret
def c204 : AFun := .code 47 [.cell 2 false 1,.cell 3 false 1] <|
 q9 [
 y9 2 (.alloc 142 [(.slice [] .nil)]),
 y9 3 (.alloc 80 [.nilIface])] <|
 .seq (q9 [
 y9 10 (.mv (.t 0)),
 y9 11 (.bin .eql (.t 10) (.c (.str [])))] <|
 .cond (.t 11) (q9 [
 w9 (.store 1 (.t 2) (.c (.slice [] .nil))),
 w9 (.store 1 (.t 3) (.c .nilIface))] <|
 .ret) <|
 .skip) <|
 q9 [
 y9 4 (.alloc 142 [(.slice [] .nil)])] <|
 .seq (q9 [
 y9 12 (.mv (.t 0)),
 y9 13 (.build [(.str [])] [(0,1,(.t 12))]),
 y9 14 (.build [(.str []),(.int .u8 0)] [(0,1,(.t 13)),(1,1,(.c (.int .u8 44)))]),
 y9 15 (.call 261 [(.t 14)])] <|
 .block 0 <| .rfunc (.t 15) [16] (.region false [
 y9 5 (.mv (.t 16))]) <|
 .block 1 <| q9 [
 y9 6 (.alloc 202 [(.slice [] .nil)])] <|
 .seq (q9 [
 y9 17 (.mv (.t 5)),
 y9 18 (.build [(.str [])] [(0,1,(.t 17))]),
 y9 19 (.build [(.str []),(.int .u8 0)] [(0,1,(.t 18)),(1,1,(.c (.int .u8 43)))]),
 y9 20 (.call 261 [(.t 19)])] <|
 .block 2 <| .rfunc (.t 20) [21] (.region false [
 y9 7 (.mv (.t 21))]) <|
 .block 3 <| q9 [
 y9 23 (.mv (.t 7)),
 y9 24 (.call 262 [(.t 23)]),
 y9 22 (.mv (.t 24)),
 y9 25 (.extract 0 (.t 22)),
 y9 26 (.extract 1 (.t 22)),
 y9 8 (.alloc 204 [(.str []),(.str [])]),
 w9 (.store 2 (.t 8) (.t 25)),
 y9 9 (.mv (.t 26))] <|
 .seq (q9 [
 y9 27 (.mv (.t 9)),
 y9 28 (.eq true (.iface [15,127,157,165,234,252,336,354,360,378,420,427,428]) true (.t 27) (.c .nilIface))] <|
 .cond (.t 28) (q9 [
 y9 29 (.mv (.t 9)),
 w9 (.store 1 (.t 2) (.c (.slice [] .nil))),
 w9 (.store 1 (.t 3) (.t 29))] <|
 .ret) <|
 .skip) <|
 .region false [
 y9 30 (.faddr 0 (.t 6)),
 y9 31 (.load false 1 (.t 30)),
 y9 32 (.load true 2 (.t 8)),
 y9 33 (.bslice false true 1 2 [(.str []),(.str [])] [(0,2,(.t 32))]),
 y9 34 (.append 204 2 32 (.t 31) (.t 33)),
 y9 35 (.faddr 0 (.t 6)),
 w9 (.store 1 (.t 35) (.t 34))]) <|
 .region false [
 y9 36 (.load false 1 (.t 4)),
 y9 37 (.load true 1 (.t 6)),
 y9 38 (.bslice false true 1 1 [(.slice [] .nil)] [(0,1,(.t 37))]),
 y9 39 (.append 202 1 24 (.t 36) (.t 38)),
 w9 (.store 1 (.t 4) (.t 39))]) <|
 .seq (q9 [
 y9 40 (.load false 1 (.t 4)),
 y9 41 (.call 263 [(.t 40)]),
 y9 42 (.un .not (.t 41))] <|
 .cond (.t 42) (q9 [
 y9 43 (.mv (.t 0)),
 y9 44 (.build [(.str [])] [(0,1,(.t 43))]),
 y9 45 (.mkif 335 (.t 44)),
 w9 (.store 1 (.t 2) (.c (.slice [] .nil))),
 w9 (.store 1 (.t 3) (.t 45))] <|
 .ret) <|
 .skip) <|
 q9 [
 y9 46 (.load false 1 (.t 4)),
 w9 (.store 1 (.t 2) (.t 46)),
 w9 (.store 1 (.t 3) (.c .nilIface))] <|
 .ret
def c205 : AFun := .code 12 [.tmp 2] <|
 q9 [
 y9 2 (.mv (.c (.int .i64 0)))] <|
 q9 [
 y9 3 (.alloc 335 [(.str [])])] <|
 .seq (q9 [
 y9 4 (.mv (.t 0)),
 y9 5 (.load false 1 (.c (.ptr 8 0))),
 y9 6 (.call 75 [(.t 4),(.t 5)]),
 y9 7 (.mv (.t 6)),
 ⟨(some 8),.mv (.t 0),some (7,true),[]⟩,
 ⟨(some 9),.mkif 336 (.t 3),some (7,true),[]⟩,
 ⟨(some 10),.call 74 [(.t 8),(.t 9)],some (7,true),[]⟩,
 y9 11 (.pick (.t 7) (.t 10) (.c (.bool false)))] <|
 .cond (.t 11) (q9 [
 y9 2 (.mv (.c (.int .i64 70)))] <|
 .ret) <|
 .skip) <|
 q9 [
 y9 2 (.mv (.c (.int .i64 0)))] <|
 .ret
def c206 : AFun := .code 19 [.cell 4 true 3] <|
 q9 [
 y9 2 (.box 155 (.t 0)),
 y9 4 (.alloc 155 [(.int .i64 0),(.str []),(.slice [] .nil)])] <|
 .seq (q9 [
 y9 5 (.mv (.t 1)),
 y9 6 (.faddr 0 (.t 2)),
 y9 7 (.faddr 2 (.t 6)),
 y9 8 (.load false 1 (.t 7)),
 y9 9 (.len false (.t 8)),
 y9 10 (.bin .geq (.t 5) (.t 9))] <|
 .cond (.t 10) (q9 [
 y9 11 (.build [(.int .i64 0),(.str []),(.slice [] .nil)] []),
 w9 (.store 3 (.t 4) (.t 11))] <|
 .ret) <|
 .skip) <|
 q9 [
 y9 12 (.faddr 0 (.t 2)),
 y9 13 (.faddr 2 (.t 12)),
 y9 14 (.load false 1 (.t 13)),
 y9 15 (.mv (.t 1)),
 y9 16 (.iaddr none 3 (.t 14) (.t 15)),
 y9 17 (.load true 3 (.t 16)),
 y9 18 (.build [(.int .i64 0),(.str []),(.slice [] .nil)] [(0,3,(.t 17))]),
 w9 (.store 3 (.t 4) (.t 18))] <|
 .ret
def c207 : AFun := .code 14 [.cell 2 true 6,.tmp 3] <|
 q9 [
 y9 1 (.box 45 (.t 0)),
 y9 2 (.alloc 27 [(.int .i64 0),(.str []),(.str []),(.slice [] .nil),(.str []),(.slice [] .nil)]),
 y9 3 (.mv (.c (.int .i64 0)))] <|
 q9 [
 y9 7 (.load true 3 (.t 1)),
 y9 8 (.call 264 [(.t 7)]),
 y9 6 (.mv (.t 8)),
 y9 9 (.extract 0 (.t 6)),
 y9 10 (.extract 1 (.t 6)),
 y9 4 (.alloc 27 [(.int .i64 0),(.str []),(.str []),(.slice [] .nil),(.str []),(.slice [] .nil)]),
 w9 (.store 6 (.t 4) (.t 9)),
 y9 5 (.mv (.t 10))] <|
 .seq (.region true [
 y9 11 (.load true 6 (.t 4)),
 y9 12 (.mv (.t 5)),
 ⟨(some 13),.call 265 [(.t 12)],none,[0]⟩,
 w9 (.store 6 (.t 2) (.t 11)),
 y9 3 (.mv (.t 13))]) <|
 .ret
def c208 : AFun := .code 13 [.tmp 2] <|
 q9 [
 y9 1 (.box 155 (.t 0)),
 y9 2 (.mv (.c (.int .i64 0)))] <|
 q9 [
 y9 6 (.faddr 0 (.t 1)),
 y9 7 (.faddr 1 (.t 6)),
 y9 8 (.load false 1 (.t 7)),
 y9 9 (.call 266 [(.t 8)]),
 y9 5 (.mv (.t 9)),
 y9 10 (.extract 0 (.t 5)),
 y9 11 (.extract 1 (.t 5)),
 y9 3 (.mv (.t 10)),
 y9 4 (.mv (.t 11))] <|
 q9 [
 y9 12 (.mv (.t 3)),
 y9 2 (.mv (.t 12))] <|
 .ret
def c209 : AFun := .code 13 [.tmp 2] <|
 q9 [
 y9 1 (.box 155 (.t 0)),
 y9 2 (.mv (.c (.bool false)))] <|
 q9 [
 y9 6 (.faddr 0 (.t 1)),
 y9 7 (.faddr 1 (.t 6)),
 y9 8 (.load false 1 (.t 7)),
 y9 9 (.call 222 [(.t 8)]),
 y9 5 (.mv (.t 9)),
 y9 10 (.extract 0 (.t 5)),
 y9 11 (.extract 1 (.t 5)),
 y9 3 (.mv (.t 10)),
 y9 4 (.mv (.t 11))] <|
 q9 [
 y9 12 (.mv (.t 3)),
 y9 2 (.mv (.t 12))] <|
 .ret
def c210 : AFun := .code 21 [.tmp 2] <|
 q9 [
 y9 1 (.box 155 (.t 0)),
 y9 2 (.mv (.c (.slice [] .nil)))] <|
 q9 [
 y9 3 (.mv (.c (.slice [] .nil)))] <|
 .seq (q9 [
 y9 6 (.faddr 0 (.t 1)),
 y9 7 (.faddr 2 (.t 6)),
 y9 8 (.load false 1 (.t 7)),
 y9 9 (.len false (.t 8)),
 y9 10 (.mv (.c (.int .i64 0)))] <|
 .block 0 <| .loop <| q9 [
 y9 11 (.bin .lss (.t 10) (.t 9))] <|
 .seq (.cond (.t 11) (.skip) <|
 .exit 0) <|
 .seq (.block 1 <| q9 [
 y9 12 (.iaddr none 3 (.t 8) (.t 10)),
 y9 13 (.load true 3 (.t 12)),
 y9 5 (.alloc 45 [(.int .i64 0),(.str []),(.slice [] .nil)]),
 w9 (.store 3 (.t 5) (.t 13))] <|
 .region false [
 y9 14 (.mv (.t 3)),
 y9 15 (.faddr 1 (.t 5)),
 y9 16 (.load false 1 (.t 15)),
 y9 17 (.bslice false false 1 1 [(.str [])] [(0,1,(.t 16))]),
 y9 18 (.append 9 1 16 (.t 14) (.t 17)),
 y9 3 (.mv (.t 18))]) <|
 .region false [
 y9 19 (.bin .add (.t 10) (.c (.int .i64 1))),
 y9 10 (.mv (.t 19))]) <|
 q9 [
 y9 20 (.mv (.t 3)),
 y9 2 (.mv (.t 20))] <|
 .ret
def c211 : AFun := .code 14 [.cell 2 true 3,.tmp 3] <|
 q9 [
 y9 1 (.box 45 (.t 0)),
 y9 2 (.alloc 67 [(.int .i64 0),(.str []),(.slice [] .nil)]),
 y9 3 (.mv (.c (.int .i64 0)))] <|
 q9 [
 y9 7 (.load true 3 (.t 1)),
 y9 8 (.call 267 [(.t 7)]),
 y9 6 (.mv (.t 8)),
 y9 9 (.extract 0 (.t 6)),
 y9 10 (.extract 1 (.t 6)),
 y9 4 (.alloc 67 [(.int .i64 0),(.str []),(.slice [] .nil)]),
 w9 (.store 3 (.t 4) (.t 9)),
 y9 5 (.mv (.t 10))] <|
 .seq (.region true [
 y9 11 (.load true 3 (.t 4)),
 y9 12 (.mv (.t 5)),
 ⟨(some 13),.call 124 [(.t 12)],none,[0]⟩,
 w9 (.store 3 (.t 2) (.t 11)),
 y9 3 (.mv (.t 13))]) <|
 .ret
def c212 : AFun := .code 42 [.cell 2 true 3] <|
 q9 [
 y9 1 (.box 116 (.t 0)),
 y9 2 (.alloc 45 [(.int .i64 0),(.str []),(.slice [] .nil)])] <|
 q9 [
 y9 4 (.faddr 0 (.t 1)),
 y9 5 (.faddr 21 (.t 4)),
 y9 6 (.faddr 1 (.t 5)),
 y9 7 (.load false 1 (.t 6)),
 y9 8 (.call 268 [(.c (.int .i64 128)),(.t 7)]),
 y9 3 (.alloc 45 [(.int .i64 0),(.str []),(.slice [] .nil)]),
 w9 (.store 3 (.t 3) (.t 8))] <|
 .seq (.block 0 <| q9 [
 y9 10 (.faddr 0 (.t 1)),
 y9 11 (.faddr 21 (.t 10)),
 y9 12 (.faddr 3 (.t 11)),
 y9 13 (.load false 1 (.t 12)),
 y9 9 (.mv (.t 13))] <|
 .cond (.t 9) (.region false [
 y9 14 (.faddr 0 (.t 1)),
 y9 15 (.faddr 21 (.t 14)),
 y9 16 (.faddr 2 (.t 15)),
 y9 17 (.load false 1 (.t 16)),
 y9 18 (.faddr 0 (.t 1)),
 y9 19 (.faddr 21 (.t 18)),
 y9 20 (.faddr 1 (.t 19)),
 y9 21 (.load false 1 (.t 20)),
 y9 22 (.bslice false false 2 1 [(.str []),(.str [])] [(0,1,(.t 17)),(1,1,(.t 21))]),
 y9 23 (.call 269 [(.c (.int .i64 163)),(.t 22)]),
 w9 (.store 3 (.t 3) (.t 23))]) <|
 q9 [
 y9 25 (.faddr 0 (.t 1)),
 y9 26 (.faddr 21 (.t 25)),
 y9 27 (.faddr 0 (.t 26)),
 y9 28 (.load false 1 (.t 27)),
 y9 29 (.un .not (.t 28)),
 y9 24 (.mv (.t 29))] <|
 .cond (.t 24) (.region false [
 y9 30 (.faddr 0 (.t 1)),
 y9 31 (.faddr 21 (.t 30)),
 y9 32 (.faddr 2 (.t 31)),
 y9 33 (.load false 1 (.t 32)),
 y9 34 (.bslice false false 1 1 [(.str [])] [(0,1,(.t 33))]),
 y9 35 (.call 269 [(.c (.int .i64 163)),(.t 34)]),
 w9 (.store 3 (.t 3) (.t 35))]) <|
 .skip) <|
 .seq (.region true [
 y9 36 (.call 271 [(.c (.int .i64 2)),(.c (.int .i64 3))]),
 ⟨(some 37),.load true 35 (.t 1),none,[0]⟩,
 y9 38 (.call 272 [(.t 37)]),
 ⟨(some 39),.load true 3 (.t 3),none,[0,1,2]⟩,
 y9 40 (.bslice false true 3 3 [(.int .i64 0),(.str []),(.slice [] .nil),(.int .i64 0),(.str []),(.slice [] .nil),(.int .i64 0),(.str []),(.slice [] .nil)] [(0,3,(.t 36)),(3,3,(.t 38)),(6,3,(.t 39))]),
 y9 41 (.call 270 [(.c (.int .i64 96)),(.t 40)]),
 w9 (.store 3 (.t 2) (.t 41))]) <|
 .ret
def c213 : AFun := .code 4 [.cell 2 true 3] <|
 q9 [
 y9 1 (.box 116 (.t 0)),
 y9 2 (.alloc 45 [(.int .i64 0),(.str []),(.slice [] .nil)])] <|
 q9 [
 y9 3 (.call 268 [(.c (.int .i64 66)),(.c (.str []))]),
 w9 (.store 3 (.t 2) (.t 3))] <|
 .ret
def c214 : AFun := .code 39 [.cell 2 true 3] <|
 q9 [
 y9 1 (.box 116 (.t 0)),
 y9 2 (.alloc 45 [(.int .i64 0),(.str []),(.slice [] .nil)])] <|
 q9 [
 y9 6 (.faddr 0 (.t 1)),
 y9 7 (.faddr 5 (.t 6)),
 y9 8 (.load true 12 (.t 7)),
 y9 3 (.alloc 29 [(.int .i64 0),(.int .i64 0),(.int .i64 0),(.int .i64 0),(.bool false),(.int .i64 0),(.str []),(.str []),(.slice [] .nil),(.str []),(.slice [] .nil),(.slice [] .nil)]),
 w9 (.store 12 (.t 3) (.t 8))] <|
 q9 [
 y9 10 (.faddr 5 (.t 3)),
 y9 11 (.load true 6 (.t 10)),
 y9 12 (.call 273 [(.t 11)]),
 y9 9 (.mv (.t 12)),
 y9 13 (.extract 0 (.t 9)),
 y9 14 (.extract 1 (.t 9)),
 y9 4 (.alloc 45 [(.int .i64 0),(.str []),(.slice [] .nil)]),
 w9 (.store 3 (.t 4) (.t 13)),
 y9 5 (.mv (.t 14))] <|
 .seq (.region true [
 y9 15 (.load true 35 (.t 1)),
 y9 16 (.call 272 [(.t 15)]),
 y9 17 (.faddr 0 (.t 3)),
 ⟨(some 18),.load false 1 (.t 17),none,[0,1]⟩,
 y9 19 (.call 271 [(.c (.int .i64 10)),(.t 18)]),
 y9 20 (.faddr 1 (.t 3)),
 ⟨(some 21),.load false 1 (.t 20),none,[0,1,3,4]⟩,
 y9 22 (.call 271 [(.c (.int .i64 10)),(.t 21)]),
 y9 23 (.faddr 2 (.t 3)),
 ⟨(some 24),.load false 1 (.t 23),none,[0,1,3,4,6,7]⟩,
 y9 25 (.call 271 [(.c (.int .i64 2)),(.t 24)]),
 y9 26 (.faddr 3 (.t 3)),
 ⟨(some 27),.load false 1 (.t 26),none,[0,1,3,4,6,7,9,10]⟩,
 y9 28 (.call 271 [(.c (.int .i64 2)),(.t 27)]),
 y9 29 (.faddr 4 (.t 3)),
 ⟨(some 30),.load false 1 (.t 29),none,[0,1,3,4,6,7,9,10,12,13]⟩,
 y9 31 (.call 274 [(.t 30)]),
 y9 32 (.call 268 [(.c (.int .i64 1)),(.t 31)]),
 ⟨(some 33),.load true 3 (.t 4),none,[0,1,3,4,6,7,9,10,12,13,15,16,17]⟩,
 y9 34 (.faddr 11 (.t 3)),
 ⟨(some 35),.load false 1 (.t 34),none,[0,1,3,4,6,7,9,10,12,13,15,16,17,18]⟩,
 ⟨(some 36),.call 269 [(.c (.int .i64 48)),(.t 35)],none,[18]⟩,
 y9 37 (.bslice false true 8 3 [(.int .i64 0),(.str []),(.slice [] .nil),(.int .i64 0),(.str []),(.slice [] .nil),(.int .i64 0),(.str []),(.slice [] .nil),(.int .i64 0),(.str []),(.slice [] .nil),(.int .i64 0),(.str []),(.slice [] .nil),(.int .i64 0),(.str []),(.slice [] .nil),(.int .i64 0),(.str []),(.slice [] .nil),(.int .i64 0),(.str []),(.slice [] .nil)] [(0,3,(.t 16)),(3,3,(.t 19)),(6,3,(.t 22)),(9,3,(.t 25)),(12,3,(.t 28)),(15,3,(.t 32)),(18,3,(.t 33)),(21,3,(.t 36))]),
 y9 38 (.call 270 [(.c (.int .i64 99)),(.t 37)]),
 w9 (.store 3 (.t 2) (.t 38))]) <|
 .ret
def c215 : AFun := .code 34 [.cell 2 true 3] <|
 q9 [
 y9 1 (.box 116 (.t 0)),
 y9 2 (.alloc 45 [(.int .i64 0),(.str []),(.slice [] .nil)])] <|
 q9 [
 y9 8 (.call 270 [(.c (.int .i64 48)),(.c (.slice [] .nil))]),
 y9 3 (.alloc 45 [(.int .i64 0),(.str []),(.slice [] .nil)]),
 w9 (.store 3 (.t 3) (.t 8))] <|
 .seq (q9 [
 y9 9 (.faddr 0 (.t 1)),
 y9 10 (.faddr 4 (.t 9)),
 y9 11 (.load false 1 (.t 10)),
 y9 12 (.len false (.t 11)),
 y9 13 (.mv (.c (.int .i64 0)))] <|
 .block 0 <| .loop <| q9 [
 y9 14 (.bin .lss (.t 13) (.t 12))] <|
 .seq (.cond (.t 14) (.skip) <|
 .exit 0) <|
 .seq (.block 1 <| q9 [
 y9 15 (.iaddr none 3 (.t 11) (.t 13)),
 y9 16 (.load true 3 (.t 15)),
 y9 5 (.alloc 67 [(.int .i64 0),(.str []),(.slice [] .nil)]),
 w9 (.store 3 (.t 5) (.t 16))] <|
 q9 [
 y9 18 (.load true 3 (.t 5)),
 y9 19 (.call 154 [(.t 18)]),
 y9 17 (.mv (.t 19)),
 y9 20 (.extract 0 (.t 17)),
 y9 21 (.extract 1 (.t 17)),
 y9 6 (.alloc 45 [(.int .i64 0),(.str []),(.slice [] .nil)]),
 w9 (.store 3 (.t 6) (.t 20)),
 y9 7 (.mv (.t 21))] <|
 .region false [
 y9 22 (.faddr 2 (.t 3)),
 y9 23 (.load false 1 (.t 22)),
 y9 24 (.load true 3 (.t 6)),
 y9 25 (.bslice false true 1 3 [(.int .i64 0),(.str []),(.slice [] .nil)] [(0,3,(.t 24))]),
 y9 26 (.append 45 3 48 (.t 23) (.t 25)),
 y9 27 (.faddr 2 (.t 3)),
 w9 (.store 1 (.t 27) (.t 26))]) <|
 .region false [
 y9 28 (.bin .add (.t 13) (.c (.int .i64 1))),
 y9 13 (.mv (.t 28))]) <|
 .seq (.region true [
 y9 29 (.load true 35 (.t 1)),
 y9 30 (.call 272 [(.t 29)]),
 ⟨(some 31),.load true 3 (.t 3),none,[0,1]⟩,
 y9 32 (.bslice false true 2 3 [(.int .i64 0),(.str []),(.slice [] .nil),(.int .i64 0),(.str []),(.slice [] .nil)] [(0,3,(.t 30)),(3,3,(.t 31))]),
 y9 33 (.call 270 [(.c (.int .i64 102)),(.t 32)]),
 w9 (.store 3 (.t 2) (.t 33))]) <|
 .ret
def c216 : AFun := .code 34 [.cell 2 true 3] <|
 q9 [
 y9 1 (.box 116 (.t 0)),
 y9 2 (.alloc 45 [(.int .i64 0),(.str []),(.slice [] .nil)])] <|
 q9 [
 y9 8 (.call 270 [(.c (.int .i64 48)),(.c (.slice [] .nil))]),
 y9 3 (.alloc 45 [(.int .i64 0),(.str []),(.slice [] .nil)]),
 w9 (.store 3 (.t 3) (.t 8))] <|
 .seq (q9 [
 y9 9 (.faddr 0 (.t 1)),
 y9 10 (.faddr 3 (.t 9)),
 y9 11 (.load false 1 (.t 10)),
 y9 12 (.len false (.t 11)),
 y9 13 (.mv (.c (.int .i64 0)))] <|
 .block 0 <| .loop <| q9 [
 y9 14 (.bin .lss (.t 13) (.t 12))] <|
 .seq (.cond (.t 14) (.skip) <|
 .exit 0) <|
 .seq (.block 1 <| q9 [
 y9 15 (.iaddr none 2 (.t 11) (.t 13)),
 y9 16 (.load true 2 (.t 15)),
 y9 5 (.alloc 64 [(.str []),(.slice [] .nil)]),
 w9 (.store 2 (.t 5) (.t 16))] <|
 q9 [
 y9 18 (.load true 2 (.t 5)),
 y9 19 (.call 77 [(.t 18),(.c (.int .i64 1))]),
 y9 17 (.mv (.t 19)),
 y9 20 (.extract 0 (.t 17)),
 y9 21 (.extract 1 (.t 17)),
 y9 6 (.alloc 45 [(.int .i64 0),(.str []),(.slice [] .nil)]),
 w9 (.store 3 (.t 6) (.t 20)),
 y9 7 (.mv (.t 21))] <|
 .region false [
 y9 22 (.faddr 2 (.t 3)),
 y9 23 (.load false 1 (.t 22)),
 y9 24 (.load true 3 (.t 6)),
 y9 25 (.bslice false true 1 3 [(.int .i64 0),(.str []),(.slice [] .nil)] [(0,3,(.t 24))]),
 y9 26 (.append 45 3 48 (.t 23) (.t 25)),
 y9 27 (.faddr 2 (.t 3)),
 w9 (.store 1 (.t 27) (.t 26))]) <|
 .region false [
 y9 28 (.bin .add (.t 13) (.c (.int .i64 1))),
 y9 13 (.mv (.t 28))]) <|
 .seq (.region true [
 y9 29 (.load true 35 (.t 1)),
 y9 30 (.call 272 [(.t 29)]),
 ⟨(some 31),.load true 3 (.t 3),none,[0,1]⟩,
 y9 32 (.bslice false true 2 3 [(.int .i64 0),(.str []),(.slice [] .nil),(.int .i64 0),(.str []),(.slice [] .nil)] [(0,3,(.t 30)),(3,3,(.t 31))]),
 y9 33 (.call 270 [(.c (.int .i64 104)),(.t 32)]),
 w9 (.store 3 (.t 2) (.t 33))]) <|
 .ret
def c217 : AFun := .code 7 [.cell 2 true 3] <|
 q9 [
 y9 1 (.box 116 (.t 0)),
 y9 2 (.alloc 45 [(.int .i64 0),(.str []),(.slice [] .nil)])] <|
 q9 [
 y9 3 (.faddr 0 (.t 1)),
 y9 4 (.faddr 2 (.t 3)),
 y9 5 (.load false 1 (.t 4)),
 y9 6 (.call 268 [(.c (.int .i64 74)),(.t 5)]),
 w9 (.store 3 (.t 2) (.t 6))] <|
 .ret
def c218 : AFun := .code 34 [.cell 2 true 3] <|
 q9 [
 y9 1 (.box 116 (.t 0)),
 y9 2 (.alloc 45 [(.int .i64 0),(.str []),(.slice [] .nil)])] <|
 .seq (.region true [
 y9 4 (.load true 35 (.t 1)),
 y9 5 (.call 272 [(.t 4)]),
 y9 6 (.faddr 0 (.t 1)),
 y9 7 (.faddr 17 (.t 6)),
 y9 8 (.faddr 0 (.t 7)),
 ⟨(some 9),.load false 1 (.t 8),none,[0,1]⟩,
 y9 10 (.call 268 [(.c (.int .i64 4)),(.t 9)]),
 y9 11 (.faddr 0 (.t 1)),
 y9 12 (.faddr 17 (.t 11)),
 y9 13 (.faddr 1 (.t 12)),
 ⟨(some 14),.load false 1 (.t 13),none,[0,1,5,6]⟩,
 y9 15 (.call 274 [(.t 14)]),
 y9 16 (.call 268 [(.c (.int .i64 1)),(.t 15)]),
 y9 17 (.bslice false true 3 3 [(.int .i64 0),(.str []),(.slice [] .nil),(.int .i64 0),(.str []),(.slice [] .nil),(.int .i64 0),(.str []),(.slice [] .nil)] [(0,3,(.t 5)),(3,3,(.t 10)),(6,3,(.t 16))]),
 y9 18 (.call 270 [(.c (.int .i64 108)),(.t 17)]),
 ⟨(some 3),.alloc 45 [(.int .i64 0),(.str []),(.slice [] .nil)],none,[0,1,5,6,10,11,12,13,14]⟩,
 w9 (.store 3 (.t 3) (.t 18))]) <|
 .seq (q9 [
 y9 19 (.faddr 0 (.t 1)),
 y9 20 (.faddr 17 (.t 19)),
 y9 21 (.faddr 3 (.t 20)),
 y9 22 (.load false 1 (.t 21))] <|
 .cond (.t 22) (.region true [
 y9 23 (.faddr 2 (.t 3)),
 y9 24 (.load false 1 (.t 23)),
 y9 25 (.faddr 0 (.t 1)),
 y9 26 (.faddr 17 (.t 25)),
 y9 27 (.faddr 2 (.t 26)),
 ⟨(some 28),.load false 1 (.t 27),none,[1]⟩,
 ⟨(some 29),.call 268 [(.c (.int .i64 128)),(.t 28)],none,[1]⟩,
 ⟨(some 30),.bslice false true 1 3 [(.int .i64 0),(.str []),(.slice [] .nil)] [(0,3,(.t 29))],none,[1]⟩,
 y9 31 (.append 45 3 48 (.t 24) (.t 30)),
 y9 32 (.faddr 2 (.t 3)),
 w9 (.store 1 (.t 32) (.t 31))]) <|
 .skip) <|
 q9 [
 y9 33 (.load true 3 (.t 3)),
 w9 (.store 3 (.t 2) (.t 33))] <|
 .ret
def c219 : AFun := .code 23 [.cell 2 true 3] <|
 q9 [
 y9 1 (.box 116 (.t 0)),
 y9 2 (.alloc 45 [(.int .i64 0),(.str []),(.slice [] .nil)])] <|
 .seq (.region true [
 y9 3 (.load true 35 (.t 1)),
 y9 4 (.call 272 [(.t 3)]),
 y9 5 (.faddr 0 (.t 1)),
 y9 6 (.faddr 3 (.t 5)),
 ⟨(some 7),.load false 1 (.t 6),none,[0,1]⟩,
 ⟨(some 8),.iaddr none 2 (.t 7) (.c (.int .i64 0)),none,[0,1]⟩,
 y9 9 (.faddr 0 (.t 8)),
 ⟨(some 10),.load false 1 (.t 9),none,[0,1]⟩,
 y9 11 (.faddr 0 (.t 1)),
 y9 12 (.faddr 3 (.t 11)),
 ⟨(some 13),.load false 1 (.t 12),none,[0,1,4,5,7]⟩,
 ⟨(some 14),.iaddr none 2 (.t 13) (.c (.int .i64 0)),none,[0,1,4,5,7]⟩,
 y9 15 (.faddr 1 (.t 14)),
 ⟨(some 16),.load false 1 (.t 15),none,[0,1,4,5,7]⟩,
 ⟨(some 17),.iaddr none 1 (.t 16) (.c (.int .i64 0)),none,[0,1,4,5,7]⟩,
 ⟨(some 18),.load false 1 (.t 17),none,[0,1,4,5,7]⟩,
 ⟨(some 19),.bslice false false 2 1 [(.str []),(.str [])] [(0,1,(.t 10)),(1,1,(.t 18))],none,[0,1]⟩,
 y9 20 (.call 269 [(.c (.int .i64 48)),(.t 19)]),
 y9 21 (.bslice false true 2 3 [(.int .i64 0),(.str []),(.slice [] .nil),(.int .i64 0),(.str []),(.slice [] .nil)] [(0,3,(.t 4)),(3,3,(.t 20))]),
 y9 22 (.call 270 [(.c (.int .i64 110)),(.t 21)]),
 w9 (.store 3 (.t 2) (.t 22))]) <|
 .ret
def c220 : AFun := .code 7 [.cell 2 true 3] <|
 q9 [
 y9 1 (.box 116 (.t 0)),
 y9 2 (.alloc 45 [(.int .i64 0),(.str []),(.slice [] .nil)])] <|
 q9 [
 y9 3 (.faddr 0 (.t 1)),
 y9 4 (.faddr 33 (.t 3)),
 y9 5 (.load false 1 (.t 4)),
 y9 6 (.call 271 [(.c (.int .i64 80)),(.t 5)]),
 w9 (.store 3 (.t 2) (.t 6))] <|
 .ret
def c221 : AFun := .code 26 [.cell 2 true 3] <|
 q9 [
 y9 1 (.box 116 (.t 0)),
 y9 2 (.alloc 45 [(.int .i64 0),(.str []),(.slice [] .nil)])] <|
 q9 [
 y9 4 (.faddr 0 (.t 1)),
 y9 5 (.faddr 25 (.t 4)),
 y9 6 (.faddr 0 (.t 5)),
 y9 7 (.load false 1 (.t 6)),
 y9 8 (.call 268 [(.c (.int .i64 128)),(.t 7)]),
 y9 9 (.bslice false true 1 3 [(.int .i64 0),(.str []),(.slice [] .nil)] [(0,3,(.t 8))]),
 y9 10 (.call 270 [(.c (.int .i64 119)),(.t 9)]),
 y9 3 (.alloc 45 [(.int .i64 0),(.str []),(.slice [] .nil)]),
 w9 (.store 3 (.t 3) (.t 10))] <|
 .seq (q9 [
 y9 11 (.faddr 0 (.t 1)),
 y9 12 (.faddr 25 (.t 11)),
 y9 13 (.faddr 2 (.t 12)),
 y9 14 (.load false 1 (.t 13))] <|
 .cond (.t 14) (.region true [
 y9 15 (.faddr 2 (.t 3)),
 y9 16 (.load false 1 (.t 15)),
 y9 17 (.faddr 0 (.t 1)),
 y9 18 (.faddr 25 (.t 17)),
 y9 19 (.faddr 1 (.t 18)),
 ⟨(some 20),.load false 1 (.t 19),none,[1]⟩,
 ⟨(some 21),.call 268 [(.c (.int .i64 129)),(.t 20)],none,[1]⟩,
 ⟨(some 22),.bslice false true 1 3 [(.int .i64 0),(.str []),(.slice [] .nil)] [(0,3,(.t 21))],none,[1]⟩,
 y9 23 (.append 45 3 48 (.t 16) (.t 22)),
 y9 24 (.faddr 2 (.t 3)),
 w9 (.store 1 (.t 24) (.t 23))]) <|
 .skip) <|
 q9 [
 y9 25 (.load true 3 (.t 3)),
 w9 (.store 3 (.t 2) (.t 25))] <|
 .ret
def c222 : AFun := .code 15 [.tmp 2,.tmp 3] <|
 q9 [
 y9 2 (.mv (.c (.bool false))),
 y9 3 (.mv (.c (.int .i64 0)))] <|
 .seq (q9 [
 y9 4 (.mv (.t 0)),
 y9 5 (.len true (.t 4)),
 y9 6 (.bin .neq (.t 5) (.c (.int .i64 1)))] <|
 .cond (.t 6) (q9 [
 y9 7 (.mv (.t 0)),
 y9 8 (.load false 1 (.c (.ptr 9 0))),
 y9 9 (.build [(.str []),.nilIface] [(0,1,(.t 7)),(1,1,(.t 8))]),
 y9 10 (.mkif 345 (.t 9)),
 y9 11 (.call 240 [(.t 10)]),
 y9 2 (.mv (.c (.bool false))),
 y9 3 (.mv (.t 11))] <|
 .ret) <|
 .skip) <|
 q9 [
 y9 12 (.mv (.t 0)),
 y9 13 (.index none (.t 12) (.c (.int .i64 0))),
 y9 14 (.bin .neq (.t 13) (.c (.int .u8 0))),
 y9 2 (.mv (.t 14)),
 y9 3 (.mv (.c (.int .i64 0)))] <|
 .ret
def c223 : AFun := .code 26 [.tmp 4] <|
 q9 [
 y9 4 (.mv (.c (.bool false)))] <|
 .seq (q9 [
 y9 6 (.mv (.t 0)),
 y9 7 (.len false (.t 6)),
 y9 8 (.mv (.t 1)),
 y9 9 (.len false (.t 8)),
 y9 10 (.bin .neq (.t 7) (.t 9))] <|
 .cond (.t 10) (q9 [
 y9 4 (.mv (.c (.bool false)))] <|
 .ret) <|
 .skip) <|
 .seq (q9 [
 y9 11 (.mv (.t 0)),
 y9 12 (.len false (.t 11)),
 y9 13 (.mv (.c (.int .i64 0)))] <|
 .block 0 <| .loop <| q9 [
 y9 14 (.bin .lss (.t 13) (.t 12))] <|
 .seq (.cond (.t 14) (.skip) <|
 .exit 0) <|
 .seq (.block 1 <| q9 [
 y9 15 (.mv (.t 13)),
 y9 5 (.mv (.t 15))] <|
 .seq (.region true [
 y9 16 (.mv (.t 0)),
 y9 17 (.mv (.t 5)),
 y9 18 (.iaddr none 1 (.t 16) (.t 17)),
 y9 19 (.load false 1 (.t 18)),
 y9 20 (.mv (.t 1)),
 y9 21 (.mv (.t 5)),
 ⟨(some 22),.iaddr none 1 (.t 20) (.t 21),none,[2,3]⟩,
 ⟨(some 23),.load false 1 (.t 22),none,[2,3]⟩,
 y9 24 (.bin .neq (.t 19) (.t 23))]) <|
 .cond (.t 24) (q9 [
 y9 4 (.mv (.c (.bool false)))] <|
 .ret) <|
 .skip) <|
 .region false [
 y9 25 (.bin .add (.t 13) (.c (.int .i64 1))),
 y9 13 (.mv (.t 25))]) <|
 q9 [
 y9 4 (.mv (.c (.bool true)))] <|
 .ret
def c224 : AFun := .code 32 [.tmp 6] <|
 q9 [
 y9 6 (.mv (.c (.bool false)))] <|
 .seq (q9 [
 y9 10 (.mv (.t 0)),
 y9 11 (.len false (.t 10)),
 y9 12 (.mv (.t 1)),
 y9 13 (.len false (.t 12)),
 y9 14 (.bin .neq (.t 11) (.t 13))] <|
 .cond (.t 14) (q9 [
 y9 6 (.mv (.c (.bool false)))] <|
 .ret) <|
 .skip) <|
 .seq (q9 [
 y9 15 (.mv (.t 0)),
 y9 16 (.len false (.t 15)),
 y9 17 (.mv (.c (.int .i64 0)))] <|
 .block 0 <| .loop <| q9 [
 y9 18 (.bin .lss (.t 17) (.t 16))] <|
 .seq (.cond (.t 18) (.skip) <|
 .exit 0) <|
 .seq (.block 1 <| q9 [
 y9 19 (.mv (.t 17)),
 y9 20 (.iaddr none 6 (.t 15) (.t 17)),
 y9 21 (.load true 6 (.t 20)),
 y9 8 (.alloc 27 [(.int .i64 0),(.str []),(.str []),(.slice [] .nil),(.str []),(.slice [] .nil)]),
 y9 7 (.mv (.t 19)),
 w9 (.store 6 (.t 8) (.t 21))] <|
 q9 [
 y9 22 (.mv (.t 1)),
 y9 23 (.mv (.t 7)),
 y9 24 (.iaddr none 6 (.t 22) (.t 23)),
 y9 25 (.load true 6 (.t 24)),
 y9 9 (.alloc 27 [(.int .i64 0),(.str []),(.str []),(.slice [] .nil),(.str []),(.slice [] .nil)]),
 w9 (.store 6 (.t 9) (.t 25))] <|
 q9 [
 y9 26 (.mv (.t 2)),
 y9 27 (.load true 6 (.t 8)),
 y9 28 (.load true 6 (.t 9)),
 y9 29 (.callV (.t 26) [(.t 27),(.t 28)]),
 y9 30 (.un .not (.t 29))] <|
 .cond (.t 30) (q9 [
 y9 6 (.mv (.c (.bool false)))] <|
 .ret) <|
 .skip) <|
 .region false [
 y9 31 (.bin .add (.t 17) (.c (.int .i64 1))),
 y9 17 (.mv (.t 31))]) <|
 q9 [
 y9 6 (.mv (.c (.bool true)))] <|
 .ret
def c225 : AFun := .code 52 [] <|
 .scope <| q9 [
 y9 10 (.load true 3 (.t 1)),
 y9 11 (.bslice true true 1 3 [(.int .i64 0),(.str []),(.slice [] .nil)] [(0,3,(.t 10))]),
 y9 12 (.bslice true false 1 1 [(.int .i64 0)] [(0,1,(.c (.int .i64 1)))]),
 y9 3 (.alloc 43 [(.slice [] .nil)]),
 y9 4 (.alloc 161 [(.slice [] .nil)]),
 w9 (.store 1 (.t 3) (.t 11)),
 w9 (.store 1 (.t 4) (.t 12))] <|
 .seq (.skip) <|
 .block 0 <| .loop <| .seq (q9 [
 y9 13 (.load false 1 (.t 3)),
 y9 14 (.len false (.t 13)),
 y9 15 (.bin .gtr (.t 14) (.c (.int .i64 0)))] <|
 .cond (.t 15) (.skip) <|
 .exit 0) <|
 .block 1 <| q9 [
 y9 16 (.load false 1 (.t 3)),
 y9 17 (.len false (.t 16)),
 y9 18 (.bin .sub (.t 17) (.c (.int .i64 1))),
 y9 5 (.mv (.t 18))] <|
 .seq (.region true [
 y9 19 (.load false 1 (.t 3)),
 y9 20 (.mv (.t 5)),
 y9 21 (.iaddr none 3 (.t 19) (.t 20)),
 y9 22 (.load true 3 (.t 21)),
 ⟨(some 23),.load false 1 (.t 4),none,[0,2,3]⟩,
 y9 24 (.mv (.t 5)),
 ⟨(some 25),.iaddr none 1 (.t 23) (.t 24),none,[0,2,3]⟩,
 ⟨(some 26),.load false 1 (.t 25),none,[0,2,3]⟩,
 ⟨(some 6),.alloc 45 [(.int .i64 0),(.str []),(.slice [] .nil)],none,[0,2,3,4,6,7]⟩,
 ⟨(some 7),.alloc 3 [(.int .i64 0)],none,[0,2,3,4,6,7,8]⟩,
 ⟨none,.store 3 (.t 6) (.t 22),none,[4,6,7]⟩,
 w9 (.store 1 (.t 7) (.t 26))]) <|
 .seq (.region true [
 y9 27 (.load false 1 (.t 3)),
 y9 28 (.mv (.t 5)),
 y9 29 (.slice false 3 (.t 27) none (some (.t 28)) none),
 ⟨(some 30),.load false 1 (.t 4),none,[0]⟩,
 y9 31 (.mv (.t 5)),
 y9 32 (.slice false 1 (.t 30) none (some (.t 31)) none),
 ⟨none,.store 1 (.t 3) (.t 29),none,[3]⟩,
 w9 (.store 1 (.t 4) (.t 32))]) <|
 .seq (q9 [
 y9 33 (.mv (.t 0)),
 y9 34 (.load false 1 (.t 7)),
 y9 35 (.load true 3 (.t 6)),
 y9 36 (.callV (.t 33) [(.t 34),(.t 35)]),
 y9 37 (.un .not (.t 36))] <|
 .cond (.t 37) (.exit 0) <|
 .skip) <|
 q9 [
 y9 38 (.faddr 2 (.t 6)),
 y9 39 (.load false 1 (.t 38)),
 y9 40 (.call 226 [(.t 39)])] <|
 .block 2 <| .rfunc (.t 40) [41,42] (.region false [
 y9 9 (.alloc 45 [(.int .i64 0),(.str []),(.slice [] .nil)]),
 w9 (.store 3 (.t 9) (.t 42))]) <|
 .block 3 <| .region true [
 y9 43 (.load false 1 (.t 3)),
 ⟨(some 44),.load true 3 (.t 9),none,[0]⟩,
 ⟨(some 45),.bslice false true 1 3 [(.int .i64 0),(.str []),(.slice [] .nil)] [(0,3,(.t 44))],none,[0]⟩,
 y9 46 (.append 45 3 48 (.t 43) (.t 45)),
 ⟨(some 47),.load false 1 (.t 4),none,[0,1,2,3]⟩,
 ⟨(some 48),.load false 1 (.t 7),none,[0,1,2,3,4]⟩,
 y9 49 (.bin .add (.t 48) (.c (.int .i64 1))),
 ⟨(some 50),.bslice false false 1 1 [(.int .i64 0)] [(0,1,(.t 49))],none,[0,1,2,3,4]⟩,
 y9 51 (.append 3 1 8 (.t 47) (.t 50)),
 w9 (.store 1 (.t 3) (.t 46)),
 w9 (.store 1 (.t 4) (.t 51))]
def c226 : AFun := .code 4 [.tmp 2] <|
 q9 [
 y9 1 (.box 43 (.t 0)),
 y9 2 (.mv (.c .nilFunc))] <|
 q9 [
 y9 3 (.mkfn 275 [(.t 1)]),
 y9 2 (.mv (.t 3))] <|
 .ret
def c227 : AFun := .code 6 [.tmp 2] <|
 q9 [
 y9 2 (.mv (.c (.bool false)))] <|
 q9 [
 y9 3 (.mv (.t 0)),
 y9 4 (.bin .and (.t 3) (.c (.int .i64 32))),
 y9 5 (.bin .neq (.t 4) (.c (.int .i64 0))),
 y9 2 (.mv (.t 5))] <|
 .ret
def c229 : AFun := .code 19 [.tmp 4,.tmp 5] <|
 q9 [
 y9 4 (.mv (.c (.int .i64 0))),
 y9 5 (.mv (.c .nilIface))] <|
 q9 [
 y9 6 (.mv (.t 0)),
 y9 7 (.call 276 [(.t 6)])] <|
 q9 [
 y9 8 (.mv (.t 0)),
 y9 9 (.mv (.t 0)),
 y9 10 (.nilck (.t 9)),
 y9 11 (.faddr 1 (.t 10)),
 y9 12 (.load false 1 (.t 11)),
 y9 13 (.mv (.t 1)),
 y9 14 (.append 5 1 1 (.t 12) (.t 13)),
 y9 15 (.nilck (.t 8)),
 y9 16 (.faddr 1 (.t 15)),
 w9 (.store 1 (.t 16) (.t 14))] <|
 q9 [
 y9 17 (.mv (.t 1)),
 y9 18 (.len true (.t 17)),
 y9 4 (.mv (.t 18)),
 y9 5 (.mv (.c .nilIface))] <|
 .ret
def c230 : AFun := .code 14 [.tmp 2] <|
 q9 [
 y9 2 (.mv (.c (.str [])))] <|
 .seq (.region true [
 y9 3 (.mv (.t 0)),
 y9 4 (.nilck (.t 3)),
 y9 5 (.faddr 1 (.t 4)),
 y9 6 (.load false 1 (.t 5)),
 y9 7 (.sdata (.t 6)),
 y9 8 (.mv (.t 0)),
 y9 9 (.nilck (.t 8)),
 y9 10 (.faddr 1 (.t 9)),
 ⟨(some 11),.load false 1 (.t 10),none,[3]⟩,
 y9 12 (.len false (.t 11)),
 y9 13 (.ustr 5 (.t 7) (.t 12)),
 y9 2 (.mv (.t 13))]) <|
 .ret
def c231 : AFun := .code 43 [.tmp 2,.tmp 3] <|
 q9 [
 y9 2 (.mv (.c (.str []))),
 y9 3 (.mv (.c .nilIface))] <|
 .seq (q9 [
 y9 8 (.mv (.t 0)),
 y9 9 (.mv (.t 0)),
 y9 10 (.bin .lss (.t 9) (.c (.int .i64 0))),
 y9 11 (.mv (.t 10)),
 ⟨(some 12),.mv (.t 0),some (11,false),[]⟩,
 ⟨(some 13),.bin .gtr (.t 12) (.c (.int .i64 16777215)),some (11,false),[]⟩,
 y9 14 (.pick (.t 11) (.c (.bool true)) (.t 13)),
 y9 15 (.load false 1 (.c (.ptr 10 0))),
 y9 16 (.build [(.bool false),.nilIface] [(0,1,(.t 14)),(1,1,(.t 15))]),
 y9 17 (.bslice false true 1 2 [(.bool false),.nilIface] [(0,2,(.t 16))]),
 y9 18 (.call 278 [(.t 8),(.t 17)]),
 y9 4 (.mv (.t 18))] <|
 q9 [
 y9 19 (.mv (.t 4)),
 y9 20 (.eq true (.iface [15,127,157,165,234,252,336,354,360,378,420,427,428]) true (.t 19) (.c .nilIface))] <|
 .cond (.t 20) (q9 [
 y9 21 (.mv (.t 4)),
 y9 2 (.mv (.c (.str []))),
 y9 3 (.mv (.t 21))] <|
 .ret) <|
 .skip) <|
 .seq (q9 [
 y9 22 (.mv (.t 0)),
 y9 23 (.bin .lss (.t 22) (.c (.int .i64 128)))] <|
 .cond (.t 23) (q9 [
 y9 24 (.mv (.t 0)),
 y9 25 (.conv (.toInt .u8) (.t 24)),
 y9 26 (.bslice false false 1 1 [(.int .u8 0)] [(0,1,(.t 25))]),
 y9 27 (.conv .b2s (.t 26)),
 y9 2 (.mv (.t 27)),
 y9 3 (.mv (.c .nilIface))] <|
 .ret) <|
 .skip) <|
 q9 [
 y9 5 (.alloc 229 [(.slice [] .nil)])] <|
 q9 [
 y9 28 (.mkfn 279 [(.t 5)]),
 y9 6 (.alloc 350 [.nilFunc]),
 w9 (.store 1 (.t 6) (.t 28))] <|
 .seq (q9 [
 y9 29 (.mv (.t 0)),
 y9 30 (.call 280 [(.t 29)])] <|
 .block 0 <| .rfunc (.t 30) [31] (.region false [
 y9 7 (.mv (.t 31))]) <|
 .block 1 <| .region false [
 y9 32 (.load false 1 (.t 6)),
 y9 33 (.mv (.t 7)),
 y9 34 (.callV (.t 32) [(.t 33)])]) <|
 q9 [
 y9 35 (.load false 1 (.t 6)),
 y9 36 (.load false 1 (.t 5)),
 y9 37 (.len false (.t 36)),
 y9 38 (.bin .add (.c (.int .i64 128)) (.t 37)),
 y9 39 (.conv (.toInt .u8) (.t 38)),
 y9 40 (.callV (.t 35) [(.t 39)])] <|
 q9 [
 y9 41 (.load false 1 (.t 5)),
 y9 42 (.conv .b2s (.t 41)),
 y9 2 (.mv (.t 42)),
 y9 3 (.mv (.c .nilIface))] <|
 .ret
def c232 : AFun := .code 16 [.tmp 2] <|
 q9 [
 y9 2 (.mv (.c (.int .i64 0)))] <|
 q9 [
 y9 3 (.alloc 353 [(.int .i64 0),.nilIface])] <|
 .seq (q9 [
 y9 4 (.mv (.t 0)),
 y9 5 (.mkif 354 (.t 3)),
 y9 6 (.call 74 [(.t 4),(.t 5)]),
 y9 7 (.un .not (.t 6))] <|
 .cond (.t 7) (q9 [
 y9 2 (.mv (.c (.int .i64 0)))] <|
 .ret) <|
 .skip) <|
 .seq (.block 0 <| q9 [
 y9 9 (.mv (.t 0)),
 y9 10 (.load false 1 (.c (.ptr 11 0))),
 y9 11 (.call 75 [(.t 9),(.t 10)]),
 y9 8 (.mv (.t 11))] <|
 .cond (.t 8) (q9 [
 y9 2 (.mv (.c (.int .i64 10)))] <|
 .ret) <|
 q9 [
 y9 13 (.mv (.t 0)),
 y9 14 (.load false 1 (.c (.ptr 12 0))),
 y9 15 (.call 75 [(.t 13),(.t 14)]),
 y9 12 (.mv (.t 15))] <|
 .cond (.t 12) (q9 [
 y9 2 (.mv (.c (.int .i64 11)))] <|
 .ret) <|
 .skip) <|
 q9 [
 y9 2 (.mv (.c (.int .i64 12)))] <|
 .ret
def c233 : AFun := .code 19 [.tmp 4] <|
 q9 [
 y9 4 (.mv (.c (.int .i64 0)))] <|
 .seq (q9 [
 y9 6 (.mv (.t 0)),
 y9 7 (.len false (.t 6)),
 y9 8 (.mv (.c (.int .i64 0)))] <|
 .block 0 <| .loop <| q9 [
 y9 9 (.bin .lss (.t 8) (.t 7))] <|
 .seq (.cond (.t 9) (.skip) <|
 .exit 0) <|
 .seq (.block 1 <| q9 [
 y9 10 (.mv (.t 8)),
 y9 5 (.mv (.t 10))] <|
 q9 [
 y9 11 (.mv (.t 1)),
 y9 12 (.mv (.t 0)),
 y9 13 (.mv (.t 5)),
 y9 14 (.iaddr none 1 (.t 12) (.t 13)),
 y9 15 (.load false 1 (.t 14)),
 y9 16 (.eq false .prim false (.t 11) (.t 15))] <|
 .cond (.t 16) (q9 [
 y9 17 (.mv (.t 5)),
 y9 4 (.mv (.t 17))] <|
 .ret) <|
 .skip) <|
 .region false [
 y9 18 (.bin .add (.t 8) (.c (.int .i64 1))),
 y9 8 (.mv (.t 18))]) <|
 q9 [
 y9 4 (.mv (.c (.int .i64 (-1))))] <|
 .ret
def c234 : AFun := .code 39 [.tmp 2] <|
 q9 [
 y9 2 (.mv (.c (.bool false)))] <|
 .seq (q9 [
 y9 5 (.mv (.t 0)),
 y9 6 (.range (.t 5))] <|
 .block 0 <| .loop <| q9 [
 y9 7 (.next (.t 6)),
 y9 8 (.extract 0 (.t 7))] <|
 .seq (.cond (.t 8) (.skip) <|
 .exit 0) <|
 .block 1 <| q9 [
 y9 9 (.extract 1 (.t 7)),
 y9 10 (.extract 2 (.t 7)),
 y9 3 (.mv (.t 9)),
 y9 4 (.mv (.t 10))] <|
 .seq (.block 2 <| .seq (.block 6 <| .block 5 <| .seq (.block 4 <| .block 3 <| .seq (.seq (q9 [
 y9 12 (.mv (.t 4)),
 y9 13 (.bin .geq (.t 12) (.c (.int .i32 97))),
 y9 14 (.mv (.t 13)),
 ⟨(some 15),.mv (.t 4),some (14,true),[]⟩,
 ⟨(some 16),.bin .leq (.t 15) (.c (.int .i32 122)),some (14,true),[]⟩,
 y9 17 (.pick (.t 14) (.t 16) (.c (.bool false))),
 y9 11 (.mv (.t 17))] <|
 .cond (.t 11) (.exit 3) <|
 .skip) <|
 .seq (q9 [
 y9 19 (.mv (.t 4)),
 y9 20 (.bin .geq (.t 19) (.c (.int .i32 65))),
 y9 21 (.mv (.t 20)),
 ⟨(some 22),.mv (.t 4),some (21,true),[]⟩,
 ⟨(some 23),.bin .leq (.t 22) (.c (.int .i32 90)),some (21,true),[]⟩,
 y9 24 (.pick (.t 21) (.t 23) (.c (.bool false))),
 y9 18 (.mv (.t 24))] <|
 .cond (.t 18) (.exit 4) <|
 .skip) <|
 .seq (q9 [
 y9 26 (.mv (.t 4)),
 y9 27 (.bin .geq (.t 26) (.c (.int .i32 48))),
 y9 28 (.mv (.t 27)),
 ⟨(some 29),.mv (.t 4),some (28,true),[]⟩,
 ⟨(some 30),.bin .leq (.t 29) (.c (.int .i32 57)),some (28,true),[]⟩,
 y9 31 (.pick (.t 28) (.t 30) (.c (.bool false))),
 y9 25 (.mv (.t 31))] <|
 .cond (.t 25) (.exit 5) <|
 .skip) <|
 q9 [
 y9 33 (.mv (.t 4)),
 y9 34 (.bin .eql (.t 33) (.c (.int .i32 45))),
 y9 32 (.mv (.t 34))] <|
 .cond (.t 32) (.exit 6) <|
 .skip) <|
 .exit 2) <|
 .seq (.exit 1) <|
 .exit 2) <|
 .seq (q9 [
 y9 35 (.mv (.t 3)),
 y9 36 (.bin .gtr (.t 35) (.c (.int .i64 0)))] <|
 .cond (.t 36) (.exit 1) <|
 .skip) <|
 .exit 2) <|
 q9 [
 y9 2 (.mv (.c (.bool false)))] <|
 .ret) <|
 q9 [
 y9 37 (.mv (.t 0)),
 y9 38 (.bin .neq (.t 37) (.c (.str []))),
 y9 2 (.mv (.t 38))] <|
 .ret
def c235 : AFun := .code 9 [.tmp 4] <|
 q9 [
 y9 4 (.mv (.c (.bool false)))] <|
 q9 [
 y9 5 (.mv (.t 0)),
 y9 6 (.mv (.t 1)),
 y9 7 (.call 281 [(.t 5),(.t 6)]),
 y9 8 (.bin .geq (.t 7) (.c (.int .i64 0))),
 y9 4 (.mv (.t 8))] <|
 .ret
def c236 : AFun := .code 18 [.tmp 4] <|
 q9 [
 y9 4 (.mv (.c (.bool false)))] <|
 .seq (q9 [
 y9 7 (.mv (.t 1)),
 y9 8 (.len false (.t 7)),
 y9 9 (.mv (.c (.int .i64 0)))] <|
 .block 0 <| .loop <| q9 [
 y9 10 (.bin .lss (.t 9) (.t 8))] <|
 .seq (.cond (.t 10) (.skip) <|
 .exit 0) <|
 .seq (.block 1 <| q9 [
 y9 11 (.iaddr none 1 (.t 7) (.t 9)),
 y9 12 (.load false 1 (.t 11)),
 y9 6 (.mv (.t 12))] <|
 q9 [
 y9 13 (.mv (.t 0)),
 y9 14 (.mv (.t 6)),
 y9 15 (.callV (.t 13) [(.t 14)]),
 y9 16 (.un .not (.t 15))] <|
 .cond (.t 16) (q9 [
 y9 4 (.mv (.c (.bool false)))] <|
 .ret) <|
 .skip) <|
 .region false [
 y9 17 (.bin .add (.t 9) (.c (.int .i64 1))),
 y9 9 (.mv (.t 17))]) <|
 q9 [
 y9 4 (.mv (.c (.bool true)))] <|
 .ret
def c237 : AFun := .code 21 [.tmp 2] <|
 q9 [
 y9 2 (.mv (.c (.bool false)))] <|
 q9 [
 y9 3 (.mv (.c (.func 282 [])))] <|
 q9 [
 y9 4 (.mv (.t 0)),
 y9 5 (.bin .neq (.t 4) (.c (.str []))),
 y9 6 (.mv (.t 5)),
 ⟨(some 7),.mv (.t 0),some (6,true),[]⟩,
 ⟨(some 8),.mv (.t 3),some (6,true),[]⟩,
 ⟨(some 9),.call 146 [(.t 7),(.t 8)],some (6,true),[]⟩,
 ⟨(some 10),.un .not (.t 9),some (6,true),[]⟩,
 y9 11 (.pick (.t 6) (.t 10) (.c (.bool false))),
 y9 12 (.mv (.t 11)),
 ⟨(some 13),.mv (.t 0),some (12,true),[]⟩,
 ⟨(some 14),.bin .eql (.t 13) (.c (.str [48])),some (12,true),[]⟩,
 ⟨(some 15),.mv (.t 14),some (12,true),[]⟩,
 ⟨(some 16),.mv (.t 0),some (15,false),[]⟩,
 ⟨(some 17),.index none (.t 16) (.c (.int .i64 0)),some (15,false),[]⟩,
 ⟨(some 18),.bin .neq (.t 17) (.c (.int .u8 48)),some (15,false),[]⟩,
 ⟨(some 19),.pick (.t 15) (.c (.bool true)) (.t 18),some (12,true),[]⟩,
 y9 20 (.pick (.t 12) (.t 19) (.c (.bool false))),
 y9 2 (.mv (.t 20))] <|
 .ret
def c238 : AFun := .code 10 [.tmp 2] <|
 q9 [
 y9 1 (.box 299 (.t 0)),
 y9 2 (.mv (.c .nilIface))] <|
 q9 [
 y9 3 (.alloc 80 [.nilIface])] <|
 .seq (q9 [
 y9 4 (.faddr 0 (.t 1)),
 y9 5 (.load true 1 (.t 4)),
 y9 6 (.call 283 [(.t 5),(.t 3)])] <|
 .block 0 <| .rfunc (.t 6) [7,8] (.skip) <|
 .block 1 <| .skip) <|
 q9 [
 y9 9 (.load false 1 (.t 3)),
 y9 2 (.mv (.t 9))] <|
 .ret
def c239 : AFun := .code 23 [.cell 2 true 2,.tmp 3] <|
 q9 [
 y9 2 (.alloc 303 [(.int .i64 0),(.int .i64 0)]),
 y9 3 (.mv (.c .nilIface))] <|
 .seq (q9 [
 y9 6 (.mv (.c (.int .i64 0)))] <|
 .block 0 <| .loop <| q9 [
 y9 7 (.bin .lss (.t 6) (.c (.int .i64 4)))] <|
 .seq (.cond (.t 7) (.skip) <|
 .exit 0) <|
 .seq (.block 1 <| q9 [
 y9 8 (.mv (.t 6)),
 y9 4 (.mv (.t 8))] <|
 q9 [
 y9 9 (.mv (.t 4)),
 y9 10 (.bin .add (.t 9) (.c (.int .i64 1))),
 y9 11 (.build [(.int .i64 0)] [(0,1,(.t 10))]),
 y9 5 (.alloc 301 [(.int .i64 0)]),
 w9 (.store 1 (.t 5) (.t 11))] <|
 q9 [
 y9 12 (.load true 1 (.t 5)),
 y9 13 (.mv (.t 0)),
 y9 14 (.call 284 [(.t 12),(.t 13)])] <|
 .cond (.t 14) (q9 [
 y9 15 (.load true 1 (.t 5)),
 y9 16 (.mv (.t 0)),
 y9 17 (.build [(.int .i64 0),(.int .i64 0)] [(0,1,(.t 15)),(1,1,(.t 16))]),
 w9 (.store 2 (.t 2) (.t 17)),
 y9 3 (.mv (.c .nilIface))] <|
 .ret) <|
 .skip) <|
 .region false [
 y9 18 (.bin .add (.t 6) (.c (.int .i64 1))),
 y9 6 (.mv (.t 18))]) <|
 .seq (.region true [
 y9 19 (.build [(.int .i64 0),(.int .i64 0)] []),
 y9 20 (.load false 1 (.c (.ptr 13 0))),
 y9 21 (.build [(.str []),.nilIface] [(0,1,(.c (.str []))),(1,1,(.t 20))]),
 y9 22 (.mkif 345 (.t 21)),
 ⟨none,.store 2 (.t 2) (.t 19),none,[1]⟩,
 y9 3 (.mv (.t 22))]) <|
 .ret
def c240 : AFun := .code 14 [.tmp 2] <|
 q9 [
 y9 2 (.mv (.c (.int .i64 0)))] <|
 q9 [
 y9 3 (.alloc 345 [(.str []),.nilIface])] <|
 .seq (.block 0 <| q9 [
 y9 5 (.mv (.t 0)),
 y9 6 (.mkif 360 (.t 3)),
 y9 7 (.call 74 [(.t 5),(.t 6)]),
 y9 8 (.un .not (.t 7)),
 y9 4 (.mv (.t 8))] <|
 .cond (.t 4) (q9 [
 y9 2 (.mv (.c (.int .i64 0)))] <|
 .ret) <|
 q9 [
 y9 10 (.load true 2 (.t 3)),
 y9 11 (.mkif 345 (.t 10)),
 y9 12 (.load false 1 (.c (.ptr 9 0))),
 y9 13 (.call 75 [(.t 11),(.t 12)]),
 y9 9 (.mv (.t 13))] <|
 .cond (.t 9) (q9 [
 y9 2 (.mv (.c (.int .i64 31)))] <|
 .ret) <|
 .skip) <|
 q9 [
 y9 2 (.mv (.c (.int .i64 30)))] <|
 .ret
def c241 : AFun := .code 4 [.tmp 2] <|
 q9 [
 y9 1 (.box 303 (.t 0)),
 y9 2 (.mv (.c .nilFunc))] <|
 q9 [
 y9 3 (.mkfn 285 [(.t 1)]),
 y9 2 (.mv (.t 3))] <|
 .ret
def c242 : AFun := .code 19 [.tmp 4] <|
 q9 [
 y9 2 (.box 45 (.t 0)),
 y9 4 (.mv (.c .nilptr))] <|
 q9 [
 y9 5 (.faddr 2 (.t 2)),
 y9 6 (.load false 1 (.t 5)),
 y9 7 (.build [(.slice [] .nil)] [(0,1,(.t 6))]),
 y9 8 (.faddr 0 (.t 2)),
 y9 9 (.load false 1 (.t 8)),
 y9 10 (.mv (.t 1)),
 y9 11 (.bin .neq (.t 9) (.t 10)),
 y9 12 (.mv (.t 11)),
 ⟨(some 13),.faddr 1 (.t 2),some (12,false),[]⟩,
 ⟨(some 14),.load false 1 (.t 13),some (12,false),[]⟩,
 ⟨(some 15),.bin .neq (.t 14) (.c (.str [])),some (12,false),[]⟩,
 y9 16 (.pick (.t 12) (.c (.bool true)) (.t 15)),
 y9 17 (.build [(.slice [] .nil),(.bool false)] [(0,1,(.t 7)),(1,1,(.t 16))]),
 y9 18 (.box 316 (.t 17)),
 y9 4 (.mv (.t 18))] <|
 .ret
def c243 : AFun := .code 34 [.tmp 4] <|
 q9 [
 y9 4 (.mv (.c (.str [])))] <|
 q9 [
 y9 8 (.mv (.t 0)),
 y9 9 (.nilck (.t 8)),
 y9 10 (.faddr 0 (.t 9)),
 y9 11 (.mv (.t 1)),
 y9 12 (.call 286 [(.t 10),(.t 11)]),
 y9 7 (.mv (.t 12)),
 y9 13 (.extract 0 (.t 7)),
 y9 14 (.extract 1 (.t 7)),
 y9 5 (.alloc 45 [(.int .i64 0),(.str []),(.slice [] .nil)]),
 w9 (.store 3 (.t 5) (.t 13)),
 y9 6 (.mv (.t 14))] <|
 q9 [
 y9 15 (.mv (.t 0)),
 y9 16 (.mv (.t 0)),
 y9 17 (.nilck (.t 16)),
 y9 18 (.faddr 1 (.t 17)),
 y9 19 (.load false 1 (.t 18)),
 y9 20 (.mv (.t 19)),
 ⟨(some 21),.mv (.t 6),some (20,false),[]⟩,
 ⟨(some 22),.un .not (.t 21),some (20,false),[]⟩,
 y9 23 (.pick (.t 20) (.c (.bool true)) (.t 22)),
 y9 24 (.mv (.t 23)),
 ⟨(some 25),.faddr 2 (.t 5),some (24,false),[]⟩,
 ⟨(some 26),.load false 1 (.t 25),some (24,false),[]⟩,
 ⟨(some 27),.len false (.t 26),some (24,false),[]⟩,
 ⟨(some 28),.bin .gtr (.t 27) (.c (.int .i64 0)),some (24,false),[]⟩,
 y9 29 (.pick (.t 24) (.c (.bool true)) (.t 28)),
 y9 30 (.nilck (.t 15)),
 y9 31 (.faddr 1 (.t 30)),
 w9 (.store 1 (.t 31) (.t 29))] <|
 q9 [
 y9 32 (.faddr 1 (.t 5)),
 y9 33 (.load false 1 (.t 32)),
 y9 4 (.mv (.t 33))] <|
 .ret
def c244 : AFun := .code 53 [.tmp 4] <|
 q9 [
 y9 4 (.mv (.c (.slice [] .nil)))] <|
 q9 [
 y9 11 (.mv (.t 0)),
 y9 12 (.nilck (.t 11)),
 y9 13 (.faddr 0 (.t 12)),
 y9 14 (.mv (.t 1)),
 y9 15 (.call 286 [(.t 13),(.t 14)]),
 y9 10 (.mv (.t 15)),
 y9 16 (.extract 0 (.t 10)),
 y9 17 (.extract 1 (.t 10)),
 y9 5 (.alloc 45 [(.int .i64 0),(.str []),(.slice [] .nil)]),
 w9 (.store 3 (.t 5) (.t 16)),
 y9 6 (.mv (.t 17))] <|
 q9 [
 y9 18 (.load true 3 (.t 5)),
 y9 19 (.mv (.t 1)),
 y9 20 (.call 242 [(.t 18),(.t 19)]),
 y9 7 (.mv (.t 20))] <|
 q9 [
 y9 8 (.alloc 24 [(.slice [] .nil)])] <|
 .seq (q9 [
 y9 21 (.mv (.t 7)),
 y9 22 (.nilck (.t 21)),
 y9 23 (.faddr 0 (.t 22)),
 y9 24 (.call 287 [(.t 23),(.c (.int .i64 4))])] <|
 .block 0 <| .rfunc (.t 24) [25] (.region false [
 y9 9 (.mv (.t 25))]) <|
 .block 1 <| .region false [
 y9 26 (.load false 1 (.t 8)),
 y9 27 (.mv (.t 9)),
 y9 28 (.bslice false false 1 1 [(.str [])] [(0,1,(.t 27))]),
 y9 29 (.append 9 1 16 (.t 26) (.t 28)),
 w9 (.store 1 (.t 8) (.t 29))]) <|
 q9 [
 y9 30 (.mv (.t 0)),
 y9 31 (.mv (.t 0)),
 y9 32 (.nilck (.t 31)),
 y9 33 (.faddr 1 (.t 32)),
 y9 34 (.load false 1 (.t 33)),
 y9 35 (.mv (.t 34)),
 ⟨(some 36),.mv (.t 6),some (35,false),[]⟩,
 ⟨(some 37),.un .not (.t 36),some (35,false),[]⟩,
 y9 38 (.pick (.t 35) (.c (.bool true)) (.t 37)),
 y9 39 (.mv (.t 38)),
 ⟨(some 40),.mv (.t 7),some (39,false),[]⟩,
 ⟨(some 41),.nilck (.t 40),some (39,false),[]⟩,
 ⟨(some 42),.faddr 1 (.t 41),some (39,false),[]⟩,
 ⟨(some 43),.load false 1 (.t 42),some (39,false),[]⟩,
 y9 44 (.pick (.t 39) (.c (.bool true)) (.t 43)),
 y9 45 (.mv (.t 44)),
 ⟨(some 46),.mv (.t 7),some (45,false),[]⟩,
 ⟨(some 47),.call 245 [(.t 46)],some (45,false),[]⟩,
 ⟨(some 48),.un .not (.t 47),some (45,false),[]⟩,
 y9 49 (.pick (.t 45) (.c (.bool true)) (.t 48)),
 y9 50 (.nilck (.t 30)),
 y9 51 (.faddr 1 (.t 50)),
 w9 (.store 1 (.t 51) (.t 49))] <|
 q9 [
 y9 52 (.load false 1 (.t 8)),
 y9 4 (.mv (.t 52))] <|
 .ret
def c245 : AFun := .code 10 [.tmp 2] <|
 q9 [
 y9 2 (.mv (.c (.bool false)))] <|
 q9 [
 y9 3 (.mv (.t 0)),
 y9 4 (.nilck (.t 3)),
 y9 5 (.faddr 0 (.t 4)),
 y9 6 (.faddr 0 (.t 5)),
 y9 7 (.load false 1 (.t 6)),
 y9 8 (.len false (.t 7)),
 y9 9 (.bin .eql (.t 8) (.c (.int .i64 0))),
 y9 2 (.mv (.t 9))] <|
 .ret
def c246 : AFun := .code 5 [] <|
 q9 [
 y9 2 (.load false 1 (.t 0)),
 y9 3 (.eq true (.iface [15,127,157,165,234,252,336,354,360,378,420,427,428]) true (.t 2) (.c .nilIface))] <|
 .cond (.t 3) (.region false [
 y9 4 (.build [(.int .i64 0),(.str []),(.str []),(.slice [] .nil)] []),
 w9 (.store 4 (.t 1) (.t 4))]) <|
 .skip
def c247 : AFun := .code 23 [.tmp 2] <|
 q9 [
 y9 2 (.mv (.c (.int .i64 0)))] <|
 q9 [
 y9 6 (.mv (.t 0)),
 y9 7 (.call 243 [(.t 6),(.c (.int .i64 10))]),
 y9 8 (.call 266 [(.t 7)]),
 y9 5 (.mv (.t 8)),
 y9 9 (.extract 0 (.t 5)),
 y9 10 (.extract 1 (.t 5)),
 y9 3 (.mv (.t 9)),
 y9 4 (.mv (.t 10))] <|
 q9 [
 y9 11 (.mv (.t 0)),
 y9 12 (.mv (.t 0)),
 y9 13 (.nilck (.t 12)),
 y9 14 (.faddr 1 (.t 13)),
 y9 15 (.load false 1 (.t 14)),
 y9 16 (.mv (.t 15)),
 ⟨(some 17),.mv (.t 4),some (16,false),[]⟩,
 ⟨(some 18),.bin .neq (.t 17) (.c (.int .i64 0)),some (16,false),[]⟩,
 y9 19 (.pick (.t 16) (.c (.bool true)) (.t 18)),
 y9 20 (.nilck (.t 11)),
 y9 21 (.faddr 1 (.t 20)),
 w9 (.store 1 (.t 21) (.t 19))] <|
 q9 [
 y9 22 (.mv (.t 3)),
 y9 2 (.mv (.t 22))] <|
 .ret
def c248 : AFun := .code 24 [.tmp 4] <|
 q9 [
 y9 4 (.mv (.c (.bool false)))] <|
 q9 [
 y9 5 (.mv (.t 0)),
 y9 6 (.nilck (.t 5)),
 y9 7 (.faddr 0 (.t 6)),
 y9 8 (.faddr 0 (.t 7)),
 y9 9 (.load false 1 (.t 8)),
 y9 10 (.len false (.t 9)),
 y9 11 (.bin .gtr (.t 10) (.c (.int .i64 0))),
 y9 12 (.mv (.t 11)),
 ⟨(some 13),.mv (.t 0),some (12,true),[]⟩,
 ⟨(some 14),.nilck (.t 13),some (12,true),[]⟩,
 ⟨(some 15),.faddr 0 (.t 14),some (12,true),[]⟩,
 ⟨(some 16),.faddr 0 (.t 15),some (12,true),[]⟩,
 ⟨(some 17),.load false 1 (.t 16),some (12,true),[]⟩,
 ⟨(some 18),.iaddr none 3 (.t 17) (.c (.int .i64 0)),some (12,true),[]⟩,
 ⟨(some 19),.faddr 0 (.t 18),some (12,true),[]⟩,
 ⟨(some 20),.load false 1 (.t 19),some (12,true),[]⟩,
 ⟨(some 21),.mv (.t 1),some (12,true),[]⟩,
 ⟨(some 22),.bin .eql (.t 20) (.t 21),some (12,true),[]⟩,
 y9 23 (.pick (.t 12) (.t 22) (.c (.bool false))),
 y9 4 (.mv (.t 23))] <|
 .ret
def c249 : AFun := .code 17 [.tmp 2] <|
 q9 [
 y9 2 (.mv (.c (.bool false)))] <|
 q9 [
 y9 3 (.mv (.t 0)),
 y9 4 (.bin .geq (.t 3) (.c (.int .i64 0))),
 y9 5 (.mv (.t 4)),
 ⟨(some 6),.mv (.t 0),some (5,true),[]⟩,
 ⟨(some 7),.bin .leq (.t 6) (.c (.int .i64 1114111)),some (5,true),[]⟩,
 y9 8 (.pick (.t 5) (.t 7) (.c (.bool false))),
 y9 9 (.mv (.t 8)),
 ⟨(some 10),.mv (.t 0),some (9,true),[]⟩,
 ⟨(some 11),.bin .lss (.t 10) (.c (.int .i64 55296)),some (9,true),[]⟩,
 ⟨(some 12),.mv (.t 11),some (9,true),[]⟩,
 ⟨(some 13),.mv (.t 0),some (12,false),[]⟩,
 ⟨(some 14),.bin .gtr (.t 13) (.c (.int .i64 57343)),some (12,false),[]⟩,
 ⟨(some 15),.pick (.t 12) (.c (.bool true)) (.t 14),some (9,true),[]⟩,
 y9 16 (.pick (.t 9) (.t 15) (.c (.bool false))),
 y9 2 (.mv (.t 16))] <|
 .ret
def c250 : AFun := .code 61 [.tmp 2] <|
 q9 [
 y9 2 (.mv (.c (.str [])))] <|
 .seq (.block 0 <| q9 [
 y9 4 (.mv (.t 0)),
 y9 5 (.bin .lss (.t 4) (.c (.int .i64 128))),
 y9 3 (.mv (.t 5))] <|
 .cond (.t 3) (q9 [
 y9 6 (.mv (.t 0)),
 y9 7 (.conv (.toInt .u8) (.t 6)),
 y9 8 (.bslice false false 1 1 [(.int .u8 0)] [(0,1,(.t 7))]),
 y9 9 (.conv .b2s (.t 8)),
 y9 2 (.mv (.t 9))] <|
 .ret) <|
 q9 [
 y9 11 (.mv (.t 0)),
 y9 12 (.bin .lss (.t 11) (.c (.int .i64 2048))),
 y9 10 (.mv (.t 12))] <|
 .cond (.t 10) (q9 [
 y9 13 (.mv (.t 0)),
 y9 14 (.bin .quo (.t 13) (.c (.int .i64 64))),
 y9 15 (.bin .add (.c (.int .i64 192)) (.t 14)),
 y9 16 (.conv (.toInt .u8) (.t 15)),
 y9 17 (.mv (.t 0)),
 y9 18 (.bin .rem (.t 17) (.c (.int .i64 64))),
 y9 19 (.bin .add (.c (.int .i64 128)) (.t 18)),
 y9 20 (.conv (.toInt .u8) (.t 19)),
 y9 21 (.bslice false false 2 1 [(.int .u8 0),(.int .u8 0)] [(0,1,(.t 16)),(1,1,(.t 20))]),
 y9 22 (.conv .b2s (.t 21)),
 y9 2 (.mv (.t 22))] <|
 .ret) <|
 q9 [
 y9 24 (.mv (.t 0)),
 y9 25 (.bin .lss (.t 24) (.c (.int .i64 65536))),
 y9 23 (.mv (.t 25))] <|
 .cond (.t 23) (q9 [
 y9 26 (.mv (.t 0)),
 y9 27 (.bin .quo (.t 26) (.c (.int .i64 4096))),
 y9 28 (.bin .add (.c (.int .i64 224)) (.t 27)),
 y9 29 (.conv (.toInt .u8) (.t 28)),
 y9 30 (.mv (.t 0)),
 y9 31 (.bin .quo (.t 30) (.c (.int .i64 64))),
 y9 32 (.bin .rem (.t 31) (.c (.int .i64 64))),
 y9 33 (.bin .add (.c (.int .i64 128)) (.t 32)),
 y9 34 (.conv (.toInt .u8) (.t 33)),
 y9 35 (.mv (.t 0)),
 y9 36 (.bin .rem (.t 35) (.c (.int .i64 64))),
 y9 37 (.bin .add (.c (.int .i64 128)) (.t 36)),
 y9 38 (.conv (.toInt .u8) (.t 37)),
 y9 39 (.bslice false false 3 1 [(.int .u8 0),(.int .u8 0),(.int .u8 0)] [(0,1,(.t 29)),(1,1,(.t 34)),(2,1,(.t 38))]),
 y9 40 (.conv .b2s (.t 39)),
 y9 2 (.mv (.t 40))] <|
 .ret) <|
 .skip) <|
 q9 [
 y9 41 (.mv (.t 0)),
 y9 42 (.bin .quo (.t 41) (.c (.int .i64 262144))),
 y9 43 (.bin .add (.c (.int .i64 240)) (.t 42)),
 y9 44 (.conv (.toInt .u8) (.t 43)),
 y9 45 (.mv (.t 0)),
 y9 46 (.bin .quo (.t 45) (.c (.int .i64 4096))),
 y9 47 (.bin .rem (.t 46) (.c (.int .i64 64))),
 y9 48 (.bin .add (.c (.int .i64 128)) (.t 47)),
 y9 49 (.conv (.toInt .u8) (.t 48)),
 y9 50 (.mv (.t 0)),
 y9 51 (.bin .quo (.t 50) (.c (.int .i64 64))),
 y9 52 (.bin .rem (.t 51) (.c (.int .i64 64))),
 y9 53 (.bin .add (.c (.int .i64 128)) (.t 52)),
 y9 54 (.conv (.toInt .u8) (.t 53)),
 y9 55 (.mv (.t 0)),
 y9 56 (.bin .rem (.t 55) (.c (.int .i64 64))),
 y9 57 (.bin .add (.c (.int .i64 128)) (.t 56)),
 y9 58 (.conv (.toInt .u8) (.t 57)),
 y9 59 (.bslice false false 4 1 [(.int .u8 0),(.int .u8 0),(.int .u8 0),(.int .u8 0)] [(0,1,(.t 44)),(1,1,(.t 49)),(2,1,(.t 54)),(3,1,(.t 58))]),
 y9 60 (.conv .b2s (.t 59)),
 y9 2 (.mv (.t 60))] <|
 .ret
def c251 : AFun := .code 10 [.tmp 2] <|
 q9 [
 y9 2 (.mv (.c (.bool false)))] <|
 q9 [
 y9 3 (.mv (.t 0)),
 y9 4 (.call 87 [(.t 3)]),
 y9 5 (.mv (.t 4)),
 ⟨(some 6),.mv (.t 0),some (5,true),[]⟩,
 ⟨(some 7),.call 252 [(.c (.int .u8 0)),(.t 6)],some (5,true),[]⟩,
 ⟨(some 8),.un .not (.t 7),some (5,true),[]⟩,
 y9 9 (.pick (.t 5) (.t 8) (.c (.bool false))),
 y9 2 (.mv (.t 9))] <|
 .ret
def c252 : AFun := .code 17 [.tmp 4] <|
 q9 [
 y9 4 (.mv (.c (.bool false)))] <|
 .seq (q9 [
 y9 5 (.mv (.c (.int .i64 0)))] <|
 .block 0 <| .loop <| .seq (q9 [
 y9 6 (.mv (.t 5)),
 y9 7 (.mv (.t 1)),
 y9 8 (.len true (.t 7)),
 y9 9 (.bin .lss (.t 6) (.t 8))] <|
 .cond (.t 9) (.skip) <|
 .exit 0) <|
 .seq (.block 1 <| q9 [
 y9 12 (.mv (.t 1)),
 y9 13 (.mv (.t 5)),
 y9 14 (.index none (.t 12) (.t 13)),
 y9 15 (.mv (.t 0)),
 y9 16 (.bin .eql (.t 14) (.t 15))] <|
 .cond (.t 16) (q9 [
 y9 4 (.mv (.c (.bool true)))] <|
 .ret) <|
 .skip) <|
 .region false [
 y9 10 (.mv (.t 5)),
 y9 11 (.bin .add (.t 10) (.c (.int .i64 1))),
 y9 5 (.mv (.t 11))]) <|
 q9 [
 y9 4 (.mv (.c (.bool false)))] <|
 .ret
def c253 : AFun := .code 25 [.tmp 4,.tmp 5] <|
 q9 [
 y9 4 (.mv (.c (.str []))),
 y9 5 (.mv (.c (.bool false)))] <|
 .seq (q9 [
 y9 8 (.mv (.t 1)),
 y9 9 (.bin .add (.t 8) (.c (.int .i64 2))),
 y9 10 (.mv (.t 0)),
 y9 11 (.len true (.t 10)),
 y9 12 (.bin .gtr (.t 9) (.t 11))] <|
 .cond (.t 12) (q9 [
 y9 4 (.mv (.c (.str []))),
 y9 5 (.mv (.c (.bool false)))] <|
 .ret) <|
 .skip) <|
 q9 [
 y9 14 (.mv (.t 0)),
 y9 15 (.mv (.t 1)),
 y9 16 (.mv (.t 1)),
 y9 17 (.bin .add (.t 16) (.c (.int .i64 2))),
 y9 18 (.slice true 1 (.t 14) (some (.t 15)) (some (.t 17)) none),
 y9 19 (.call 288 [(.t 18)]),
 y9 13 (.mv (.t 19)),
 y9 20 (.extract 0 (.t 13)),
 y9 21 (.extract 1 (.t 13)),
 y9 6 (.mv (.t 20)),
 y9 7 (.mv (.t 21))] <|
 q9 [
 y9 22 (.mv (.t 6)),
 y9 23 (.mv (.t 7)),
 y9 24 (.bin .eql (.t 23) (.c (.int .i64 0))),
 y9 4 (.mv (.t 22)),
 y9 5 (.mv (.t 24))] <|
 .ret
def c254 : AFun := .code 21 [.tmp 6] <|
 q9 [
 y9 6 (.mv (.c (.int .i64 0)))] <|
 .seq (q9 [
 y9 9 (.mv (.t 0)),
 y9 10 (.range (.t 9))] <|
 .block 0 <| .loop <| q9 [
 y9 11 (.next (.t 10)),
 y9 12 (.extract 0 (.t 11))] <|
 .seq (.cond (.t 12) (.skip) <|
 .exit 0) <|
 .block 1 <| q9 [
 y9 13 (.extract 1 (.t 11)),
 y9 14 (.extract 2 (.t 11)),
 y9 7 (.mv (.t 13)),
 y9 8 (.mv (.t 14))] <|
 q9 [
 y9 15 (.mv (.t 1)),
 y9 16 (.mv (.t 8)),
 y9 17 (.callV (.t 15) [(.t 16)]),
 y9 18 (.mv (.t 2)),
 y9 19 (.eq false .prim false (.t 17) (.t 18))] <|
 .cond (.t 19) (q9 [
 y9 20 (.mv (.t 7)),
 y9 6 (.mv (.t 20))] <|
 .ret) <|
 .skip) <|
 q9 [
 y9 6 (.mv (.c (.int .i64 (-1))))] <|
 .ret
def c256 : AFun := .code 25 [.tmp 2] <|
 q9 [
 y9 2 (.mv (.c (.bool false)))] <|
 .seq (.block 0 <| .seq (.block 2 <| .block 1 <| .seq (.seq (.seq (q9 [
 y9 4 (.mv (.t 0)),
 y9 5 (.bin .geq (.t 4) (.c (.int .i32 97))),
 y9 6 (.mv (.t 5)),
 ⟨(some 7),.mv (.t 0),some (6,true),[]⟩,
 ⟨(some 8),.bin .leq (.t 7) (.c (.int .i32 122)),some (6,true),[]⟩,
 y9 9 (.pick (.t 6) (.t 8) (.c (.bool false))),
 y9 3 (.mv (.t 9))] <|
 .cond (.t 3) (.skip) <|
 .region false [
 y9 10 (.mv (.t 0)),
 y9 11 (.bin .geq (.t 10) (.c (.int .i32 65))),
 y9 12 (.mv (.t 11)),
 ⟨(some 13),.mv (.t 0),some (12,true),[]⟩,
 ⟨(some 14),.bin .leq (.t 13) (.c (.int .i32 90)),some (12,true),[]⟩,
 y9 15 (.pick (.t 12) (.t 14) (.c (.bool false))),
 y9 3 (.mv (.t 15))]) <|
 .cond (.t 3) (.exit 1) <|
 .skip) <|
 .seq (q9 [
 y9 17 (.mv (.t 0)),
 y9 18 (.bin .geq (.t 17) (.c (.int .i32 48))),
 y9 19 (.mv (.t 18)),
 ⟨(some 20),.mv (.t 0),some (19,true),[]⟩,
 ⟨(some 21),.bin .leq (.t 20) (.c (.int .i32 57)),some (19,true),[]⟩,
 y9 22 (.pick (.t 19) (.t 21) (.c (.bool false))),
 y9 16 (.mv (.t 22))] <|
 .cond (.t 16) (.skip) <|
 .region false [
 y9 23 (.mv (.t 0)),
 y9 24 (.bin .eql (.t 23) (.c (.int .i32 45))),
 y9 16 (.mv (.t 24))]) <|
 .cond (.t 16) (.exit 2) <|
 .skip) <|
 .exit 0) <|
 .seq (q9 [
 y9 2 (.mv (.c (.bool false)))] <|
 .ret) <|
 .exit 0) <|
 q9 [
 y9 2 (.mv (.c (.bool true)))] <|
 .ret
def c257 : AFun := .code 52 [] <|
 .scope <| q9 [
 y9 10 (.load true 6 (.t 1)),
 y9 11 (.bslice true true 1 6 [(.int .i64 0),(.str []),(.str []),(.slice [] .nil),(.str []),(.slice [] .nil)] [(0,6,(.t 10))]),
 y9 12 (.bslice true false 1 1 [(.int .i64 0)] [(0,1,(.c (.int .i64 1)))]),
 y9 3 (.alloc 25 [(.slice [] .nil)]),
 y9 4 (.alloc 161 [(.slice [] .nil)]),
 w9 (.store 1 (.t 3) (.t 11)),
 w9 (.store 1 (.t 4) (.t 12))] <|
 .seq (.skip) <|
 .block 0 <| .loop <| .seq (q9 [
 y9 13 (.load false 1 (.t 3)),
 y9 14 (.len false (.t 13)),
 y9 15 (.bin .gtr (.t 14) (.c (.int .i64 0)))] <|
 .cond (.t 15) (.skip) <|
 .exit 0) <|
 .block 1 <| q9 [
 y9 16 (.load false 1 (.t 3)),
 y9 17 (.len false (.t 16)),
 y9 18 (.bin .sub (.t 17) (.c (.int .i64 1))),
 y9 5 (.mv (.t 18))] <|
 .seq (.region true [
 y9 19 (.load false 1 (.t 3)),
 y9 20 (.mv (.t 5)),
 y9 21 (.iaddr none 6 (.t 19) (.t 20)),
 y9 22 (.load true 6 (.t 21)),
 ⟨(some 23),.load false 1 (.t 4),none,[0,2,3]⟩,
 y9 24 (.mv (.t 5)),
 ⟨(some 25),.iaddr none 1 (.t 23) (.t 24),none,[0,2,3]⟩,
 ⟨(some 26),.load false 1 (.t 25),none,[0,2,3]⟩,
 ⟨(some 6),.alloc 27 [(.int .i64 0),(.str []),(.str []),(.slice [] .nil),(.str []),(.slice [] .nil)],none,[0,2,3,4,6,7]⟩,
 ⟨(some 7),.alloc 3 [(.int .i64 0)],none,[0,2,3,4,6,7,8]⟩,
 ⟨none,.store 6 (.t 6) (.t 22),none,[4,6,7]⟩,
 w9 (.store 1 (.t 7) (.t 26))]) <|
 .seq (.region true [
 y9 27 (.load false 1 (.t 3)),
 y9 28 (.mv (.t 5)),
 y9 29 (.slice false 6 (.t 27) none (some (.t 28)) none),
 ⟨(some 30),.load false 1 (.t 4),none,[0]⟩,
 y9 31 (.mv (.t 5)),
 y9 32 (.slice false 1 (.t 30) none (some (.t 31)) none),
 ⟨none,.store 1 (.t 3) (.t 29),none,[3]⟩,
 w9 (.store 1 (.t 4) (.t 32))]) <|
 .seq (q9 [
 y9 33 (.mv (.t 0)),
 y9 34 (.load false 1 (.t 7)),
 y9 35 (.load true 6 (.t 6)),
 y9 36 (.callV (.t 33) [(.t 34),(.t 35)]),
 y9 37 (.un .not (.t 36))] <|
 .cond (.t 37) (.exit 0) <|
 .skip) <|
 q9 [
 y9 38 (.faddr 5 (.t 6)),
 y9 39 (.load false 1 (.t 38)),
 y9 40 (.call 258 [(.t 39)])] <|
 .block 2 <| .rfunc (.t 40) [41,42] (.region false [
 y9 9 (.alloc 27 [(.int .i64 0),(.str []),(.str []),(.slice [] .nil),(.str []),(.slice [] .nil)]),
 w9 (.store 6 (.t 9) (.t 42))]) <|
 .block 3 <| .region true [
 y9 43 (.load false 1 (.t 3)),
 ⟨(some 44),.load true 6 (.t 9),none,[0]⟩,
 ⟨(some 45),.bslice false true 1 6 [(.int .i64 0),(.str []),(.str []),(.slice [] .nil),(.str []),(.slice [] .nil)] [(0,6,(.t 44))],none,[0]⟩,
 y9 46 (.append 27 6 104 (.t 43) (.t 45)),
 ⟨(some 47),.load false 1 (.t 4),none,[0,1,2,3]⟩,
 ⟨(some 48),.load false 1 (.t 7),none,[0,1,2,3,4]⟩,
 y9 49 (.bin .add (.t 48) (.c (.int .i64 1))),
 ⟨(some 50),.bslice false false 1 1 [(.int .i64 0)] [(0,1,(.t 49))],none,[0,1,2,3,4]⟩,
 y9 51 (.append 3 1 8 (.t 47) (.t 50)),
 w9 (.store 1 (.t 3) (.t 46)),
 w9 (.store 1 (.t 4) (.t 51))]
def c258 : AFun := .code 4 [.tmp 2] <|
 q9 [
 y9 1 (.box 25 (.t 0)),
 y9 2 (.mv (.c .nilFunc))] <|
 q9 [
 y9 3 (.mkfn 291 [(.t 1)]),
 y9 2 (.mv (.t 3))] <|
 .ret
def c259 : AFun := .code 15 [.tmp 2] <|
 q9 [
 y9 2 (.mv (.c (.bool false)))] <|
 .seq (q9 [
 y9 5 (.mv (.t 0)),
 y9 6 (.len false (.t 5)),
 y9 7 (.mv (.c (.int .i64 0)))] <|
 .block 0 <| .loop <| q9 [
 y9 8 (.bin .lss (.t 7) (.t 6))] <|
 .seq (.cond (.t 8) (.skip) <|
 .exit 0) <|
 .seq (.block 1 <| q9 [
 y9 9 (.iaddr none 1 (.t 5) (.t 7)),
 y9 10 (.load false 1 (.t 9)),
 y9 4 (.mv (.t 10))] <|
 q9 [
 y9 11 (.mv (.t 4)),
 y9 12 (.len true (.t 11)),
 y9 13 (.bin .gtr (.t 12) (.c (.int .i64 60)))] <|
 .cond (.t 13) (q9 [
 y9 2 (.mv (.c (.bool false)))] <|
 .ret) <|
 .skip) <|
 .region false [
 y9 14 (.bin .add (.t 7) (.c (.int .i64 1))),
 y9 7 (.mv (.t 14))]) <|
 q9 [
 y9 2 (.mv (.c (.bool true)))] <|
 .ret
def c260 : AFun := .code 9 [.tmp 4] <|
 q9 [
 y9 4 (.mv (.c (.bool false)))] <|
 q9 [
 y9 5 (.mv (.t 0)),
 y9 6 (.mv (.t 1)),
 y9 7 (.call 292 [(.t 5),(.t 6)]),
 y9 8 (.bin .geq (.t 7) (.c (.int .i64 0))),
 y9 4 (.mv (.t 8))] <|
 .ret
def c261 : AFun := .code 4 [.tmp 2] <|
 q9 [
 y9 1 (.box 330 (.t 0)),
 y9 2 (.mv (.c .nilFunc))] <|
 q9 [
 y9 3 (.mkfn 293 [(.t 1)]),
 y9 2 (.mv (.t 3))] <|
 .ret
def c262 : AFun := .code 33 [.cell 2 true 2,.tmp 3] <|
 q9 [
 y9 2 (.alloc 204 [(.str []),(.str [])]),
 y9 3 (.mv (.c .nilIface))] <|
 q9 [
 y9 10 (.mv (.t 0)),
 y9 11 (.call 295 [(.t 10),(.c (.str [61]))]),
 y9 9 (.mv (.t 11)),
 y9 12 (.extract 0 (.t 9)),
 y9 13 (.extract 1 (.t 9)),
 y9 14 (.extract 2 (.t 9)),
 y9 4 (.mv (.t 12)),
 y9 5 (.mv (.t 13)),
 y9 6 (.mv (.t 14))] <|
 q9 [
 y9 16 (.mv (.t 5)),
 y9 17 (.call 296 [(.t 16)]),
 y9 15 (.mv (.t 17)),
 y9 18 (.extract 0 (.t 15)),
 y9 19 (.extract 1 (.t 15)),
 y9 7 (.mv (.t 18)),
 y9 8 (.mv (.t 19))] <|
 .seq (q9 [
 y9 20 (.mv (.t 6)),
 y9 21 (.un .not (.t 20)),
 y9 22 (.mv (.t 21)),
 ⟨(some 23),.mv (.t 8),some (22,false),[]⟩,
 ⟨(some 24),.bin .neq (.t 23) (.c (.int .i64 0)),some (22,false),[]⟩,
 y9 25 (.pick (.t 22) (.c (.bool true)) (.t 24))] <|
 .cond (.t 25) (q9 [
 y9 26 (.build [(.str []),(.str [])] []),
 y9 27 (.mv (.t 0)),
 y9 28 (.build [(.str [])] [(0,1,(.t 27))]),
 y9 29 (.mkif 335 (.t 28)),
 w9 (.store 2 (.t 2) (.t 26)),
 y9 3 (.mv (.t 29))] <|
 .ret) <|
 .skip) <|
 q9 [
 y9 30 (.mv (.t 4)),
 y9 31 (.mv (.t 7)),
 y9 32 (.build [(.str []),(.str [])] [(0,1,(.t 30)),(1,1,(.t 31))]),
 w9 (.store 2 (.t 2) (.t 32)),
 y9 3 (.mv (.c .nilIface))] <|
 .ret
def c263 : AFun := .code 13 [.tmp 2] <|
 q9 [
 y9 2 (.mv (.c (.bool false)))] <|
 q9 [
 y9 3 (.mv (.c (.func 297 [])))] <|
 q9 [
 y9 4 (.mv (.t 0)),
 y9 5 (.len false (.t 4)),
 y9 6 (.bin .leq (.t 5) (.c (.int .i64 8))),
 y9 7 (.mv (.t 6)),
 ⟨(some 8),.mv (.t 0),some (7,true),[]⟩,
 ⟨(some 9),.mv (.t 3),some (7,true),[]⟩,
 ⟨(some 10),.call 301 [(.t 8),(.t 9)],some (7,true),[]⟩,
 ⟨(some 11),.un .not (.t 10),some (7,true),[]⟩,
 y9 12 (.pick (.t 7) (.t 11) (.c (.bool false))),
 y9 2 (.mv (.t 12))] <|
 .ret
def c264 : AFun := .code 35 [.cell 2 true 6,.tmp 3] <|
 q9 [
 y9 1 (.box 45 (.t 0)),
 y9 2 (.alloc 27 [(.int .i64 0),(.str []),(.str []),(.slice [] .nil),(.str []),(.slice [] .nil)]),
 y9 3 (.mv (.c .nilIface))] <|
 q9 [
 y9 8 (.load true 3 (.t 1)),
 y9 9 (.call 302 [(.t 8),(.c (.int .i64 6))]),
 y9 7 (.mv (.t 9)),
 y9 10 (.extract 0 (.t 7)),
 y9 11 (.extract 1 (.t 7)),
 y9 4 (.alloc 27 [(.int .i64 0),(.str []),(.str []),(.slice [] .nil),(.str []),(.slice [] .nil)]),
 w9 (.store 6 (.t 4) (.t 10)),
 y9 5 (.mv (.t 11))] <|
 .seq (q9 [
 y9 12 (.mv (.t 5)),
 y9 13 (.eq true (.iface [15,127,157,165,234,252,336,354,360,378,420,427,428]) true (.t 12) (.c .nilIface))] <|
 .cond (.t 13) (q9 [
 y9 14 (.build [(.int .i64 0),(.str []),(.str []),(.slice [] .nil),(.str []),(.slice [] .nil)] []),
 y9 15 (.mv (.t 5)),
 w9 (.store 6 (.t 2) (.t 14)),
 y9 3 (.mv (.t 15))] <|
 .ret) <|
 .skip) <|
 q9 [
 y9 17 (.load true 6 (.t 4)),
 y9 18 (.call 303 [(.t 17)]),
 y9 16 (.mv (.t 18)),
 y9 19 (.extract 0 (.t 16)),
 y9 20 (.extract 1 (.t 16)),
 y9 6 (.alloc 45 [(.int .i64 0),(.str []),(.slice [] .nil)]),
 w9 (.store 3 (.t 6) (.t 19)),
 y9 5 (.mv (.t 20))] <|
 .seq (q9 [
 y9 21 (.mv (.t 5)),
 y9 22 (.eq true (.iface [15,127,157,165,234,252,336,354,360,378,420,427,428]) true (.t 21) (.c .nilIface)),
 y9 23 (.mv (.t 22)),
 ⟨(some 24),.load true 3 (.t 6),some (23,false),[]⟩,
 ⟨(some 25),.load true 3 (.t 1),some (23,false),[]⟩,
 ⟨(some 26),.call 12 [(.t 24),(.t 25)],some (23,false),[]⟩,
 ⟨(some 27),.un .not (.t 26),some (23,false),[]⟩,
 y9 28 (.pick (.t 23) (.c (.bool true)) (.t 27))] <|
 .cond (.t 28) (.seq (.region true [
 y9 29 (.build [(.int .i64 0),(.str []),(.str []),(.slice [] .nil),(.str []),(.slice [] .nil)] []),
 y9 30 (.faddr 0 (.t 1)),
 y9 31 (.load false 1 (.t 30)),
 y9 32 (.build [(.int .i64 0)] [(0,1,(.t 31))]),
 y9 33 (.mkif 377 (.t 32)),
 ⟨none,.store 6 (.t 2) (.t 29),none,[2]⟩,
 y9 3 (.mv (.t 33))]) <|
 .ret) <|
 .skip) <|
 q9 [
 y9 34 (.load true 6 (.t 4)),
 w9 (.store 6 (.t 2) (.t 34)),
 y9 3 (.mv (.c .nilIface))] <|
 .ret
def c265 : AFun := .code 12 [.tmp 2] <|
 q9 [
 y9 2 (.mv (.c (.int .i64 0)))] <|
 q9 [
 y9 3 (.alloc 377 [(.int .i64 0)])] <|
 .seq (q9 [
 y9 4 (.mv (.t 0)),
 y9 5 (.load false 1 (.c (.ptr 14 0))),
 y9 6 (.call 75 [(.t 4),(.t 5)]),
 y9 7 (.mv (.t 6)),
 ⟨(some 8),.mv (.t 0),some (7,true),[]⟩,
 ⟨(some 9),.mkif 378 (.t 3),some (7,true),[]⟩,
 ⟨(some 10),.call 74 [(.t 8),(.t 9)],some (7,true),[]⟩,
 y9 11 (.pick (.t 7) (.t 10) (.c (.bool false)))] <|
 .cond (.t 11) (q9 [
 y9 2 (.mv (.c (.int .i64 80)))] <|
 .ret) <|
 .skip) <|
 q9 [
 y9 2 (.mv (.c (.int .i64 0)))] <|
 .ret
def c266 : AFun := .code 14 [.tmp 2,.tmp 3] <|
 q9 [
 y9 2 (.mv (.c (.int .i64 0))),
 y9 3 (.mv (.c (.int .i64 0)))] <|
 q9 [
 y9 7 (.mv (.t 0)),
 y9 8 (.call 304 [(.t 7)]),
 y9 6 (.mv (.t 8)),
 y9 9 (.extract 0 (.t 6)),
 y9 10 (.extract 1 (.t 6)),
 y9 4 (.mv (.t 9)),
 y9 5 (.mv (.t 10))] <|
 q9 [
 y9 11 (.mv (.t 4)),
 y9 12 (.mv (.t 5)),
 y9 13 (.call 240 [(.t 12)]),
 y9 2 (.mv (.t 11)),
 y9 3 (.mv (.t 13))] <|
 .ret
def c267 : AFun := .code 49 [.cell 2 true 3,.cell 3 false 1] <|
 q9 [
 y9 1 (.box 45 (.t 0)),
 y9 2 (.alloc 67 [(.int .i64 0),(.str []),(.slice [] .nil)]),
 y9 3 (.alloc 80 [.nilIface])] <|
 q9 [
 y9 6 (.mkfn 305 [(.t 3),(.t 2)]),
 w9 (.defer (.t 6) [])] <|
 q9 [
 y9 7 (.load true 3 (.t 1)),
 y9 8 (.call 242 [(.t 7),(.c (.int .i64 48))]),
 y9 4 (.mv (.t 8))] <|
 q9 [
 y9 9 (.mv (.t 4)),
 y9 10 (.call 247 [(.t 9)]),
 y9 11 (.faddr 0 (.t 2)),
 w9 (.store 1 (.t 11) (.t 10))] <|
 .seq (.seq (.region true [
 y9 12 (.mv (.t 4)),
 y9 13 (.nilck (.t 12)),
 y9 14 (.faddr 1 (.t 13)),
 y9 15 (.load false 1 (.t 14)),
 y9 16 (.un .not (.t 15)),
 y9 17 (.mv (.t 4)),
 y9 18 (.nilck (.t 17)),
 y9 19 (.faddr 0 (.t 18)),
 y9 20 (.faddr 0 (.t 19)),
 ⟨(some 21),.load false 1 (.t 20),none,[3]⟩,
 y9 22 (.len false (.t 21)),
 y9 23 (.bin .eql (.t 22) (.c (.int .i64 1))),
 y9 24 (.bslice false false 2 1 [(.bool false),(.bool false)] [(0,1,(.t 16)),(1,1,(.t 23))]),
 y9 25 (.call 185 [(.c (.str [99,104,97,110,103,101])),(.t 24)]),
 y9 5 (.mv (.t 25))]) <|
 q9 [
 y9 26 (.mv (.t 5)),
 y9 27 (.eq true (.iface [15,127,157,165,234,252,336,354,360,378,420,427,428]) true (.t 26) (.c .nilIface))] <|
 .cond (.t 27) (q9 [
 y9 28 (.load true 3 (.t 2)),
 y9 29 (.mv (.t 5)),
 w9 (.store 3 (.t 2) (.t 28)),
 w9 (.store 1 (.t 3) (.t 29))] <|
 .ret) <|
 .skip) <|
 .seq (q9 [
 y9 31 (.mv (.t 4)),
 y9 32 (.nilck (.t 31)),
 y9 33 (.faddr 0 (.t 32)),
 y9 34 (.faddr 0 (.t 33)),
 y9 35 (.load false 1 (.t 34)),
 y9 36 (.iaddr none 3 (.t 35) (.c (.int .i64 0))),
 y9 37 (.load true 3 (.t 36)),
 y9 38 (.call 189 [(.t 37),(.c (.int .i64 0))]),
 y9 30 (.mv (.t 38)),
 y9 39 (.extract 0 (.t 30)),
 y9 40 (.extract 1 (.t 30)),
 y9 41 (.faddr 1 (.t 2)),
 w9 (.store 2 (.t 41) (.t 39)),
 w9 (.store 1 (.t 3) (.t 40))] <|
 q9 [
 y9 42 (.load false 1 (.t 3)),
 y9 43 (.eq true (.iface [15,127,157,165,234,252,336,354,360,378,420,427,428]) true (.t 42) (.c .nilIface))] <|
 .cond (.t 43) (.seq (.region true [
 y9 44 (.load true 3 (.t 2)),
 ⟨(some 45),.load false 1 (.t 3),none,[0]⟩,
 ⟨none,.store 3 (.t 2) (.t 44),none,[1]⟩,
 w9 (.store 1 (.t 3) (.t 45))]) <|
 .ret) <|
 .skip) <|
 .seq (.region true [
 y9 46 (.load true 3 (.t 2)),
 ⟨(some 47),.load true 3 (.t 2),none,[0]⟩,
 ⟨(some 48),.call 201 [(.t 47)],none,[0]⟩,
 w9 (.store 3 (.t 2) (.t 46)),
 w9 (.store 1 (.t 3) (.t 48))]) <|
 .ret
def c268 : AFun := .code 8 [.cell 4 true 3] <|
 q9 [
 y9 4 (.alloc 45 [(.int .i64 0),(.str []),(.slice [] .nil)])] <|
 q9 [
 y9 5 (.mv (.t 0)),
 y9 6 (.mv (.t 1)),
 y9 7 (.build [(.int .i64 0),(.str []),(.slice [] .nil)] [(0,1,(.t 5)),(1,1,(.t 6))]),
 w9 (.store 3 (.t 4) (.t 7))] <|
 .ret
def c269 : AFun := .code 25 [.cell 4 true 3] <|
 q9 [
 y9 4 (.alloc 45 [(.int .i64 0),(.str []),(.slice [] .nil)])] <|
 q9 [
 y9 8 (.mv (.t 0)),
 y9 9 (.call 270 [(.t 8),(.c (.slice [] .nil))]),
 y9 5 (.alloc 45 [(.int .i64 0),(.str []),(.slice [] .nil)]),
 w9 (.store 3 (.t 5) (.t 9))] <|
 .seq (q9 [
 y9 10 (.mv (.t 1)),
 y9 11 (.len false (.t 10)),
 y9 12 (.mv (.c (.int .i64 0)))] <|
 .block 0 <| .loop <| q9 [
 y9 13 (.bin .lss (.t 12) (.t 11))] <|
 .seq (.cond (.t 13) (.skip) <|
 .exit 0) <|
 .seq (.block 1 <| q9 [
 y9 14 (.iaddr none 1 (.t 10) (.t 12)),
 y9 15 (.load false 1 (.t 14)),
 y9 7 (.mv (.t 15))] <|
 .region true [
 y9 16 (.faddr 2 (.t 5)),
 y9 17 (.load false 1 (.t 16)),
 y9 18 (.mv (.t 7)),
 ⟨(some 19),.call 268 [(.c (.int .i64 4)),(.t 18)],none,[1]⟩,
 ⟨(some 20),.bslice false true 1 3 [(.int .i64 0),(.str []),(.slice [] .nil)] [(0,3,(.t 19))],none,[1]⟩,
 y9 21 (.append 45 3 48 (.t 17) (.t 20)),
 y9 22 (.faddr 2 (.t 5)),
 w9 (.store 1 (.t 22) (.t 21))]) <|
 .region false [
 y9 23 (.bin .add (.t 12) (.c (.int .i64 1))),
 y9 12 (.mv (.t 23))]) <|
 q9 [
 y9 24 (.load true 3 (.t 5)),
 w9 (.store 3 (.t 4) (.t 24))] <|
 .ret
def c270 : AFun := .code 8 [.cell 4 true 3] <|
 q9 [
 y9 4 (.alloc 45 [(.int .i64 0),(.str []),(.slice [] .nil)])] <|
 q9 [
 y9 5 (.mv (.t 0)),
 y9 6 (.mv (.t 1)),
 y9 7 (.build [(.int .i64 0),(.str []),(.slice [] .nil)] [(0,1,(.t 5)),(2,1,(.t 6))]),
 w9 (.store 3 (.t 4) (.t 7))] <|
 .ret
def c271 : AFun := .code 15 [.cell 4 true 3] <|
 q9 [
 y9 4 (.alloc 45 [(.int .i64 0),(.str []),(.slice [] .nil)])] <|
 q9 [
 y9 8 (.mv (.t 1)),
 y9 9 (.call 188 [(.t 8)]),
 y9 7 (.mv (.t 9)),
 y9 10 (.extract 0 (.t 7)),
 y9 11 (.extract 1 (.t 7)),
 y9 5 (.mv (.t 10)),
 y9 6 (.mv (.t 11))] <|
 q9 [
 y9 12 (.mv (.t 0)),
 y9 13 (.mv (.t 5)),
 y9 14 (.call 268 [(.t 12),(.t 13)]),
 w9 (.store 3 (.t 4) (.t 14))] <|
 .ret
def c272 : AFun := .code 7 [.cell 2 true 3] <|
 q9 [
 y9 1 (.box 116 (.t 0)),
 y9 2 (.alloc 45 [(.int .i64 0),(.str []),(.slice [] .nil)])] <|
 q9 [
 y9 3 (.faddr 0 (.t 1)),
 y9 4 (.faddr 2 (.t 3)),
 y9 5 (.load false 1 (.t 4)),
 y9 6 (.call 268 [(.c (.int .i64 4)),(.t 5)]),
 w9 (.store 3 (.t 2) (.t 6))] <|
 .ret
def c273 : AFun := .code 14 [.cell 2 true 3,.tmp 3] <|
 q9 [
 y9 1 (.box 27 (.t 0)),
 y9 2 (.alloc 45 [(.int .i64 0),(.str []),(.slice [] .nil)]),
 y9 3 (.mv (.c (.int .i64 0)))] <|
 q9 [
 y9 7 (.load true 6 (.t 1)),
 y9 8 (.call 303 [(.t 7)]),
 y9 6 (.mv (.t 8)),
 y9 9 (.extract 0 (.t 6)),
 y9 10 (.extract 1 (.t 6)),
 y9 4 (.alloc 45 [(.int .i64 0),(.str []),(.slice [] .nil)]),
 w9 (.store 3 (.t 4) (.t 9)),
 y9 5 (.mv (.t 10))] <|
 .seq (.region true [
 y9 11 (.load true 3 (.t 4)),
 y9 12 (.mv (.t 5)),
 ⟨(some 13),.call 265 [(.t 12)],none,[0]⟩,
 w9 (.store 3 (.t 2) (.t 11)),
 y9 3 (.mv (.t 13))]) <|
 .ret
def c274 : AFun := .code 4 [.tmp 2] <|
 q9 [
 y9 2 (.mv (.c (.str [])))] <|
 .seq (q9 [
 y9 3 (.mv (.t 0))] <|
 .cond (.t 3) (q9 [
 y9 2 (.mv (.c (.str [255])))] <|
 .ret) <|
 .skip) <|
 q9 [
 y9 2 (.mv (.c (.str [0])))] <|
 .ret
def c275 : AFun := .code 19 [] <|
 q9 [
 y9 4 (.load false 1 (.t 1)),
 y9 5 (.len false (.t 4)),
 y9 6 (.bin .sub (.t 5) (.c (.int .i64 1))),
 y9 3 (.mv (.t 6))] <|
 .block 0 <| .loop <| .seq (q9 [
 y9 7 (.mv (.t 3)),
 y9 8 (.bin .geq (.t 7) (.c (.int .i64 0)))] <|
 .cond (.t 8) (.skip) <|
 .exit 0) <|
 .seq (.block 1 <| q9 [
 y9 11 (.mv (.t 0)),
 y9 12 (.mv (.t 3)),
 y9 13 (.load false 1 (.t 1)),
 y9 14 (.mv (.t 3)),
 y9 15 (.iaddr none 3 (.t 13) (.t 14)),
 y9 16 (.load true 3 (.t 15)),
 y9 17 (.callV (.t 11) [(.t 12),(.t 16)]),
 y9 18 (.un .not (.t 17))] <|
 .cond (.t 18) (.ret) <|
 .skip) <|
 .region false [
 y9 9 (.mv (.t 3)),
 y9 10 (.bin .sub (.t 9) (.c (.int .i64 1))),
 y9 3 (.mv (.t 10))]
def c276 : AFun := .prim 7
def c278 : AFun := .code 21 [.tmp 4] <|
 q9 [
 y9 4 (.mv (.c .nilIface))] <|
 .seq (q9 [
 y9 7 (.mv (.t 1)),
 y9 8 (.len false (.t 7)),
 y9 9 (.mv (.c (.int .i64 0)))] <|
 .block 0 <| .loop <| q9 [
 y9 10 (.bin .lss (.t 9) (.t 8))] <|
 .seq (.cond (.t 10) (.skip) <|
 .exit 0) <|
 .seq (.block 1 <| q9 [
 y9 11 (.iaddr none 2 (.t 7) (.t 9)),
 y9 12 (.load true 2 (.t 11)),
 y9 6 (.alloc 349 [(.bool false),.nilIface]),
 w9 (.store 2 (.t 6) (.t 12))] <|
 q9 [
 y9 13 (.faddr 0 (.t 6)),
 y9 14 (.load false 1 (.t 13))] <|
 .cond (.t 14) (q9 [
 y9 15 (.mv (.t 0)),
 y9 16 (.faddr 1 (.t 6)),
 y9 17 (.load false 1 (.t 16)),
 y9 18 (.build [(.int .i64 0),.nilIface] [(0,1,(.t 15)),(1,1,(.t 17))]),
 y9 19 (.mkif 353 (.t 18)),
 y9 4 (.mv (.t 19))] <|
 .ret) <|
 .skip) <|
 .region false [
 y9 20 (.bin .add (.t 9) (.c (.int .i64 1))),
 y9 9 (.mv (.t 20))]) <|
 q9 [
 y9 4 (.mv (.c .nilIface))] <|
 .ret
def c279 : AFun := .code 7 [] <|
 .region false [
 y9 3 (.mv (.t 0)),
 y9 4 (.bslice false false 1 1 [(.int .u8 0)] [(0,1,(.t 3))]),
 y9 5 (.load false 1 (.t 1)),
 y9 6 (.append 5 1 1 (.t 4) (.t 5)),
 w9 (.store 1 (.t 1) (.t 6))]
def c280 : AFun := .code 4 [.tmp 2] <|
 q9 [
 y9 1 (.box 3 (.t 0)),
 y9 2 (.mv (.c .nilFunc))] <|
 q9 [
 y9 3 (.mkfn 308 [(.t 1)]),
 y9 2 (.mv (.t 3))] <|
 .ret
def c281 : AFun := .prim 0
def c282 : AFun := .code 9 [.tmp 2] <|
 q9 [
 y9 2 (.mv (.c (.bool false)))] <|
 q9 [
 y9 3 (.mv (.t 0)),
 y9 4 (.bin .lss (.t 3) (.c (.int .i32 48))),
 y9 5 (.mv (.t 4)),
 ⟨(some 6),.mv (.t 0),some (5,false),[]⟩,
 ⟨(some 7),.bin .gtr (.t 6) (.c (.int .i32 57)),some (5,false),[]⟩,
 y9 8 (.pick (.t 5) (.c (.bool true)) (.t 7)),
 y9 2 (.mv (.t 8))] <|
 .ret
def c283 : AFun := .code 6 [.tmp 4] <|
 q9 [
 y9 2 (.box 297 (.t 0)),
 y9 3 (.box 359 (.t 1)),
 y9 4 (.mv (.c .nilFunc))] <|
 q9 [
 y9 5 (.mkfn 310 [(.t 2),(.t 3)]),
 y9 4 (.mv (.t 5))] <|
 .ret
def c284 : AFun := .code 20 [.tmp 4] <|
 q9 [
 y9 2 (.box 301 (.t 0)),
 y9 4 (.mv (.c (.bool false)))] <|
 q9 [
 y9 6 (.faddr 0 (.t 2)),
 y9 7 (.load false 1 (.t 6)),
 y9 8 (.bin .mul (.c (.int .i64 8)) (.t 7)),
 y9 9 (.bin .sub (.t 8) (.c (.int .i64 1))),
 y9 10 (.bin .shl (.c (.int .i64 1)) (.t 9)),
 y9 5 (.mv (.t 10))] <|
 q9 [
 y9 11 (.mv (.t 1)),
 y9 12 (.mv (.t 5)),
 y9 13 (.un .neg (.t 12)),
 y9 14 (.bin .geq (.t 11) (.t 13)),
 y9 15 (.mv (.t 14)),
 ⟨(some 16),.mv (.t 1),some (15,true),[]⟩,
 ⟨(some 17),.mv (.t 5),some (15,true),[]⟩,
 ⟨(some 18),.bin .lss (.t 16) (.t 17),some (15,true),[]⟩,
 y9 19 (.pick (.t 15) (.t 18) (.c (.bool false))),
 y9 4 (.mv (.t 19))] <|
 .ret
def c285 : AFun := .code 21 [] <|
 .scope <| .seq (.skip) <|
 q9 [
 y9 4 (.faddr 0 (.t 1)),
 y9 5 (.faddr 0 (.t 4)),
 y9 6 (.load false 1 (.t 5)),
 y9 7 (.bin .sub (.t 6) (.c (.int .i64 1))),
 y9 3 (.mv (.t 7))] <|
 .block 0 <| .loop <| .seq (q9 [
 y9 8 (.mv (.t 3)),
 y9 9 (.bin .geq (.t 8) (.c (.int .i64 0)))] <|
 .cond (.t 9) (.skip) <|
 .exit 0) <|
 .seq (.block 1 <| q9 [
 y9 12 (.mv (.t 0)),
 y9 13 (.faddr 1 (.t 1)),
 y9 14 (.load false 1 (.t 13)),
 y9 15 (.mv (.t 3)),
 y9 16 (.bin .mul (.c (.int .i64 8)) (.t 15)),
 y9 17 (.bin .shr (.t 14) (.t 16)),
 y9 18 (.conv (.toInt .u8) (.t 17)),
 y9 19 (.callV (.t 12) [(.t 18)]),
 y9 20 (.un .not (.t 19))] <|
 .cond (.t 20) (.exit 0) <|
 .skip) <|
 .region false [
 y9 10 (.mv (.t 3)),
 y9 11 (.bin .sub (.t 10) (.c (.int .i64 1))),
 y9 3 (.mv (.t 11))]
def c286 : AFun := .code 40 [.cell 4 true 3,.tmp 5] <|
 q9 [
 y9 4 (.alloc 45 [(.int .i64 0),(.str []),(.slice [] .nil)]),
 y9 5 (.mv (.c (.bool false)))] <|
 .seq (q9 [
 y9 7 (.mv (.t 0)),
 y9 8 (.nilck (.t 7)),
 y9 9 (.faddr 0 (.t 8)),
 y9 10 (.load false 1 (.t 9)),
 y9 11 (.len false (.t 10)),
 y9 12 (.bin .eql (.t 11) (.c (.int .i64 0))),
 y9 13 (.mv (.t 12)),
 ⟨(some 14),.mv (.t 0),some (13,false),[]⟩,
 ⟨(some 15),.nilck (.t 14),some (13,false),[]⟩,
 ⟨(some 16),.faddr 0 (.t 15),some (13,false),[]⟩,
 ⟨(some 17),.load false 1 (.t 16),some (13,false),[]⟩,
 ⟨(some 18),.iaddr none 3 (.t 17) (.c (.int .i64 0)),some (13,false),[]⟩,
 ⟨(some 19),.faddr 0 (.t 18),some (13,false),[]⟩,
 ⟨(some 20),.load false 1 (.t 19),some (13,false),[]⟩,
 ⟨(some 21),.mv (.t 1),some (13,false),[]⟩,
 ⟨(some 22),.bin .neq (.t 20) (.t 21),some (13,false),[]⟩,
 y9 23 (.pick (.t 13) (.c (.bool true)) (.t 22))] <|
 .cond (.t 23) (q9 [
 y9 24 (.build [(.int .i64 0),(.str []),(.slice [] .nil)] []),
 w9 (.store 3 (.t 4) (.t 24)),
 y9 5 (.mv (.c (.bool false)))] <|
 .ret) <|
 .skip) <|
 q9 [
 y9 25 (.mv (.t 0)),
 y9 26 (.nilck (.t 25)),
 y9 27 (.faddr 0 (.t 26)),
 y9 28 (.load false 1 (.t 27)),
 y9 29 (.iaddr none 3 (.t 28) (.c (.int .i64 0))),
 y9 30 (.load true 3 (.t 29)),
 y9 6 (.alloc 45 [(.int .i64 0),(.str []),(.slice [] .nil)]),
 w9 (.store 3 (.t 6) (.t 30))] <|
 q9 [
 y9 31 (.mv (.t 0)),
 y9 32 (.mv (.t 0)),
 y9 33 (.nilck (.t 32)),
 y9 34 (.faddr 0 (.t 33)),
 y9 35 (.load false 1 (.t 34)),
 y9 36 (.slice false 3 (.t 35) (some (.c (.int .i64 1))) none none),
 y9 37 (.nilck (.t 31)),
 y9 38 (.faddr 0 (.t 37)),
 w9 (.store 1 (.t 38) (.t 36))] <|
 q9 [
 y9 39 (.load true 3 (.t 6)),
 w9 (.store 3 (.t 4) (.t 39)),
 y9 5 (.mv (.c (.bool true)))] <|
 .ret
def c287 : AFun := .code 6 [.tmp 4] <|
 q9 [
 y9 2 (.box 387 (.t 0)),
 y9 3 (.box 3 (.t 1)),
 y9 4 (.mv (.c .nilFunc))] <|
 q9 [
 y9 5 (.mkfn 312 [(.t 2),(.t 3)]),
 y9 4 (.mv (.t 5))] <|
 .ret
def c288 : AFun := .code 49 [.tmp 2,.tmp 3] <|
 q9 [
 y9 2 (.mv (.c (.str []))),
 y9 3 (.mv (.c (.int .i64 0)))] <|
 q9 [
 y9 4 (.mv (.c (.str [])))] <|
 .seq (q9 [
 y9 5 (.mv (.c (.int .i64 0)))] <|
 .block 0 <| .loop <| .seq (q9 [
 y9 6 (.mv (.t 5)),
 y9 7 (.mv (.t 0)),
 y9 8 (.len true (.t 7)),
 y9 9 (.bin .lss (.t 6) (.t 8))] <|
 .cond (.t 9) (.skip) <|
 .exit 0) <|
 .seq (.block 1 <| .seq (q9 [
 y9 12 (.mv (.t 5)),
 y9 13 (.bin .add (.t 12) (.c (.int .i64 1))),
 y9 14 (.mv (.t 0)),
 y9 15 (.len true (.t 14)),
 y9 16 (.bin .geq (.t 13) (.t 15)),
 y9 17 (.mv (.t 16)),
 ⟨(some 18),.mv (.t 0),some (17,false),[]⟩,
 ⟨(some 19),.mv (.t 5),some (17,false),[]⟩,
 ⟨(some 20),.index none (.t 18) (.t 19),some (17,false),[]⟩,
 ⟨(some 21),.call 313 [(.t 20)],some (17,false),[]⟩,
 ⟨(some 22),.bin .lss (.t 21) (.c (.int .i64 0)),some (17,false),[]⟩,
 y9 23 (.pick (.t 17) (.c (.bool true)) (.t 22)),
 y9 24 (.mv (.t 23)),
 ⟨(some 25),.mv (.t 0),some (24,false),[]⟩,
 ⟨(some 26),.mv (.t 5),some (24,false),[]⟩,
 ⟨(some 27),.bin .add (.t 26) (.c (.int .i64 1)),some (24,false),[]⟩,
 ⟨(some 28),.index none (.t 25) (.t 27),some (24,false),[]⟩,
 ⟨(some 29),.call 313 [(.t 28)],some (24,false),[]⟩,
 ⟨(some 30),.bin .lss (.t 29) (.c (.int .i64 0)),some (24,false),[]⟩,
 y9 31 (.pick (.t 24) (.c (.bool true)) (.t 30))] <|
 .cond (.t 31) (q9 [
 y9 2 (.mv (.c (.str []))),
 y9 3 (.mv (.c (.int .i64 50)))] <|
 .ret) <|
 .skip) <|
 .region true [
 y9 32 (.mv (.t 4)),
 y9 33 (.mv (.t 0)),
 y9 34 (.mv (.t 5)),
 y9 35 (.index none (.t 33) (.t 34)),
 y9 36 (.call 313 [(.t 35)]),
 y9 37 (.bin .mul (.c (.int .i64 16)) (.t 36)),
 y9 38 (.mv (.t 0)),
 y9 39 (.mv (.t 5)),
 y9 40 (.bin .add (.t 39) (.c (.int .i64 1))),
 y9 41 (.index none (.t 38) (.t 40)),
 y9 42 (.call 313 [(.t 41)]),
 y9 43 (.bin .add (.t 37) (.t 42)),
 y9 44 (.conv (.toInt .u8) (.t 43)),
 y9 45 (.bslice false false 1 1 [(.int .u8 0)] [(0,1,(.t 44))]),
 y9 46 (.conv .b2s (.t 45)),
 y9 47 (.bin .add (.t 32) (.t 46)),
 y9 4 (.mv (.t 47))]) <|
 .region false [
 y9 10 (.mv (.t 5)),
 y9 11 (.bin .add (.t 10) (.c (.int .i64 2))),
 y9 5 (.mv (.t 11))]) <|
 q9 [
 y9 48 (.mv (.t 4)),
 y9 2 (.mv (.t 48)),
 y9 3 (.mv (.c (.int .i64 0)))] <|
 .ret
def c291 : AFun := .code 19 [] <|
 q9 [
 y9 4 (.load false 1 (.t 1)),
 y9 5 (.len false (.t 4)),
 y9 6 (.bin .sub (.t 5) (.c (.int .i64 1))),
 y9 3 (.mv (.t 6))] <|
 .block 0 <| .loop <| .seq (q9 [
 y9 7 (.mv (.t 3)),
 y9 8 (.bin .geq (.t 7) (.c (.int .i64 0)))] <|
 .cond (.t 8) (.skip) <|
 .exit 0) <|
 .seq (.block 1 <| q9 [
 y9 11 (.mv (.t 0)),
 y9 12 (.mv (.t 3)),
 y9 13 (.load false 1 (.t 1)),
 y9 14 (.mv (.t 3)),
 y9 15 (.iaddr none 6 (.t 13) (.t 14)),
 y9 16 (.load true 6 (.t 15)),
 y9 17 (.callV (.t 11) [(.t 12),(.t 16)]),
 y9 18 (.un .not (.t 17))] <|
 .cond (.t 18) (.ret) <|
 .skip) <|
 .region false [
 y9 9 (.mv (.t 3)),
 y9 10 (.bin .sub (.t 9) (.c (.int .i64 1))),
 y9 3 (.mv (.t 10))]
def c292 : AFun := .code 19 [.tmp 4] <|
 q9 [
 y9 4 (.mv (.c (.int .i64 0)))] <|
 .seq (q9 [
 y9 6 (.mv (.t 0)),
 y9 7 (.len false (.t 6)),
 y9 8 (.mv (.c (.int .i64 0)))] <|
 .block 0 <| .loop <| q9 [
 y9 9 (.bin .lss (.t 8) (.t 7))] <|
 .seq (.cond (.t 9) (.skip) <|
 .exit 0) <|
 .seq (.block 1 <| q9 [
 y9 10 (.mv (.t 8)),
 y9 5 (.mv (.t 10))] <|
 q9 [
 y9 11 (.mv (.t 1)),
 y9 12 (.mv (.t 0)),
 y9 13 (.mv (.t 5)),
 y9 14 (.iaddr none 1 (.t 12) (.t 13)),
 y9 15 (.load false 1 (.t 14)),
 y9 16 (.bin .eql (.t 11) (.t 15))] <|
 .cond (.t 16) (q9 [
 y9 17 (.mv (.t 5)),
 y9 4 (.mv (.t 17))] <|
 .ret) <|
 .skip) <|
 .region false [
 y9 18 (.bin .add (.t 8) (.c (.int .i64 1))),
 y9 8 (.mv (.t 18))]) <|
 q9 [
 y9 4 (.mv (.c (.int .i64 (-1))))] <|
 .ret
def c293 : AFun := .code 30 [] <|
 .scope <| q9 [
 y9 3 (.mv (.c (.int .i64 0)))] <|
 .seq (.skip) <|
 .block 0 <| .loop <| .block 1 <| q9 [
 y9 5 (.faddr 0 (.t 1)),
 y9 6 (.load true 1 (.t 5)),
 y9 7 (.mv (.t 3)),
 y9 8 (.faddr 1 (.t 1)),
 y9 9 (.load false 1 (.t 8)),
 y9 10 (.call 294 [(.t 6),(.t 7),(.t 9)]),
 y9 4 (.mv (.t 10))] <|
 .seq (q9 [
 y9 11 (.mv (.t 0)),
 y9 12 (.faddr 0 (.t 1)),
 y9 13 (.faddr 0 (.t 12)),
 y9 14 (.load false 1 (.t 13)),
 y9 15 (.mv (.t 3)),
 y9 16 (.mv (.t 4)),
 y9 17 (.slice true 1 (.t 14) (some (.t 15)) (some (.t 16)) none),
 y9 18 (.callV (.t 11) [(.t 17)]),
 y9 19 (.un .not (.t 18)),
 y9 20 (.mv (.t 19)),
 ⟨(some 21),.mv (.t 4),some (20,false),[]⟩,
 ⟨(some 22),.faddr 0 (.t 1),some (20,false),[]⟩,
 ⟨(some 23),.faddr 0 (.t 22),some (20,false),[]⟩,
 ⟨(some 24),.load false 1 (.t 23),some (20,false),[]⟩,
 ⟨(some 25),.len true (.t 24),some (20,false),[]⟩,
 ⟨(some 26),.bin .eql (.t 21) (.t 25),some (20,false),[]⟩,
 y9 27 (.pick (.t 20) (.c (.bool true)) (.t 26))] <|
 .cond (.t 27) (.exit 0) <|
 .skip) <|
 .region false [
 y9 28 (.mv (.t 4)),
 y9 29 (.bin .add (.t 28) (.c (.int .i64 1))),
 y9 3 (.mv (.t 29))]
def c294 : AFun := .code 31 [.tmp 6] <|
 q9 [
 y9 3 (.box 328 (.t 0)),
 y9 6 (.mv (.c (.int .i64 0)))] <|
 .seq (q9 [
 y9 8 (.mv (.t 1)),
 y9 7 (.mv (.t 8))] <|
 .block 0 <| .loop <| .seq (q9 [
 y9 9 (.mv (.t 7)),
 y9 10 (.faddr 0 (.t 3)),
 y9 11 (.load false 1 (.t 10)),
 y9 12 (.len true (.t 11)),
 y9 13 (.bin .lss (.t 9) (.t 12))] <|
 .cond (.t 13) (.skip) <|
 .exit 0) <|
 .seq (.block 1 <| q9 [
 y9 16 (.faddr 0 (.t 3)),
 y9 17 (.load false 1 (.t 16)),
 y9 18 (.mv (.t 7)),
 y9 19 (.index none (.t 17) (.t 18))] <|
 .block 2 <| q9 [
 y9 21 (.bin .eql (.t 19) (.c (.int .u8 92))),
 y9 20 (.mv (.t 21))] <|
 .cond (.t 20) (.region false [
 y9 22 (.mv (.t 7)),
 y9 23 (.bin .add (.t 22) (.c (.int .i64 1))),
 y9 7 (.mv (.t 23))]) <|
 q9 [
 y9 25 (.mv (.t 2)),
 y9 26 (.bin .eql (.t 19) (.t 25)),
 y9 24 (.mv (.t 26))] <|
 .cond (.t 24) (q9 [
 y9 27 (.mv (.t 7)),
 y9 6 (.mv (.t 27))] <|
 .ret) <|
 .skip) <|
 .region false [
 y9 14 (.mv (.t 7)),
 y9 15 (.bin .add (.t 14) (.c (.int .i64 1))),
 y9 7 (.mv (.t 15))]) <|
 q9 [
 y9 28 (.faddr 0 (.t 3)),
 y9 29 (.load false 1 (.t 28)),
 y9 30 (.len true (.t 29)),
 y9 6 (.mv (.t 30))] <|
 .ret
def c295 : AFun := .code 13 [.tmp 4,.tmp 5,.tmp 6] <|
 q9 [
 y9 4 (.mv (.c (.str []))),
 y9 5 (.mv (.c (.str []))),
 y9 6 (.mv (.c (.bool false)))] <|
 q9 [
 y9 7 (.mv (.t 0)),
 y9 8 (.mv (.t 1)),
 y9 9 (.call 316 [(.t 7),(.t 8)]),
 y9 10 (.extract 0 (.t 9)),
 y9 11 (.extract 1 (.t 9)),
 y9 12 (.extract 2 (.t 9)),
 y9 4 (.mv (.t 10)),
 y9 5 (.mv (.t 11)),
 y9 6 (.mv (.t 12))] <|
 .ret
def c296 : AFun := .code 8 [.tmp 2,.tmp 3] <|
 q9 [
 y9 2 (.mv (.c (.str []))),
 y9 3 (.mv (.c (.int .i64 0)))] <|
 q9 [
 y9 4 (.mv (.t 0)),
 y9 5 (.call 317 [(.t 4),(.c (.bool true))]),
 y9 6 (.extract 0 (.t 5)),
 y9 7 (.extract 1 (.t 5)),
 y9 2 (.mv (.t 6)),
 y9 3 (.mv (.t 7))] <|
 .ret
def c297 : AFun := .code 16 [.tmp 2] <|
 q9 [
 y9 1 (.box 202 (.t 0)),
 y9 2 (.mv (.c (.bool false)))] <|
 .seq (q9 [
 y9 3 (.faddr 0 (.t 1)),
 y9 4 (.load false 1 (.t 3)),
 y9 5 (.len false (.t 4)),
 y9 6 (.bin .lss (.t 5) (.c (.int .i64 1))),
 y9 7 (.mv (.t 6)),
 ⟨(some 8),.faddr 0 (.t 1),some (7,false),[]⟩,
 ⟨(some 9),.load false 1 (.t 8),some (7,false),[]⟩,
 ⟨(some 10),.len false (.t 9),some (7,false),[]⟩,
 ⟨(some 11),.bin .gtr (.t 10) (.c (.int .i64 3)),some (7,false),[]⟩,
 y9 12 (.pick (.t 7) (.c (.bool true)) (.t 11))] <|
 .cond (.t 12) (q9 [
 y9 2 (.mv (.c (.bool true)))] <|
 .ret) <|
 .skip) <|
 q9 [
 y9 13 (.faddr 0 (.t 1)),
 y9 14 (.load false 1 (.t 13)),
 y9 15 (.call 298 [(.t 14),(.c (.func 299 []))]),
 y9 2 (.mv (.t 15))] <|
 .ret
def c298 : AFun := .code 9 [.tmp 4] <|
 q9 [
 y9 4 (.mv (.c (.bool false)))] <|
 q9 [
 y9 5 (.mv (.t 0)),
 y9 6 (.mv (.t 1)),
 y9 7 (.call 318 [(.t 5),(.t 6)]),
 y9 8 (.bin .geq (.t 7) (.c (.int .i64 0))),
 y9 4 (.mv (.t 8))] <|
 .ret
def c299 : AFun := .code 6 [.tmp 2] <|
 q9 [
 y9 1 (.box 204 (.t 0)),
 y9 2 (.mv (.c (.bool false)))] <|
 q9 [
 y9 3 (.load true 2 (.t 1)),
 y9 4 (.call 300 [(.t 3)]),
 y9 5 (.un .not (.t 4)),
 y9 2 (.mv (.t 5))] <|
 .ret
def c300 : AFun := .code 12 [.tmp 2] <|
 q9 [
 y9 1 (.box 204 (.t 0)),
 y9 2 (.mv (.c (.bool false)))] <|
 q9 [
 y9 3 (.faddr 0 (.t 1)),
 y9 4 (.load false 1 (.t 3)),
 y9 5 (.call 180 [(.t 4)]),
 y9 6 (.mv (.t 5)),
 ⟨(some 7),.faddr 1 (.t 1),some (6,true),[]⟩,
 ⟨(some 8),.load false 1 (.t 7),some (6,true),[]⟩,
 ⟨(some 9),.len true (.t 8),some (6,true),[]⟩,
 ⟨(some 10),.bin .leq (.t 9) (.c (.int .i64 60)),some (6,true),[]⟩,
 y9 11 (.pick (.t 6) (.t 10) (.c (.bool false))),
 y9 2 (.mv (.t 11))] <|
 .ret
def c301 : AFun := .code 9 [.tmp 4] <|
 q9 [
 y9 4 (.mv (.c (.bool false)))] <|
 q9 [
 y9 5 (.mv (.t 0)),
 y9 6 (.mv (.t 1)),
 y9 7 (.call 319 [(.t 5),(.t 6)]),
 y9 8 (.bin .geq (.t 7) (.c (.int .i64 0))),
 y9 4 (.mv (.t 8))] <|
 .ret
def c302 : AFun := .code 111 [.cell 4 true 6,.tmp 5] <|
 q9 [
 y9 2 (.box 45 (.t 0)),
 y9 4 (.alloc 27 [(.int .i64 0),(.str []),(.str []),(.slice [] .nil),(.str []),(.slice [] .nil)]),
 y9 5 (.mv (.c .nilIface))] <|
 .seq (.region true [
 y9 20 (.call 320 []),
 y9 21 (.faddr 0 (.t 2)),
 ⟨(some 22),.load false 1 (.t 21),none,[0]⟩,
 y9 23 (.lookup 1 (.int .i64 0) true (.t 20) (.t 22)),
 y9 19 (.mv (.t 23)),
 y9 24 (.extract 0 (.t 19)),
 y9 25 (.extract 1 (.t 19)),
 y9 6 (.mv (.t 24)),
 y9 7 (.mv (.t 25))]) <|
 .seq (q9 [
 y9 26 (.mv (.t 7)),
 y9 27 (.un .not (.t 26)),
 y9 28 (.mv (.t 27)),
 ⟨(some 29),.mv (.t 1),some (28,false),[]⟩,
 ⟨(some 30),.bin .lss (.t 29) (.c (.int .i64 1)),some (28,false),[]⟩,
 y9 31 (.pick (.t 28) (.c (.bool true)) (.t 30))] <|
 .cond (.t 31) (.seq (.region true [
 y9 32 (.build [(.int .i64 0),(.str []),(.str []),(.slice [] .nil),(.str []),(.slice [] .nil)] []),
 y9 33 (.faddr 0 (.t 2)),
 y9 34 (.load false 1 (.t 33)),
 y9 35 (.build [(.int .i64 0)] [(0,1,(.t 34))]),
 y9 36 (.mkif 377 (.t 35)),
 ⟨none,.store 6 (.t 4) (.t 32),none,[2]⟩,
 y9 5 (.mv (.t 36))]) <|
 .ret) <|
 .skip) <|
 q9 [
 y9 37 (.mv (.t 6)),
 y9 38 (.build [(.int .i64 0),(.str []),(.str []),(.slice [] .nil),(.str []),(.slice [] .nil)] [(0,1,(.t 37))]),
 y9 8 (.alloc 27 [(.int .i64 0),(.str []),(.str []),(.slice [] .nil),(.str []),(.slice [] .nil)]),
 w9 (.store 6 (.t 8) (.t 38))] <|
 .seq (q9 [
 y9 39 (.mv (.t 6))] <|
 .block 0 <| q9 [
 y9 41 (.bin .eql (.t 39) (.c (.int .i64 7))),
 y9 40 (.mv (.t 41))] <|
 .cond (.t 40) (q9 [
 y9 42 (.faddr 1 (.t 2)),
 y9 43 (.load false 1 (.t 42)),
 y9 44 (.faddr 1 (.t 8)),
 w9 (.store 1 (.t 44) (.t 43))] <|
 q9 [
 y9 45 (.load true 6 (.t 8)),
 w9 (.store 6 (.t 4) (.t 45)),
 y9 5 (.mv (.c .nilIface))] <|
 .ret) <|
 .seq (q9 [
 y9 47 (.bin .eql (.t 39) (.c (.int .i64 0))),
 y9 46 (.mv (.t 47))] <|
 .cond (.t 46) (.skip) <|
 q9 [
 y9 48 (.bin .eql (.t 39) (.c (.int .i64 1))),
 y9 46 (.mv (.t 48))] <|
 .cond (.t 46) (.skip) <|
 .region false [
 y9 49 (.bin .eql (.t 39) (.c (.int .i64 2))),
 y9 46 (.mv (.t 49))]) <|
 .cond (.t 46) (.seq (q9 [
 y9 50 (.faddr 2 (.t 2)),
 y9 51 (.load false 1 (.t 50)),
 y9 52 (.len false (.t 51)),
 y9 53 (.mv (.c (.int .i64 0)))] <|
 .block 1 <| .loop <| q9 [
 y9 54 (.bin .lss (.t 53) (.t 52))] <|
 .seq (.cond (.t 54) (.skip) <|
 .exit 1) <|
 .seq (.block 2 <| q9 [
 y9 55 (.iaddr none 3 (.t 51) (.t 53)),
 y9 56 (.load true 3 (.t 55)),
 y9 10 (.alloc 45 [(.int .i64 0),(.str []),(.slice [] .nil)]),
 w9 (.store 3 (.t 10) (.t 56))] <|
 q9 [
 y9 58 (.load true 3 (.t 10)),
 y9 59 (.mv (.t 1)),
 y9 60 (.bin .sub (.t 59) (.c (.int .i64 1))),
 y9 61 (.call 302 [(.t 58),(.t 60)]),
 y9 57 (.mv (.t 61)),
 y9 62 (.extract 0 (.t 57)),
 y9 63 (.extract 1 (.t 57)),
 y9 11 (.alloc 27 [(.int .i64 0),(.str []),(.str []),(.slice [] .nil),(.str []),(.slice [] .nil)]),
 w9 (.store 6 (.t 11) (.t 62)),
 y9 12 (.mv (.t 63))] <|
 .seq (q9 [
 y9 64 (.mv (.t 12)),
 y9 65 (.eq true (.iface [15,127,157,165,234,252,336,354,360,378,420,427,428]) true (.t 64) (.c .nilIface))] <|
 .cond (.t 65) (q9 [
 y9 66 (.build [(.int .i64 0),(.str []),(.str []),(.slice [] .nil),(.str []),(.slice [] .nil)] []),
 y9 67 (.mv (.t 12)),
 w9 (.store 6 (.t 4) (.t 66)),
 y9 5 (.mv (.t 67))] <|
 .ret) <|
 .skip) <|
 .region true [
 y9 68 (.faddr 5 (.t 8)),
 y9 69 (.load false 1 (.t 68)),
 ⟨(some 70),.load true 6 (.t 11),none,[1]⟩,
 y9 71 (.len false (.t 69)),
 ⟨(some 72),.bslice false true 1 6 [(.int .i64 0),(.str []),(.str []),(.slice [] .nil),(.str []),(.slice [] .nil)] [(0,6,(.c (.agg [(.int .i64 0),(.str []),(.str []),(.slice [] .nil),(.str []),(.slice [] .nil)])))],none,[1,2]⟩,
 y9 73 (.append 27 6 104 (.t 69) (.t 72)),
 y9 74 (.iaddr none 6 (.t 73) (.t 71)),
 w9 (.store 6 (.t 74) (.t 70)),
 y9 75 (.faddr 5 (.t 8)),
 ⟨none,.store 1 (.t 75) (.t 73),none,[6,7]⟩]) <|
 .region false [
 y9 76 (.bin .add (.t 53) (.c (.int .i64 1))),
 y9 53 (.mv (.t 76))]) <|
 q9 [
 y9 77 (.load true 6 (.t 8)),
 w9 (.store 6 (.t 4) (.t 77)),
 y9 5 (.mv (.c .nilIface))] <|
 .ret) <|
 .skip) <|
 q9 [
 y9 79 (.load true 3 (.t 2)),
 y9 80 (.call 321 [(.t 79)]),
 y9 78 (.mv (.t 80)),
 y9 81 (.extract 0 (.t 78)),
 y9 82 (.extract 1 (.t 78)),
 y9 83 (.extract 2 (.t 78)),
 y9 14 (.alloc 45 [(.int .i64 0),(.str []),(.slice [] .nil)]),
 y9 13 (.mv (.t 81)),
 w9 (.store 3 (.t 14) (.t 82)),
 y9 15 (.mv (.t 83))] <|
 .seq (q9 [
 y9 84 (.mv (.t 15)),
 y9 85 (.eq true (.iface [15,127,157,165,234,252,336,354,360,378,420,427,428]) true (.t 84) (.c .nilIface))] <|
 .cond (.t 85) (q9 [
 y9 86 (.build [(.int .i64 0),(.str []),(.str []),(.slice [] .nil),(.str []),(.slice [] .nil)] []),
 y9 87 (.mv (.t 15)),
 w9 (.store 6 (.t 4) (.t 86)),
 y9 5 (.mv (.t 87))] <|
 .ret) <|
 .skip) <|
 q9 [
 y9 88 (.mv (.t 13)),
 y9 89 (.faddr 1 (.t 8)),
 w9 (.store 1 (.t 89) (.t 88))] <|
 .seq (q9 [
 y9 90 (.mv (.t 6)),
 y9 91 (.bin .neq (.t 90) (.c (.int .i64 4)))] <|
 .cond (.t 91) (q9 [
 y9 92 (.faddr 1 (.t 14)),
 y9 93 (.load false 1 (.t 92)),
 y9 94 (.faddr 2 (.t 8)),
 w9 (.store 1 (.t 94) (.t 93))] <|
 q9 [
 y9 95 (.load true 6 (.t 8)),
 w9 (.store 6 (.t 4) (.t 95)),
 y9 5 (.mv (.c .nilIface))] <|
 .ret) <|
 .skip) <|
 .seq (q9 [
 y9 96 (.faddr 2 (.t 14)),
 y9 97 (.load false 1 (.t 96)),
 y9 98 (.len false (.t 97)),
 y9 99 (.mv (.c (.int .i64 0)))] <|
 .block 3 <| .loop <| q9 [
 y9 100 (.bin .lss (.t 99) (.t 98))] <|
 .seq (.cond (.t 100) (.skip) <|
 .exit 3) <|
 .seq (.block 4 <| q9 [
 y9 101 (.iaddr none 3 (.t 97) (.t 99)),
 y9 102 (.load true 3 (.t 101)),
 y9 17 (.alloc 45 [(.int .i64 0),(.str []),(.slice [] .nil)]),
 w9 (.store 3 (.t 17) (.t 102))] <|
 q9 [
 y9 103 (.load true 3 (.t 17)),
 y9 104 (.call 322 [(.t 8),(.t 103)]),
 y9 18 (.mv (.t 104))] <|
 q9 [
 y9 105 (.mv (.t 18)),
 y9 106 (.eq true (.iface [15,127,157,165,234,252,336,354,360,378,420,427,428]) true (.t 105) (.c .nilIface))] <|
 .cond (.t 106) (q9 [
 y9 107 (.build [(.int .i64 0),(.str []),(.str []),(.slice [] .nil),(.str []),(.slice [] .nil)] []),
 y9 108 (.mv (.t 18)),
 w9 (.store 6 (.t 4) (.t 107)),
 y9 5 (.mv (.t 108))] <|
 .ret) <|
 .skip) <|
 .region false [
 y9 109 (.bin .add (.t 99) (.c (.int .i64 1))),
 y9 99 (.mv (.t 109))]) <|
 q9 [
 y9 110 (.load true 6 (.t 8)),
 w9 (.store 6 (.t 4) (.t 110)),
 y9 5 (.mv (.c .nilIface))] <|
 .ret
def c303 : AFun := .code 15 [.cell 2 true 3,.tmp 3] <|
 q9 [
 y9 1 (.box 27 (.t 0)),
 y9 2 (.alloc 45 [(.int .i64 0),(.str []),(.slice [] .nil)]),
 y9 3 (.mv (.c .nilIface))] <|
 .seq (q9 [
 y9 4 (.load true 6 (.t 1)),
 y9 5 (.call 151 [(.t 4)]),
 y9 6 (.un .not (.t 5))] <|
 .cond (.t 6) (.seq (.region true [
 y9 7 (.build [(.int .i64 0),(.str []),(.slice [] .nil)] []),
 y9 8 (.faddr 0 (.t 1)),
 y9 9 (.load false 1 (.t 8)),
 y9 10 (.build [(.int .i64 0)] [(0,1,(.t 9))]),
 y9 11 (.mkif 377 (.t 10)),
 ⟨none,.store 3 (.t 2) (.t 7),none,[2]⟩,
 y9 3 (.mv (.t 11))]) <|
 .ret) <|
 .skip) <|
 q9 [
 y9 12 (.load true 6 (.t 1)),
 y9 13 (.build [(.int .i64 0),(.str []),(.str []),(.slice [] .nil),(.str []),(.slice [] .nil)] [(0,6,(.t 12))]),
 y9 14 (.call 323 [(.t 13)]),
 w9 (.store 3 (.t 2) (.t 14)),
 y9 3 (.mv (.c .nilIface))] <|
 .ret
def c304 : AFun := .code 59 [.tmp 2,.tmp 3] <|
 q9 [
 y9 2 (.mv (.c (.int .i64 0))),
 y9 3 (.mv (.c .nilIface))] <|
 .seq (q9 [
 y9 9 (.mv (.t 0)),
 y9 10 (.len true (.t 9))] <|
 .block 0 <| .seq (.block 2 <| .block 1 <| .seq (.seq (.seq (q9 [
 y9 12 (.bin .eql (.t 10) (.c (.int .i64 1))),
 y9 11 (.mv (.t 12))] <|
 .cond (.t 11) (.skip) <|
 .region false [
 y9 13 (.bin .eql (.t 10) (.c (.int .i64 2))),
 y9 11 (.mv (.t 13))]) <|
 .cond (.t 11) (.exit 1) <|
 .skip) <|
 .seq (q9 [
 y9 15 (.bin .eql (.t 10) (.c (.int .i64 3))),
 y9 14 (.mv (.t 15))] <|
 .cond (.t 14) (.skip) <|
 .region false [
 y9 16 (.bin .eql (.t 10) (.c (.int .i64 4))),
 y9 14 (.mv (.t 16))]) <|
 .cond (.t 14) (.exit 2) <|
 .skip) <|
 .exit 0) <|
 .seq (q9 [
 y9 17 (.mv (.t 0)),
 y9 18 (.index none (.t 17) (.c (.int .i64 0))),
 y9 19 (.conv (.toInt .i8) (.t 18)),
 y9 20 (.conv (.toInt .i64) (.t 19)),
 y9 4 (.mv (.t 20))] <|
 .seq (q9 [
 y9 21 (.mv (.t 0)),
 y9 22 (.slice true 1 (.t 21) (some (.c (.int .i64 1))) none none),
 y9 23 (.conv .s2b (.t 22)),
 y9 24 (.len false (.t 23)),
 y9 25 (.mv (.c (.int .i64 0)))] <|
 .block 3 <| .loop <| q9 [
 y9 26 (.bin .lss (.t 25) (.t 24))] <|
 .seq (.cond (.t 26) (.skip) <|
 .exit 3) <|
 .seq (.block 4 <| q9 [
 y9 27 (.iaddr none 1 (.t 23) (.t 25)),
 y9 28 (.load false 1 (.t 27)),
 y9 6 (.mv (.t 28))] <|
 .region false [
 y9 29 (.mv (.t 4)),
 y9 30 (.bin .shl (.t 29) (.c (.int .u64 8))),
 y9 31 (.mv (.t 6)),
 y9 32 (.conv (.toInt .i64) (.t 31)),
 y9 33 (.bin .or (.t 30) (.t 32)),
 y9 4 (.mv (.t 33))]) <|
 .region false [
 y9 34 (.bin .add (.t 25) (.c (.int .i64 1))),
 y9 25 (.mv (.t 34))]) <|
 .seq (q9 [
 y9 36 (.mv (.t 4)),
 y9 37 (.call 239 [(.t 36)]),
 y9 35 (.mv (.t 37)),
 y9 38 (.extract 0 (.t 35)),
 y9 39 (.extract 1 (.t 35)),
 y9 7 (.alloc 303 [(.int .i64 0),(.int .i64 0)]),
 w9 (.store 2 (.t 7) (.t 38)),
 y9 8 (.mv (.t 39))] <|
 q9 [
 y9 40 (.mv (.t 8)),
 y9 41 (.eq true (.iface [15,127,157,165,234,252,336,354,360,378,420,427,428]) true (.t 40) (.c .nilIface)),
 y9 42 (.mv (.t 41)),
 ⟨(some 43),.faddr 0 (.t 7),some (42,false),[]⟩,
 ⟨(some 44),.faddr 0 (.t 43),some (42,false),[]⟩,
 ⟨(some 45),.load false 1 (.t 44),some (42,false),[]⟩,
 ⟨(some 46),.mv (.t 0),some (42,false),[]⟩,
 ⟨(some 47),.len true (.t 46),some (42,false),[]⟩,
 ⟨(some 48),.bin .neq (.t 45) (.t 47),some (42,false),[]⟩,
 y9 49 (.pick (.t 42) (.c (.bool true)) (.t 48))] <|
 .cond (.t 49) (.seq (.region true [
 y9 50 (.mv (.t 0)),
 y9 51 (.load false 1 (.c (.ptr 13 0))),
 y9 52 (.build [(.str []),.nilIface] [(0,1,(.t 50)),(1,1,(.t 51))]),
 y9 53 (.mkif 345 (.t 52)),
 y9 2 (.mv (.c (.int .i64 0))),
 y9 3 (.mv (.t 53))]) <|
 .ret) <|
 .skip) <|
 q9 [
 y9 54 (.mv (.t 4)),
 y9 2 (.mv (.t 54)),
 y9 3 (.mv (.c .nilIface))] <|
 .ret) <|
 .exit 0) <|
 .seq (.region true [
 y9 55 (.mv (.t 0)),
 y9 56 (.load false 1 (.c (.ptr 13 0))),
 y9 57 (.build [(.str []),.nilIface] [(0,1,(.t 55)),(1,1,(.t 56))]),
 y9 58 (.mkif 345 (.t 57)),
 y9 2 (.mv (.c (.int .i64 0))),
 y9 3 (.mv (.t 58))]) <|
 .ret
def c305 : AFun := .code 5 [] <|
 q9 [
 y9 2 (.load false 1 (.t 0)),
 y9 3 (.eq true (.iface [15,127,157,165,234,252,336,354,360,378,420,427,428]) true (.t 2) (.c .nilIface))] <|
 .cond (.t 3) (.region false [
 y9 4 (.build [(.int .i64 0),(.str []),(.slice [] .nil)] []),
 w9 (.store 3 (.t 1) (.t 4))]) <|
 .skip
def c308 : AFun := .code 13 [] <|
 .scope <| .seq (.skip) <|
 .block 0 <| .loop <| .seq (q9 [
 y9 3 (.load false 1 (.t 1)),
 y9 4 (.bin .gtr (.t 3) (.c (.int .i64 0)))] <|
 .cond (.t 4) (.skip) <|
 .exit 0) <|
 .seq (.block 1 <| q9 [
 y9 7 (.mv (.t 0)),
 y9 8 (.load false 1 (.t 1)),
 y9 9 (.bin .rem (.t 8) (.c (.int .i64 256))),
 y9 10 (.conv (.toInt .u8) (.t 9)),
 y9 11 (.callV (.t 7) [(.t 10)]),
 y9 12 (.un .not (.t 11))] <|
 .cond (.t 12) (.exit 0) <|
 .skip) <|
 .region false [
 y9 5 (.load false 1 (.t 1)),
 y9 6 (.bin .quo (.t 5) (.c (.int .i64 256))),
 w9 (.store 1 (.t 1) (.t 6))]
def c309 : AFun := .prim 0
def c310 : AFun := .code 39 [] <|
 .scope <| .seq (.skip) <|
 q9 [
 y9 8 (.faddr 0 (.t 1)),
 y9 9 (.load false 1 (.t 8)),
 y9 10 (.range (.t 9))] <|
 .block 0 <| .loop <| q9 [
 y9 11 (.next (.t 10)),
 y9 12 (.extract 0 (.t 11))] <|
 .seq (.cond (.t 12) (.skip) <|
 .exit 0) <|
 .block 1 <| q9 [
 y9 13 (.extract 1 (.t 11)),
 y9 14 (.extract 2 (.t 11)),
 y9 4 (.mv (.t 13)),
 y9 5 (.mv (.t 14))] <|
 .seq (q9 [
 y9 16 (.faddr 0 (.t 1)),
 y9 17 (.load false 1 (.t 16)),
 y9 18 (.mv (.t 4)),
 y9 19 (.slice true 1 (.t 17) (some (.t 18)) none none),
 y9 20 (.call 311 [(.t 19)]),
 y9 15 (.mv (.t 20)),
 y9 21 (.extract 0 (.t 15)),
 y9 22 (.extract 1 (.t 15)),
 y9 6 (.mv (.t 21)),
 y9 7 (.mv (.t 22))] <|
 q9 [
 y9 23 (.mv (.t 5)),
 y9 24 (.bin .eql (.t 23) (.c (.int .i32 65533))),
 y9 25 (.mv (.t 24)),
 ⟨(some 26),.mv (.t 7),some (25,true),[]⟩,
 ⟨(some 27),.bin .eql (.t 26) (.c (.int .i64 1)),some (25,true),[]⟩,
 y9 28 (.pick (.t 25) (.t 27) (.c (.bool false)))] <|
 .cond (.t 28) (q9 [
 y9 29 (.load false 1 (.t 2)),
 y9 30 (.mv (.t 4)),
 y9 31 (.build [(.int .i64 0)] [(0,1,(.t 30))]),
 y9 32 (.mkif 386 (.t 31)),
 y9 33 (.nilck (.t 29)),
 w9 (.store 1 (.t 33) (.t 32))] <|
 .exit 0) <|
 .skip) <|
 q9 [
 y9 34 (.mv (.t 0)),
 y9 35 (.mv (.t 4)),
 y9 36 (.mv (.t 5)),
 y9 37 (.callV (.t 34) [(.t 35),(.t 36)]),
 y9 38 (.un .not (.t 37))] <|
 .cond (.t 38) (.exit 0) <|
 .skip
def c311 : AFun := .prim 6
def c312 : AFun := .code 21 [] <|
 .scope <| .seq (.skip) <|
 .block 0 <| .loop <| .block 1 <| q9 [
 y9 7 (.load false 1 (.t 1)),
 y9 8 (.load false 1 (.t 2)),
 y9 9 (.call 286 [(.t 7),(.t 8)]),
 y9 6 (.mv (.t 9)),
 y9 10 (.extract 0 (.t 6)),
 y9 11 (.extract 1 (.t 6)),
 y9 4 (.alloc 45 [(.int .i64 0),(.str []),(.slice [] .nil)]),
 w9 (.store 3 (.t 4) (.t 10)),
 y9 5 (.mv (.t 11))] <|
 q9 [
 y9 12 (.mv (.t 5)),
 y9 13 (.un .not (.t 12)),
 y9 14 (.mv (.t 13)),
 ⟨(some 15),.mv (.t 0),some (14,false),[]⟩,
 ⟨(some 16),.faddr 1 (.t 4),some (14,false),[]⟩,
 ⟨(some 17),.load false 1 (.t 16),some (14,false),[]⟩,
 ⟨(some 18),.callV (.t 15) [(.t 17)],some (14,false),[]⟩,
 ⟨(some 19),.un .not (.t 18),some (14,false),[]⟩,
 y9 20 (.pick (.t 14) (.c (.bool true)) (.t 19))] <|
 .cond (.t 20) (.exit 0) <|
 .skip
def c313 : AFun := .code 35 [.tmp 2] <|
 q9 [
 y9 2 (.mv (.c (.int .i64 0)))] <|
 .seq (.block 0 <| q9 [
 y9 4 (.mv (.t 0)),
 y9 5 (.bin .geq (.t 4) (.c (.int .u8 48))),
 y9 6 (.mv (.t 5)),
 ⟨(some 7),.mv (.t 0),some (6,true),[]⟩,
 ⟨(some 8),.bin .leq (.t 7) (.c (.int .u8 57)),some (6,true),[]⟩,
 y9 9 (.pick (.t 6) (.t 8) (.c (.bool false))),
 y9 3 (.mv (.t 9))] <|
 .cond (.t 3) (q9 [
 y9 10 (.mv (.t 0)),
 y9 11 (.bin .sub (.t 10) (.c (.int .u8 48))),
 y9 12 (.conv (.toInt .i64) (.t 11)),
 y9 2 (.mv (.t 12))] <|
 .ret) <|
 q9 [
 y9 14 (.mv (.t 0)),
 y9 15 (.bin .geq (.t 14) (.c (.int .u8 97))),
 y9 16 (.mv (.t 15)),
 ⟨(some 17),.mv (.t 0),some (16,true),[]⟩,
 ⟨(some 18),.bin .leq (.t 17) (.c (.int .u8 102)),some (16,true),[]⟩,
 y9 19 (.pick (.t 16) (.t 18) (.c (.bool false))),
 y9 13 (.mv (.t 19))] <|
 .cond (.t 13) (q9 [
 y9 20 (.mv (.t 0)),
 y9 21 (.bin .sub (.t 20) (.c (.int .u8 97))),
 y9 22 (.conv (.toInt .i64) (.t 21)),
 y9 23 (.bin .add (.t 22) (.c (.int .i64 10))),
 y9 2 (.mv (.t 23))] <|
 .ret) <|
 q9 [
 y9 25 (.mv (.t 0)),
 y9 26 (.bin .geq (.t 25) (.c (.int .u8 65))),
 y9 27 (.mv (.t 26)),
 ⟨(some 28),.mv (.t 0),some (27,true),[]⟩,
 ⟨(some 29),.bin .leq (.t 28) (.c (.int .u8 70)),some (27,true),[]⟩,
 y9 30 (.pick (.t 27) (.t 29) (.c (.bool false))),
 y9 24 (.mv (.t 30))] <|
 .cond (.t 24) (q9 [
 y9 31 (.mv (.t 0)),
 y9 32 (.bin .sub (.t 31) (.c (.int .u8 65))),
 y9 33 (.conv (.toInt .i64) (.t 32)),
 y9 34 (.bin .add (.t 33) (.c (.int .i64 10))),
 y9 2 (.mv (.t 34))] <|
 .ret) <|
 .skip) <|
 q9 [
 y9 2 (.mv (.c (.int .i64 (-1))))] <|
 .ret
def c316 : AFun := .code 23 [.tmp 4,.tmp 5,.tmp 6] <|
 q9 [
 y9 4 (.mv (.c (.str []))),
 y9 5 (.mv (.c (.str []))),
 y9 6 (.mv (.c (.bool false)))] <|
 .seq (q9 [
 y9 8 (.mv (.t 0)),
 y9 9 (.mv (.t 1)),
 y9 10 (.call 309 [(.t 8),(.t 9)]),
 y9 7 (.mv (.t 10))] <|
 q9 [
 y9 11 (.mv (.t 7)),
 y9 12 (.bin .geq (.t 11) (.c (.int .i64 0)))] <|
 .cond (.t 12) (.seq (.region true [
 y9 13 (.mv (.t 0)),
 y9 14 (.mv (.t 7)),
 y9 15 (.slice true 1 (.t 13) none (some (.t 14)) none),
 y9 16 (.mv (.t 0)),
 y9 17 (.mv (.t 7)),
 y9 18 (.mv (.t 1)),
 y9 19 (.len true (.t 18)),
 y9 20 (.bin .add (.t 17) (.t 19)),
 y9 21 (.slice true 1 (.t 16) (some (.t 20)) none none),
 y9 4 (.mv (.t 15)),
 y9 5 (.mv (.t 21)),
 y9 6 (.mv (.c (.bool true)))]) <|
 .ret) <|
 .skip) <|
 q9 [
 y9 22 (.mv (.t 0)),
 y9 4 (.mv (.t 22)),
 y9 5 (.mv (.c (.str []))),
 y9 6 (.mv (.c (.bool false)))] <|
 .ret
def c317 : AFun := .code 23 [.tmp 4,.tmp 5] <|
 q9 [
 y9 4 (.mv (.c (.str []))),
 y9 5 (.mv (.c (.int .i64 0)))] <|
 q9 [
 y9 8 (.mv (.t 0)),
 y9 9 (.build [(.str []),(.int .i64 0)] [(0,1,(.t 8))]),
 y9 10 (.mv (.t 1)),
 y9 11 (.build [(.str []),(.int .i64 0),(.bool false),.nilptr,(.slice [] .nil)] [(0,2,(.t 9)),(2,1,(.t 10))]),
 y9 12 (.box 405 (.t 11)),
 y9 6 (.mv (.t 12))] <|
 .seq (q9 [
 y9 13 (.mv (.t 6)),
 y9 14 (.call 329 [(.t 13)]),
 y9 7 (.mv (.t 14))] <|
 q9 [
 y9 15 (.mv (.t 7)),
 y9 16 (.eq true (.iface [15,127,157,165,234,252,336,354,360,378,420,427,428]) true (.t 15) (.c .nilIface))] <|
 .cond (.t 16) (q9 [
 y9 17 (.mv (.t 7)),
 y9 18 (.call 330 [(.t 17)]),
 y9 4 (.mv (.c (.str []))),
 y9 5 (.mv (.t 18))] <|
 .ret) <|
 .skip) <|
 q9 [
 y9 19 (.mv (.t 6)),
 y9 20 (.nilck (.t 19)),
 y9 21 (.faddr 3 (.t 20)),
 y9 22 (.call 230 [(.t 21)]),
 y9 4 (.mv (.t 22)),
 y9 5 (.mv (.c (.int .i64 0)))] <|
 .ret
def c318 : AFun := .code 19 [.tmp 4] <|
 q9 [
 y9 4 (.mv (.c (.int .i64 0)))] <|
 .seq (q9 [
 y9 6 (.mv (.t 0)),
 y9 7 (.len false (.t 6)),
 y9 8 (.mv (.c (.int .i64 0)))] <|
 .block 0 <| .loop <| q9 [
 y9 9 (.bin .lss (.t 8) (.t 7))] <|
 .seq (.cond (.t 9) (.skip) <|
 .exit 0) <|
 .seq (.block 1 <| q9 [
 y9 10 (.mv (.t 8)),
 y9 5 (.mv (.t 10))] <|
 q9 [
 y9 11 (.mv (.t 1)),
 y9 12 (.mv (.t 0)),
 y9 13 (.mv (.t 5)),
 y9 14 (.iaddr none 2 (.t 12) (.t 13)),
 y9 15 (.load true 2 (.t 14)),
 y9 16 (.callV (.t 11) [(.t 15)])] <|
 .cond (.t 16) (q9 [
 y9 17 (.mv (.t 5)),
 y9 4 (.mv (.t 17))] <|
 .ret) <|
 .skip) <|
 .region false [
 y9 18 (.bin .add (.t 8) (.c (.int .i64 1))),
 y9 8 (.mv (.t 18))]) <|
 q9 [
 y9 4 (.mv (.c (.int .i64 (-1))))] <|
 .ret
def c319 : AFun := .code 19 [.tmp 4] <|
 q9 [
 y9 4 (.mv (.c (.int .i64 0)))] <|
 .seq (q9 [
 y9 6 (.mv (.t 0)),
 y9 7 (.len false (.t 6)),
 y9 8 (.mv (.c (.int .i64 0)))] <|
 .block 0 <| .loop <| q9 [
 y9 9 (.bin .lss (.t 8) (.t 7))] <|
 .seq (.cond (.t 9) (.skip) <|
 .exit 0) <|
 .seq (.block 1 <| q9 [
 y9 10 (.mv (.t 8)),
 y9 5 (.mv (.t 10))] <|
 q9 [
 y9 11 (.mv (.t 1)),
 y9 12 (.mv (.t 0)),
 y9 13 (.mv (.t 5)),
 y9 14 (.iaddr none 1 (.t 12) (.t 13)),
 y9 15 (.load true 1 (.t 14)),
 y9 16 (.callV (.t 11) [(.t 15)])] <|
 .cond (.t 16) (q9 [
 y9 17 (.mv (.t 5)),
 y9 4 (.mv (.t 17))] <|
 .ret) <|
 .skip) <|
 .region false [
 y9 18 (.bin .add (.t 8) (.c (.int .i64 1))),
 y9 8 (.mv (.t 18))]) <|
 q9 [
 y9 4 (.mv (.c (.int .i64 (-1))))] <|
 .ret
def c320 : AFun := .code 3 [.tmp 0] <|
 q9 [
 y9 0 (.mv (.c .junk))] <|
 q9 [
 y9 1 (.mkmap),
 w9 (.insert 1 (.t 1) (.c (.int .i64 160)) (.c (.int .i64 0))),
 w9 (.insert 1 (.t 1) (.c (.int .i64 161)) (.c (.int .i64 1))),
 w9 (.insert 1 (.t 1) (.c (.int .i64 162)) (.c (.int .i64 2))),
 w9 (.insert 1 (.t 1) (.c (.int .i64 163)) (.c (.int .i64 3))),
 w9 (.insert 1 (.t 1) (.c (.int .i64 164)) (.c (.int .i64 4))),
 w9 (.insert 1 (.t 1) (.c (.int .i64 165)) (.c (.int .i64 5))),
 w9 (.insert 1 (.t 1) (.c (.int .i64 166)) (.c (.int .i64 6))),
 w9 (.insert 1 (.t 1) (.c (.int .i64 135)) (.c (.int .i64 7))),
 w9 (.insert 1 (.t 1) (.c (.int .i64 168)) (.c (.int .i64 8))),
 y9 2 (.mv (.t 1)),
 y9 0 (.mv (.t 2))] <|
 .ret
def c321 : AFun := .code 31 [.tmp 2,.cell 3 true 3,.tmp 4] <|
 q9 [
 y9 1 (.box 45 (.t 0)),
 y9 2 (.mv (.c (.str []))),
 y9 3 (.alloc 45 [(.int .i64 0),(.str []),(.slice [] .nil)]),
 y9 4 (.mv (.c .nilIface))] <|
 .seq (q9 [
 y9 5 (.faddr 2 (.t 1)),
 y9 6 (.load false 1 (.t 5)),
 y9 7 (.len false (.t 6)),
 y9 8 (.bin .neq (.t 7) (.c (.int .i64 2))),
 y9 9 (.mv (.t 8)),
 ⟨(some 10),.faddr 2 (.t 1),some (9,false),[]⟩,
 ⟨(some 11),.load false 1 (.t 10),some (9,false),[]⟩,
 ⟨(some 12),.iaddr none 3 (.t 11) (.c (.int .i64 0)),some (9,false),[]⟩,
 ⟨(some 13),.faddr 0 (.t 12),some (9,false),[]⟩,
 ⟨(some 14),.load false 1 (.t 13),some (9,false),[]⟩,
 ⟨(some 15),.bin .neq (.t 14) (.c (.int .i64 4)),some (9,false),[]⟩,
 y9 16 (.pick (.t 9) (.c (.bool true)) (.t 15))] <|
 .cond (.t 16) (.seq (.region true [
 y9 17 (.build [(.int .i64 0),(.str []),(.slice [] .nil)] []),
 y9 18 (.faddr 0 (.t 1)),
 y9 19 (.load false 1 (.t 18)),
 y9 20 (.build [(.int .i64 0)] [(0,1,(.t 19))]),
 y9 21 (.mkif 377 (.t 20)),
 y9 2 (.mv (.c (.str []))),
 ⟨none,.store 3 (.t 3) (.t 17),none,[2]⟩,
 y9 4 (.mv (.t 21))]) <|
 .ret) <|
 .skip) <|
 .seq (.region true [
 y9 22 (.faddr 2 (.t 1)),
 y9 23 (.load false 1 (.t 22)),
 y9 24 (.iaddr none 3 (.t 23) (.c (.int .i64 0))),
 y9 25 (.faddr 1 (.t 24)),
 y9 26 (.load false 1 (.t 25)),
 y9 27 (.faddr 2 (.t 1)),
 ⟨(some 28),.load false 1 (.t 27),none,[1,2,4]⟩,
 ⟨(some 29),.iaddr none 3 (.t 28) (.c (.int .i64 1)),none,[1,2,4]⟩,
 ⟨(some 30),.load true 3 (.t 29),none,[1,2,4]⟩,
 y9 2 (.mv (.t 26)),
 w9 (.store 3 (.t 3) (.t 30)),
 y9 4 (.mv (.c .nilIface))]) <|
 .ret
def c322 : AFun := .code 76 [.tmp 4] <|
 q9 [
 y9 3 (.box 45 (.t 1)),
 y9 4 (.mv (.c .nilIface))] <|
 q9 [
 y9 5 (.mv (.c (.bool false)))] <|
 .seq (q9 [
 y9 6 (.faddr 0 (.t 3)),
 y9 7 (.load false 1 (.t 6))] <|
 .block 0 <| q9 [
 y9 9 (.bin .eql (.t 7) (.c (.int .i64 128))),
 y9 8 (.mv (.t 9))] <|
 .cond (.t 8) (q9 [
 y9 10 (.mv (.t 0)),
 y9 11 (.nilck (.t 10)),
 y9 12 (.faddr 2 (.t 11)),
 y9 13 (.load false 1 (.t 12)),
 y9 14 (.bin .eql (.t 13) (.c (.str []))),
 y9 15 (.mv (.t 14)),
 ⟨(some 16),.mv (.t 0),some (15,true),[]⟩,
 ⟨(some 17),.nilck (.t 16),some (15,true),[]⟩,
 ⟨(some 18),.faddr 3 (.t 17),some (15,true),[]⟩,
 ⟨(some 19),.load false 1 (.t 18),some (15,true),[]⟩,
 ⟨(some 20),.len false (.t 19),some (15,true),[]⟩,
 ⟨(some 21),.bin .eql (.t 20) (.c (.int .i64 0)),some (15,true),[]⟩,
 y9 22 (.pick (.t 15) (.t 21) (.c (.bool false))),
 y9 23 (.mv (.t 22)),
 ⟨(some 24),.mv (.t 0),some (23,true),[]⟩,
 ⟨(some 25),.nilck (.t 24),some (23,true),[]⟩,
 ⟨(some 26),.faddr 4 (.t 25),some (23,true),[]⟩,
 ⟨(some 27),.load false 1 (.t 26),some (23,true),[]⟩,
 ⟨(some 28),.bin .eql (.t 27) (.c (.str [])),some (23,true),[]⟩,
 y9 29 (.pick (.t 23) (.t 28) (.c (.bool false))),
 y9 5 (.mv (.t 29))] <|
 .region false [
 y9 30 (.mv (.t 0)),
 y9 31 (.faddr 1 (.t 3)),
 y9 32 (.load false 1 (.t 31)),
 y9 33 (.nilck (.t 30)),
 y9 34 (.faddr 2 (.t 33)),
 w9 (.store 1 (.t 34) (.t 32))]) <|
 q9 [
 y9 36 (.bin .eql (.t 7) (.c (.int .i64 129))),
 y9 35 (.mv (.t 36))] <|
 .cond (.t 35) (q9 [
 y9 37 (.mv (.t 0)),
 y9 38 (.nilck (.t 37)),
 y9 39 (.faddr 4 (.t 38)),
 y9 40 (.load false 1 (.t 39)),
 y9 41 (.bin .eql (.t 40) (.c (.str []))),
 y9 5 (.mv (.t 41))] <|
 .region true [
 y9 42 (.mv (.t 0)),
 y9 43 (.mv (.t 0)),
 y9 44 (.nilck (.t 43)),
 y9 45 (.faddr 3 (.t 44)),
 y9 46 (.load false 1 (.t 45)),
 y9 47 (.faddr 1 (.t 3)),
 ⟨(some 48),.load false 1 (.t 47),none,[4]⟩,
 ⟨(some 49),.bslice false false 1 1 [(.str [])] [(0,1,(.t 48))],none,[4]⟩,
 y9 50 (.append 9 1 16 (.t 46) (.t 49)),
 y9 51 (.nilck (.t 42)),
 y9 52 (.faddr 3 (.t 51)),
 w9 (.store 1 (.t 52) (.t 50))]) <|
 q9 [
 y9 54 (.bin .eql (.t 7) (.c (.int .i64 130))),
 y9 53 (.mv (.t 54))] <|
 .cond (.t 53) (q9 [
 y9 55 (.mv (.t 0)),
 y9 56 (.nilck (.t 55)),
 y9 57 (.faddr 4 (.t 56)),
 y9 58 (.load false 1 (.t 57)),
 y9 59 (.bin .eql (.t 58) (.c (.str []))),
 y9 5 (.mv (.t 59))] <|
 .region false [
 y9 60 (.mv (.t 0)),
 y9 61 (.faddr 1 (.t 3)),
 y9 62 (.load false 1 (.t 61)),
 y9 63 (.nilck (.t 60)),
 y9 64 (.faddr 4 (.t 63)),
 w9 (.store 1 (.t 64) (.t 62))]) <|
 .skip) <|
 .seq (q9 [
 y9 65 (.mv (.t 5)),
 y9 66 (.un .not (.t 65)),
 y9 67 (.mv (.t 66)),
 ⟨(some 68),.faddr 1 (.t 3),some (67,false),[]⟩,
 ⟨(some 69),.load false 1 (.t 68),some (67,false),[]⟩,
 ⟨(some 70),.bin .eql (.t 69) (.c (.str [])),some (67,false),[]⟩,
 y9 71 (.pick (.t 67) (.c (.bool true)) (.t 70))] <|
 .cond (.t 71) (q9 [
 y9 72 (.faddr 0 (.t 3)),
 y9 73 (.load false 1 (.t 72)),
 y9 74 (.build [(.int .i64 0)] [(0,1,(.t 73))]),
 y9 75 (.mkif 377 (.t 74)),
 y9 4 (.mv (.t 75))] <|
 .ret) <|
 .skip) <|
 q9 [
 y9 4 (.mv (.c .nilIface))] <|
 .ret
def c323 : AFun := .code 60 [.cell 2 true 3] <|
 q9 [
 y9 1 (.box 398 (.t 0)),
 y9 2 (.alloc 45 [(.int .i64 0),(.str []),(.slice [] .nil)])] <|
 .seq (.region true [
 y9 7 (.faddr 0 (.t 1)),
 y9 8 (.faddr 0 (.t 7)),
 y9 9 (.load false 1 (.t 8)),
 y9 10 (.bin .add (.c (.int .i64 160)) (.t 9)),
 y9 11 (.faddr 0 (.t 1)),
 y9 12 (.faddr 1 (.t 11)),
 ⟨(some 13),.load false 1 (.t 12),none,[2]⟩,
 ⟨(some 14),.call 331 [(.c (.int .i64 4)),(.t 13)],none,[2]⟩,
 ⟨(some 4),.alloc 45 [(.int .i64 0),(.str []),(.slice [] .nil)],none,[2,6,7]⟩,
 y9 3 (.mv (.t 10)),
 w9 (.store 3 (.t 4) (.t 14))]) <|
 .seq (q9 [
 y9 15 (.faddr 0 (.t 1)),
 y9 16 (.faddr 0 (.t 15)),
 y9 17 (.load false 1 (.t 16))] <|
 .block 0 <| .seq (.block 4 <| .block 3 <| .seq (.block 2 <| .seq (.block 1 <| .seq (.seq (q9 [
 y9 19 (.bin .eql (.t 17) (.c (.int .i64 7))),
 y9 18 (.mv (.t 19))] <|
 .cond (.t 18) (.exit 1) <|
 .skip) <|
 .seq (q9 [
 y9 21 (.bin .eql (.t 17) (.c (.int .i64 4))),
 y9 20 (.mv (.t 21))] <|
 .cond (.t 20) (.exit 2) <|
 .skip) <|
 .seq (.seq (q9 [
 y9 23 (.bin .eql (.t 17) (.c (.int .i64 3))),
 y9 22 (.mv (.t 23))] <|
 .cond (.t 22) (.skip) <|
 .region false [
 y9 24 (.bin .eql (.t 17) (.c (.int .i64 5))),
 y9 22 (.mv (.t 24))]) <|
 .cond (.t 22) (.exit 3) <|
 .skip) <|
 .seq (q9 [
 y9 26 (.bin .eql (.t 17) (.c (.int .i64 6))),
 y9 25 (.mv (.t 26))] <|
 .cond (.t 25) (.skip) <|
 .region false [
 y9 27 (.bin .eql (.t 17) (.c (.int .i64 8))),
 y9 25 (.mv (.t 27))]) <|
 .cond (.t 25) (.exit 4) <|
 .skip) <|
 .exit 0) <|
 .seq (q9 [
 y9 28 (.faddr 0 (.t 1)),
 y9 29 (.faddr 1 (.t 28)),
 y9 30 (.load false 1 (.t 29)),
 y9 31 (.call 331 [(.c (.int .i64 135)),(.t 30)]),
 w9 (.store 3 (.t 2) (.t 31))] <|
 .ret) <|
 .exit 0) <|
 .seq (.seq (.region true [
 y9 32 (.mv (.t 3)),
 y9 33 (.load true 3 (.t 4)),
 ⟨(some 34),.load true 6 (.t 1),none,[1]⟩,
 ⟨(some 35),.call 333 [(.t 34)],none,[1]⟩,
 y9 36 (.bslice false true 2 3 [(.int .i64 0),(.str []),(.slice [] .nil),(.int .i64 0),(.str []),(.slice [] .nil)] [(0,3,(.t 33)),(3,3,(.t 35))]),
 y9 37 (.call 332 [(.t 32),(.t 36)]),
 w9 (.store 3 (.t 2) (.t 37))]) <|
 .ret) <|
 .exit 0) <|
 .seq (.seq (.region true [
 y9 38 (.mv (.t 3)),
 y9 39 (.load true 3 (.t 4)),
 y9 40 (.faddr 0 (.t 1)),
 y9 41 (.faddr 2 (.t 40)),
 ⟨(some 42),.load false 1 (.t 41),none,[1]⟩,
 ⟨(some 43),.call 331 [(.c (.int .i64 4)),(.t 42)],none,[1]⟩,
 y9 44 (.bslice false true 2 3 [(.int .i64 0),(.str []),(.slice [] .nil),(.int .i64 0),(.str []),(.slice [] .nil)] [(0,3,(.t 39)),(3,3,(.t 43))]),
 y9 45 (.call 332 [(.t 38),(.t 44)]),
 w9 (.store 3 (.t 2) (.t 45))]) <|
 .ret) <|
 .exit 0) <|
 q9 [
 y9 46 (.mv (.t 3)),
 y9 47 (.call 332 [(.t 46),(.c (.slice [] .nil))]),
 y9 5 (.alloc 45 [(.int .i64 0),(.str []),(.slice [] .nil)]),
 w9 (.store 3 (.t 5) (.t 47))] <|
 .seq (q9 [
 y9 48 (.load true 6 (.t 1)),
 y9 49 (.call 334 [(.t 48)])] <|
 .block 5 <| .rfunc (.t 49) [50] (.region false [
 y9 6 (.alloc 45 [(.int .i64 0),(.str []),(.slice [] .nil)]),
 w9 (.store 3 (.t 6) (.t 50))]) <|
 .block 6 <| .region true [
 y9 51 (.faddr 2 (.t 5)),
 y9 52 (.load false 1 (.t 51)),
 ⟨(some 53),.load true 3 (.t 6),none,[1]⟩,
 y9 54 (.len false (.t 52)),
 ⟨(some 55),.bslice false true 1 3 [(.int .i64 0),(.str []),(.slice [] .nil)] [(0,3,(.c (.agg [(.int .i64 0),(.str []),(.slice [] .nil)])))],none,[1,2]⟩,
 y9 56 (.append 45 3 48 (.t 52) (.t 55)),
 y9 57 (.iaddr none 3 (.t 56) (.t 54)),
 w9 (.store 3 (.t 57) (.t 53)),
 y9 58 (.faddr 2 (.t 5)),
 ⟨none,.store 1 (.t 58) (.t 56),none,[6,7]⟩]) <|
 q9 [
 y9 59 (.load true 3 (.t 5)),
 w9 (.store 3 (.t 2) (.t 59))] <|
 .ret
def c326 : AFun := .code 6 [.tmp 2] <|
 q9 [
 y9 2 (.mv (.c (.int .i64 0)))] <|
 q9 [
 y9 3 (.mv (.t 0)),
 y9 4 (.bin .add (.t 3) (.c (.int .i64 16))),
 y9 5 (.bin .quo (.t 4) (.c (.int .i64 8))),
 y9 2 (.mv (.t 5))] <|
 .ret
def c329 : AFun := .code 78 [.tmp 2] <|
 q9 [
 y9 2 (.mv (.c .nilIface))] <|
 .seq (q9 [
 y9 5 (.mv (.t 0)),
 y9 6 (.nilck (.t 5)),
 y9 7 (.faddr 0 (.t 6)),
 y9 8 (.faddr 0 (.t 7)),
 y9 9 (.load false 1 (.t 8)),
 y9 10 (.call 182 [(.t 9)]),
 y9 11 (.un .not (.t 10)),
 y9 12 (.mv (.t 11)),
 ⟨(some 13),.mv (.t 0),some (12,false),[]⟩,
 ⟨(some 14),.nilck (.t 13),some (12,false),[]⟩,
 ⟨(some 15),.faddr 0 (.t 14),some (12,false),[]⟩,
 ⟨(some 16),.faddr 0 (.t 15),some (12,false),[]⟩,
 ⟨(some 17),.load false 1 (.t 16),some (12,false),[]⟩,
 ⟨(some 18),.call 337 [(.t 17),(.c (.int .i32 0))],some (12,false),[]⟩,
 y9 19 (.pick (.t 12) (.c (.bool true)) (.t 18))] <|
 .cond (.t 19) (q9 [
 y9 20 (.build [(.int .i64 0)] [(0,1,(.c (.int .i64 0)))]),
 y9 21 (.mkif 418 (.t 20)),
 y9 2 (.mv (.t 21))] <|
 .ret) <|
 .skip) <|
 .seq (.block 0 <| .loop <| .seq (.seq (.region true [
 y9 22 (.mv (.t 0)),
 y9 23 (.nilck (.t 22)),
 y9 24 (.faddr 0 (.t 23)),
 y9 25 (.faddr 1 (.t 24)),
 y9 26 (.load false 1 (.t 25)),
 y9 27 (.mv (.t 0)),
 y9 28 (.nilck (.t 27)),
 y9 29 (.faddr 0 (.t 28)),
 y9 30 (.faddr 0 (.t 29)),
 ⟨(some 31),.load false 1 (.t 30),none,[4]⟩,
 y9 32 (.len true (.t 31)),
 y9 33 (.bin .lss (.t 26) (.t 32))]) <|
 .cond (.t 33) (.skip) <|
 .exit 0) <|
 .block 1 <| .seq (.region true [
 y9 34 (.mv (.t 0)),
 y9 35 (.nilck (.t 34)),
 y9 36 (.faddr 0 (.t 35)),
 y9 37 (.faddr 0 (.t 36)),
 y9 38 (.load false 1 (.t 37)),
 y9 39 (.mv (.t 0)),
 y9 40 (.nilck (.t 39)),
 y9 41 (.faddr 0 (.t 40)),
 y9 42 (.faddr 1 (.t 41)),
 ⟨(some 43),.load false 1 (.t 42),none,[4]⟩,
 y9 44 (.index none (.t 38) (.t 43)),
 y9 3 (.mv (.t 44))]) <|
 .block 2 <| q9 [
 y9 60 (.mv (.t 3)),
 y9 61 (.bin .eql (.t 60) (.c (.int .u8 92))),
 y9 59 (.mv (.t 61))] <|
 .cond (.t 59) (q9 [
 y9 62 (.mv (.t 0)),
 y9 63 (.call 338 [(.t 62)]),
 y9 4 (.mv (.t 63))] <|
 q9 [
 y9 64 (.mv (.t 4)),
 y9 65 (.eq true (.iface [15,127,157,165,234,252,336,354,360,378,420,427,428]) true (.t 64) (.c .nilIface))] <|
 .cond (.t 65) (q9 [
 y9 66 (.mv (.t 4)),
 y9 2 (.mv (.t 66))] <|
 .ret) <|
 .skip) <|
 q9 [
 y9 68 (.mv (.t 0)),
 y9 69 (.mv (.t 3)),
 y9 70 (.call 339 [(.t 68),(.t 69)]),
 y9 67 (.mv (.t 70))] <|
 .cond (.t 67) (q9 [
 y9 71 (.mv (.t 0)),
 y9 72 (.nilck (.t 71)),
 y9 73 (.faddr 0 (.t 72)),
 y9 74 (.faddr 1 (.t 73)),
 y9 75 (.load false 1 (.t 74)),
 y9 76 (.build [(.int .i64 0)] [(0,1,(.t 75))]),
 y9 77 (.mkif 418 (.t 76)),
 y9 2 (.mv (.t 77))] <|
 .ret) <|
 q9 [
 y9 45 (.mv (.t 0)),
 y9 46 (.nilck (.t 45)),
 y9 47 (.faddr 3 (.t 46)),
 y9 48 (.mv (.t 3)),
 y9 49 (.call 340 [(.t 47),(.t 48)])] <|
 .region false [
 y9 50 (.mv (.t 0)),
 y9 51 (.nilck (.t 50)),
 y9 52 (.faddr 0 (.t 51)),
 y9 53 (.faddr 1 (.t 52)),
 y9 54 (.load false 1 (.t 53)),
 y9 55 (.bin .add (.t 54) (.c (.int .i64 1))),
 y9 56 (.nilck (.t 50)),
 y9 57 (.faddr 0 (.t 56)),
 y9 58 (.faddr 1 (.t 57)),
 w9 (.store 1 (.t 58) (.t 55))]) <|
 q9 [
 y9 2 (.mv (.c .nilIface))] <|
 .ret
def c330 : AFun := .code 12 [.tmp 2] <|
 q9 [
 y9 2 (.mv (.c (.int .i64 0)))] <|
 q9 [
 y9 3 (.alloc 418 [(.int .i64 0)])] <|
 .seq (q9 [
 y9 4 (.mv (.t 0)),
 y9 5 (.mkif 420 (.t 3)),
 y9 6 (.call 74 [(.t 4),(.t 5)]),
 y9 7 (.mv (.t 6)),
 ⟨(some 8),.mv (.t 0),some (7,true),[]⟩,
 ⟨(some 9),.load false 1 (.c (.ptr 18 0)),some (7,true),[]⟩,
 ⟨(some 10),.call 75 [(.t 8),(.t 9)],some (7,true),[]⟩,
 y9 11 (.pick (.t 7) (.t 10) (.c (.bool false)))] <|
 .cond (.t 11) (q9 [
 y9 2 (.mv (.c (.int .i64 60)))] <|
 .ret) <|
 .skip) <|
 q9 [
 y9 2 (.mv (.c (.int .i64 0)))] <|
 .ret
def c331 : AFun := .code 8 [.cell 4 true 3] <|
 q9 [
 y9 4 (.alloc 45 [(.int .i64 0),(.str []),(.slice [] .nil)])] <|
 q9 [
 y9 5 (.mv (.t 0)),
 y9 6 (.mv (.t 1)),
 y9 7 (.build [(.int .i64 0),(.str []),(.slice [] .nil)] [(0,1,(.t 5)),(1,1,(.t 6))]),
 w9 (.store 3 (.t 4) (.t 7))] <|
 .ret
def c332 : AFun := .code 8 [.cell 4 true 3] <|
 q9 [
 y9 4 (.alloc 45 [(.int .i64 0),(.str []),(.slice [] .nil)])] <|
 q9 [
 y9 5 (.mv (.t 0)),
 y9 6 (.mv (.t 1)),
 y9 7 (.build [(.int .i64 0),(.str []),(.slice [] .nil)] [(0,1,(.t 5)),(2,1,(.t 6))]),
 w9 (.store 3 (.t 4) (.t 7))] <|
 .ret
def c333 : AFun := .code 50 [.cell 2 true 3] <|
 q9 [
 y9 1 (.box 398 (.t 0)),
 y9 2 (.alloc 45 [(.int .i64 0),(.str []),(.slice [] .nil)])] <|
 q9 [
 y9 6 (.call 332 [(.c (.int .i64 48)),(.c (.slice [] .nil))]),
 y9 3 (.alloc 45 [(.int .i64 0),(.str []),(.slice [] .nil)]),
 w9 (.store 3 (.t 3) (.t 6))] <|
 .seq (q9 [
 y9 7 (.faddr 0 (.t 1)),
 y9 8 (.faddr 2 (.t 7)),
 y9 9 (.load false 1 (.t 8)),
 y9 10 (.bin .neq (.t 9) (.c (.str [])))] <|
 .cond (.t 10) (.region true [
 y9 11 (.faddr 2 (.t 3)),
 y9 12 (.load false 1 (.t 11)),
 y9 13 (.faddr 0 (.t 1)),
 y9 14 (.faddr 2 (.t 13)),
 ⟨(some 15),.load false 1 (.t 14),none,[1]⟩,
 ⟨(some 16),.call 331 [(.c (.int .i64 128)),(.t 15)],none,[1]⟩,
 ⟨(some 17),.bslice false true 1 3 [(.int .i64 0),(.str []),(.slice [] .nil)] [(0,3,(.t 16))],none,[1]⟩,
 y9 18 (.append 45 3 48 (.t 12) (.t 17)),
 y9 19 (.faddr 2 (.t 3)),
 w9 (.store 1 (.t 19) (.t 18))]) <|
 .skip) <|
 .seq (q9 [
 y9 20 (.faddr 0 (.t 1)),
 y9 21 (.faddr 3 (.t 20)),
 y9 22 (.load false 1 (.t 21)),
 y9 23 (.len false (.t 22)),
 y9 24 (.mv (.c (.int .i64 0)))] <|
 .block 0 <| .loop <| q9 [
 y9 25 (.bin .lss (.t 24) (.t 23))] <|
 .seq (.cond (.t 25) (.skip) <|
 .exit 0) <|
 .seq (.block 1 <| q9 [
 y9 26 (.iaddr none 1 (.t 22) (.t 24)),
 y9 27 (.load false 1 (.t 26)),
 y9 5 (.mv (.t 27))] <|
 .region true [
 y9 28 (.faddr 2 (.t 3)),
 y9 29 (.load false 1 (.t 28)),
 y9 30 (.mv (.t 5)),
 ⟨(some 31),.call 331 [(.c (.int .i64 129)),(.t 30)],none,[1]⟩,
 ⟨(some 32),.bslice false true 1 3 [(.int .i64 0),(.str []),(.slice [] .nil)] [(0,3,(.t 31))],none,[1]⟩,
 y9 33 (.append 45 3 48 (.t 29) (.t 32)),
 y9 34 (.faddr 2 (.t 3)),
 w9 (.store 1 (.t 34) (.t 33))]) <|
 .region false [
 y9 35 (.bin .add (.t 24) (.c (.int .i64 1))),
 y9 24 (.mv (.t 35))]) <|
 .seq (q9 [
 y9 36 (.faddr 0 (.t 1)),
 y9 37 (.faddr 4 (.t 36)),
 y9 38 (.load false 1 (.t 37)),
 y9 39 (.bin .neq (.t 38) (.c (.str [])))] <|
 .cond (.t 39) (.region true [
 y9 40 (.faddr 2 (.t 3)),
 y9 41 (.load false 1 (.t 40)),
 y9 42 (.faddr 0 (.t 1)),
 y9 43 (.faddr 4 (.t 42)),
 ⟨(some 44),.load false 1 (.t 43),none,[1]⟩,
 ⟨(some 45),.call 331 [(.c (.int .i64 130)),(.t 44)],none,[1]⟩,
 ⟨(some 46),.bslice false true 1 3 [(.int .i64 0),(.str []),(.slice [] .nil)] [(0,3,(.t 45))],none,[1]⟩,
 y9 47 (.append 45 3 48 (.t 41) (.t 46)),
 y9 48 (.faddr 2 (.t 3)),
 w9 (.store 1 (.t 48) (.t 47))]) <|
 .skip) <|
 q9 [
 y9 49 (.load true 3 (.t 3)),
 w9 (.store 3 (.t 2) (.t 49))] <|
 .ret
def c334 : AFun := .code 4 [.tmp 2] <|
 q9 [
 y9 1 (.box 398 (.t 0)),
 y9 2 (.mv (.c .nilFunc))] <|
 q9 [
 y9 3 (.mkfn 341 [(.t 1)]),
 y9 2 (.mv (.t 3))] <|
 .ret
def c337 : AFun := .code 9 [.tmp 4] <|
 q9 [
 y9 4 (.mv (.c (.bool false)))] <|
 q9 [
 y9 5 (.mv (.t 0)),
 y9 6 (.mv (.t 1)),
 y9 7 (.call 342 [(.t 5),(.t 6)]),
 y9 8 (.bin .geq (.t 7) (.c (.int .i64 0))),
 y9 4 (.mv (.t 8))] <|
 .ret
def c338 : AFun := .code 61 [.tmp 2] <|
 q9 [
 y9 2 (.mv (.c .nilIface))] <|
 q9 [
 y9 4 (.mv (.t 0)),
 y9 5 (.nilck (.t 4)),
 y9 6 (.faddr 0 (.t 5)),
 y9 7 (.faddr 1 (.t 6)),
 y9 8 (.load false 1 (.t 7)),
 y9 9 (.bin .add (.t 8) (.c (.int .i64 1))),
 y9 10 (.nilck (.t 4)),
 y9 11 (.faddr 0 (.t 10)),
 y9 12 (.faddr 1 (.t 11)),
 w9 (.store 1 (.t 12) (.t 9))] <|
 .seq (q9 [
 y9 13 (.mv (.t 0)),
 y9 14 (.nilck (.t 13)),
 y9 15 (.faddr 2 (.t 14)),
 y9 16 (.load false 1 (.t 15)),
 y9 17 (.un .not (.t 16)),
 y9 18 (.mv (.t 17)),
 ⟨(some 19),.mv (.t 0),some (18,false),[]⟩,
 ⟨(some 20),.nilck (.t 19),some (18,false),[]⟩,
 ⟨(some 21),.faddr 0 (.t 20),some (18,false),[]⟩,
 ⟨(some 22),.call 343 [(.t 21)],some (18,false),[]⟩,
 ⟨(some 23),.bin .eql (.t 22) (.c (.str [])),some (18,false),[]⟩,
 y9 24 (.pick (.t 18) (.c (.bool true)) (.t 23))] <|
 .cond (.t 24) (q9 [
 y9 25 (.mv (.t 0)),
 y9 26 (.call 344 [(.t 25)]),
 y9 2 (.mv (.t 26))] <|
 .ret) <|
 .skip) <|
 .seq (q9 [
 y9 27 (.mv (.t 0)),
 y9 28 (.nilck (.t 27)),
 y9 29 (.faddr 0 (.t 28)),
 y9 30 (.call 343 [(.t 29)]),
 y9 31 (.index none (.t 30) (.c (.int .i64 0))),
 y9 3 (.mv (.t 31))] <|
 q9 [
 y9 32 (.mv (.t 3))] <|
 .block 0 <| .seq (.block 2 <| .block 1 <| .seq (.seq (.seq (q9 [
 y9 34 (.bin .eql (.t 32) (.c (.int .u8 32))),
 y9 33 (.mv (.t 34))] <|
 .cond (.t 33) (.skip) <|
 q9 [
 y9 35 (.bin .eql (.t 32) (.c (.int .u8 35))),
 y9 33 (.mv (.t 35))] <|
 .cond (.t 33) (.skip) <|
 .region false [
 y9 36 (.bin .eql (.t 32) (.c (.int .u8 61))),
 y9 33 (.mv (.t 36))]) <|
 .cond (.t 33) (.exit 1) <|
 .skip) <|
 .seq (q9 [
 y9 38 (.bin .eql (.t 32) (.c (.int .u8 34))),
 y9 37 (.mv (.t 38))] <|
 .cond (.t 37) (.skip) <|
 q9 [
 y9 39 (.bin .eql (.t 32) (.c (.int .u8 43))),
 y9 37 (.mv (.t 39))] <|
 .cond (.t 37) (.skip) <|
 q9 [
 y9 40 (.bin .eql (.t 32) (.c (.int .u8 44))),
 y9 37 (.mv (.t 40))] <|
 .cond (.t 37) (.skip) <|
 q9 [
 y9 41 (.bin .eql (.t 32) (.c (.int .u8 59))),
 y9 37 (.mv (.t 41))] <|
 .cond (.t 37) (.skip) <|
 q9 [
 y9 42 (.bin .eql (.t 32) (.c (.int .u8 60))),
 y9 37 (.mv (.t 42))] <|
 .cond (.t 37) (.skip) <|
 q9 [
 y9 43 (.bin .eql (.t 32) (.c (.int .u8 62))),
 y9 37 (.mv (.t 43))] <|
 .cond (.t 37) (.skip) <|
 .region false [
 y9 44 (.bin .eql (.t 32) (.c (.int .u8 92))),
 y9 37 (.mv (.t 44))]) <|
 .cond (.t 37) (.exit 2) <|
 .skip) <|
 .exit 0) <|
 .seq (q9 [
 y9 45 (.mv (.t 0)),
 y9 46 (.nilck (.t 45)),
 y9 47 (.faddr 3 (.t 46)),
 y9 48 (.mv (.t 3)),
 y9 49 (.call 340 [(.t 47),(.t 48)])] <|
 q9 [
 y9 50 (.mv (.t 0)),
 y9 51 (.nilck (.t 50)),
 y9 52 (.faddr 0 (.t 51)),
 y9 53 (.faddr 1 (.t 52)),
 y9 54 (.load false 1 (.t 53)),
 y9 55 (.bin .add (.t 54) (.c (.int .i64 1))),
 y9 56 (.nilck (.t 50)),
 y9 57 (.faddr 0 (.t 56)),
 y9 58 (.faddr 1 (.t 57)),
 w9 (.store 1 (.t 58) (.t 55))] <|
 q9 [
 y9 2 (.mv (.c .nilIface))] <|
 .ret) <|
 .exit 0) <|
 q9 [
 y9 59 (.mv (.t 0)),
 y9 60 (.call 344 [(.t 59)]),
 y9 2 (.mv (.t 60))] <|
 .ret
def c339 : AFun := .code 50 [.tmp 4] <|
 q9 [
 y9 4 (.mv (.c (.bool false)))] <|
 .seq (q9 [
 y9 6 (.mv (.t 0)),
 y9 7 (.nilck (.t 6)),
 y9 8 (.faddr 2 (.t 7)),
 y9 9 (.load false 1 (.t 8)),
 y9 10 (.un .not (.t 9))] <|
 .cond (.t 10) (q9 [
 y9 11 (.mv (.t 1)),
 y9 12 (.bslice false false 3 1 [(.int .u8 0),(.int .u8 0),(.int .u8 0)] [(0,1,(.c (.int .u8 42))),(1,1,(.c (.int .u8 40))),(2,1,(.c (.int .u8 41)))]),
 y9 13 (.call 345 [(.t 11),(.t 12)]),
 y9 4 (.mv (.t 13))] <|
 .ret) <|
 .skip) <|
 .seq (.region true [
 y9 14 (.mv (.t 0)),
 y9 15 (.nilck (.t 14)),
 y9 16 (.faddr 0 (.t 15)),
 y9 17 (.faddr 1 (.t 16)),
 y9 18 (.load false 1 (.t 17)),
 y9 19 (.bin .eql (.t 18) (.c (.int .i64 0))),
 y9 20 (.mv (.t 19)),
 ⟨(some 21),.mv (.t 1),some (20,true),[]⟩,
 ⟨(some 22),.bslice false false 2 1 [(.int .u8 0),(.int .u8 0)] [(0,1,(.c (.int .u8 32))),(1,1,(.c (.int .u8 35)))],some (20,true),[]⟩,
 ⟨(some 23),.call 345 [(.t 21),(.t 22)],some (20,true),[]⟩,
 y9 24 (.pick (.t 20) (.t 23) (.c (.bool false))),
 y9 25 (.mv (.t 24)),
 ⟨(some 26),.mv (.t 0),some (25,false),[]⟩,
 ⟨(some 27),.nilck (.t 26),some (25,false),[]⟩,
 ⟨(some 28),.faddr 0 (.t 27),some (25,false),[]⟩,
 ⟨(some 29),.faddr 1 (.t 28),some (25,false),[]⟩,
 ⟨(some 30),.load false 1 (.t 29),some (25,false),[]⟩,
 ⟨(some 31),.mv (.t 0),some (25,false),[]⟩,
 ⟨(some 32),.nilck (.t 31),some (25,false),[]⟩,
 ⟨(some 33),.faddr 0 (.t 32),some (25,false),[]⟩,
 ⟨(some 34),.faddr 0 (.t 33),some (25,false),[]⟩,
 ⟨(some 35),.load false 1 (.t 34),some (25,false),[16]⟩,
 ⟨(some 36),.len true (.t 35),some (25,false),[]⟩,
 ⟨(some 37),.bin .sub (.t 36) (.c (.int .i64 1)),some (25,false),[]⟩,
 ⟨(some 38),.bin .eql (.t 30) (.t 37),some (25,false),[]⟩,
 ⟨(some 39),.mv (.t 38),some (25,false),[]⟩,
 ⟨(some 40),.mv (.t 1),some (39,true),[]⟩,
 ⟨(some 41),.bin .eql (.t 40) (.c (.int .u8 32)),some (39,true),[]⟩,
 ⟨(some 42),.pick (.t 39) (.t 41) (.c (.bool false)),some (25,false),[]⟩,
 y9 43 (.pick (.t 25) (.c (.bool true)) (.t 42)),
 y9 5 (.mv (.t 43))]) <|
 q9 [
 y9 44 (.mv (.t 5)),
 y9 45 (.mv (.t 44)),
 ⟨(some 46),.mv (.t 1),some (45,false),[]⟩,
 ⟨(some 47),.bslice false false 6 1 [(.int .u8 0),(.int .u8 0),(.int .u8 0),(.int .u8 0),(.int .u8 0),(.int .u8 0)] [(0,1,(.c (.int .u8 34))),(1,1,(.c (.int .u8 43))),(2,1,(.c (.int .u8 44))),(3,1,(.c (.int .u8 59))),(4,1,(.c (.int .u8 60))),(5,1,(.c (.int .u8 62)))],some (45,false),[]⟩,
 ⟨(some 48),.call 345 [(.t 46),(.t 47)],some (45,false),[]⟩,
 y9 49 (.pick (.t 45) (.c (.bool true)) (.t 48)),
 y9 4 (.mv (.t 49))] <|
 .ret
def c340 : AFun := .code 17 [.tmp 4] <|
 q9 [
 y9 4 (.mv (.c .nilIface))] <|
 q9 [
 y9 5 (.mv (.t 0)),
 y9 6 (.call 276 [(.t 5)])] <|
 q9 [
 y9 7 (.mv (.t 0)),
 y9 8 (.mv (.t 0)),
 y9 9 (.nilck (.t 8)),
 y9 10 (.faddr 1 (.t 9)),
 y9 11 (.load false 1 (.t 10)),
 y9 12 (.mv (.t 1)),
 y9 13 (.bslice false false 1 1 [(.int .u8 0)] [(0,1,(.t 12))]),
 y9 14 (.append 5 1 1 (.t 11) (.t 13)),
 y9 15 (.nilck (.t 7)),
 y9 16 (.faddr 1 (.t 15)),
 w9 (.store 1 (.t 16) (.t 14))] <|
 q9 [
 y9 4 (.mv (.c .nilIface))] <|
 .ret
def c341 : AFun := .code 20 [] <|
 .scope <| .seq (.skip) <|
 q9 [
 y9 5 (.faddr 0 (.t 1)),
 y9 6 (.faddr 5 (.t 5)),
 y9 7 (.load false 1 (.t 6)),
 y9 8 (.len false (.t 7)),
 y9 9 (.mv (.c (.int .i64 0)))] <|
 .block 0 <| .loop <| q9 [
 y9 10 (.bin .lss (.t 9) (.t 8))] <|
 .seq (.cond (.t 10) (.skip) <|
 .exit 0) <|
 .seq (.block 1 <| q9 [
 y9 11 (.iaddr none 6 (.t 7) (.t 9)),
 y9 12 (.load true 6 (.t 11)),
 y9 4 (.alloc 27 [(.int .i64 0),(.str []),(.str []),(.slice [] .nil),(.str []),(.slice [] .nil)]),
 w9 (.store 6 (.t 4) (.t 12))] <|
 q9 [
 y9 13 (.mv (.t 0)),
 y9 14 (.load true 6 (.t 4)),
 y9 15 (.build [(.int .i64 0),(.str []),(.str []),(.slice [] .nil),(.str []),(.slice [] .nil)] [(0,6,(.t 14))]),
 y9 16 (.call 323 [(.t 15)]),
 y9 17 (.callV (.t 13) [(.t 16)]),
 y9 18 (.un .not (.t 17))] <|
 .cond (.t 18) (.exit 0) <|
 .skip) <|
 .region false [
 y9 19 (.bin .add (.t 9) (.c (.int .i64 1))),
 y9 9 (.mv (.t 19))]
def c342 : AFun := .code 187 [.tmp 4] <|
 q9 [
 y9 4 (.mv (.c (.int .i64 0)))] <|
 .block 0 <| q9 [
 y9 161 (.mv (.t 1)),
 y9 162 (.bin .leq (.c (.int .i32 0)) (.t 161)),
 y9 163 (.mv (.t 162)),
 ⟨(some 164),.mv (.t 1),some (163,true),[]⟩,
 ⟨(some 165),.bin .lss (.t 164) (.c (.int .i32 128)),some (163,true),[]⟩,
 y9 166 (.pick (.t 163) (.t 165) (.c (.bool false))),
 y9 160 (.mv (.t 166))] <|
 .cond (.t 160) (q9 [
 y9 167 (.mv (.t 0)),
 y9 168 (.mv (.t 1)),
 y9 169 (.conv (.toInt .u8) (.t 168)),
 y9 170 (.call 346 [(.t 167),(.t 169)]),
 y9 4 (.mv (.t 170))] <|
 .ret) <|
 q9 [
 y9 172 (.mv (.t 1)),
 y9 173 (.bin .eql (.t 172) (.c (.int .i32 65533))),
 y9 171 (.mv (.t 173))] <|
 .cond (.t 171) (.seq (q9 [
 y9 174 (.mv (.t 0)),
 y9 175 (.range (.t 174))] <|
 .block 9 <| .loop <| q9 [
 y9 176 (.next (.t 175)),
 y9 177 (.extract 0 (.t 176))] <|
 .seq (.cond (.t 177) (.skip) <|
 .exit 9) <|
 .block 10 <| q9 [
 y9 178 (.extract 1 (.t 176)),
 y9 179 (.extract 2 (.t 176)),
 y9 5 (.mv (.t 178)),
 y9 6 (.mv (.t 179))] <|
 q9 [
 y9 180 (.mv (.t 6)),
 y9 181 (.bin .eql (.t 180) (.c (.int .i32 65533)))] <|
 .cond (.t 181) (q9 [
 y9 182 (.mv (.t 5)),
 y9 4 (.mv (.t 182))] <|
 .ret) <|
 .skip) <|
 q9 [
 y9 4 (.mv (.c (.int .i64 (-1))))] <|
 .ret) <|
 q9 [
 y9 184 (.mv (.t 1)),
 y9 185 (.call 347 [(.t 184)]),
 y9 186 (.un .not (.t 185)),
 y9 183 (.mv (.t 186))] <|
 .cond (.t 183) (q9 [
 y9 4 (.mv (.c (.int .i64 (-1))))] <|
 .ret) <|
 .scope <| q9 [
 y9 17 (.mv (.t 1)),
 y9 18 (.conv .i2s (.t 17)),
 y9 7 (.mv (.t 18))] <|
 q9 [
 y9 19 (.mv (.t 7)),
 y9 20 (.len true (.t 19)),
 y9 21 (.bin .sub (.t 20) (.c (.int .i64 1))),
 y9 8 (.mv (.t 21))] <|
 q9 [
 y9 22 (.mv (.t 8)),
 y9 9 (.mv (.t 22))] <|
 q9 [
 y9 10 (.mv (.c (.int .i64 0)))] <|
 .seq (.block 1 <| .loop <| .seq (q9 [
 y9 23 (.mv (.t 9)),
 y9 24 (.mv (.t 0)),
 y9 25 (.len true (.t 24)),
 y9 26 (.bin .lss (.t 23) (.t 25))] <|
 .cond (.t 26) (.skip) <|
 .exit 1) <|
 .block 2 <| .scope <| .seq (.seq (.region true [
 y9 27 (.mv (.t 0)),
 y9 28 (.mv (.t 9)),
 y9 29 (.index none (.t 27) (.t 28)),
 y9 30 (.mv (.t 7)),
 y9 31 (.mv (.t 8)),
 y9 32 (.index none (.t 30) (.t 31)),
 y9 33 (.bin .neq (.t 29) (.t 32))]) <|
 .cond (.t 33) (.seq (.region true [
 y9 34 (.mv (.t 0)),
 y9 35 (.mv (.t 9)),
 y9 36 (.bin .add (.t 35) (.c (.int .i64 1))),
 y9 37 (.slice true 1 (.t 34) (some (.t 36)) none none),
 y9 38 (.mv (.t 7)),
 y9 39 (.mv (.t 8)),
 y9 40 (.index none (.t 38) (.t 39)),
 y9 41 (.call 346 [(.t 37),(.t 40)]),
 y9 11 (.mv (.t 41))]) <|
 .seq (q9 [
 y9 42 (.mv (.t 11)),
 y9 43 (.bin .lss (.t 42) (.c (.int .i64 0)))] <|
 .cond (.t 43) (q9 [
 y9 4 (.mv (.c (.int .i64 (-1))))] <|
 .ret) <|
 .skip) <|
 .region false [
 y9 44 (.mv (.t 9)),
 y9 45 (.mv (.t 11)),
 y9 46 (.bin .add (.t 45) (.c (.int .i64 1))),
 y9 47 (.bin .add (.t 44) (.t 46)),
 y9 9 (.mv (.t 47))]) <|
 .skip) <|
 .seq (q9 [
 y9 12 (.mv (.c (.int .i64 1)))] <|
 .block 3 <| .loop <| .seq (q9 [
 y9 48 (.mv (.t 12)),
 y9 49 (.mv (.t 7)),
 y9 50 (.len true (.t 49)),
 y9 51 (.bin .lss (.t 48) (.t 50))] <|
 .cond (.t 51) (.skip) <|
 .exit 3) <|
 .seq (.block 4 <| .seq (.region true [
 y9 54 (.mv (.t 0)),
 y9 55 (.mv (.t 9)),
 y9 56 (.mv (.t 12)),
 y9 57 (.bin .sub (.t 55) (.t 56)),
 y9 58 (.index none (.t 54) (.t 57)),
 y9 59 (.mv (.t 7)),
 y9 60 (.mv (.t 8)),
 y9 61 (.mv (.t 12)),
 y9 62 (.bin .sub (.t 60) (.t 61)),
 y9 63 (.index none (.t 59) (.t 62)),
 y9 64 (.bin .neq (.t 58) (.t 63))]) <|
 .cond (.t 64) (.bad) <|
 .skip) <|
 .region false [
 y9 52 (.mv (.t 12)),
 y9 53 (.bin .add (.t 52) (.c (.int .i64 1))),
 y9 12 (.mv (.t 53))]) <|
 .seq (q9 [
 y9 65 (.mv (.t 9)),
 y9 66 (.mv (.t 8)),
 y9 67 (.bin .sub (.t 65) (.t 66)),
 y9 4 (.mv (.t 67))] <|
 .ret) <|
 .seq (.skip) <|
 q9 [
 y9 68 (.mv (.t 10)),
 y9 69 (.bin .add (.t 68) (.c (.int .i64 1))),
 y9 10 (.mv (.t 69))] <|
 q9 [
 y9 70 (.mv (.t 9)),
 y9 71 (.bin .add (.t 70) (.c (.int .i64 1))),
 y9 9 (.mv (.t 71))] <|
 q9 [
 y9 72 (.mv (.c (.bool true))),
 ⟨(some 73),.mv (.t 10),some (72,true),[]⟩,
 ⟨(some 74),.mv (.t 9),some (72,true),[]⟩,
 ⟨(some 75),.call 326 [(.t 74)],some (72,true),[]⟩,
 ⟨(some 76),.bin .gtr (.t 73) (.t 75),some (72,true),[]⟩,
 y9 77 (.pick (.t 72) (.t 76) (.c (.bool false))),
 y9 78 (.mv (.t 77)),
 ⟨(some 79),.mv (.t 9),some (78,true),[]⟩,
 ⟨(some 80),.mv (.t 0),some (78,true),[]⟩,
 ⟨(some 81),.len true (.t 80),some (78,true),[]⟩,
 ⟨(some 82),.bin .lss (.t 79) (.t 81),some (78,true),[]⟩,
 y9 83 (.pick (.t 78) (.t 82) (.c (.bool false))),
 y9 84 (.mv (.t 83)),
 ⟨(some 85),.mv (.c (.bool false)),some (84,false),[]⟩,
 ⟨(some 86),.mv (.t 10),some (85,true),[]⟩,
 ⟨(some 87),.mv (.t 9),some (85,true),[]⟩,
 ⟨(some 88),.bin .shr (.t 87) (.c (.int .u64 4)),some (85,true),[]⟩,
 ⟨(some 89),.bin .add (.c (.int .i64 4)) (.t 88),some (85,true),[]⟩,
 ⟨(some 90),.bin .geq (.t 86) (.t 89),some (85,true),[]⟩,
 ⟨(some 91),.pick (.t 85) (.t 90) (.c (.bool false)),some (84,false),[]⟩,
 ⟨(some 92),.mv (.t 91),some (84,false),[]⟩,
 ⟨(some 93),.mv (.t 9),some (92,true),[]⟩,
 ⟨(some 94),.mv (.t 0),some (92,true),[]⟩,
 ⟨(some 95),.len true (.t 94),some (92,true),[]⟩,
 ⟨(some 96),.bin .lss (.t 93) (.t 95),some (92,true),[]⟩,
 ⟨(some 97),.pick (.t 92) (.t 96) (.c (.bool false)),some (84,false),[]⟩,
 y9 98 (.pick (.t 84) (.c (.bool true)) (.t 97))] <|
 .cond (.t 98) (.bad) <|
 .skip) <|
 .seq (q9 [
 y9 4 (.mv (.c (.int .i64 (-1))))] <|
 .ret) <|
 .seq (.skip) <|
 .seq (.cond (.c (.bool true)) (q9 [
 y9 99 (.mv (.t 0)),
 y9 100 (.mv (.t 9)),
 y9 101 (.mv (.t 8)),
 y9 102 (.bin .sub (.t 100) (.t 101)),
 y9 103 (.slice true 1 (.t 99) (some (.t 102)) none none),
 y9 104 (.mv (.t 1)),
 y9 105 (.conv .i2s (.t 104)),
 y9 106 (.call 325 [(.t 103),(.t 105)]),
 y9 13 (.mv (.t 106))] <|
 q9 [
 y9 107 (.mv (.t 13)),
 y9 108 (.bin .geq (.t 107) (.c (.int .i64 0)))] <|
 .cond (.t 108) (q9 [
 y9 109 (.mv (.t 9)),
 y9 110 (.mv (.t 13)),
 y9 111 (.bin .add (.t 109) (.t 110)),
 y9 112 (.mv (.t 8)),
 y9 113 (.bin .sub (.t 111) (.t 112)),
 y9 4 (.mv (.t 113))] <|
 .ret) <|
 .skip) <|
 .scope <| q9 [
 y9 114 (.mv (.t 7)),
 y9 115 (.mv (.t 8)),
 y9 116 (.index none (.t 114) (.t 115)),
 y9 14 (.mv (.t 116))] <|
 q9 [
 y9 117 (.mv (.t 7)),
 y9 118 (.mv (.t 8)),
 y9 119 (.bin .sub (.t 118) (.c (.int .i64 1))),
 y9 120 (.index none (.t 117) (.t 119)),
 y9 15 (.mv (.t 120))] <|
 .seq (.skip) <|
 .block 5 <| .loop <| .seq (q9 [
 y9 121 (.mv (.t 9)),
 y9 122 (.mv (.t 0)),
 y9 123 (.len true (.t 122)),
 y9 124 (.bin .lss (.t 121) (.t 123))] <|
 .cond (.t 124) (.skip) <|
 .exit 5) <|
 .seq (.block 6 <| q9 [
 y9 127 (.mv (.t 0)),
 y9 128 (.mv (.t 9)),
 y9 129 (.index none (.t 127) (.t 128)),
 y9 130 (.mv (.t 14)),
 y9 131 (.bin .eql (.t 129) (.t 130)),
 y9 132 (.mv (.t 131)),
 ⟨(some 133),.mv (.t 0),some (132,true),[]⟩,
 ⟨(some 134),.mv (.t 9),some (132,true),[]⟩,
 ⟨(some 135),.bin .sub (.t 134) (.c (.int .i64 1)),some (132,true),[]⟩,
 ⟨(some 136),.index none (.t 133) (.t 135),some (132,true),[]⟩,
 ⟨(some 137),.mv (.t 15),some (132,true),[]⟩,
 ⟨(some 138),.bin .eql (.t 136) (.t 137),some (132,true),[]⟩,
 y9 139 (.pick (.t 132) (.t 138) (.c (.bool false)))] <|
 .cond (.t 139) (.seq (q9 [
 y9 16 (.mv (.c (.int .i64 2)))] <|
 .block 7 <| .loop <| .seq (q9 [
 y9 140 (.mv (.t 16)),
 y9 141 (.mv (.t 7)),
 y9 142 (.len true (.t 141)),
 y9 143 (.bin .lss (.t 140) (.t 142))] <|
 .cond (.t 143) (.skip) <|
 .exit 7) <|
 .seq (.block 8 <| .seq (.region true [
 y9 146 (.mv (.t 0)),
 y9 147 (.mv (.t 9)),
 y9 148 (.mv (.t 16)),
 y9 149 (.bin .sub (.t 147) (.t 148)),
 y9 150 (.index none (.t 146) (.t 149)),
 y9 151 (.mv (.t 7)),
 y9 152 (.mv (.t 8)),
 y9 153 (.mv (.t 16)),
 y9 154 (.bin .sub (.t 152) (.t 153)),
 y9 155 (.index none (.t 151) (.t 154)),
 y9 156 (.bin .neq (.t 150) (.t 155))]) <|
 .cond (.t 156) (.exit 6) <|
 .skip) <|
 .region false [
 y9 144 (.mv (.t 16)),
 y9 145 (.bin .add (.t 144) (.c (.int .i64 1))),
 y9 16 (.mv (.t 145))]) <|
 q9 [
 y9 157 (.mv (.t 9)),
 y9 158 (.mv (.t 8)),
 y9 159 (.bin .sub (.t 157) (.t 158)),
 y9 4 (.mv (.t 159))] <|
 .ret) <|
 .skip) <|
 .region false [
 y9 125 (.mv (.t 9)),
 y9 126 (.bin .add (.t 125) (.c (.int .i64 1))),
 y9 9 (.mv (.t 126))]) <|
 q9 [
 y9 4 (.mv (.c (.int .i64 (-1))))] <|
 .ret
def c343 : AFun := .code 12 [.tmp 2] <|
 q9 [
 y9 2 (.mv (.c (.str [])))] <|
 .seq (.region true [
 y9 3 (.mv (.t 0)),
 y9 4 (.nilck (.t 3)),
 y9 5 (.faddr 0 (.t 4)),
 y9 6 (.load false 1 (.t 5)),
 y9 7 (.mv (.t 0)),
 y9 8 (.nilck (.t 7)),
 y9 9 (.faddr 1 (.t 8)),
 ⟨(some 10),.load false 1 (.t 9),none,[3]⟩,
 y9 11 (.slice true 1 (.t 6) (some (.t 10)) none none),
 y9 2 (.mv (.t 11))]) <|
 .ret
def c344 : AFun := .code 47 [.tmp 2] <|
 q9 [
 y9 2 (.mv (.c .nilIface))] <|
 .seq (.region true [
 y9 6 (.mv (.t 0)),
 y9 7 (.nilck (.t 6)),
 y9 8 (.faddr 0 (.t 7)),
 y9 9 (.call 343 [(.t 8)]),
 y9 10 (.mv (.t 0)),
 y9 11 (.nilck (.t 10)),
 y9 12 (.faddr 0 (.t 11)),
 y9 13 (.call 343 [(.t 12)]),
 y9 14 (.len true (.t 13)),
 y9 15 (.min2 false (.c (.int .i64 2)) (.t 14)),
 y9 16 (.slice true 1 (.t 9) none (some (.t 15)) none),
 y9 17 (.call 348 [(.t 16)]),
 y9 5 (.mv (.t 17)),
 y9 18 (.extract 0 (.t 5)),
 y9 19 (.extract 1 (.t 5)),
 y9 3 (.mv (.t 18)),
 y9 4 (.mv (.t 19))]) <|
 .seq (q9 [
 y9 20 (.mv (.t 4)),
 y9 21 (.bin .neq (.t 20) (.c (.int .i64 0))),
 y9 22 (.mv (.t 21)),
 ⟨(some 23),.mv (.t 3),some (22,false),[]⟩,
 ⟨(some 24),.bin .eql (.t 23) (.c (.str [])),some (22,false),[]⟩,
 y9 25 (.pick (.t 22) (.c (.bool true)) (.t 24))] <|
 .cond (.t 25) (q9 [
 y9 26 (.mv (.t 0)),
 y9 27 (.nilck (.t 26)),
 y9 28 (.faddr 0 (.t 27)),
 y9 29 (.faddr 1 (.t 28)),
 y9 30 (.load false 1 (.t 29)),
 y9 31 (.build [(.int .i64 0)] [(0,1,(.t 30))]),
 y9 32 (.mkif 418 (.t 31)),
 y9 2 (.mv (.t 32))] <|
 .ret) <|
 .skip) <|
 q9 [
 y9 33 (.mv (.t 0)),
 y9 34 (.nilck (.t 33)),
 y9 35 (.faddr 0 (.t 34)),
 y9 36 (.faddr 1 (.t 35)),
 y9 37 (.load false 1 (.t 36)),
 y9 38 (.bin .add (.t 37) (.c (.int .i64 2))),
 y9 39 (.nilck (.t 33)),
 y9 40 (.faddr 0 (.t 39)),
 y9 41 (.faddr 1 (.t 40)),
 w9 (.store 1 (.t 41) (.t 38))] <|
 q9 [
 y9 42 (.mv (.t 0)),
 y9 43 (.nilck (.t 42)),
 y9 44 (.faddr 3 (.t 43)),
 y9 45 (.mv (.t 3)),
 y9 46 (.call 229 [(.t 44),(.t 45)])] <|
 q9 [
 y9 2 (.mv (.c .nilIface))] <|
 .ret
def c345 : AFun := .code 17 [.tmp 4] <|
 q9 [
 y9 4 (.mv (.c (.bool false)))] <|
 .seq (q9 [
 y9 7 (.mv (.t 1)),
 y9 8 (.len false (.t 7)),
 y9 9 (.mv (.c (.int .i64 0)))] <|
 .block 0 <| .loop <| q9 [
 y9 10 (.bin .lss (.t 9) (.t 8))] <|
 .seq (.cond (.t 10) (.skip) <|
 .exit 0) <|
 .seq (.block 1 <| q9 [
 y9 11 (.iaddr none 1 (.t 7) (.t 9)),
 y9 12 (.load false 1 (.t 11)),
 y9 6 (.mv (.t 12))] <|
 q9 [
 y9 13 (.mv (.t 0)),
 y9 14 (.mv (.t 6)),
 y9 15 (.bin .eql (.t 13) (.t 14))] <|
 .cond (.t 15) (q9 [
 y9 4 (.mv (.c (.bool true)))] <|
 .ret) <|
 .skip) <|
 .region false [
 y9 16 (.bin .add (.t 9) (.c (.int .i64 1))),
 y9 9 (.mv (.t 16))]) <|
 q9 [
 y9 4 (.mv (.c (.bool false)))] <|
 .ret
def c346 : AFun := .prim 4
def c347 : AFun := .code 17 [.tmp 2] <|
 q9 [
 y9 2 (.mv (.c (.bool false)))] <|
 .seq (.block 0 <| q9 [
 y9 4 (.mv (.t 0)),
 y9 5 (.bin .leq (.c (.int .i32 0)) (.t 4)),
 y9 6 (.mv (.t 5)),
 ⟨(some 7),.mv (.t 0),some (6,true),[]⟩,
 ⟨(some 8),.bin .lss (.t 7) (.c (.int .i32 55296)),some (6,true),[]⟩,
 y9 9 (.pick (.t 6) (.t 8) (.c (.bool false))),
 y9 3 (.mv (.t 9))] <|
 .cond (.t 3) (q9 [
 y9 2 (.mv (.c (.bool true)))] <|
 .ret) <|
 q9 [
 y9 11 (.mv (.t 0)),
 y9 12 (.bin .lss (.c (.int .i32 57343)) (.t 11)),
 y9 13 (.mv (.t 12)),
 ⟨(some 14),.mv (.t 0),some (13,true),[]⟩,
 ⟨(some 15),.bin .leq (.t 14) (.c (.int .i32 1114111)),some (13,true),[]⟩,
 y9 16 (.pick (.t 13) (.t 15) (.c (.bool false))),
 y9 10 (.mv (.t 16))] <|
 .cond (.t 10) (q9 [
 y9 2 (.mv (.c (.bool true)))] <|
 .ret) <|
 .skip) <|
 q9 [
 y9 2 (.mv (.c (.bool false)))] <|
 .ret
def c348 : AFun := .code 14 [.tmp 2,.tmp 3] <|
 q9 [
 y9 2 (.mv (.c (.str []))),
 y9 3 (.mv (.c (.int .i64 0)))] <|
 q9 [
 y9 7 (.mv (.t 0)),
 y9 8 (.call 349 [(.t 7)]),
 y9 6 (.mv (.t 8)),
 y9 9 (.extract 0 (.t 6)),
 y9 10 (.extract 1 (.t 6)),
 y9 4 (.mv (.t 9)),
 y9 5 (.mv (.t 10))] <|
 q9 [
 y9 11 (.mv (.t 4)),
 y9 12 (.mv (.t 5)),
 y9 13 (.call 350 [(.t 12)]),
 y9 2 (.mv (.t 11)),
 y9 3 (.mv (.t 13))] <|
 .ret
def c349 : AFun := .code 53 [.tmp 2,.tmp 3] <|
 q9 [
 y9 2 (.mv (.c (.str []))),
 y9 3 (.mv (.c .nilIface))] <|
 q9 [
 y9 4 (.mv (.c (.slice [] .nil)))] <|
 q9 [
 y9 5 (.mv (.c (.int .i64 (-1))))] <|
 .seq (q9 [
 y9 9 (.mv (.t 0)),
 y9 10 (.range (.t 9))] <|
 .block 0 <| .loop <| q9 [
 y9 11 (.next (.t 10)),
 y9 12 (.extract 0 (.t 11))] <|
 .seq (.cond (.t 12) (.skip) <|
 .exit 0) <|
 .block 1 <| q9 [
 y9 13 (.extract 1 (.t 11)),
 y9 14 (.extract 2 (.t 11)),
 y9 6 (.mv (.t 13)),
 y9 7 (.mv (.t 14))] <|
 q9 [
 y9 15 (.mv (.t 7)),
 y9 16 (.call 342 [(.c (.str [48,49,50,51,52,53,54,55,56,57,97,98,99,100,101,102])),(.t 15)]),
 y9 8 (.mv (.t 16))] <|
 .seq (q9 [
 y9 17 (.mv (.t 7)),
 y9 18 (.bin .geq (.t 17) (.c (.int .i32 65))),
 y9 19 (.mv (.t 18)),
 ⟨(some 20),.mv (.t 7),some (19,true),[]⟩,
 ⟨(some 21),.bin .leq (.t 20) (.c (.int .i32 70)),some (19,true),[]⟩,
 y9 22 (.pick (.t 19) (.t 21) (.c (.bool false)))] <|
 .cond (.t 22) (.region false [
 y9 23 (.mv (.t 7)),
 y9 24 (.bin .sub (.t 23) (.c (.int .i32 65))),
 y9 25 (.conv (.toInt .i64) (.t 24)),
 y9 26 (.bin .add (.t 25) (.c (.int .i64 10))),
 y9 8 (.mv (.t 26))]) <|
 .skip) <|
 .block 2 <| q9 [
 y9 36 (.mv (.t 8)),
 y9 37 (.bin .lss (.t 36) (.c (.int .i64 0))),
 y9 35 (.mv (.t 37))] <|
 .cond (.t 35) (q9 [
 y9 38 (.mv (.t 6)),
 y9 39 (.build [(.int .i64 0)] [(0,1,(.t 38))]),
 y9 40 (.mkif 426 (.t 39)),
 y9 2 (.mv (.c (.str []))),
 y9 3 (.mv (.t 40))] <|
 .ret) <|
 q9 [
 y9 42 (.mv (.t 5)),
 y9 43 (.bin .lss (.t 42) (.c (.int .i64 0))),
 y9 41 (.mv (.t 43))] <|
 .cond (.t 41) (.region false [
 y9 44 (.mv (.t 8)),
 y9 5 (.mv (.t 44))]) <|
 .region false [
 y9 27 (.mv (.t 4)),
 y9 28 (.mv (.t 5)),
 y9 29 (.bin .shl (.t 28) (.c (.int .u64 4))),
 y9 30 (.mv (.t 8)),
 y9 31 (.bin .or (.t 29) (.t 30)),
 y9 32 (.conv (.toInt .u8) (.t 31)),
 y9 33 (.bslice false false 1 1 [(.int .u8 0)] [(0,1,(.t 32))]),
 y9 34 (.append 5 1 1 (.t 27) (.t 33)),
 y9 4 (.mv (.t 34)),
 y9 5 (.mv (.c (.int .i64 (-1))))]) <|
 .seq (q9 [
 y9 45 (.mv (.t 5)),
 y9 46 (.bin .geq (.t 45) (.c (.int .i64 0)))] <|
 .cond (.t 46) (q9 [
 y9 47 (.mv (.t 0)),
 y9 48 (.len true (.t 47)),
 y9 49 (.build [(.int .i64 0)] [(0,1,(.t 48))]),
 y9 50 (.mkif 426 (.t 49)),
 y9 2 (.mv (.c (.str []))),
 y9 3 (.mv (.t 50))] <|
 .ret) <|
 .skip) <|
 q9 [
 y9 51 (.mv (.t 4)),
 y9 52 (.conv .b2s (.t 51)),
 y9 2 (.mv (.t 52)),
 y9 3 (.mv (.c .nilIface))] <|
 .ret
def c350 : AFun := .code 12 [.tmp 2] <|
 q9 [
 y9 2 (.mv (.c (.int .i64 0)))] <|
 q9 [
 y9 3 (.alloc 426 [(.int .i64 0)])] <|
 .seq (q9 [
 y9 4 (.mv (.t 0)),
 y9 5 (.load false 1 (.c (.ptr 19 0))),
 y9 6 (.call 75 [(.t 4),(.t 5)]),
 y9 7 (.mv (.t 6)),
 ⟨(some 8),.mv (.t 0),some (7,true),[]⟩,
 ⟨(some 9),.mkif 427 (.t 3),some (7,true),[]⟩,
 ⟨(some 10),.call 74 [(.t 8),(.t 9)],some (7,true),[]⟩,
 y9 11 (.pick (.t 7) (.t 10) (.c (.bool false)))] <|
 .cond (.t 11) (q9 [
 y9 2 (.mv (.c (.int .i64 50)))] <|
 .ret) <|
 .skip) <|
 q9 [
 y9 2 (.mv (.c (.int .i64 0)))] <|
 .ret
def c365 : AFun := .prim 16
def c369 : AFun := .code 5 [.tmp 2] <|
 q9 [
 y9 1 (.box 120 (.t 0)),
 y9 2 (.mv (.c .nilIface))] <|
 q9 [
 y9 3 (.faddr 1 (.t 1)),
 y9 4 (.load false 1 (.t 3)),
 y9 2 (.mv (.t 4))] <|
 .ret
def c371 : AFun := .code 4 [.tmp 2] <|
 q9 [
 y9 1 (.box 125 (.t 0)),
 y9 2 (.mv (.c .nilIface))] <|
 q9 [
 y9 3 (.load false 1 (.c (.ptr 1 0))),
 y9 2 (.mv (.t 3))] <|
 .ret
def c373 : AFun := .code 4 [.tmp 2] <|
 q9 [
 y9 1 (.box 153 (.t 0)),
 y9 2 (.mv (.c .nilIface))] <|
 q9 [
 y9 3 (.load false 1 (.c (.ptr 2 0))),
 y9 2 (.mv (.t 3))] <|
 .ret
def c379 : AFun := .prim 19
def c380 : AFun := .prim 18
def c381 : AFun := .prim 17
def c382 : AFun := .prim 20
def c390 : AFun := .code 4 [.tmp 2] <|
 q9 [
 y9 1 (.box 251 (.t 0)),
 y9 2 (.mv (.c .nilIface))] <|
 q9 [
 y9 3 (.load false 1 (.c (.ptr 7 0))),
 y9 2 (.mv (.t 3))] <|
 .ret
def c393 : AFun := .code 4 [.tmp 2] <|
 q9 [
 y9 1 (.box 335 (.t 0)),
 y9 2 (.mv (.c .nilIface))] <|
 q9 [
 y9 3 (.load false 1 (.c (.ptr 8 0))),
 y9 2 (.mv (.t 3))] <|
 .ret
def c395 : AFun := .code 5 [.tmp 2] <|
 q9 [
 y9 1 (.box 345 (.t 0)),
 y9 2 (.mv (.c .nilIface))] <|
 q9 [
 y9 3 (.faddr 1 (.t 1)),
 y9 4 (.load false 1 (.t 3)),
 y9 2 (.mv (.t 4))] <|
 .ret
def c397 : AFun := .code 5 [.tmp 2] <|
 q9 [
 y9 1 (.box 353 (.t 0)),
 y9 2 (.mv (.c .nilIface))] <|
 q9 [
 y9 3 (.faddr 1 (.t 1)),
 y9 4 (.load false 1 (.t 3)),
 y9 2 (.mv (.t 4))] <|
 .ret
def c399 : AFun := .code 4 [.tmp 2] <|
 q9 [
 y9 1 (.box 377 (.t 0)),
 y9 2 (.mv (.c .nilIface))] <|
 q9 [
 y9 3 (.load false 1 (.c (.ptr 14 0))),
 y9 2 (.mv (.t 3))] <|
 .ret
def c401 : AFun := .code 4 [.tmp 2] <|
 q9 [
 y9 1 (.box 386 (.t 0)),
 y9 2 (.mv (.c .nilIface))] <|
 q9 [
 y9 3 (.load false 1 (.c (.ptr 20 0))),
 y9 2 (.mv (.t 3))] <|
 .ret
def c403 : AFun := .code 4 [.tmp 2] <|
 q9 [
 y9 1 (.box 418 (.t 0)),
 y9 2 (.mv (.c .nilIface))] <|
 q9 [
 y9 3 (.load false 1 (.c (.ptr 18 0))),
 y9 2 (.mv (.t 3))] <|
 .ret
def c405 : AFun := .code 4 [.tmp 2] <|
 q9 [
 y9 1 (.box 426 (.t 0)),
 y9 2 (.mv (.c .nilIface))] <|
 q9 [
 y9 3 (.load false 1 (.c (.ptr 19 0))),
 y9 2 (.mv (.t 3))] <|
 .ret
def ctA : CT :=
 (.node 216 (.node 108 (.node 54 (.node 27 (.node 13 (.node 6 (.node 3 .none (.node 4 (.leaf 3 c3) (.node 5 (.leaf 4 c4) (.leaf 5 c5)))) (.node 9 (.node 7 (.leaf 6 c6) (.node 8 (.leaf 7 c7) (.leaf 8 c8))) (.node 11 (.node 10 (.leaf 9 c9) (.leaf 10 c10)) (.node 12 (.leaf 11 c11) (.leaf 12 c12))))) (.node 20 (.node 16 (.node 14 (.leaf 13 c13) (.node 15 (.leaf 14 c14) (.leaf 15 c15))) (.node 18 (.node 17 (.leaf 16 c16) (.leaf 17 c17)) (.node 19 (.leaf 18 c18) (.leaf 19 c19)))) (.node 23 (.node 21 (.leaf 20 c20) (.node 22 (.leaf 21 c21) (.leaf 22 c22))) (.node 25 (.node 24 (.leaf 23 c23) (.leaf 24 c24)) (.node 26 (.leaf 25 c25) (.leaf 26 c26)))))) (.node 40 (.node 33 (.node 30 (.node 28 (.leaf 27 c27) (.node 29 (.leaf 28 c28) (.leaf 29 c29))) (.node 31 (.leaf 30 c30) (.node 32 (.leaf 31 c31) (.leaf 32 c32)))) (.node 36 (.node 34 (.leaf 33 c33) (.node 35 (.leaf 34 c34) (.leaf 35 c35))) (.node 38 (.node 37 (.leaf 36 c36) (.leaf 37 c37)) (.node 39 (.leaf 38 c38) (.leaf 39 c39))))) (.node 47 (.node 43 (.node 41 (.leaf 40 c40) (.node 42 (.leaf 41 c41) (.leaf 42 c42))) (.node 45 (.node 44 (.leaf 43 c43) (.leaf 44 c44)) (.node 46 (.leaf 45 c45) (.leaf 46 c46)))) (.node 50 (.node 48 (.leaf 47 c47) (.node 49 (.leaf 48 c48) (.leaf 49 c49))) (.node 52 (.node 51 (.leaf 50 c50) (.leaf 51 c51)) (.node 53 (.leaf 52 c52) (.leaf 53 c53))))))) (.node 81 (.node 67 (.node 60 (.node 57 (.node 55 (.leaf 54 c54) (.node 56 (.leaf 55 c55) (.leaf 56 c56))) (.node 58 (.leaf 57 c57) (.node 59 (.leaf 58 c58) (.leaf 59 c59)))) (.node 63 (.node 61 (.leaf 60 c60) (.node 62 (.leaf 61 c61) (.leaf 62 c62))) (.node 65 (.node 64 (.leaf 63 c63) (.leaf 64 c64)) (.node 66 (.leaf 65 c65) (.leaf 66 c66))))) (.node 74 (.node 70 (.node 68 (.leaf 67 c67) (.node 69 (.leaf 68 c68) (.leaf 69 c69))) (.node 72 (.node 71 (.leaf 70 c70) (.leaf 71 c71)) (.node 73 (.leaf 72 c72) (.leaf 73 c73)))) (.node 77 (.node 75 (.leaf 74 c74) (.node 76 (.leaf 75 c75) (.leaf 76 c76))) (.node 79 (.node 78 (.leaf 77 c77) (.leaf 78 c78)) (.node 80 (.leaf 79 c79) (.leaf 80 c80)))))) (.node 94 (.node 87 (.node 84 (.node 82 (.leaf 81 c81) (.node 83 (.leaf 82 c82) (.leaf 83 c83))) (.node 85 (.leaf 84 c84) (.node 86 (.leaf 85 c85) (.leaf 86 c86)))) (.node 90 (.node 88 (.leaf 87 c87) (.node 89 (.leaf 88 c88) (.leaf 89 c89))) (.node 92 (.node 91 (.leaf 90 c90) (.leaf 91 c91)) (.node 93 (.leaf 92 c92) (.leaf 93 c93))))) (.node 101 (.node 97 (.node 95 (.leaf 94 c94) (.node 96 (.leaf 95 c95) (.leaf 96 c96))) (.node 99 (.node 98 (.leaf 97 c97) (.leaf 98 c98)) (.node 100 (.leaf 99 c99) (.leaf 100 c100)))) (.node 104 (.node 102 (.leaf 101 c101) (.node 103 (.leaf 102 c102) (.leaf 103 c103))) (.node 106 (.node 105 (.leaf 104 c104) (.leaf 105 c105)) (.node 107 (.leaf 106 c106) (.leaf 107 c107)))))))) (.node 162 (.node 135 (.node 121 (.node 114 (.node 111 (.node 109 (.leaf 108 c108) (.node 110 (.leaf 109 c109) (.leaf 110 c110))) (.node 112 (.leaf 111 c111) (.node 113 (.leaf 112 c112) (.leaf 113 c113)))) (.node 117 (.node 115 (.leaf 114 c114) (.node 116 (.leaf 115 c115) (.leaf 116 c116))) (.node 119 (.node 118 (.leaf 117 c117) (.leaf 118 c118)) (.node 120 (.leaf 119 c119) (.leaf 120 c120))))) (.node 128 (.node 124 (.node 122 (.leaf 121 c121) (.node 123 (.leaf 122 c122) (.leaf 123 c123))) (.node 126 (.node 125 (.leaf 124 c124) (.leaf 125 c125)) (.node 127 (.leaf 126 c126) (.leaf 127 c127)))) (.node 131 (.node 129 (.leaf 128 c128) (.node 130 (.leaf 129 c129) (.leaf 130 c130))) (.node 133 (.node 132 (.leaf 131 c131) (.leaf 132 c132)) (.node 134 (.leaf 133 c133) (.leaf 134 c134)))))) (.node 148 (.node 141 (.node 138 (.node 136 (.leaf 135 c135) (.node 137 (.leaf 136 c136) (.leaf 137 c137))) (.node 139 (.leaf 138 c138) (.node 140 (.leaf 139 c139) (.leaf 140 c140)))) (.node 144 (.node 142 (.leaf 141 c141) (.node 143 (.leaf 142 c142) (.leaf 143 c143))) (.node 146 (.node 145 (.leaf 144 c144) (.leaf 145 c145)) (.node 147 (.leaf 146 c146) (.leaf 147 c147))))) (.node 155 (.node 151 (.node 149 (.leaf 148 c148) (.node 150 (.leaf 149 c149) (.leaf 150 c150))) (.node 153 (.node 152 (.leaf 151 c151) (.leaf 152 c152)) (.node 154 (.leaf 153 c153) (.leaf 154 c154)))) (.node 158 (.node 156 (.leaf 155 c155) (.node 157 (.leaf 156 c156) (.leaf 157 c157))) (.node 160 (.node 159 (.leaf 158 c158) (.leaf 159 c159)) (.node 161 (.leaf 160 c160) (.leaf 161 c161))))))) (.node 189 (.node 175 (.node 168 (.node 165 (.node 163 (.leaf 162 c162) (.node 164 (.leaf 163 c163) (.leaf 164 c164))) (.node 166 (.leaf 165 c165) (.node 167 (.leaf 166 c166) (.leaf 167 c167)))) (.node 171 (.node 169 (.leaf 168 c168) (.node 170 (.leaf 169 c169) (.leaf 170 c170))) (.node 173 (.node 172 (.leaf 171 c171) (.leaf 172 c172)) (.node 174 (.leaf 173 c173) (.leaf 174 c174))))) (.node 182 (.node 178 (.node 176 (.leaf 175 c175) (.node 177 (.leaf 176 c176) (.leaf 177 c177))) (.node 180 (.node 179 (.leaf 178 c178) (.leaf 179 c179)) (.node 181 (.leaf 180 c180) (.leaf 181 c181)))) (.node 185 (.node 183 (.leaf 182 c182) (.node 184 (.leaf 183 c183) (.leaf 184 c184))) (.node 187 (.node 186 (.leaf 185 c185) (.leaf 186 c186)) (.node 188 (.leaf 187 c187) (.leaf 188 c188)))))) (.node 202 (.node 195 (.node 192 (.node 190 (.leaf 189 c189) (.node 191 (.leaf 190 c190) (.leaf 191 c191))) (.node 193 (.leaf 192 c192) (.node 194 (.leaf 193 c193) (.leaf 194 c194)))) (.node 198 (.node 196 (.leaf 195 c195) (.node 197 (.leaf 196 c196) (.leaf 197 c197))) (.node 200 (.node 199 (.leaf 198 c198) (.leaf 199 c199)) (.node 201 (.leaf 200 c200) (.leaf 201 c201))))) (.node 209 (.node 205 (.node 203 (.leaf 202 c202) (.node 204 (.leaf 203 c203) (.leaf 204 c204))) (.node 207 (.node 206 (.leaf 205 c205) (.leaf 206 c206)) (.node 208 (.leaf 207 c207) (.leaf 208 c208)))) (.node 212 (.node 210 (.leaf 209 c209) (.node 211 (.leaf 210 c210) (.leaf 211 c211))) (.node 214 (.node 213 (.leaf 212 c212) (.leaf 213 c213)) (.node 215 (.leaf 214 c214) (.leaf 215 c215))))))))) (.node 324 (.node 270 (.node 243 (.node 229 (.node 222 (.node 219 (.node 217 (.leaf 216 c216) (.node 218 (.leaf 217 c217) (.leaf 218 c218))) (.node 220 (.leaf 219 c219) (.node 221 (.leaf 220 c220) (.leaf 221 c221)))) (.node 225 (.node 223 (.leaf 222 c222) (.node 224 (.leaf 223 c223) (.leaf 224 c224))) (.node 227 (.node 226 (.leaf 225 c225) (.leaf 226 c226)) (.node 228 (.leaf 227 c227) .none)))) (.node 236 (.node 232 (.node 230 (.leaf 229 c229) (.node 231 (.leaf 230 c230) (.leaf 231 c231))) (.node 234 (.node 233 (.leaf 232 c232) (.leaf 233 c233)) (.node 235 (.leaf 234 c234) (.leaf 235 c235)))) (.node 239 (.node 237 (.leaf 236 c236) (.node 238 (.leaf 237 c237) (.leaf 238 c238))) (.node 241 (.node 240 (.leaf 239 c239) (.leaf 240 c240)) (.node 242 (.leaf 241 c241) (.leaf 242 c242)))))) (.node 256 (.node 249 (.node 246 (.node 244 (.leaf 243 c243) (.node 245 (.leaf 244 c244) (.leaf 245 c245))) (.node 247 (.leaf 246 c246) (.node 248 (.leaf 247 c247) (.leaf 248 c248)))) (.node 252 (.node 250 (.leaf 249 c249) (.node 251 (.leaf 250 c250) (.leaf 251 c251))) (.node 254 (.node 253 (.leaf 252 c252) (.leaf 253 c253)) (.node 255 (.leaf 254 c254) .none)))) (.node 263 (.node 259 (.node 257 (.leaf 256 c256) (.node 258 (.leaf 257 c257) (.leaf 258 c258))) (.node 261 (.node 260 (.leaf 259 c259) (.leaf 260 c260)) (.node 262 (.leaf 261 c261) (.leaf 262 c262)))) (.node 266 (.node 264 (.leaf 263 c263) (.node 265 (.leaf 264 c264) (.leaf 265 c265))) (.node 268 (.node 267 (.leaf 266 c266) (.leaf 267 c267)) (.node 269 (.leaf 268 c268) (.leaf 269 c269))))))) (.node 297 (.node 283 (.node 276 (.node 273 (.node 271 (.leaf 270 c270) (.node 272 (.leaf 271 c271) (.leaf 272 c272))) (.node 274 (.leaf 273 c273) (.node 275 (.leaf 274 c274) (.leaf 275 c275)))) (.node 279 (.node 277 (.leaf 276 c276) (.node 278 .none (.leaf 278 c278))) (.node 281 (.node 280 (.leaf 279 c279) (.leaf 280 c280)) (.node 282 (.leaf 281 c281) (.leaf 282 c282))))) (.node 290 (.node 286 (.node 284 (.leaf 283 c283) (.node 285 (.leaf 284 c284) (.leaf 285 c285))) (.node 288 (.node 287 (.leaf 286 c286) (.leaf 287 c287)) (.node 289 (.leaf 288 c288) .none))) (.node 293 (.node 291 .none (.node 292 (.leaf 291 c291) (.leaf 292 c292))) (.node 295 (.node 294 (.leaf 293 c293) (.leaf 294 c294)) (.node 296 (.leaf 295 c295) (.leaf 296 c296)))))) (.node 310 (.node 303 (.node 300 (.node 298 (.leaf 297 c297) (.node 299 (.leaf 298 c298) (.leaf 299 c299))) (.node 301 (.leaf 300 c300) (.node 302 (.leaf 301 c301) (.leaf 302 c302)))) (.node 306 (.node 304 (.leaf 303 c303) (.node 305 (.leaf 304 c304) (.leaf 305 c305))) (.node 308 .none (.node 309 (.leaf 308 c308) (.leaf 309 c309))))) (.node 317 (.node 313 (.node 311 (.leaf 310 c310) (.node 312 (.leaf 311 c311) (.leaf 312 c312))) (.node 315 (.node 314 (.leaf 313 c313) .none) (.node 316 .none (.leaf 316 c316)))) (.node 320 (.node 318 (.leaf 317 c317) (.node 319 (.leaf 318 c318) (.leaf 319 c319))) (.node 322 (.node 321 (.leaf 320 c320) (.leaf 321 c321)) (.node 323 (.leaf 322 c322) (.leaf 323 c323)))))))) (.node 378 (.node 351 (.node 337 (.node 330 (.node 327 (.node 325 .none (.node 326 .none (.leaf 326 c326))) (.node 328 .none (.node 329 .none (.leaf 329 c329)))) (.node 333 (.node 331 (.leaf 330 c330) (.node 332 (.leaf 331 c331) (.leaf 332 c332))) (.node 335 (.node 334 (.leaf 333 c333) (.leaf 334 c334)) .none))) (.node 344 (.node 340 (.node 338 (.leaf 337 c337) (.node 339 (.leaf 338 c338) (.leaf 339 c339))) (.node 342 (.node 341 (.leaf 340 c340) (.leaf 341 c341)) (.node 343 (.leaf 342 c342) (.leaf 343 c343)))) (.node 347 (.node 345 (.leaf 344 c344) (.node 346 (.leaf 345 c345) (.leaf 346 c346))) (.node 349 (.node 348 (.leaf 347 c347) (.leaf 348 c348)) (.node 350 (.leaf 349 c349) (.leaf 350 c350)))))) (.node 364 .none (.node 371 (.node 367 (.node 365 .none (.node 366 (.leaf 365 c365) .none)) (.node 369 .none (.node 370 (.leaf 369 c369) .none))) (.node 374 (.node 372 (.leaf 371 c371) (.node 373 .none (.leaf 373 c373))) .none)))) (.node 405 (.node 391 (.node 384 (.node 381 (.node 379 .none (.node 380 (.leaf 379 c379) (.leaf 380 c380))) (.node 382 (.leaf 381 c381) (.node 383 (.leaf 382 c382) .none))) (.node 387 .none (.node 389 .none (.node 390 .none (.leaf 390 c390))))) (.node 398 (.node 394 (.node 392 .none (.node 393 .none (.leaf 393 c393))) (.node 396 (.node 395 .none (.leaf 395 c395)) (.node 397 .none (.leaf 397 c397)))) (.node 401 (.node 399 .none (.node 400 (.leaf 399 c399) .none)) (.node 403 (.node 402 (.leaf 401 c401) .none) (.node 404 (.leaf 403 c403) .none))))) (.node 418 (.node 411 (.node 408 (.node 406 (.leaf 405 c405) .none) .none) .none) .none)))))
def keepA (f : Nat) : Bool := [62,63,76,102,106,114,129,169,175,198,226,241,242,258,261,270,280,283,287,320,332,334].contains f
def rtabA : RTab := ⟨[(286,0,2),(287,0,2),(404,3,5),(405,3,5)], 15, 16, 17, 233, [(8,⟨25,none,true,true,4⟩),(14,⟨25,none,true,true,2⟩),(15,⟨22,(some 430),true,false,1⟩),(16,⟨22,(some 433),true,false,1⟩),(19,⟨25,none,true,true,1⟩),(80,⟨20,none,true,false,1⟩),(120,⟨25,none,true,true,2⟩),(125,⟨25,none,true,true,1⟩),(127,⟨22,(some 125),true,false,1⟩),(153,⟨25,none,true,true,1⟩),(157,⟨22,(some 153),true,false,1⟩),(164,⟨25,none,true,true,1⟩),(165,⟨22,(some 164),true,false,1⟩),(234,⟨22,(some 444),true,false,1⟩),(251,⟨25,none,true,true,1⟩),(252,⟨22,(some 251),true,false,1⟩),(335,⟨25,none,true,true,1⟩),(336,⟨22,(some 335),true,false,1⟩),(345,⟨25,none,true,true,2⟩),(353,⟨25,none,true,true,2⟩),(354,⟨22,(some 353),true,false,1⟩),(359,⟨22,(some 80),true,false,1⟩),(360,⟨22,(some 345),true,false,1⟩),(377,⟨25,none,true,true,1⟩),(378,⟨22,(some 377),true,false,1⟩),(386,⟨25,none,true,true,1⟩),(418,⟨25,none,true,true,1⟩),(420,⟨22,(some 418),true,false,1⟩),(426,⟨25,none,true,true,1⟩),(427,⟨22,(some 426),true,false,1⟩),(428,⟨22,(some 446),true,false,1⟩)], [8,14,15,16,19,120,125,127,153,157,164,165,234,251,252,335,336,345,353,354,360,377,378,386,418,420,426,427,428], [((8,80),true),((14,80),true),((15,80),true),((16,80),true),((19,80),true),((120,80),true),((125,80),true),((127,80),true),((153,80),true),((157,80),true),((164,80),true),((165,80),true),((234,80),true),((251,80),true),((252,80),true),((335,80),true),((336,80),true),((345,80),true),((353,80),true),((354,80),true),((360,80),true),((377,80),true),((378,80),true),((386,80),true),((418,80),true),((420,80),true),((426,80),true),((427,80),true),((428,80),true)]⟩
end Am
