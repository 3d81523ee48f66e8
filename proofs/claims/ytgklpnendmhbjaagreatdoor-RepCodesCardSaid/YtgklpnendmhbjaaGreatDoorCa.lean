/- The abstract machine's code of the program's functions: printed by a program of this workplace. -/
import Derived.Test.YtgklpnendmhbjaaGreatDoorA1
import Derived.Test.YtgklpnendmhbjaaGreatDoorA5
set_option linter.unusedSimpArgs false
set_option linter.unusedVariables false
set_option linter.unusedSectionVars false
set_option linter.unnecessarySimpa false
namespace Am
open Go
set_option maxRecDepth 100000
def y9 (d : Nat) (op : AOp) : AOper := ⟨some d, op, none, []⟩
def w9 (op : AOp) : AOper := ⟨none, op, none, []⟩
def q9 (l : List AOper) (c : ACode) : ACode := .seq (.region false l) c
def c3 : AFun := .code 73 [.tmp 4] <|
 q9 [
 y9 2 (.box 40 (.t 0)),
 y9 3 (.box 40 (.t 1)),
 y9 4 (.mv (.c (.bool false)))] <|
 q9 [
 y9 10 (.call 9 []),
 y9 5 (.mv (.t 10))] <|
 q9 [
 y9 11 (.load true 35 (.t 2)),
 y9 12 (.call 10 [(.t 11)]),
 w9 (.store 35 (.t 2) (.t 12))] <|
 q9 [
 y9 13 (.load true 35 (.t 3)),
 y9 14 (.call 10 [(.t 13)]),
 w9 (.store 35 (.t 3) (.t 14))] <|
 q9 [
 y9 16 (.load true 35 (.t 2)),
 y9 17 (.call 11 [(.t 16)]),
 y9 15 (.mv (.t 17)),
 y9 18 (.extract 0 (.t 15)),
 y9 19 (.extract 1 (.t 15)),
 y9 6 (.alloc 45 [(.int .i64 0),(.str []),(.slice [] .nil)]),
 w9 (.store 3 (.t 6) (.t 18)),
 y9 7 (.mv (.t 19))] <|
 q9 [
 y9 21 (.load true 35 (.t 3)),
 y9 22 (.call 11 [(.t 21)]),
 y9 20 (.mv (.t 22)),
 y9 23 (.extract 0 (.t 20)),
 y9 24 (.extract 1 (.t 20)),
 y9 8 (.alloc 45 [(.int .i64 0),(.str []),(.slice [] .nil)]),
 w9 (.store 3 (.t 8) (.t 23)),
 y9 9 (.mv (.t 24))] <|
 .seq (q9 [
 y9 25 (.mv (.t 7)),
 y9 26 (.bin .neq (.t 25) (.c (.int .i64 0))),
 y9 27 (.mv (.t 26)),
 ⟨(some 28),.mv (.t 9),some (27,false),[]⟩,
 ⟨(some 29),.bin .neq (.t 28) (.c (.int .i64 0)),some (27,false),[]⟩,
 y9 30 (.pick (.t 27) (.c (.bool true)) (.t 29))] <|
 .cond (.t 30) (q9 [
 y9 31 (.mv (.t 5)),
 y9 32 (.mv (.t 31)),
 ⟨(some 33),.mv (.t 7),some (32,true),[]⟩,
 ⟨(some 34),.bin .eql (.t 33) (.c (.int .i64 0)),some (32,true),[]⟩,
 ⟨(some 35),.mv (.t 34),some (32,true),[]⟩,
 ⟨(some 36),.faddr 0 (.t 6),some (35,false),[]⟩,
 ⟨(some 37),.load false 1 (.t 36),some (35,false),[]⟩,
 ⟨(some 38),.bin .eql (.t 37) (.c (.int .i64 0)),some (35,false),[]⟩,
 ⟨(some 39),.pick (.t 35) (.c (.bool true)) (.t 38),some (32,true),[]⟩,
 y9 40 (.pick (.t 32) (.t 39) (.c (.bool false))),
 y9 41 (.mv (.t 40)),
 ⟨(some 42),.mv (.t 9),some (41,true),[]⟩,
 ⟨(some 43),.bin .eql (.t 42) (.c (.int .i64 0)),some (41,true),[]⟩,
 ⟨(some 44),.mv (.t 43),some (41,true),[]⟩,
 ⟨(some 45),.faddr 0 (.t 8),some (44,false),[]⟩,
 ⟨(some 46),.load false 1 (.t 45),some (44,false),[]⟩,
 ⟨(some 47),.bin .eql (.t 46) (.c (.int .i64 0)),some (44,false),[]⟩,
 ⟨(some 48),.pick (.t 44) (.c (.bool true)) (.t 47),some (41,true),[]⟩,
 y9 49 (.pick (.t 41) (.t 48) (.c (.bool false))),
 y9 4 (.mv (.t 49))] <|
 .ret) <|
 .skip) <|
 .seq (.region true [
 y9 50 (.mv (.t 5)),
 y9 51 (.mv (.t 50)),
 ⟨(some 52),.load true 3 (.t 6),some (51,true),[]⟩,
 ⟨(some 53),.load true 3 (.t 8),some (51,true),[2]⟩,
 ⟨(some 54),.call 12 [(.t 52),(.t 53)],some (51,true),[]⟩,
 ⟨(some 55),.load true 35 (.t 2),some (51,true),[2,3,4]⟩,
 ⟨(some 56),.load true 35 (.t 3),some (51,true),[2,3,4,5]⟩,
 ⟨(some 57),.call 13 [(.t 55),(.t 56)],some (51,true),[]⟩,
 ⟨(some 58),.eq false .prim false (.t 54) (.t 57),some (51,true),[]⟩,
 y9 59 (.pick (.t 51) (.t 58) (.c (.bool false))),
 y9 60 (.mv (.t 59)),
 ⟨(some 61),.faddr 0 (.t 6),some (60,true),[]⟩,
 ⟨(some 62),.load false 1 (.t 61),some (60,true),[]⟩,
 ⟨(some 63),.faddr 0 (.t 8),some (60,true),[]⟩,
 ⟨(some 64),.load false 1 (.t 63),some (60,true),[12]⟩,
 ⟨(some 65),.bin .eql (.t 62) (.t 64),some (60,true),[]⟩,
 ⟨(some 66),.faddr 1 (.t 2),some (60,true),[]⟩,
 ⟨(some 67),.load false 1 (.t 66),some (60,true),[12,14]⟩,
 ⟨(some 68),.faddr 1 (.t 3),some (60,true),[]⟩,
 ⟨(some 69),.load false 1 (.t 68),some (60,true),[12,14,17]⟩,
 ⟨(some 70),.bin .eql (.t 67) (.t 69),some (60,true),[]⟩,
 ⟨(some 71),.eq false .prim false (.t 65) (.t 70),some (60,true),[]⟩,
 y9 72 (.pick (.t 60) (.t 71) (.c (.bool false))),
 y9 4 (.mv (.t 72))]) <|
 .ret
def c4 : AFun := .code 96 [.tmp 4] <|
 q9 [
 y9 4 (.mv (.c (.bool false)))] <|
 q9 [
 y9 12 (.call 9 []),
 y9 5 (.mv (.t 12))] <|
 q9 [
 y9 14 (.mv (.t 1)),
 y9 15 (.mv (.t 0)),
 y9 16 (.build [(.int .i64 0),(.str []),(.str []),(.slice [] .nil)] [(0,1,(.t 15))]),
 y9 17 (.build [(.int .i64 0),(.int .i64 0),(.str []),(.slice [] .nil),(.slice [] .nil),(.int .i64 0),(.int .i64 0),(.int .i64 0),(.int .i64 0),(.bool false),(.int .i64 0),(.str []),(.str []),(.slice [] .nil),(.str []),(.slice [] .nil),(.slice [] .nil),(.str []),(.bool false),(.str []),(.bool false),(.bool false),(.str []),(.str []),(.bool false),(.str []),(.str []),(.bool false),(.int .i64 0),(.str []),(.str []),(.slice [] .nil),(.slice [] .nil),(.int .i64 0),(.slice [] .nil)] [(1,1,(.t 14)),(28,4,(.t 16))]),
 y9 18 (.call 11 [(.t 17)]),
 y9 13 (.mv (.t 18)),
 y9 19 (.extract 0 (.t 13)),
 y9 20 (.extract 1 (.t 13)),
 y9 6 (.alloc 45 [(.int .i64 0),(.str []),(.slice [] .nil)]),
 w9 (.store 3 (.t 6) (.t 19)),
 y9 7 (.mv (.t 20))] <|
 q9 [
 y9 22 (.load true 3 (.t 6)),
 y9 23 (.call 14 [(.t 22)]),
 y9 21 (.mv (.t 23)),
 y9 24 (.extract 0 (.t 21)),
 y9 25 (.extract 1 (.t 21)),
 y9 8 (.alloc 40 [(.int .i64 0),(.int .i64 0),(.str []),(.slice [] .nil),(.slice [] .nil),(.int .i64 0),(.int .i64 0),(.int .i64 0),(.int .i64 0),(.bool false),(.int .i64 0),(.str []),(.str []),(.slice [] .nil),(.str []),(.slice [] .nil),(.slice [] .nil),(.str []),(.bool false),(.str []),(.bool false),(.bool false),(.str []),(.str []),(.bool false),(.str []),(.str []),(.bool false),(.int .i64 0),(.str []),(.str []),(.slice [] .nil),(.slice [] .nil),(.int .i64 0),(.slice [] .nil)]),
 w9 (.store 35 (.t 8) (.t 24)),
 y9 9 (.mv (.t 25))] <|
 q9 [
 y9 26 (.mv (.t 1)),
 y9 27 (.call 15 [(.t 26)]),
 y9 28 (.mv (.t 27)),
 ⟨(some 29),.mv (.t 1),some (28,true),[]⟩,
 ⟨(some 30),.bin .neq (.t 29) (.c (.int .i64 4)),some (28,true),[]⟩,
 y9 31 (.pick (.t 28) (.t 30) (.c (.bool false))),
 y9 32 (.mv (.t 31)),
 ⟨(some 33),.mv (.t 1),some (32,true),[]⟩,
 ⟨(some 34),.bin .neq (.t 33) (.c (.int .i64 19)),some (32,true),[]⟩,
 y9 35 (.pick (.t 32) (.t 34) (.c (.bool false))),
 y9 36 (.mv (.t 35)),
 ⟨(some 37),.mv (.t 1),some (36,true),[]⟩,
 ⟨(some 38),.bin .neq (.t 37) (.c (.int .i64 25)),some (36,true),[]⟩,
 y9 39 (.pick (.t 36) (.t 38) (.c (.bool false))),
 y9 10 (.mv (.t 39))] <|
 .seq (q9 [
 y9 40 (.mv (.t 0)),
 y9 41 (.bin .eql (.t 40) (.c (.int .i64 0))),
 y9 42 (.mv (.t 41)),
 ⟨(some 43),.mv (.t 10),some (42,true),[]⟩,
 ⟨(some 44),.un .not (.t 43),some (42,true),[]⟩,
 y9 45 (.pick (.t 42) (.t 44) (.c (.bool false)))] <|
 .cond (.t 45) (q9 [
 y9 46 (.mv (.t 5)),
 y9 47 (.mv (.t 46)),
 ⟨(some 48),.mv (.t 1),some (47,true),[]⟩,
 ⟨(some 49),.bin .neq (.t 48) (.c (.int .i64 19)),some (47,true),[]⟩,
 ⟨(some 50),.mv (.t 49),some (47,true),[]⟩,
 ⟨(some 51),.mv (.t 7),some (50,false),[]⟩,
 ⟨(some 52),.bin .eql (.t 51) (.c (.int .i64 120)),some (50,false),[]⟩,
 ⟨(some 53),.pick (.t 50) (.c (.bool true)) (.t 52),some (47,true),[]⟩,
 y9 54 (.pick (.t 47) (.t 53) (.c (.bool false))),
 y9 4 (.mv (.t 54))] <|
 .ret) <|
 .skip) <|
 q9 [
 y9 55 (.mv (.t 10)),
 y9 56 (.mv (.t 55)),
 ⟨(some 57),.mv (.t 0),some (56,true),[]⟩,
 ⟨(some 58),.bin .geq (.t 57) (.c (.int .i64 0)),some (56,true),[]⟩,
 y9 59 (.pick (.t 56) (.t 58) (.c (.bool false))),
 y9 60 (.mv (.t 59)),
 ⟨(some 61),.mv (.t 0),some (60,true),[]⟩,
 ⟨(some 62),.bin .leq (.t 61) (.c (.int .i64 200)),some (60,true),[]⟩,
 y9 63 (.pick (.t 60) (.t 62) (.c (.bool false))),
 y9 64 (.mv (.t 63)),
 ⟨(some 65),.mv (.t 0),some (64,true),[]⟩,
 ⟨(some 66),.bin .neq (.t 65) (.c (.int .i64 10)),some (64,true),[]⟩,
 y9 67 (.pick (.t 64) (.t 66) (.c (.bool false))),
 y9 11 (.mv (.t 67))] <|
 q9 [
 y9 68 (.mv (.t 5)),
 y9 69 (.mv (.t 68)),
 ⟨(some 70),.mv (.t 7),some (69,true),[]⟩,
 ⟨(some 71),.bin .eql (.t 70) (.c (.int .i64 0)),some (69,true),[]⟩,
 ⟨(some 72),.mv (.t 11),some (69,true),[]⟩,
 ⟨(some 73),.eq false .prim false (.t 71) (.t 72),some (69,true),[]⟩,
 y9 74 (.pick (.t 69) (.t 73) (.c (.bool false))),
 y9 75 (.mv (.t 74)),
 ⟨(some 76),.mv (.t 11),some (75,true),[]⟩,
 ⟨(some 77),.un .not (.t 76),some (75,true),[]⟩,
 ⟨(some 78),.mv (.t 77),some (75,true),[]⟩,
 ⟨(some 79),.mv (.t 9),some (78,false),[]⟩,
 ⟨(some 80),.bin .eql (.t 79) (.c (.int .i64 0)),some (78,false),[]⟩,
 ⟨(some 81),.mv (.t 80),some (78,false),[]⟩,
 ⟨(some 82),.faddr 1 (.t 8),some (81,true),[]⟩,
 ⟨(some 83),.load false 1 (.t 82),some (81,true),[]⟩,
 ⟨(some 84),.mv (.t 1),some (81,true),[]⟩,
 ⟨(some 85),.bin .eql (.t 83) (.t 84),some (81,true),[]⟩,
 ⟨(some 86),.pick (.t 81) (.t 85) (.c (.bool false)),some (78,false),[]⟩,
 ⟨(some 87),.mv (.t 86),some (78,false),[]⟩,
 ⟨(some 88),.faddr 28 (.t 8),some (87,true),[]⟩,
 ⟨(some 89),.faddr 0 (.t 88),some (87,true),[]⟩,
 ⟨(some 90),.load false 1 (.t 89),some (87,true),[]⟩,
 ⟨(some 91),.mv (.t 0),some (87,true),[]⟩,
 ⟨(some 92),.bin .eql (.t 90) (.t 91),some (87,true),[]⟩,
 ⟨(some 93),.pick (.t 87) (.t 92) (.c (.bool false)),some (78,false),[]⟩,
 ⟨(some 94),.pick (.t 78) (.c (.bool true)) (.t 93),some (75,true),[]⟩,
 y9 95 (.pick (.t 75) (.t 94) (.c (.bool false))),
 y9 4 (.mv (.t 95))] <|
 .ret
def c5 : AFun := .code 83 [.tmp 6] <|
 q9 [
 y9 3 (.box 40 (.t 0)),
 y9 4 (.box 45 (.t 1)),
 y9 6 (.mv (.c (.bool false)))] <|
 q9 [
 y9 16 (.call 9 []),
 y9 7 (.mv (.t 16))] <|
 q9 [
 y9 17 (.load true 35 (.t 3)),
 y9 18 (.call 10 [(.t 17)]),
 w9 (.store 35 (.t 3) (.t 18))] <|
 q9 [
 y9 19 (.load true 3 (.t 4)),
 y9 20 (.call 16 [(.t 19)]),
 w9 (.store 3 (.t 4) (.t 20))] <|
 q9 [
 y9 22 (.load true 35 (.t 3)),
 y9 23 (.call 11 [(.t 22)]),
 y9 21 (.mv (.t 23)),
 y9 24 (.extract 0 (.t 21)),
 y9 25 (.extract 1 (.t 21)),
 y9 8 (.alloc 45 [(.int .i64 0),(.str []),(.slice [] .nil)]),
 w9 (.store 3 (.t 8) (.t 24)),
 y9 9 (.mv (.t 25))] <|
 q9 [
 y9 27 (.load true 35 (.t 3)),
 y9 28 (.call 17 [(.t 27)]),
 y9 26 (.mv (.t 28)),
 y9 29 (.extract 0 (.t 26)),
 y9 30 (.extract 1 (.t 26)),
 y9 10 (.alloc 45 [(.int .i64 0),(.str []),(.slice [] .nil)]),
 w9 (.store 3 (.t 10) (.t 29)),
 y9 11 (.mv (.t 30))] <|
 q9 [
 y9 32 (.load true 3 (.t 4)),
 y9 33 (.call 14 [(.t 32)]),
 y9 31 (.mv (.t 33)),
 y9 34 (.extract 0 (.t 31)),
 y9 35 (.extract 1 (.t 31)),
 y9 12 (.alloc 40 [(.int .i64 0),(.int .i64 0),(.str []),(.slice [] .nil),(.slice [] .nil),(.int .i64 0),(.int .i64 0),(.int .i64 0),(.int .i64 0),(.bool false),(.int .i64 0),(.str []),(.str []),(.slice [] .nil),(.str []),(.slice [] .nil),(.slice [] .nil),(.str []),(.bool false),(.str []),(.bool false),(.bool false),(.str []),(.str []),(.bool false),(.str []),(.str []),(.bool false),(.int .i64 0),(.str []),(.str []),(.slice [] .nil),(.slice [] .nil),(.int .i64 0),(.slice [] .nil)]),
 w9 (.store 35 (.t 12) (.t 34)),
 y9 13 (.mv (.t 35))] <|
 q9 [
 y9 37 (.load true 3 (.t 4)),
 y9 38 (.call 18 [(.t 37)]),
 y9 36 (.mv (.t 38)),
 y9 39 (.extract 0 (.t 36)),
 y9 40 (.extract 1 (.t 36)),
 y9 14 (.alloc 40 [(.int .i64 0),(.int .i64 0),(.str []),(.slice [] .nil),(.slice [] .nil),(.int .i64 0),(.int .i64 0),(.int .i64 0),(.int .i64 0),(.bool false),(.int .i64 0),(.str []),(.str []),(.slice [] .nil),(.str []),(.slice [] .nil),(.slice [] .nil),(.str []),(.bool false),(.str []),(.bool false),(.bool false),(.str []),(.str []),(.bool false),(.str []),(.str []),(.bool false),(.int .i64 0),(.str []),(.str []),(.slice [] .nil),(.slice [] .nil),(.int .i64 0),(.slice [] .nil)]),
 w9 (.store 35 (.t 14) (.t 39)),
 y9 15 (.mv (.t 40))] <|
 .seq (.region true [
 y9 41 (.mv (.t 7)),
 y9 42 (.mv (.t 41)),
 ⟨(some 43),.load true 35 (.t 3),some (42,true),[]⟩,
 ⟨(some 44),.call 19 [(.t 43)],some (42,true),[]⟩,
 ⟨(some 45),.load true 35 (.t 3),some (42,true),[2,3]⟩,
 ⟨(some 46),.call 20 [(.t 45)],some (42,true),[]⟩,
 ⟨(some 47),.eq false .prim false (.t 44) (.t 46),some (42,true),[]⟩,
 y9 48 (.pick (.t 42) (.t 47) (.c (.bool false))),
 y9 49 (.mv (.t 48)),
 ⟨(some 50),.load true 3 (.t 8),some (49,true),[]⟩,
 ⟨(some 51),.load true 3 (.t 10),some (49,true),[9]⟩,
 ⟨(some 52),.call 21 [(.t 50),(.t 51)],some (49,true),[]⟩,
 y9 53 (.pick (.t 49) (.t 52) (.c (.bool false))),
 y9 54 (.mv (.t 53)),
 ⟨(some 55),.mv (.t 9),some (54,true),[]⟩,
 ⟨(some 56),.mv (.t 11),some (54,true),[]⟩,
 ⟨(some 57),.bin .eql (.t 55) (.t 56),some (54,true),[]⟩,
 y9 58 (.pick (.t 54) (.t 57) (.c (.bool false))),
 y9 59 (.mv (.t 58)),
 ⟨(some 60),.load true 35 (.t 12),some (59,true),[]⟩,
 ⟨(some 61),.load true 35 (.t 14),some (59,true),[19]⟩,
 ⟨(some 62),.call 13 [(.t 60),(.t 61)],some (59,true),[]⟩,
 y9 63 (.pick (.t 59) (.t 62) (.c (.bool false))),
 y9 64 (.mv (.t 63)),
 ⟨(some 65),.mv (.t 13),some (64,true),[]⟩,
 ⟨(some 66),.mv (.t 15),some (64,true),[]⟩,
 ⟨(some 67),.bin .eql (.t 65) (.t 66),some (64,true),[]⟩,
 y9 68 (.pick (.t 64) (.t 67) (.c (.bool false))),
 y9 69 (.mv (.t 68)),
 ⟨(some 70),.mv (.t 2),some (69,true),[]⟩,
 ⟨(some 71),.call 15 [(.t 70)],some (69,true),[]⟩,
 ⟨(some 72),.mv (.t 2),some (69,true),[]⟩,
 ⟨(some 73),.call 22 [(.t 72)],some (69,true),[]⟩,
 ⟨(some 74),.eq false .prim false (.t 71) (.t 73),some (69,true),[]⟩,
 y9 75 (.pick (.t 69) (.t 74) (.c (.bool false))),
 y9 76 (.mv (.t 75)),
 ⟨(some 77),.mv (.t 2),some (76,true),[]⟩,
 ⟨(some 78),.call 23 [(.t 77)],some (76,true),[]⟩,
 ⟨(some 79),.mv (.t 2),some (76,true),[]⟩,
 ⟨(some 80),.call 24 [(.t 79)],some (76,true),[]⟩,
 ⟨(some 81),.bin .eql (.t 78) (.t 80),some (76,true),[]⟩,
 y9 82 (.pick (.t 76) (.t 81) (.c (.bool false))),
 y9 6 (.mv (.t 82))]) <|
 .ret
def c6 : AFun := .code 53 [.tmp 2] <|
 q9 [
 y9 1 (.box 40 (.t 0)),
 y9 2 (.mv (.c (.bool false)))] <|
 q9 [
 y9 8 (.call 9 []),
 y9 3 (.mv (.t 8))] <|
 q9 [
 y9 9 (.load true 35 (.t 1)),
 y9 10 (.call 10 [(.t 9)]),
 w9 (.store 35 (.t 1) (.t 10))] <|
 q9 [
 y9 12 (.load true 35 (.t 1)),
 y9 13 (.call 11 [(.t 12)]),
 y9 11 (.mv (.t 13)),
 y9 14 (.extract 0 (.t 11)),
 y9 15 (.extract 1 (.t 11)),
 y9 4 (.alloc 45 [(.int .i64 0),(.str []),(.slice [] .nil)]),
 w9 (.store 3 (.t 4) (.t 14)),
 y9 5 (.mv (.t 15))] <|
 q9 [
 y9 17 (.load true 3 (.t 4)),
 y9 18 (.call 14 [(.t 17)]),
 y9 16 (.mv (.t 18)),
 y9 19 (.extract 0 (.t 16)),
 y9 20 (.extract 1 (.t 16)),
 y9 6 (.alloc 40 [(.int .i64 0),(.int .i64 0),(.str []),(.slice [] .nil),(.slice [] .nil),(.int .i64 0),(.int .i64 0),(.int .i64 0),(.int .i64 0),(.bool false),(.int .i64 0),(.str []),(.str []),(.slice [] .nil),(.str []),(.slice [] .nil),(.slice [] .nil),(.str []),(.bool false),(.str []),(.bool false),(.bool false),(.str []),(.str []),(.bool false),(.str []),(.str []),(.bool false),(.int .i64 0),(.str []),(.str []),(.slice [] .nil),(.slice [] .nil),(.int .i64 0),(.slice [] .nil)]),
 w9 (.store 35 (.t 6) (.t 19)),
 y9 7 (.mv (.t 20))] <|
 .seq (q9 [
 y9 21 (.mv (.t 5)),
 y9 22 (.bin .neq (.t 21) (.c (.int .i64 0)))] <|
 .cond (.t 22) (q9 [
 y9 23 (.mv (.t 3)),
 y9 24 (.mv (.t 23)),
 ⟨(some 25),.load true 35 (.t 1),some (24,true),[]⟩,
 ⟨(some 26),.call 19 [(.t 25)],some (24,true),[]⟩,
 ⟨(some 27),.un .not (.t 26),some (24,true),[]⟩,
 y9 28 (.pick (.t 24) (.t 27) (.c (.bool false))),
 y9 29 (.mv (.t 28)),
 ⟨(some 30),.faddr 0 (.t 4),some (29,true),[]⟩,
 ⟨(some 31),.load false 1 (.t 30),some (29,true),[]⟩,
 ⟨(some 32),.bin .eql (.t 31) (.c (.int .i64 0)),some (29,true),[]⟩,
 y9 33 (.pick (.t 29) (.t 32) (.c (.bool false))),
 y9 2 (.mv (.t 33))] <|
 .ret) <|
 .skip) <|
 q9 [
 y9 34 (.mv (.t 3)),
 y9 35 (.mv (.t 34)),
 ⟨(some 36),.load true 35 (.t 1),some (35,true),[]⟩,
 ⟨(some 37),.call 19 [(.t 36)],some (35,true),[]⟩,
 y9 38 (.pick (.t 35) (.t 37) (.c (.bool false))),
 y9 39 (.mv (.t 38)),
 ⟨(some 40),.faddr 1 (.t 1),some (39,true),[]⟩,
 ⟨(some 41),.load false 1 (.t 40),some (39,true),[]⟩,
 ⟨(some 42),.call 15 [(.t 41)],some (39,true),[]⟩,
 y9 43 (.pick (.t 39) (.t 42) (.c (.bool false))),
 y9 44 (.mv (.t 43)),
 ⟨(some 45),.mv (.t 7),some (44,true),[]⟩,
 ⟨(some 46),.bin .eql (.t 45) (.c (.int .i64 0)),some (44,true),[]⟩,
 y9 47 (.pick (.t 44) (.t 46) (.c (.bool false))),
 y9 48 (.mv (.t 47)),
 ⟨(some 49),.load true 35 (.t 6),some (48,true),[]⟩,
 ⟨(some 50),.load true 35 (.t 1),some (48,true),[]⟩,
 ⟨(some 51),.call 13 [(.t 49),(.t 50)],some (48,true),[]⟩,
 y9 52 (.pick (.t 48) (.t 51) (.c (.bool false))),
 y9 2 (.mv (.t 52))] <|
 .ret
def c7 : AFun := .code 62 [.tmp 4] <|
 q9 [
 y9 4 (.mv (.c (.bool false)))] <|
 q9 [
 y9 8 (.call 9 []),
 y9 5 (.mv (.t 8))] <|
 q9 [
 y9 9 (.mv (.t 0)),
 y9 10 (.call 23 [(.t 9)]),
 y9 6 (.mv (.t 10))] <|
 q9 [
 y9 11 (.mv (.t 1)),
 y9 12 (.call 23 [(.t 11)]),
 y9 7 (.mv (.t 12))] <|
 q9 [
 y9 13 (.mv (.t 5)),
 y9 14 (.mv (.t 13)),
 ⟨(some 15),.mv (.t 6),some (14,true),[]⟩,
 ⟨(some 16),.bin .eql (.t 15) (.c (.int .i64 (-1))),some (14,true),[]⟩,
 ⟨(some 17),.mv (.t 16),some (14,true),[]⟩,
 ⟨(some 18),.mv (.t 0),some (17,false),[]⟩,
 ⟨(some 19),.call 25 [(.t 18)],some (17,false),[]⟩,
 ⟨(some 20),.mv (.t 19),some (17,false),[]⟩,
 ⟨(some 21),.mv (.t 6),some (20,true),[]⟩,
 ⟨(some 22),.call 15 [(.t 21)],some (20,true),[]⟩,
 ⟨(some 23),.pick (.t 20) (.t 22) (.c (.bool false)),some (17,false),[]⟩,
 ⟨(some 24),.mv (.t 23),some (17,false),[]⟩,
 ⟨(some 25),.mv (.t 6),some (24,true),[]⟩,
 ⟨(some 26),.call 25 [(.t 25)],some (24,true),[]⟩,
 ⟨(some 27),.un .not (.t 26),some (24,true),[]⟩,
 ⟨(some 28),.pick (.t 24) (.t 27) (.c (.bool false)),some (17,false),[]⟩,
 ⟨(some 29),.pick (.t 17) (.c (.bool true)) (.t 28),some (14,true),[]⟩,
 y9 30 (.pick (.t 14) (.t 29) (.c (.bool false))),
 y9 31 (.mv (.t 30)),
 ⟨(some 32),.mv (.t 6),some (31,true),[]⟩,
 ⟨(some 33),.bin .eql (.t 32) (.c (.int .i64 (-1))),some (31,true),[]⟩,
 ⟨(some 34),.mv (.t 33),some (31,true),[]⟩,
 ⟨(some 35),.mv (.t 0),some (34,false),[]⟩,
 ⟨(some 36),.mv (.t 1),some (34,false),[]⟩,
 ⟨(some 37),.bin .eql (.t 35) (.t 36),some (34,false),[]⟩,
 ⟨(some 38),.pick (.t 34) (.c (.bool true)) (.t 37),some (31,true),[]⟩,
 ⟨(some 39),.mv (.t 38),some (31,true),[]⟩,
 ⟨(some 40),.mv (.t 6),some (39,false),[]⟩,
 ⟨(some 41),.mv (.t 7),some (39,false),[]⟩,
 ⟨(some 42),.bin .neq (.t 40) (.t 41),some (39,false),[]⟩,
 ⟨(some 43),.pick (.t 39) (.c (.bool true)) (.t 42),some (31,true),[]⟩,
 y9 44 (.pick (.t 31) (.t 43) (.c (.bool false))),
 y9 45 (.mv (.t 44)),
 ⟨(some 46),.mv (.t 6),some (45,true),[]⟩,
 ⟨(some 47),.bin .neq (.t 46) (.c (.int .i64 (-1))),some (45,true),[]⟩,
 ⟨(some 48),.mv (.t 47),some (45,true),[]⟩,
 ⟨(some 49),.mv (.t 0),some (48,false),[]⟩,
 ⟨(some 50),.call 25 [(.t 49)],some (48,false),[]⟩,
 ⟨(some 51),.un .not (.t 50),some (48,false),[]⟩,
 ⟨(some 52),.pick (.t 48) (.c (.bool true)) (.t 51),some (45,true),[]⟩,
 ⟨(some 53),.mv (.t 52),some (45,true),[]⟩,
 ⟨(some 54),.mv (.t 0),some (53,false),[]⟩,
 ⟨(some 55),.bin .eql (.t 54) (.c (.int .i64 2)),some (53,false),[]⟩,
 ⟨(some 56),.pick (.t 53) (.c (.bool true)) (.t 55),some (45,true),[]⟩,
 ⟨(some 57),.mv (.t 56),some (45,true),[]⟩,
 ⟨(some 58),.mv (.t 0),some (57,false),[]⟩,
 ⟨(some 59),.bin .eql (.t 58) (.c (.int .i64 16)),some (57,false),[]⟩,
 ⟨(some 60),.pick (.t 57) (.c (.bool true)) (.t 59),some (45,true),[]⟩,
 y9 61 (.pick (.t 45) (.t 60) (.c (.bool false))),
 y9 4 (.mv (.t 61))] <|
 .ret
def c8 : AFun := .code 78 [.tmp 4] <|
 q9 [
 y9 2 (.box 45 (.t 0)),
 y9 3 (.box 40 (.t 1)),
 y9 4 (.mv (.c (.bool false)))] <|
 q9 [
 y9 13 (.call 9 []),
 y9 5 (.mv (.t 13))] <|
 q9 [
 y9 14 (.load true 3 (.t 2)),
 y9 15 (.call 16 [(.t 14)]),
 w9 (.store 3 (.t 2) (.t 15))] <|
 q9 [
 y9 16 (.load true 35 (.t 3)),
 y9 17 (.call 10 [(.t 16)]),
 w9 (.store 35 (.t 3) (.t 17))] <|
 q9 [
 y9 19 (.load true 3 (.t 2)),
 y9 20 (.call 14 [(.t 19)]),
 y9 18 (.mv (.t 20)),
 y9 21 (.extract 0 (.t 18)),
 y9 22 (.extract 1 (.t 18)),
 y9 6 (.alloc 40 [(.int .i64 0),(.int .i64 0),(.str []),(.slice [] .nil),(.slice [] .nil),(.int .i64 0),(.int .i64 0),(.int .i64 0),(.int .i64 0),(.bool false),(.int .i64 0),(.str []),(.str []),(.slice [] .nil),(.str []),(.slice [] .nil),(.slice [] .nil),(.str []),(.bool false),(.str []),(.bool false),(.bool false),(.str []),(.str []),(.bool false),(.str []),(.str []),(.bool false),(.int .i64 0),(.str []),(.str []),(.slice [] .nil),(.slice [] .nil),(.int .i64 0),(.slice [] .nil)]),
 w9 (.store 35 (.t 6) (.t 21)),
 y9 7 (.mv (.t 22))] <|
 q9 [
 y9 24 (.load true 35 (.t 6)),
 y9 25 (.call 11 [(.t 24)]),
 y9 23 (.mv (.t 25)),
 y9 26 (.extract 0 (.t 23)),
 y9 27 (.extract 1 (.t 23)),
 y9 8 (.alloc 45 [(.int .i64 0),(.str []),(.slice [] .nil)]),
 w9 (.store 3 (.t 8) (.t 26)),
 y9 9 (.mv (.t 27))] <|
 q9 [
 y9 29 (.load true 3 (.t 2)),
 y9 30 (.call 26 [(.t 29)]),
 y9 28 (.mv (.t 30)),
 y9 31 (.extract 0 (.t 28)),
 y9 32 (.extract 1 (.t 28)),
 y9 10 (.alloc 40 [(.int .i64 0),(.int .i64 0),(.str []),(.slice [] .nil),(.slice [] .nil),(.int .i64 0),(.int .i64 0),(.int .i64 0),(.int .i64 0),(.bool false),(.int .i64 0),(.str []),(.str []),(.slice [] .nil),(.str []),(.slice [] .nil),(.slice [] .nil),(.str []),(.bool false),(.str []),(.bool false),(.bool false),(.str []),(.str []),(.bool false),(.str []),(.str []),(.bool false),(.int .i64 0),(.str []),(.str []),(.slice [] .nil),(.slice [] .nil),(.int .i64 0),(.slice [] .nil)]),
 w9 (.store 35 (.t 10) (.t 31)),
 y9 11 (.mv (.t 32))] <|
 q9 [
 y9 33 (.load true 35 (.t 3)),
 y9 34 (.call 27 [(.t 33)]),
 y9 35 (.mv (.t 34)),
 ⟨(some 36),.load true 35 (.t 3),some (35,true),[]⟩,
 ⟨(some 37),.call 19 [(.t 36)],some (35,true),[]⟩,
 y9 38 (.pick (.t 35) (.t 37) (.c (.bool false))),
 y9 12 (.mv (.t 38))] <|
 .seq (q9 [
 y9 39 (.mv (.t 7)),
 y9 40 (.bin .neq (.t 39) (.c (.int .i64 0)))] <|
 .cond (.t 40) (q9 [
 y9 41 (.mv (.t 5)),
 y9 42 (.mv (.t 41)),
 ⟨(some 43),.mv (.t 12),some (42,true),[]⟩,
 ⟨(some 44),.un .not (.t 43),some (42,true),[]⟩,
 y9 45 (.pick (.t 42) (.t 44) (.c (.bool false))),
 y9 46 (.mv (.t 45)),
 ⟨(some 47),.faddr 1 (.t 6),some (46,true),[]⟩,
 ⟨(some 48),.load false 1 (.t 47),some (46,true),[]⟩,
 ⟨(some 49),.bin .eql (.t 48) (.c (.int .i64 0)),some (46,true),[]⟩,
 y9 50 (.pick (.t 46) (.t 49) (.c (.bool false))),
 y9 51 (.mv (.t 50)),
 ⟨(some 52),.faddr 2 (.t 6),some (51,true),[]⟩,
 ⟨(some 53),.load false 1 (.t 52),some (51,true),[]⟩,
 ⟨(some 54),.bin .eql (.t 53) (.c (.str [])),some (51,true),[]⟩,
 y9 55 (.pick (.t 51) (.t 54) (.c (.bool false))),
 y9 4 (.mv (.t 55))] <|
 .ret) <|
 .skip) <|
 q9 [
 y9 56 (.mv (.t 5)),
 y9 57 (.mv (.t 56)),
 ⟨(some 58),.mv (.t 12),some (57,true),[]⟩,
 ⟨(some 59),.un .not (.t 58),some (57,true),[]⟩,
 y9 60 (.pick (.t 57) (.t 59) (.c (.bool false))),
 y9 61 (.mv (.t 60)),
 ⟨(some 62),.load true 35 (.t 6),some (61,true),[]⟩,
 ⟨(some 63),.call 19 [(.t 62)],some (61,true),[]⟩,
 y9 64 (.pick (.t 61) (.t 63) (.c (.bool false))),
 y9 65 (.mv (.t 64)),
 ⟨(some 66),.mv (.t 9),some (65,true),[]⟩,
 ⟨(some 67),.bin .eql (.t 66) (.c (.int .i64 0)),some (65,true),[]⟩,
 y9 68 (.pick (.t 65) (.t 67) (.c (.bool false))),
 y9 69 (.mv (.t 68)),
 ⟨(some 70),.load true 3 (.t 8),some (69,true),[]⟩,
 ⟨(some 71),.load true 3 (.t 2),some (69,true),[]⟩,
 ⟨(some 72),.call 12 [(.t 70),(.t 71)],some (69,true),[]⟩,
 y9 73 (.pick (.t 69) (.t 72) (.c (.bool false))),
 y9 74 (.mv (.t 73)),
 ⟨(some 75),.mv (.t 11),some (74,true),[]⟩,
 ⟨(some 76),.bin .eql (.t 75) (.c (.int .i64 110)),some (74,true),[]⟩,
 y9 77 (.pick (.t 74) (.t 76) (.c (.bool false))),
 y9 4 (.mv (.t 77))] <|
 .ret
def c9 : AFun := .code 82 [.tmp 0] <|
 q9 [
 y9 0 (.mv (.c (.bool false)))] <|
 q9 [
 y9 12 (.build [(.int .i64 0),(.int .i64 0),(.str []),(.slice [] .nil),(.slice [] .nil),(.int .i64 0),(.int .i64 0),(.int .i64 0),(.int .i64 0),(.bool false),(.int .i64 0),(.str []),(.str []),(.slice [] .nil),(.str []),(.slice [] .nil),(.slice [] .nil),(.str []),(.bool false),(.str []),(.bool false),(.bool false),(.str []),(.str []),(.bool false),(.str []),(.str []),(.bool false),(.int .i64 0),(.str []),(.str []),(.slice [] .nil),(.slice [] .nil),(.int .i64 0),(.slice [] .nil)] [(1,1,(.c (.int .i64 5)))]),
 y9 13 (.call 11 [(.t 12)]),
 y9 11 (.mv (.t 13)),
 y9 14 (.extract 0 (.t 11)),
 y9 15 (.extract 1 (.t 11)),
 y9 1 (.alloc 45 [(.int .i64 0),(.str []),(.slice [] .nil)]),
 w9 (.store 3 (.t 1) (.t 14)),
 y9 2 (.mv (.t 15))] <|
 q9 [
 y9 17 (.load true 3 (.t 1)),
 y9 18 (.call 28 [(.t 17)]),
 y9 16 (.mv (.t 18)),
 y9 19 (.extract 0 (.t 16)),
 y9 20 (.extract 1 (.t 16)),
 y9 3 (.mv (.t 19)),
 y9 4 (.mv (.t 20))] <|
 q9 [
 y9 22 (.build [(.int .i64 0),(.str []),(.slice [] .nil)] [(0,1,(.c (.int .i64 129))),(1,1,(.c (.str [118])))]),
 y9 23 (.bslice false true 1 3 [(.int .i64 0),(.str []),(.slice [] .nil)] [(0,3,(.t 22))]),
 y9 24 (.build [(.int .i64 0),(.str []),(.slice [] .nil)] [(0,1,(.c (.int .i64 121))),(2,1,(.t 23))]),
 y9 25 (.call 14 [(.t 24)]),
 y9 21 (.mv (.t 25)),
 y9 26 (.extract 0 (.t 21)),
 y9 27 (.extract 1 (.t 21)),
 y9 5 (.alloc 40 [(.int .i64 0),(.int .i64 0),(.str []),(.slice [] .nil),(.slice [] .nil),(.int .i64 0),(.int .i64 0),(.int .i64 0),(.int .i64 0),(.bool false),(.int .i64 0),(.str []),(.str []),(.slice [] .nil),(.str []),(.slice [] .nil),(.slice [] .nil),(.str []),(.bool false),(.str []),(.bool false),(.bool false),(.str []),(.str []),(.bool false),(.str []),(.str []),(.bool false),(.int .i64 0),(.str []),(.str []),(.slice [] .nil),(.slice [] .nil),(.int .i64 0),(.slice [] .nil)]),
 w9 (.store 35 (.t 5) (.t 26)),
 y9 6 (.mv (.t 27))] <|
 q9 [
 y9 29 (.build [(.int .i64 0),(.str []),(.slice [] .nil)] [(0,1,(.c (.int .i64 115)))]),
 y9 30 (.call 14 [(.t 29)]),
 y9 28 (.mv (.t 30)),
 y9 31 (.extract 0 (.t 28)),
 y9 32 (.extract 1 (.t 28)),
 y9 7 (.alloc 40 [(.int .i64 0),(.int .i64 0),(.str []),(.slice [] .nil),(.slice [] .nil),(.int .i64 0),(.int .i64 0),(.int .i64 0),(.int .i64 0),(.bool false),(.int .i64 0),(.str []),(.str []),(.slice [] .nil),(.str []),(.slice [] .nil),(.slice [] .nil),(.str []),(.bool false),(.str []),(.bool false),(.bool false),(.str []),(.str []),(.bool false),(.str []),(.str []),(.bool false),(.int .i64 0),(.str []),(.str []),(.slice [] .nil),(.slice [] .nil),(.int .i64 0),(.slice [] .nil)]),
 w9 (.store 35 (.t 7) (.t 31)),
 y9 8 (.mv (.t 32))] <|
 q9 [
 y9 34 (.build [(.int .i64 0),(.int .i64 0),(.str []),(.slice [] .nil),(.slice [] .nil),(.int .i64 0),(.int .i64 0),(.int .i64 0),(.int .i64 0),(.bool false),(.int .i64 0),(.str []),(.str []),(.slice [] .nil),(.str []),(.slice [] .nil),(.slice [] .nil),(.str []),(.bool false),(.str []),(.bool false),(.bool false),(.str []),(.str []),(.bool false),(.str []),(.str []),(.bool false),(.int .i64 0),(.str []),(.str []),(.slice [] .nil),(.slice [] .nil),(.int .i64 0),(.slice [] .nil)] [(1,1,(.c (.int .i64 5))),(2,1,(.c (.str [111,61,120])))]),
 y9 35 (.call 11 [(.t 34)]),
 y9 33 (.mv (.t 35)),
 y9 36 (.extract 0 (.t 33)),
 y9 37 (.extract 1 (.t 33)),
 y9 9 (.alloc 45 [(.int .i64 0),(.str []),(.slice [] .nil)]),
 w9 (.store 3 (.t 9) (.t 36)),
 y9 10 (.mv (.t 37))] <|
 q9 [
 y9 38 (.mv (.t 2)),
 y9 39 (.bin .eql (.t 38) (.c (.int .i64 0))),
 y9 40 (.mv (.t 39)),
 ⟨(some 41),.mv (.t 4),some (40,true),[]⟩,
 ⟨(some 42),.bin .eql (.t 41) (.c (.int .i64 0)),some (40,true),[]⟩,
 y9 43 (.pick (.t 40) (.t 42) (.c (.bool false))),
 y9 44 (.mv (.t 43)),
 ⟨(some 45),.mv (.t 3),some (44,true),[]⟩,
 ⟨(some 46),.bin .eql (.t 45) (.c (.str [101,7,10,1,0,4,0,4,0])),some (44,true),[]⟩,
 y9 47 (.pick (.t 44) (.t 46) (.c (.bool false))),
 y9 48 (.mv (.t 47)),
 ⟨(some 49),.mv (.t 6),some (48,true),[]⟩,
 ⟨(some 50),.bin .eql (.t 49) (.c (.int .i64 0)),some (48,true),[]⟩,
 y9 51 (.pick (.t 48) (.t 50) (.c (.bool false))),
 y9 52 (.mv (.t 51)),
 ⟨(some 53),.faddr 1 (.t 5),some (52,true),[]⟩,
 ⟨(some 54),.load false 1 (.t 53),some (52,true),[]⟩,
 ⟨(some 55),.bin .eql (.t 54) (.c (.int .i64 25)),some (52,true),[]⟩,
 y9 56 (.pick (.t 52) (.t 55) (.c (.bool false))),
 y9 57 (.mv (.t 56)),
 ⟨(some 58),.faddr 25 (.t 5),some (57,true),[]⟩,
 ⟨(some 59),.load true 3 (.t 58),some (57,true),[]⟩,
 ⟨(some 60),.build [(.str []),(.str []),(.bool false)] [(1,1,(.c (.str [118]))),(2,1,(.c (.bool true)))],some (57,true),[]⟩,
 ⟨(some 61),.eq false (.cells [2,2,0]) false (.t 59) (.t 60),some (57,true),[]⟩,
 y9 62 (.pick (.t 57) (.t 61) (.c (.bool false))),
 y9 63 (.mv (.t 62)),
 ⟨(some 64),.mv (.t 8),some (63,true),[]⟩,
 ⟨(some 65),.bin .eql (.t 64) (.c (.int .i64 120)),some (63,true),[]⟩,
 y9 66 (.pick (.t 63) (.t 65) (.c (.bool false))),
 y9 67 (.mv (.t 66)),
 ⟨(some 68),.mv (.t 10),some (67,true),[]⟩,
 ⟨(some 69),.bin .eql (.t 68) (.c (.int .i64 120)),some (67,true),[]⟩,
 y9 70 (.pick (.t 67) (.t 69) (.c (.bool false))),
 y9 71 (.mv (.t 70)),
 ⟨(some 72),.call 15 [(.c (.int .i64 4))],some (71,true),[]⟩,
 y9 73 (.pick (.t 71) (.t 72) (.c (.bool false))),
 y9 74 (.mv (.t 73)),
 ⟨(some 75),.call 15 [(.c (.int .i64 0))],some (74,true),[]⟩,
 ⟨(some 76),.un .not (.t 75),some (74,true),[]⟩,
 y9 77 (.pick (.t 74) (.t 76) (.c (.bool false))),
 y9 78 (.mv (.t 77)),
 ⟨(some 79),.call 23 [(.c (.int .i64 3))],some (78,true),[]⟩,
 ⟨(some 80),.bin .eql (.t 79) (.c (.int .i64 5)),some (78,true),[]⟩,
 y9 81 (.pick (.t 78) (.t 80) (.c (.bool false))),
 y9 0 (.mv (.t 81))] <|
 .ret
def c10 : AFun := .code 136 [.cell 2 true 35] <|
 q9 [
 y9 1 (.box 40 (.t 0)),
 y9 2 (.alloc 40 [(.int .i64 0),(.int .i64 0),(.str []),(.slice [] .nil),(.slice [] .nil),(.int .i64 0),(.int .i64 0),(.int .i64 0),(.int .i64 0),(.bool false),(.int .i64 0),(.str []),(.str []),(.slice [] .nil),(.str []),(.slice [] .nil),(.slice [] .nil),(.str []),(.bool false),(.str []),(.bool false),(.bool false),(.str []),(.str []),(.bool false),(.str []),(.str []),(.bool false),(.int .i64 0),(.str []),(.str []),(.slice [] .nil),(.slice [] .nil),(.int .i64 0),(.slice [] .nil)])] <|
 q9 [
 y9 9 (.faddr 2 (.t 1)),
 y9 10 (.load false 1 (.t 9)),
 y9 11 (.call 29 [(.t 10)]),
 y9 12 (.faddr 2 (.t 1)),
 w9 (.store 1 (.t 12) (.t 11))] <|
 q9 [
 y9 3 (.mv (.c (.slice [] .nil)))] <|
 .seq (q9 [
 y9 4 (.mv (.c (.int .i64 0)))] <|
 .block 0 <| .loop <| .seq (q9 [
 y9 13 (.mv (.t 4)),
 y9 14 (.faddr 3 (.t 1)),
 y9 15 (.load false 1 (.t 14)),
 y9 16 (.len false (.t 15)),
 y9 17 (.bin .lss (.t 13) (.t 16)),
 y9 18 (.mv (.t 17)),
 ⟨(some 19),.mv (.t 4),some (18,true),[]⟩,
 ⟨(some 20),.bin .lss (.t 19) (.c (.int .i64 8)),some (18,true),[]⟩,
 y9 21 (.pick (.t 18) (.t 20) (.c (.bool false)))] <|
 .cond (.t 21) (.skip) <|
 .exit 0) <|
 .seq (.block 1 <| .region false [
 y9 24 (.mv (.t 3)),
 y9 25 (.faddr 3 (.t 1)),
 y9 26 (.load false 1 (.t 25)),
 y9 27 (.mv (.t 4)),
 y9 28 (.iaddr none 2 (.t 26) (.t 27)),
 y9 29 (.load true 2 (.t 28)),
 y9 30 (.call 30 [(.t 29)]),
 y9 31 (.bslice false true 1 2 [(.str []),(.slice [] .nil)] [(0,2,(.t 30))]),
 y9 32 (.append 64 2 40 (.t 24) (.t 31)),
 y9 3 (.mv (.t 32))]) <|
 .region false [
 y9 22 (.mv (.t 4)),
 y9 23 (.bin .add (.t 22) (.c (.int .i64 1))),
 y9 4 (.mv (.t 23))]) <|
 q9 [
 y9 33 (.mv (.t 3)),
 y9 34 (.faddr 3 (.t 1)),
 w9 (.store 1 (.t 34) (.t 33))] <|
 q9 [
 y9 5 (.mv (.c (.slice [] .nil)))] <|
 .seq (q9 [
 y9 6 (.mv (.c (.int .i64 0)))] <|
 .block 2 <| .loop <| .seq (q9 [
 y9 35 (.mv (.t 6)),
 y9 36 (.faddr 4 (.t 1)),
 y9 37 (.load false 1 (.t 36)),
 y9 38 (.len false (.t 37)),
 y9 39 (.bin .lss (.t 35) (.t 38)),
 y9 40 (.mv (.t 39)),
 ⟨(some 41),.mv (.t 6),some (40,true),[]⟩,
 ⟨(some 42),.bin .lss (.t 41) (.c (.int .i64 8)),some (40,true),[]⟩,
 y9 43 (.pick (.t 40) (.t 42) (.c (.bool false)))] <|
 .cond (.t 43) (.skip) <|
 .exit 2) <|
 .seq (.block 3 <| .region false [
 y9 46 (.mv (.t 5)),
 y9 47 (.faddr 4 (.t 1)),
 y9 48 (.load false 1 (.t 47)),
 y9 49 (.mv (.t 6)),
 y9 50 (.iaddr none 3 (.t 48) (.t 49)),
 y9 51 (.load true 3 (.t 50)),
 y9 52 (.call 31 [(.t 51)]),
 y9 53 (.bslice false true 1 3 [(.int .i64 0),(.str []),(.slice [] .nil)] [(0,3,(.t 52))]),
 y9 54 (.append 67 3 48 (.t 46) (.t 53)),
 y9 5 (.mv (.t 54))]) <|
 .region false [
 y9 44 (.mv (.t 6)),
 y9 45 (.bin .add (.t 44) (.c (.int .i64 1))),
 y9 6 (.mv (.t 45))]) <|
 q9 [
 y9 55 (.mv (.t 5)),
 y9 56 (.faddr 4 (.t 1)),
 w9 (.store 1 (.t 56) (.t 55))] <|
 q9 [
 y9 7 (.mv (.c (.slice [] .nil)))] <|
 .seq (q9 [
 y9 8 (.mv (.c (.int .i64 0)))] <|
 .block 4 <| .loop <| .seq (q9 [
 y9 57 (.mv (.t 8)),
 y9 58 (.faddr 34 (.t 1)),
 y9 59 (.load false 1 (.t 58)),
 y9 60 (.len false (.t 59)),
 y9 61 (.bin .lss (.t 57) (.t 60)),
 y9 62 (.mv (.t 61)),
 ⟨(some 63),.mv (.t 8),some (62,true),[]⟩,
 ⟨(some 64),.bin .lss (.t 63) (.c (.int .i64 8)),some (62,true),[]⟩,
 y9 65 (.pick (.t 62) (.t 64) (.c (.bool false)))] <|
 .cond (.t 65) (.skip) <|
 .exit 4) <|
 .seq (.block 5 <| .region false [
 y9 68 (.mv (.t 7)),
 y9 69 (.faddr 34 (.t 1)),
 y9 70 (.load false 1 (.t 69)),
 y9 71 (.mv (.t 8)),
 y9 72 (.iaddr none 4 (.t 70) (.t 71)),
 y9 73 (.load true 4 (.t 72)),
 y9 74 (.call 32 [(.t 73)]),
 y9 75 (.bslice false true 1 4 [(.str []),(.bool false),(.str []),(.bool false)] [(0,4,(.t 74))]),
 y9 76 (.append 70 4 48 (.t 68) (.t 75)),
 y9 7 (.mv (.t 76))]) <|
 .region false [
 y9 66 (.mv (.t 8)),
 y9 67 (.bin .add (.t 66) (.c (.int .i64 1))),
 y9 8 (.mv (.t 67))]) <|
 q9 [
 y9 77 (.mv (.t 7)),
 y9 78 (.faddr 34 (.t 1)),
 w9 (.store 1 (.t 78) (.t 77))] <|
 q9 [
 y9 79 (.faddr 5 (.t 1)),
 y9 80 (.faddr 5 (.t 79)),
 y9 81 (.load true 6 (.t 80)),
 y9 82 (.call 33 [(.t 81)]),
 y9 83 (.faddr 5 (.t 1)),
 y9 84 (.faddr 5 (.t 83)),
 w9 (.store 6 (.t 84) (.t 82))] <|
 q9 [
 y9 85 (.faddr 5 (.t 1)),
 y9 86 (.faddr 11 (.t 85)),
 y9 87 (.load false 1 (.t 86)),
 y9 88 (.call 34 [(.t 87)]),
 y9 89 (.faddr 5 (.t 1)),
 y9 90 (.faddr 11 (.t 89)),
 w9 (.store 1 (.t 90) (.t 88))] <|
 q9 [
 y9 91 (.faddr 17 (.t 1)),
 y9 92 (.faddr 0 (.t 91)),
 y9 93 (.load false 1 (.t 92)),
 y9 94 (.call 29 [(.t 93)]),
 y9 95 (.faddr 17 (.t 1)),
 y9 96 (.faddr 0 (.t 95)),
 w9 (.store 1 (.t 96) (.t 94))] <|
 q9 [
 y9 97 (.faddr 17 (.t 1)),
 y9 98 (.faddr 2 (.t 97)),
 y9 99 (.load false 1 (.t 98)),
 y9 100 (.call 29 [(.t 99)]),
 y9 101 (.faddr 17 (.t 1)),
 y9 102 (.faddr 2 (.t 101)),
 w9 (.store 1 (.t 102) (.t 100))] <|
 q9 [
 y9 103 (.faddr 21 (.t 1)),
 y9 104 (.faddr 1 (.t 103)),
 y9 105 (.load false 1 (.t 104)),
 y9 106 (.call 29 [(.t 105)]),
 y9 107 (.faddr 21 (.t 1)),
 y9 108 (.faddr 1 (.t 107)),
 w9 (.store 1 (.t 108) (.t 106))] <|
 q9 [
 y9 109 (.faddr 21 (.t 1)),
 y9 110 (.faddr 2 (.t 109)),
 y9 111 (.load false 1 (.t 110)),
 y9 112 (.call 29 [(.t 111)]),
 y9 113 (.faddr 21 (.t 1)),
 y9 114 (.faddr 2 (.t 113)),
 w9 (.store 1 (.t 114) (.t 112))] <|
 q9 [
 y9 115 (.faddr 25 (.t 1)),
 y9 116 (.faddr 0 (.t 115)),
 y9 117 (.load false 1 (.t 116)),
 y9 118 (.call 29 [(.t 117)]),
 y9 119 (.faddr 25 (.t 1)),
 y9 120 (.faddr 0 (.t 119)),
 w9 (.store 1 (.t 120) (.t 118))] <|
 q9 [
 y9 121 (.faddr 25 (.t 1)),
 y9 122 (.faddr 1 (.t 121)),
 y9 123 (.load false 1 (.t 122)),
 y9 124 (.call 29 [(.t 123)]),
 y9 125 (.faddr 25 (.t 1)),
 y9 126 (.faddr 1 (.t 125)),
 w9 (.store 1 (.t 126) (.t 124))] <|
 q9 [
 y9 127 (.faddr 28 (.t 1)),
 y9 128 (.load true 4 (.t 127)),
 y9 129 (.call 35 [(.t 128)]),
 y9 130 (.faddr 28 (.t 1)),
 w9 (.store 4 (.t 130) (.t 129))] <|
 q9 [
 y9 131 (.faddr 32 (.t 1)),
 y9 132 (.load false 1 (.t 131)),
 y9 133 (.call 34 [(.t 132)]),
 y9 134 (.faddr 32 (.t 1)),
 w9 (.store 1 (.t 134) (.t 133))] <|
 q9 [
 y9 135 (.load true 35 (.t 1)),
 w9 (.store 35 (.t 2) (.t 135))] <|
 .ret
def c11 : AFun := .code 22 [.cell 2 true 3,.tmp 3] <|
 q9 [
 y9 1 (.box 40 (.t 0)),
 y9 2 (.alloc 45 [(.int .i64 0),(.str []),(.slice [] .nil)]),
 y9 3 (.mv (.c (.int .i64 0)))] <|
 q9 [
 y9 7 (.load true 35 (.t 1)),
 y9 8 (.call 36 [(.t 7)]),
 y9 6 (.mv (.t 8)),
 y9 9 (.extract 0 (.t 6)),
 y9 10 (.extract 1 (.t 6)),
 y9 4 (.alloc 78 [(.int .i64 0),(.int .i64 0),(.str []),(.slice [] .nil),(.slice [] .nil),(.int .i64 0),(.int .i64 0),(.int .i64 0),(.int .i64 0),(.bool false),(.int .i64 0),(.str []),(.str []),(.slice [] .nil),(.str []),(.slice [] .nil),(.slice [] .nil),(.str []),(.bool false),(.str []),(.bool false),(.bool false),(.str []),(.str []),(.bool false),(.str []),(.str []),(.bool false),(.int .i64 0),(.str []),(.str []),(.slice [] .nil),(.slice [] .nil),(.int .i64 0),(.slice [] .nil),(.bool false),(.bool false),(.bool false),(.bool false),(.bool false),(.int .i64 0),(.int .i64 0)]),
 w9 (.store 42 (.t 4) (.t 9)),
 y9 5 (.mv (.t 10))] <|
 .seq (q9 [
 y9 11 (.mv (.t 5)),
 y9 12 (.eq true (.iface [15,127,157,165,234,252,336,354,360,378,420,427,428]) true (.t 11) (.c .nilIface))] <|
 .cond (.t 12) (q9 [
 y9 13 (.build [(.int .i64 0),(.str []),(.slice [] .nil)] []),
 y9 14 (.mv (.t 5)),
 y9 15 (.call 37 [(.t 14)]),
 w9 (.store 3 (.t 2) (.t 13)),
 y9 3 (.mv (.t 15))] <|
 .ret) <|
 .skip) <|
 .seq (.region true [
 y9 16 (.faddr 1 (.t 1)),
 y9 17 (.load false 1 (.t 16)),
 y9 18 (.bin .add (.c (.int .i64 96)) (.t 17)),
 ⟨(some 19),.load true 42 (.t 4),none,[1]⟩,
 ⟨(some 20),.call 38 [(.t 19)],none,[1]⟩,
 y9 21 (.build [(.int .i64 0),(.str []),(.slice [] .nil)] [(0,1,(.t 18)),(2,1,(.t 20))]),
 w9 (.store 3 (.t 2) (.t 21)),
 y9 3 (.mv (.c (.int .i64 0)))]) <|
 .ret
def c12 : AFun := .code 24 [.tmp 4] <|
 q9 [
 y9 2 (.box 45 (.t 0)),
 y9 3 (.box 45 (.t 1)),
 y9 4 (.mv (.c (.bool false)))] <|
 q9 [
 y9 5 (.faddr 0 (.t 2)),
 y9 6 (.load false 1 (.t 5)),
 y9 7 (.faddr 0 (.t 3)),
 y9 8 (.load false 1 (.t 7)),
 y9 9 (.bin .eql (.t 6) (.t 8)),
 y9 10 (.mv (.t 9)),
 ⟨(some 11),.faddr 1 (.t 2),some (10,true),[]⟩,
 ⟨(some 12),.load false 1 (.t 11),some (10,true),[]⟩,
 ⟨(some 13),.faddr 1 (.t 3),some (10,true),[]⟩,
 ⟨(some 14),.load false 1 (.t 13),some (10,true),[]⟩,
 ⟨(some 15),.bin .eql (.t 12) (.t 14),some (10,true),[]⟩,
 y9 16 (.pick (.t 10) (.t 15) (.c (.bool false))),
 y9 17 (.mv (.t 16)),
 ⟨(some 18),.faddr 2 (.t 2),some (17,true),[]⟩,
 ⟨(some 19),.load false 1 (.t 18),some (17,true),[]⟩,
 ⟨(some 20),.faddr 2 (.t 3),some (17,true),[]⟩,
 ⟨(some 21),.load false 1 (.t 20),some (17,true),[]⟩,
 ⟨(some 22),.call 39 [(.t 19),(.t 21),(.c (.func 12 []))],some (17,true),[]⟩,
 y9 23 (.pick (.t 17) (.t 22) (.c (.bool false))),
 y9 4 (.mv (.t 23))] <|
 .ret
def c13 : AFun := .code 150 [.tmp 4] <|
 q9 [
 y9 2 (.box 40 (.t 0)),
 y9 3 (.box 40 (.t 1)),
 y9 4 (.mv (.c (.bool false)))] <|
 .seq (q9 [
 y9 7 (.faddr 0 (.t 2)),
 y9 8 (.load false 1 (.t 7)),
 y9 9 (.faddr 0 (.t 3)),
 y9 10 (.load false 1 (.t 9)),
 y9 11 (.bin .neq (.t 8) (.t 10)),
 y9 12 (.mv (.t 11)),
 ⟨(some 13),.faddr 1 (.t 2),some (12,false),[]⟩,
 ⟨(some 14),.load false 1 (.t 13),some (12,false),[]⟩,
 ⟨(some 15),.faddr 1 (.t 3),some (12,false),[]⟩,
 ⟨(some 16),.load false 1 (.t 15),some (12,false),[]⟩,
 ⟨(some 17),.bin .neq (.t 14) (.t 16),some (12,false),[]⟩,
 y9 18 (.pick (.t 12) (.c (.bool true)) (.t 17)),
 y9 19 (.mv (.t 18)),
 ⟨(some 20),.faddr 2 (.t 2),some (19,false),[]⟩,
 ⟨(some 21),.load false 1 (.t 20),some (19,false),[]⟩,
 ⟨(some 22),.faddr 2 (.t 3),some (19,false),[]⟩,
 ⟨(some 23),.load false 1 (.t 22),some (19,false),[]⟩,
 ⟨(some 24),.bin .neq (.t 21) (.t 23),some (19,false),[]⟩,
 y9 25 (.pick (.t 19) (.c (.bool true)) (.t 24)),
 y9 26 (.mv (.t 25)),
 ⟨(some 27),.faddr 17 (.t 2),some (26,false),[]⟩,
 ⟨(some 28),.load true 4 (.t 27),some (26,false),[]⟩,
 ⟨(some 29),.faddr 17 (.t 3),some (26,false),[]⟩,
 ⟨(some 30),.load true 4 (.t 29),some (26,false),[]⟩,
 ⟨(some 31),.eq true (.cells [2,0,2,0]) false (.t 28) (.t 30),some (26,false),[]⟩,
 y9 32 (.pick (.t 26) (.c (.bool true)) (.t 31)),
 y9 33 (.mv (.t 32)),
 ⟨(some 34),.faddr 21 (.t 2),some (33,false),[]⟩,
 ⟨(some 35),.load true 4 (.t 34),some (33,false),[]⟩,
 ⟨(some 36),.faddr 21 (.t 3),some (33,false),[]⟩,
 ⟨(some 37),.load true 4 (.t 36),some (33,false),[]⟩,
 ⟨(some 38),.eq true (.cells [0,2,2,0]) false (.t 35) (.t 37),some (33,false),[]⟩,
 y9 39 (.pick (.t 33) (.c (.bool true)) (.t 38)),
 y9 40 (.mv (.t 39)),
 ⟨(some 41),.faddr 25 (.t 2),some (40,false),[]⟩,
 ⟨(some 42),.load true 3 (.t 41),some (40,false),[]⟩,
 ⟨(some 43),.faddr 25 (.t 3),some (40,false),[]⟩,
 ⟨(some 44),.load true 3 (.t 43),some (40,false),[]⟩,
 ⟨(some 45),.eq true (.cells [2,2,0]) false (.t 42) (.t 44),some (40,false),[]⟩,
 y9 46 (.pick (.t 40) (.c (.bool true)) (.t 45)),
 y9 47 (.mv (.t 46)),
 ⟨(some 48),.faddr 33 (.t 2),some (47,false),[]⟩,
 ⟨(some 49),.load false 1 (.t 48),some (47,false),[]⟩,
 ⟨(some 50),.faddr 33 (.t 3),some (47,false),[]⟩,
 ⟨(some 51),.load false 1 (.t 50),some (47,false),[]⟩,
 ⟨(some 52),.bin .neq (.t 49) (.t 51),some (47,false),[]⟩,
 y9 53 (.pick (.t 47) (.c (.bool true)) (.t 52))] <|
 .cond (.t 53) (q9 [
 y9 4 (.mv (.c (.bool false)))] <|
 .ret) <|
 .skip) <|
 .seq (q9 [
 y9 54 (.faddr 4 (.t 2)),
 y9 55 (.load false 1 (.t 54)),
 y9 56 (.len false (.t 55)),
 y9 57 (.faddr 4 (.t 3)),
 y9 58 (.load false 1 (.t 57)),
 y9 59 (.len false (.t 58)),
 y9 60 (.bin .neq (.t 56) (.t 59)),
 y9 61 (.mv (.t 60)),
 ⟨(some 62),.faddr 34 (.t 2),some (61,false),[]⟩,
 ⟨(some 63),.load false 1 (.t 62),some (61,false),[]⟩,
 ⟨(some 64),.len false (.t 63),some (61,false),[]⟩,
 ⟨(some 65),.faddr 34 (.t 3),some (61,false),[]⟩,
 ⟨(some 66),.load false 1 (.t 65),some (61,false),[]⟩,
 ⟨(some 67),.len false (.t 66),some (61,false),[]⟩,
 ⟨(some 68),.bin .neq (.t 64) (.t 67),some (61,false),[]⟩,
 y9 69 (.pick (.t 61) (.c (.bool true)) (.t 68))] <|
 .cond (.t 69) (q9 [
 y9 4 (.mv (.c (.bool false)))] <|
 .ret) <|
 .skip) <|
 .seq (q9 [
 y9 5 (.mv (.c (.int .i64 0)))] <|
 .block 0 <| .loop <| .seq (q9 [
 y9 70 (.mv (.t 5)),
 y9 71 (.faddr 4 (.t 2)),
 y9 72 (.load false 1 (.t 71)),
 y9 73 (.len false (.t 72)),
 y9 74 (.bin .lss (.t 70) (.t 73))] <|
 .cond (.t 74) (.skip) <|
 .exit 0) <|
 .seq (.block 1 <| .seq (.region true [
 y9 77 (.faddr 4 (.t 2)),
 y9 78 (.load false 1 (.t 77)),
 y9 79 (.mv (.t 5)),
 y9 80 (.iaddr none 3 (.t 78) (.t 79)),
 y9 81 (.faddr 0 (.t 80)),
 y9 82 (.load false 1 (.t 81)),
 y9 83 (.faddr 4 (.t 3)),
 ⟨(some 84),.load false 1 (.t 83),none,[1,3,5]⟩,
 y9 85 (.mv (.t 5)),
 ⟨(some 86),.iaddr none 3 (.t 84) (.t 85),none,[1,3,5]⟩,
 y9 87 (.faddr 0 (.t 86)),
 ⟨(some 88),.load false 1 (.t 87),none,[1,3,5]⟩,
 y9 89 (.bin .neq (.t 82) (.t 88)),
 y9 90 (.mv (.t 89)),
 ⟨(some 91),.faddr 4 (.t 2),some (90,false),[]⟩,
 ⟨(some 92),.load false 1 (.t 91),some (90,false),[]⟩,
 ⟨(some 93),.mv (.t 5),some (90,false),[]⟩,
 ⟨(some 94),.iaddr none 3 (.t 92) (.t 93),some (90,false),[]⟩,
 ⟨(some 95),.faddr 1 (.t 94),some (90,false),[]⟩,
 ⟨(some 96),.load true 2 (.t 95),some (90,false),[]⟩,
 ⟨(some 97),.faddr 4 (.t 3),some (90,false),[]⟩,
 ⟨(some 98),.load false 1 (.t 97),some (90,false),[15,17,19]⟩,
 ⟨(some 99),.mv (.t 5),some (90,false),[]⟩,
 ⟨(some 100),.iaddr none 3 (.t 98) (.t 99),some (90,false),[15,17,19]⟩,
 ⟨(some 101),.faddr 1 (.t 100),some (90,false),[]⟩,
 ⟨(some 102),.load true 2 (.t 101),some (90,false),[15,17,19]⟩,
 ⟨(some 103),.call 40 [(.t 96),(.t 102)],some (90,false),[]⟩,
 ⟨(some 104),.un .not (.t 103),some (90,false),[]⟩,
 y9 105 (.pick (.t 90) (.c (.bool true)) (.t 104))]) <|
 .cond (.t 105) (q9 [
 y9 4 (.mv (.c (.bool false)))] <|
 .ret) <|
 .skip) <|
 .region false [
 y9 75 (.mv (.t 5)),
 y9 76 (.bin .add (.t 75) (.c (.int .i64 1))),
 y9 5 (.mv (.t 76))]) <|
 .seq (q9 [
 y9 6 (.mv (.c (.int .i64 0)))] <|
 .block 2 <| .loop <| .seq (q9 [
 y9 106 (.mv (.t 6)),
 y9 107 (.faddr 34 (.t 2)),
 y9 108 (.load false 1 (.t 107)),
 y9 109 (.len false (.t 108)),
 y9 110 (.bin .lss (.t 106) (.t 109))] <|
 .cond (.t 110) (.skip) <|
 .exit 2) <|
 .seq (.block 3 <| .seq (.region true [
 y9 113 (.faddr 34 (.t 2)),
 y9 114 (.load false 1 (.t 113)),
 y9 115 (.mv (.t 6)),
 y9 116 (.iaddr none 4 (.t 114) (.t 115)),
 y9 117 (.load true 4 (.t 116)),
 y9 118 (.faddr 34 (.t 3)),
 ⟨(some 119),.load false 1 (.t 118),none,[1,3,4]⟩,
 y9 120 (.mv (.t 6)),
 ⟨(some 121),.iaddr none 4 (.t 119) (.t 120),none,[1,3,4]⟩,
 ⟨(some 122),.load true 4 (.t 121),none,[1,3,4]⟩,
 y9 123 (.eq true (.cells [2,0,2,0]) false (.t 117) (.t 122))]) <|
 .cond (.t 123) (q9 [
 y9 4 (.mv (.c (.bool false)))] <|
 .ret) <|
 .skip) <|
 .region false [
 y9 111 (.mv (.t 6)),
 y9 112 (.bin .add (.t 111) (.c (.int .i64 1))),
 y9 6 (.mv (.t 112))]) <|
 q9 [
 y9 124 (.faddr 3 (.t 2)),
 y9 125 (.load false 1 (.t 124)),
 y9 126 (.faddr 3 (.t 3)),
 y9 127 (.load false 1 (.t 126)),
 y9 128 (.call 41 [(.t 125),(.t 127)]),
 y9 129 (.mv (.t 128)),
 ⟨(some 130),.faddr 5 (.t 2),some (129,true),[]⟩,
 ⟨(some 131),.load true 12 (.t 130),some (129,true),[]⟩,
 ⟨(some 132),.faddr 5 (.t 3),some (129,true),[]⟩,
 ⟨(some 133),.load true 12 (.t 132),some (129,true),[]⟩,
 ⟨(some 134),.call 42 [(.t 131),(.t 133)],some (129,true),[]⟩,
 y9 135 (.pick (.t 129) (.t 134) (.c (.bool false))),
 y9 136 (.mv (.t 135)),
 ⟨(some 137),.faddr 28 (.t 2),some (136,true),[]⟩,
 ⟨(some 138),.load true 4 (.t 137),some (136,true),[]⟩,
 ⟨(some 139),.faddr 28 (.t 3),some (136,true),[]⟩,
 ⟨(some 140),.load true 4 (.t 139),some (136,true),[]⟩,
 ⟨(some 141),.call 43 [(.t 138),(.t 140)],some (136,true),[]⟩,
 y9 142 (.pick (.t 136) (.t 141) (.c (.bool false))),
 y9 143 (.mv (.t 142)),
 ⟨(some 144),.faddr 32 (.t 2),some (143,true),[]⟩,
 ⟨(some 145),.load false 1 (.t 144),some (143,true),[]⟩,
 ⟨(some 146),.faddr 32 (.t 3),some (143,true),[]⟩,
 ⟨(some 147),.load false 1 (.t 146),some (143,true),[]⟩,
 ⟨(some 148),.call 44 [(.t 145),(.t 147)],some (143,true),[]⟩,
 y9 149 (.pick (.t 143) (.t 148) (.c (.bool false))),
 y9 4 (.mv (.t 149))] <|
 .ret
def c14 : AFun := .code 14 [.cell 2 true 35,.tmp 3] <|
 q9 [
 y9 1 (.box 45 (.t 0)),
 y9 2 (.alloc 40 [(.int .i64 0),(.int .i64 0),(.str []),(.slice [] .nil),(.slice [] .nil),(.int .i64 0),(.int .i64 0),(.int .i64 0),(.int .i64 0),(.bool false),(.int .i64 0),(.str []),(.str []),(.slice [] .nil),(.str []),(.slice [] .nil),(.slice [] .nil),(.str []),(.bool false),(.str []),(.bool false),(.bool false),(.str []),(.str []),(.bool false),(.str []),(.str []),(.bool false),(.int .i64 0),(.str []),(.str []),(.slice [] .nil),(.slice [] .nil),(.int .i64 0),(.slice [] .nil)]),
 y9 3 (.mv (.c (.int .i64 0)))] <|
 q9 [
 y9 7 (.load true 3 (.t 1)),
 y9 8 (.call 45 [(.t 7)]),
 y9 6 (.mv (.t 8)),
 y9 9 (.extract 0 (.t 6)),
 y9 10 (.extract 1 (.t 6)),
 y9 4 (.alloc 40 [(.int .i64 0),(.int .i64 0),(.str []),(.slice [] .nil),(.slice [] .nil),(.int .i64 0),(.int .i64 0),(.int .i64 0),(.int .i64 0),(.bool false),(.int .i64 0),(.str []),(.str []),(.slice [] .nil),(.str []),(.slice [] .nil),(.slice [] .nil),(.str []),(.bool false),(.str []),(.bool false),(.bool false),(.str []),(.str []),(.bool false),(.str []),(.str []),(.bool false),(.int .i64 0),(.str []),(.str []),(.slice [] .nil),(.slice [] .nil),(.int .i64 0),(.slice [] .nil)]),
 w9 (.store 35 (.t 4) (.t 9)),
 y9 5 (.mv (.t 10))] <|
 .seq (.region true [
 y9 11 (.load true 35 (.t 4)),
 y9 12 (.mv (.t 5)),
 ⟨(some 13),.call 37 [(.t 12)],none,[0]⟩,
 w9 (.store 35 (.t 2) (.t 11)),
 y9 3 (.mv (.t 13))]) <|
 .ret
def c15 : AFun := .code 11 [.tmp 2] <|
 q9 [
 y9 2 (.mv (.c (.bool false)))] <|
 q9 [
 y9 6 (.mv (.t 0)),
 y9 7 (.call 46 [(.t 6)]),
 y9 5 (.mv (.t 7)),
 y9 8 (.extract 0 (.t 5)),
 y9 9 (.extract 1 (.t 5)),
 y9 3 (.alloc 76 [(.bool false),(.bool false),(.bool false),(.bool false),(.bool false),(.int .i64 0),(.int .i64 0)]),
 w9 (.store 7 (.t 3) (.t 8)),
 y9 4 (.mv (.t 9))] <|
 q9 [
 y9 10 (.mv (.t 4)),
 y9 2 (.mv (.t 10))] <|
 .ret
def c16 : AFun := .code 5 [.cell 2 true 3] <|
 q9 [
 y9 1 (.box 45 (.t 0)),
 y9 2 (.alloc 45 [(.int .i64 0),(.str []),(.slice [] .nil)])] <|
 q9 [
 y9 3 (.load true 3 (.t 1)),
 y9 4 (.call 47 [(.t 3),(.c (.int .i64 13))]),
 w9 (.store 3 (.t 2) (.t 4))] <|
 .ret
def c17 : AFun := .code 69 [.cell 2 true 3,.tmp 3] <|
 q9 [
 y9 1 (.box 40 (.t 0)),
 y9 2 (.alloc 45 [(.int .i64 0),(.str []),(.slice [] .nil)]),
 y9 3 (.mv (.c (.int .i64 0)))] <|
 .seq (q9 [
 y9 7 (.load true 35 (.t 1)),
 y9 8 (.call 20 [(.t 7)]),
 y9 9 (.un .not (.t 8))] <|
 .cond (.t 9) (q9 [
 y9 10 (.build [(.int .i64 0),(.str []),(.slice [] .nil)] []),
 w9 (.store 3 (.t 2) (.t 10)),
 y9 3 (.mv (.c (.int .i64 120)))] <|
 .ret) <|
 .skip) <|
 q9 [
 y9 11 (.faddr 1 (.t 1)),
 y9 12 (.load false 1 (.t 11)),
 y9 13 (.bin .add (.c (.int .i64 96)) (.t 12)),
 y9 14 (.build [(.int .i64 0),(.str []),(.slice [] .nil)] [(0,1,(.t 13))]),
 y9 4 (.alloc 45 [(.int .i64 0),(.str []),(.slice [] .nil)]),
 w9 (.store 3 (.t 4) (.t 14))] <|
 .seq (q9 [
 y9 15 (.faddr 1 (.t 1)),
 y9 16 (.load false 1 (.t 15))] <|
 .block 0 <| q9 [
 y9 18 (.bin .eql (.t 16) (.c (.int .i64 4))),
 y9 17 (.mv (.t 18))] <|
 .cond (.t 17) (.seq (.region true [
 y9 19 (.faddr 2 (.t 1)),
 y9 20 (.load false 1 (.t 19)),
 y9 21 (.call 48 [(.t 20)]),
 y9 22 (.faddr 3 (.t 1)),
 ⟨(some 23),.load false 1 (.t 22),none,[1,2]⟩,
 y9 24 (.call 49 [(.t 23)]),
 y9 25 (.bslice false true 2 3 [(.int .i64 0),(.str []),(.slice [] .nil),(.int .i64 0),(.str []),(.slice [] .nil)] [(0,3,(.t 21)),(3,3,(.t 24))]),
 y9 26 (.faddr 2 (.t 4)),
 w9 (.store 1 (.t 26) (.t 25))]) <|
 q9 [
 y9 27 (.load true 3 (.t 4)),
 w9 (.store 3 (.t 2) (.t 27)),
 y9 3 (.mv (.c (.int .i64 0)))] <|
 .ret) <|
 q9 [
 y9 29 (.bin .eql (.t 16) (.c (.int .i64 19))),
 y9 28 (.mv (.t 29))] <|
 .cond (.t 28) (q9 [
 y9 30 (.faddr 32 (.t 1)),
 y9 31 (.load false 1 (.t 30)),
 y9 32 (.call 50 [(.c (.int .i64 115)),(.t 31)]),
 w9 (.store 3 (.t 2) (.t 32)),
 y9 3 (.mv (.c (.int .i64 0)))] <|
 .ret) <|
 q9 [
 y9 34 (.bin .eql (.t 16) (.c (.int .i64 25))),
 y9 33 (.mv (.t 34))] <|
 .cond (.t 33) (q9 [
 y9 35 (.faddr 25 (.t 1)),
 y9 36 (.load true 3 (.t 35)),
 y9 37 (.call 51 [(.t 36),(.c (.int .i64 128)),(.c (.int .i64 129))]),
 y9 38 (.faddr 2 (.t 4)),
 w9 (.store 1 (.t 38) (.t 37))] <|
 q9 [
 y9 39 (.load true 3 (.t 4)),
 w9 (.store 3 (.t 2) (.t 39)),
 y9 3 (.mv (.c (.int .i64 0)))] <|
 .ret) <|
 .skip) <|
 q9 [
 y9 41 (.faddr 28 (.t 1)),
 y9 42 (.load true 4 (.t 41)),
 y9 43 (.call 52 [(.t 42)]),
 y9 40 (.mv (.t 43)),
 y9 44 (.extract 0 (.t 40)),
 y9 45 (.extract 1 (.t 40)),
 y9 5 (.mv (.t 44)),
 y9 6 (.mv (.t 45))] <|
 q9 [
 y9 46 (.mv (.t 5)),
 y9 47 (.faddr 2 (.t 4)),
 w9 (.store 1 (.t 47) (.t 46))] <|
 .seq (q9 [
 y9 48 (.faddr 1 (.t 1)),
 y9 49 (.load false 1 (.t 48)),
 y9 50 (.bin .eql (.t 49) (.c (.int .i64 1)))] <|
 .cond (.t 50) (.region true [
 y9 51 (.faddr 2 (.t 4)),
 y9 52 (.load false 1 (.t 51)),
 y9 53 (.faddr 25 (.t 1)),
 ⟨(some 54),.load true 3 (.t 53),none,[1]⟩,
 ⟨(some 55),.call 51 [(.t 54),(.c (.int .i64 0)),(.c (.int .i64 135))],none,[1]⟩,
 y9 56 (.append 45 3 48 (.t 52) (.t 55)),
 y9 57 (.faddr 2 (.t 4)),
 w9 (.store 1 (.t 57) (.t 56))]) <|
 .skip) <|
 .seq (q9 [
 y9 58 (.faddr 1 (.t 1)),
 y9 59 (.load false 1 (.t 58)),
 y9 60 (.bin .eql (.t 59) (.c (.int .i64 24)))] <|
 .cond (.t 60) (.region true [
 y9 61 (.faddr 2 (.t 4)),
 y9 62 (.load false 1 (.t 61)),
 y9 63 (.faddr 25 (.t 1)),
 ⟨(some 64),.load true 3 (.t 63),none,[1]⟩,
 ⟨(some 65),.call 51 [(.t 64),(.c (.int .i64 138)),(.c (.int .i64 139))],none,[1]⟩,
 y9 66 (.append 45 3 48 (.t 62) (.t 65)),
 y9 67 (.faddr 2 (.t 4)),
 w9 (.store 1 (.t 67) (.t 66))]) <|
 .skip) <|
 q9 [
 y9 68 (.load true 3 (.t 4)),
 w9 (.store 3 (.t 2) (.t 68)),
 y9 3 (.mv (.c (.int .i64 0)))] <|
 .ret
def c18 : AFun := .code 24 [.cell 2 true 35,.tmp 3] <|
 q9 [
 y9 1 (.box 45 (.t 0)),
 y9 2 (.alloc 40 [(.int .i64 0),(.int .i64 0),(.str []),(.slice [] .nil),(.slice [] .nil),(.int .i64 0),(.int .i64 0),(.int .i64 0),(.int .i64 0),(.bool false),(.int .i64 0),(.str []),(.str []),(.slice [] .nil),(.str []),(.slice [] .nil),(.slice [] .nil),(.str []),(.bool false),(.str []),(.bool false),(.bool false),(.str []),(.str []),(.bool false),(.str []),(.str []),(.bool false),(.int .i64 0),(.str []),(.str []),(.slice [] .nil),(.slice [] .nil),(.int .i64 0),(.slice [] .nil)]),
 y9 3 (.mv (.c (.int .i64 0)))] <|
 q9 [
 y9 7 (.load true 3 (.t 1)),
 y9 8 (.call 53 [(.t 7)]),
 y9 4 (.alloc 40 [(.int .i64 0),(.int .i64 0),(.str []),(.slice [] .nil),(.slice [] .nil),(.int .i64 0),(.int .i64 0),(.int .i64 0),(.int .i64 0),(.bool false),(.int .i64 0),(.str []),(.str []),(.slice [] .nil),(.str []),(.slice [] .nil),(.slice [] .nil),(.str []),(.bool false),(.str []),(.bool false),(.bool false),(.str []),(.str []),(.bool false),(.str []),(.str []),(.bool false),(.int .i64 0),(.str []),(.str []),(.slice [] .nil),(.slice [] .nil),(.int .i64 0),(.slice [] .nil)]),
 w9 (.store 35 (.t 4) (.t 8))] <|
 q9 [
 y9 10 (.load true 35 (.t 4)),
 y9 11 (.call 17 [(.t 10)]),
 y9 9 (.mv (.t 11)),
 y9 12 (.extract 0 (.t 9)),
 y9 13 (.extract 1 (.t 9)),
 y9 5 (.alloc 45 [(.int .i64 0),(.str []),(.slice [] .nil)]),
 w9 (.store 3 (.t 5) (.t 12)),
 y9 6 (.mv (.t 13))] <|
 .seq (q9 [
 y9 14 (.mv (.t 6)),
 y9 15 (.bin .neq (.t 14) (.c (.int .i64 0))),
 y9 16 (.mv (.t 15)),
 ⟨(some 17),.load true 3 (.t 1),some (16,false),[]⟩,
 ⟨(some 18),.load true 3 (.t 5),some (16,false),[]⟩,
 ⟨(some 19),.call 21 [(.t 17),(.t 18)],some (16,false),[]⟩,
 ⟨(some 20),.un .not (.t 19),some (16,false),[]⟩,
 y9 21 (.pick (.t 16) (.c (.bool true)) (.t 20))] <|
 .cond (.t 21) (q9 [
 y9 22 (.build [(.int .i64 0),(.int .i64 0),(.str []),(.slice [] .nil),(.slice [] .nil),(.int .i64 0),(.int .i64 0),(.int .i64 0),(.int .i64 0),(.bool false),(.int .i64 0),(.str []),(.str []),(.slice [] .nil),(.str []),(.slice [] .nil),(.slice [] .nil),(.str []),(.bool false),(.str []),(.bool false),(.bool false),(.str []),(.str []),(.bool false),(.str []),(.str []),(.bool false),(.int .i64 0),(.str []),(.str []),(.slice [] .nil),(.slice [] .nil),(.int .i64 0),(.slice [] .nil)] []),
 w9 (.store 35 (.t 2) (.t 22)),
 y9 3 (.mv (.c (.int .i64 120)))] <|
 .ret) <|
 .skip) <|
 q9 [
 y9 23 (.load true 35 (.t 4)),
 w9 (.store 35 (.t 2) (.t 23)),
 y9 3 (.mv (.c (.int .i64 0)))] <|
 .ret
def c19 : AFun := .code 12 [.tmp 2] <|
 q9 [
 y9 1 (.box 40 (.t 0)),
 y9 2 (.mv (.c (.bool false)))] <|
 q9 [
 y9 6 (.load true 35 (.t 1)),
 y9 7 (.call 36 [(.t 6)]),
 y9 5 (.mv (.t 7)),
 y9 8 (.extract 0 (.t 5)),
 y9 9 (.extract 1 (.t 5)),
 y9 3 (.alloc 78 [(.int .i64 0),(.int .i64 0),(.str []),(.slice [] .nil),(.slice [] .nil),(.int .i64 0),(.int .i64 0),(.int .i64 0),(.int .i64 0),(.bool false),(.int .i64 0),(.str []),(.str []),(.slice [] .nil),(.str []),(.slice [] .nil),(.slice [] .nil),(.str []),(.bool false),(.str []),(.bool false),(.bool false),(.str []),(.str []),(.bool false),(.str []),(.str []),(.bool false),(.int .i64 0),(.str []),(.str []),(.slice [] .nil),(.slice [] .nil),(.int .i64 0),(.slice [] .nil),(.bool false),(.bool false),(.bool false),(.bool false),(.bool false),(.int .i64 0),(.int .i64 0)]),
 w9 (.store 42 (.t 3) (.t 8)),
 y9 4 (.mv (.t 9))] <|
 q9 [
 y9 10 (.mv (.t 4)),
 y9 11 (.eq false (.iface [15,127,157,165,234,252,336,354,360,378,420,427,428]) true (.t 10) (.c .nilIface)),
 y9 2 (.mv (.t 11))] <|
 .ret
def c20 : AFun := .code 57 [.tmp 2] <|
 q9 [
 y9 1 (.box 40 (.t 0)),
 y9 2 (.mv (.c (.bool false)))] <|
 .seq (.seq (.region true [
 y9 3 (.faddr 1 (.t 1)),
 y9 4 (.load false 1 (.t 3)),
 y9 5 (.call 22 [(.t 4)]),
 y9 6 (.un .not (.t 5)),
 y9 7 (.mv (.t 6)),
 ⟨(some 8),.load true 35 (.t 1),some (7,false),[]⟩,
 ⟨(some 9),.load true 35 (.t 1),some (7,false),[5]⟩,
 ⟨(some 10),.call 54 [(.t 9)],some (7,false),[5]⟩,
 ⟨(some 11),.call 13 [(.t 8),(.t 10)],some (7,false),[]⟩,
 ⟨(some 12),.un .not (.t 11),some (7,false),[]⟩,
 y9 13 (.pick (.t 7) (.c (.bool true)) (.t 12)),
 y9 14 (.mv (.t 13)),
 ⟨(some 15),.faddr 28 (.t 1),some (14,false),[]⟩,
 ⟨(some 16),.load true 4 (.t 15),some (14,false),[]⟩,
 ⟨(some 17),.call 55 [(.t 16)],some (14,false),[]⟩,
 ⟨(some 18),.un .not (.t 17),some (14,false),[]⟩,
 y9 19 (.pick (.t 14) (.c (.bool true)) (.t 18)),
 y9 20 (.mv (.t 19)),
 ⟨(some 21),.faddr 2 (.t 1),some (20,false),[]⟩,
 ⟨(some 22),.load false 1 (.t 21),some (20,false),[]⟩,
 ⟨(some 23),.call 56 [(.t 22)],some (20,false),[]⟩,
 ⟨(some 24),.un .not (.t 23),some (20,false),[]⟩,
 y9 25 (.pick (.t 20) (.c (.bool true)) (.t 24)),
 y9 26 (.mv (.t 25)),
 ⟨(some 27),.faddr 25 (.t 1),some (26,false),[]⟩,
 ⟨(some 28),.faddr 1 (.t 27),some (26,false),[]⟩,
 ⟨(some 29),.load false 1 (.t 28),some (26,false),[]⟩,
 ⟨(some 30),.faddr 25 (.t 1),some (26,false),[]⟩,
 ⟨(some 31),.faddr 2 (.t 30),some (26,false),[]⟩,
 ⟨(some 32),.load false 1 (.t 31),some (26,false),[26]⟩,
 ⟨(some 33),.call 57 [(.t 29),(.t 32)],some (26,false),[]⟩,
 ⟨(some 34),.un .not (.t 33),some (26,false),[]⟩,
 y9 35 (.pick (.t 26) (.c (.bool true)) (.t 34))]) <|
 .cond (.t 35) (q9 [
 y9 2 (.mv (.c (.bool false)))] <|
 .ret) <|
 .skip) <|
 .seq (q9 [
 y9 36 (.faddr 1 (.t 1)),
 y9 37 (.load false 1 (.t 36)),
 y9 38 (.bin .eql (.t 37) (.c (.int .i64 19)))] <|
 .cond (.t 38) (q9 [
 y9 39 (.faddr 32 (.t 1)),
 y9 40 (.load false 1 (.t 39)),
 y9 41 (.call 58 [(.t 40),(.c (.int .i64 1))]),
 y9 2 (.mv (.t 41))] <|
 .ret) <|
 .skip) <|
 q9 [
 y9 42 (.faddr 25 (.t 1)),
 y9 43 (.faddr 0 (.t 42)),
 y9 44 (.load false 1 (.t 43)),
 y9 45 (.bin .eql (.t 44) (.c (.str []))),
 y9 46 (.mv (.t 45)),
 ⟨(some 47),.faddr 25 (.t 1),some (46,false),[]⟩,
 ⟨(some 48),.faddr 0 (.t 47),some (46,false),[]⟩,
 ⟨(some 49),.load false 1 (.t 48),some (46,false),[]⟩,
 ⟨(some 50),.call 59 [(.t 49)],some (46,false),[]⟩,
 y9 51 (.pick (.t 46) (.c (.bool true)) (.t 50)),
 y9 52 (.mv (.t 51)),
 ⟨(some 53),.faddr 3 (.t 1),some (52,true),[]⟩,
 ⟨(some 54),.load false 1 (.t 53),some (52,true),[]⟩,
 ⟨(some 55),.call 60 [(.t 54),(.c (.int .i64 0)),(.c (.int .i64 0))],some (52,true),[]⟩,
 y9 56 (.pick (.t 52) (.t 55) (.c (.bool false))),
 y9 2 (.mv (.t 56))] <|
 .ret
def c21 : AFun := .code 46 [.tmp 4] <|
 q9 [
 y9 2 (.box 45 (.t 0)),
 y9 3 (.box 45 (.t 1)),
 y9 4 (.mv (.c (.bool false)))] <|
 .seq (q9 [
 y9 6 (.faddr 0 (.t 2)),
 y9 7 (.load false 1 (.t 6)),
 y9 8 (.faddr 0 (.t 3)),
 y9 9 (.load false 1 (.t 8)),
 y9 10 (.bin .neq (.t 7) (.t 9)),
 y9 11 (.mv (.t 10)),
 ⟨(some 12),.faddr 1 (.t 2),some (11,false),[]⟩,
 ⟨(some 13),.load false 1 (.t 12),some (11,false),[]⟩,
 ⟨(some 14),.faddr 1 (.t 3),some (11,false),[]⟩,
 ⟨(some 15),.load false 1 (.t 14),some (11,false),[]⟩,
 ⟨(some 16),.bin .neq (.t 13) (.t 15),some (11,false),[]⟩,
 y9 17 (.pick (.t 11) (.c (.bool true)) (.t 16)),
 y9 18 (.mv (.t 17)),
 ⟨(some 19),.faddr 2 (.t 2),some (18,false),[]⟩,
 ⟨(some 20),.load false 1 (.t 19),some (18,false),[]⟩,
 ⟨(some 21),.len false (.t 20),some (18,false),[]⟩,
 ⟨(some 22),.faddr 2 (.t 3),some (18,false),[]⟩,
 ⟨(some 23),.load false 1 (.t 22),some (18,false),[]⟩,
 ⟨(some 24),.len false (.t 23),some (18,false),[]⟩,
 ⟨(some 25),.bin .neq (.t 21) (.t 24),some (18,false),[]⟩,
 y9 26 (.pick (.t 18) (.c (.bool true)) (.t 25))] <|
 .cond (.t 26) (q9 [
 y9 4 (.mv (.c (.bool false)))] <|
 .ret) <|
 .skip) <|
 .seq (q9 [
 y9 5 (.mv (.c (.int .i64 0)))] <|
 .block 0 <| .loop <| .seq (q9 [
 y9 27 (.mv (.t 5)),
 y9 28 (.faddr 2 (.t 2)),
 y9 29 (.load false 1 (.t 28)),
 y9 30 (.len false (.t 29)),
 y9 31 (.bin .lss (.t 27) (.t 30))] <|
 .cond (.t 31) (.skip) <|
 .exit 0) <|
 .seq (.block 1 <| .seq (.region true [
 y9 34 (.faddr 2 (.t 2)),
 y9 35 (.load false 1 (.t 34)),
 y9 36 (.mv (.t 5)),
 y9 37 (.iaddr none 3 (.t 35) (.t 36)),
 y9 38 (.load true 3 (.t 37)),
 y9 39 (.faddr 2 (.t 3)),
 ⟨(some 40),.load false 1 (.t 39),none,[1,3,4]⟩,
 y9 41 (.mv (.t 5)),
 ⟨(some 42),.iaddr none 3 (.t 40) (.t 41),none,[1,3,4]⟩,
 ⟨(some 43),.load true 3 (.t 42),none,[1,3,4]⟩,
 y9 44 (.call 21 [(.t 38),(.t 43)]),
 y9 45 (.un .not (.t 44))]) <|
 .cond (.t 45) (q9 [
 y9 4 (.mv (.c (.bool false)))] <|
 .ret) <|
 .skip) <|
 .region false [
 y9 32 (.mv (.t 5)),
 y9 33 (.bin .add (.t 32) (.c (.int .i64 1))),
 y9 5 (.mv (.t 33))]) <|
 q9 [
 y9 4 (.mv (.c (.bool true)))] <|
 .ret
def c22 : AFun := .code 17 [.tmp 2] <|
 q9 [
 y9 2 (.mv (.c (.bool false)))] <|
 q9 [
 y9 3 (.mv (.t 0)),
 y9 4 (.call 61 [(.t 3)]),
 y9 5 (.mv (.t 4)),
 ⟨(some 6),.mv (.t 0),some (5,false),[]⟩,
 ⟨(some 7),.bin .eql (.t 6) (.c (.int .i64 4)),some (5,false),[]⟩,
 y9 8 (.pick (.t 5) (.c (.bool true)) (.t 7)),
 y9 9 (.mv (.t 8)),
 ⟨(some 10),.mv (.t 0),some (9,false),[]⟩,
 ⟨(some 11),.bin .eql (.t 10) (.c (.int .i64 19)),some (9,false),[]⟩,
 y9 12 (.pick (.t 9) (.c (.bool true)) (.t 11)),
 y9 13 (.mv (.t 12)),
 ⟨(some 14),.mv (.t 0),some (13,false),[]⟩,
 ⟨(some 15),.bin .eql (.t 14) (.c (.int .i64 25)),some (13,false),[]⟩,
 y9 16 (.pick (.t 13) (.c (.bool true)) (.t 15)),
 y9 2 (.mv (.t 16))] <|
 .ret
def c23 : AFun := .code 13 [.tmp 2] <|
 q9 [
 y9 2 (.mv (.c (.int .i64 0)))] <|
 .seq (q9 [
 y9 6 (.call 62 []),
 y9 7 (.mv (.t 0)),
 y9 8 (.lookup 1 (.int .i64 0) true (.t 6) (.t 7)),
 y9 5 (.mv (.t 8)),
 y9 9 (.extract 0 (.t 5)),
 y9 10 (.extract 1 (.t 5)),
 y9 3 (.mv (.t 9)),
 y9 4 (.mv (.t 10))] <|
 q9 [
 y9 11 (.mv (.t 4))] <|
 .cond (.t 11) (q9 [
 y9 12 (.mv (.t 3)),
 y9 2 (.mv (.t 12))] <|
 .ret) <|
 .skip) <|
 q9 [
 y9 2 (.mv (.c (.int .i64 (-1))))] <|
 .ret
def c24 : AFun := .code 16 [.tmp 2] <|
 q9 [
 y9 2 (.mv (.c (.int .i64 0)))] <|
 .seq (q9 [
 y9 3 (.mv (.t 0))] <|
 .block 0 <| .seq (q9 [
 y9 5 (.bin .eql (.t 3) (.c (.int .i64 0))),
 y9 4 (.mv (.t 5))] <|
 .cond (.t 4) (.skip) <|
 q9 [
 y9 6 (.bin .eql (.t 3) (.c (.int .i64 6))),
 y9 4 (.mv (.t 6))] <|
 .cond (.t 4) (.skip) <|
 q9 [
 y9 7 (.bin .eql (.t 3) (.c (.int .i64 8))),
 y9 4 (.mv (.t 7))] <|
 .cond (.t 4) (.skip) <|
 q9 [
 y9 8 (.bin .eql (.t 3) (.c (.int .i64 10))),
 y9 4 (.mv (.t 8))] <|
 .cond (.t 4) (.skip) <|
 q9 [
 y9 9 (.bin .eql (.t 3) (.c (.int .i64 12))),
 y9 4 (.mv (.t 9))] <|
 .cond (.t 4) (.skip) <|
 q9 [
 y9 10 (.bin .eql (.t 3) (.c (.int .i64 14))),
 y9 4 (.mv (.t 10))] <|
 .cond (.t 4) (.skip) <|
 .region false [
 y9 11 (.bin .eql (.t 3) (.c (.int .i64 23))),
 y9 4 (.mv (.t 11))]) <|
 .cond (.t 4) (q9 [
 y9 12 (.mv (.t 0)),
 y9 13 (.bin .add (.t 12) (.c (.int .i64 1))),
 y9 2 (.mv (.t 13))] <|
 .ret) <|
 q9 [
 y9 15 (.bin .eql (.t 3) (.c (.int .i64 3))),
 y9 14 (.mv (.t 15))] <|
 .cond (.t 14) (q9 [
 y9 2 (.mv (.c (.int .i64 5)))] <|
 .ret) <|
 .skip) <|
 q9 [
 y9 2 (.mv (.c (.int .i64 (-1))))] <|
 .ret
def c25 : AFun := .code 12 [.tmp 2] <|
 q9 [
 y9 2 (.mv (.c (.bool false)))] <|
 q9 [
 y9 6 (.call 63 []),
 y9 7 (.mv (.t 0)),
 y9 8 (.lookup 1 .nilFunc true (.t 6) (.t 7)),
 y9 5 (.mv (.t 8)),
 y9 9 (.extract 0 (.t 5)),
 y9 10 (.extract 1 (.t 5)),
 y9 3 (.mv (.t 9)),
 y9 4 (.mv (.t 10))] <|
 q9 [
 y9 11 (.mv (.t 4)),
 y9 2 (.mv (.t 11))] <|
 .ret
def c26 : AFun := .code 14 [.cell 2 true 35,.tmp 3] <|
 q9 [
 y9 1 (.box 45 (.t 0)),
 y9 2 (.alloc 40 [(.int .i64 0),(.int .i64 0),(.str []),(.slice [] .nil),(.slice [] .nil),(.int .i64 0),(.int .i64 0),(.int .i64 0),(.int .i64 0),(.bool false),(.int .i64 0),(.str []),(.str []),(.slice [] .nil),(.str []),(.slice [] .nil),(.slice [] .nil),(.str []),(.bool false),(.str []),(.bool false),(.bool false),(.str []),(.str []),(.bool false),(.str []),(.str []),(.bool false),(.int .i64 0),(.str []),(.str []),(.slice [] .nil),(.slice [] .nil),(.int .i64 0),(.slice [] .nil)]),
 y9 3 (.mv (.c (.int .i64 0)))] <|
 q9 [
 y9 7 (.load true 3 (.t 1)),
 y9 8 (.call 64 [(.t 7)]),
 y9 6 (.mv (.t 8)),
 y9 9 (.extract 0 (.t 6)),
 y9 10 (.extract 1 (.t 6)),
 y9 4 (.alloc 40 [(.int .i64 0),(.int .i64 0),(.str []),(.slice [] .nil),(.slice [] .nil),(.int .i64 0),(.int .i64 0),(.int .i64 0),(.int .i64 0),(.bool false),(.int .i64 0),(.str []),(.str []),(.slice [] .nil),(.str []),(.slice [] .nil),(.slice [] .nil),(.str []),(.bool false),(.str []),(.bool false),(.bool false),(.str []),(.str []),(.bool false),(.str []),(.str []),(.bool false),(.int .i64 0),(.str []),(.str []),(.slice [] .nil),(.slice [] .nil),(.int .i64 0),(.slice [] .nil)]),
 w9 (.store 35 (.t 4) (.t 9)),
 y9 5 (.mv (.t 10))] <|
 .seq (.region true [
 y9 11 (.load true 35 (.t 4)),
 y9 12 (.mv (.t 5)),
 ⟨(some 13),.call 65 [(.t 12)],none,[0]⟩,
 w9 (.store 35 (.t 2) (.t 11)),
 y9 3 (.mv (.t 13))]) <|
 .ret
def c27 : AFun := .code 7 [.tmp 2] <|
 q9 [
 y9 1 (.box 40 (.t 0)),
 y9 2 (.mv (.c (.bool false)))] <|
 q9 [
 y9 3 (.load true 35 (.t 1)),
 y9 4 (.build [(.int .i64 0),(.int .i64 0),(.str []),(.slice [] .nil),(.slice [] .nil),(.int .i64 0),(.int .i64 0),(.int .i64 0),(.int .i64 0),(.bool false),(.int .i64 0),(.str []),(.str []),(.slice [] .nil),(.str []),(.slice [] .nil),(.slice [] .nil),(.str []),(.bool false),(.str []),(.bool false),(.bool false),(.str []),(.str []),(.bool false),(.str []),(.str []),(.bool false),(.int .i64 0),(.str []),(.str []),(.slice [] .nil),(.slice [] .nil),(.int .i64 0),(.slice [] .nil)] [(0,35,(.t 3))]),
 y9 5 (.call 66 [(.t 4)]),
 y9 6 (.eq false (.iface [15,127,157,165,234,252,336,354,360,378,420,427,428]) true (.t 5) (.c .nilIface)),
 y9 2 (.mv (.t 6))] <|
 .ret
def c28 : AFun := .code 13 [.tmp 2,.tmp 3] <|
 q9 [
 y9 1 (.box 45 (.t 0)),
 y9 2 (.mv (.c (.str []))),
 y9 3 (.mv (.c (.int .i64 0)))] <|
 .seq (q9 [
 y9 4 (.load true 3 (.t 1)),
 y9 5 (.call 67 [(.t 4)]),
 y9 6 (.un .not (.t 5))] <|
 .cond (.t 6) (q9 [
 y9 7 (.load false 1 (.c (.ptr 0 0))),
 y9 8 (.build [(.int .i64 0),.nilIface] [(0,1,(.c (.int .i64 0))),(1,1,(.t 7))]),
 y9 9 (.mkif 120 (.t 8)),
 y9 10 (.call 68 [(.t 9)]),
 y9 2 (.mv (.c (.str []))),
 y9 3 (.mv (.t 10))] <|
 .ret) <|
 .skip) <|
 q9 [
 y9 11 (.load true 3 (.t 1)),
 y9 12 (.call 69 [(.t 11)]),
 y9 2 (.mv (.t 12)),
 y9 3 (.mv (.c (.int .i64 0)))] <|
 .ret
def c29 : AFun := .code 8 [.tmp 2] <|
 q9 [
 y9 2 (.mv (.c (.str [])))] <|
 q9 [
 y9 3 (.mv (.t 0)),
 y9 4 (.mv (.t 0)),
 y9 5 (.len true (.t 4)),
 y9 6 (.min2 false (.t 5) (.c (.int .i64 201))),
 y9 7 (.slice true 1 (.t 3) none (some (.t 6)) none),
 y9 2 (.mv (.t 7))] <|
 .ret
def c30 : AFun := .code 10 [.cell 2 true 2] <|
 q9 [
 y9 1 (.box 64 (.t 0)),
 y9 2 (.alloc 64 [(.str []),(.slice [] .nil)])] <|
 .seq (.region true [
 y9 3 (.faddr 0 (.t 1)),
 y9 4 (.load false 1 (.t 3)),
 y9 5 (.call 70 [(.t 4),(.c (.int .i64 61))]),
 y9 6 (.faddr 1 (.t 1)),
 ⟨(some 7),.load false 1 (.t 6),none,[1,2]⟩,
 y9 8 (.call 34 [(.t 7)]),
 y9 9 (.build [(.str []),(.slice [] .nil)] [(0,1,(.t 5)),(1,1,(.t 8))]),
 w9 (.store 2 (.t 2) (.t 9))]) <|
 .ret
def c31 : AFun := .code 9 [.cell 2 true 3] <|
 q9 [
 y9 1 (.box 67 (.t 0)),
 y9 2 (.alloc 67 [(.int .i64 0),(.str []),(.slice [] .nil)])] <|
 .seq (.region true [
 y9 3 (.faddr 0 (.t 1)),
 y9 4 (.load false 1 (.t 3)),
 y9 5 (.faddr 1 (.t 1)),
 ⟨(some 6),.load true 2 (.t 5),none,[1]⟩,
 ⟨(some 7),.call 30 [(.t 6)],none,[1]⟩,
 y9 8 (.build [(.int .i64 0),(.str []),(.slice [] .nil)] [(0,1,(.t 4)),(1,2,(.t 7))]),
 w9 (.store 3 (.t 2) (.t 8))]) <|
 .ret
def c32 : AFun := .code 12 [.cell 2 true 4] <|
 q9 [
 y9 1 (.box 70 (.t 0)),
 y9 2 (.alloc 70 [(.str []),(.bool false),(.str []),(.bool false)])] <|
 q9 [
 y9 3 (.faddr 0 (.t 1)),
 y9 4 (.load false 1 (.t 3)),
 y9 5 (.call 70 [(.t 4),(.c (.int .i64 40))]),
 y9 6 (.faddr 0 (.t 1)),
 w9 (.store 1 (.t 6) (.t 5))] <|
 q9 [
 y9 7 (.faddr 2 (.t 1)),
 y9 8 (.load false 1 (.t 7)),
 y9 9 (.call 70 [(.t 8),(.c (.int .i64 201))]),
 y9 10 (.faddr 2 (.t 1)),
 w9 (.store 1 (.t 10) (.t 9))] <|
 q9 [
 y9 11 (.load true 4 (.t 1)),
 w9 (.store 4 (.t 2) (.t 11))] <|
 .ret
def c33 : AFun := .code 5 [.cell 2 true 6] <|
 q9 [
 y9 1 (.box 27 (.t 0)),
 y9 2 (.alloc 27 [(.int .i64 0),(.str []),(.str []),(.slice [] .nil),(.str []),(.slice [] .nil)])] <|
 q9 [
 y9 3 (.load true 6 (.t 1)),
 y9 4 (.call 71 [(.t 3),(.c (.int .i64 8))]),
 w9 (.store 6 (.t 2) (.t 4))] <|
 .ret
def c34 : AFun := .code 24 [.tmp 2] <|
 q9 [
 y9 2 (.mv (.c (.slice [] .nil)))] <|
 q9 [
 y9 3 (.mv (.c (.slice [] .nil)))] <|
 .seq (q9 [
 y9 4 (.mv (.c (.int .i64 0)))] <|
 .block 0 <| .loop <| .seq (q9 [
 y9 5 (.mv (.t 4)),
 y9 6 (.mv (.t 0)),
 y9 7 (.len false (.t 6)),
 y9 8 (.bin .lss (.t 5) (.t 7)),
 y9 9 (.mv (.t 8)),
 ⟨(some 10),.mv (.t 4),some (9,true),[]⟩,
 ⟨(some 11),.bin .lss (.t 10) (.c (.int .i64 8)),some (9,true),[]⟩,
 y9 12 (.pick (.t 9) (.t 11) (.c (.bool false)))] <|
 .cond (.t 12) (.skip) <|
 .exit 0) <|
 .seq (.block 1 <| .region false [
 y9 15 (.mv (.t 3)),
 y9 16 (.mv (.t 0)),
 y9 17 (.mv (.t 4)),
 y9 18 (.iaddr none 1 (.t 16) (.t 17)),
 y9 19 (.load false 1 (.t 18)),
 y9 20 (.call 70 [(.t 19),(.c (.int .i64 201))]),
 y9 21 (.bslice false false 1 1 [(.str [])] [(0,1,(.t 20))]),
 y9 22 (.append 9 1 16 (.t 15) (.t 21)),
 y9 3 (.mv (.t 22))]) <|
 .region false [
 y9 13 (.mv (.t 4)),
 y9 14 (.bin .add (.t 13) (.c (.int .i64 1))),
 y9 4 (.mv (.t 14))]) <|
 q9 [
 y9 23 (.mv (.t 3)),
 y9 2 (.mv (.t 23))] <|
 .ret
def c35 : AFun := .code 15 [.cell 2 true 4] <|
 q9 [
 y9 1 (.box 37 (.t 0)),
 y9 2 (.alloc 37 [(.int .i64 0),(.str []),(.str []),(.slice [] .nil)])] <|
 .seq (.region true [
 y9 3 (.faddr 0 (.t 1)),
 y9 4 (.load false 1 (.t 3)),
 y9 5 (.faddr 1 (.t 1)),
 ⟨(some 6),.load false 1 (.t 5),none,[1]⟩,
 ⟨(some 7),.call 70 [(.t 6),(.c (.int .i64 201))],none,[1]⟩,
 y9 8 (.faddr 2 (.t 1)),
 ⟨(some 9),.load false 1 (.t 8),none,[1,3,4]⟩,
 ⟨(some 10),.call 70 [(.t 9),(.c (.int .i64 61))],none,[1]⟩,
 y9 11 (.faddr 3 (.t 1)),
 ⟨(some 12),.load false 1 (.t 11),none,[1,3,4,6,7]⟩,
 ⟨(some 13),.call 34 [(.t 12)],none,[1]⟩,
 y9 14 (.build [(.int .i64 0),(.str []),(.str []),(.slice [] .nil)] [(0,1,(.t 4)),(1,1,(.t 7)),(2,1,(.t 10)),(3,1,(.t 13))]),
 w9 (.store 4 (.t 2) (.t 14))]) <|
 .ret
def c36 : AFun := .code 34 [.cell 2 true 42,.tmp 3] <|
 q9 [
 y9 1 (.box 40 (.t 0)),
 y9 2 (.alloc 78 [(.int .i64 0),(.int .i64 0),(.str []),(.slice [] .nil),(.slice [] .nil),(.int .i64 0),(.int .i64 0),(.int .i64 0),(.int .i64 0),(.bool false),(.int .i64 0),(.str []),(.str []),(.slice [] .nil),(.str []),(.slice [] .nil),(.slice [] .nil),(.str []),(.bool false),(.str []),(.bool false),(.bool false),(.str []),(.str []),(.bool false),(.str []),(.str []),(.bool false),(.int .i64 0),(.str []),(.str []),(.slice [] .nil),(.slice [] .nil),(.int .i64 0),(.slice [] .nil),(.bool false),(.bool false),(.bool false),(.bool false),(.bool false),(.int .i64 0),(.int .i64 0)]),
 y9 3 (.mv (.c .nilIface))] <|
 q9 [
 y9 8 (.faddr 1 (.t 1)),
 y9 9 (.load false 1 (.t 8)),
 y9 10 (.call 46 [(.t 9)]),
 y9 7 (.mv (.t 10)),
 y9 11 (.extract 0 (.t 7)),
 y9 12 (.extract 1 (.t 7)),
 y9 4 (.alloc 76 [(.bool false),(.bool false),(.bool false),(.bool false),(.bool false),(.int .i64 0),(.int .i64 0)]),
 w9 (.store 7 (.t 4) (.t 11)),
 y9 5 (.mv (.t 12))] <|
 q9 [
 y9 13 (.load true 35 (.t 1)),
 y9 14 (.load true 7 (.t 4)),
 y9 15 (.build [(.int .i64 0),(.int .i64 0),(.str []),(.slice [] .nil),(.slice [] .nil),(.int .i64 0),(.int .i64 0),(.int .i64 0),(.int .i64 0),(.bool false),(.int .i64 0),(.str []),(.str []),(.slice [] .nil),(.str []),(.slice [] .nil),(.slice [] .nil),(.str []),(.bool false),(.str []),(.bool false),(.bool false),(.str []),(.str []),(.bool false),(.str []),(.str []),(.bool false),(.int .i64 0),(.str []),(.str []),(.slice [] .nil),(.slice [] .nil),(.int .i64 0),(.slice [] .nil),(.bool false),(.bool false),(.bool false),(.bool false),(.bool false),(.int .i64 0),(.int .i64 0)] [(0,35,(.t 13)),(35,7,(.t 14))]),
 y9 6 (.alloc 78 [(.int .i64 0),(.int .i64 0),(.str []),(.slice [] .nil),(.slice [] .nil),(.int .i64 0),(.int .i64 0),(.int .i64 0),(.int .i64 0),(.bool false),(.int .i64 0),(.str []),(.str []),(.slice [] .nil),(.str []),(.slice [] .nil),(.slice [] .nil),(.str []),(.bool false),(.str []),(.bool false),(.bool false),(.str []),(.str []),(.bool false),(.str []),(.str []),(.bool false),(.int .i64 0),(.str []),(.str []),(.slice [] .nil),(.slice [] .nil),(.int .i64 0),(.slice [] .nil),(.bool false),(.bool false),(.bool false),(.bool false),(.bool false),(.int .i64 0),(.int .i64 0)]),
 w9 (.store 42 (.t 6) (.t 15))] <|
 .seq (q9 [
 y9 16 (.mv (.t 5)),
 y9 17 (.un .not (.t 16)),
 y9 18 (.mv (.t 17)),
 ⟨(some 19),.load true 42 (.t 6),some (18,false),[]⟩,
 ⟨(some 20),.call 72 [(.t 19)],some (18,false),[]⟩,
 ⟨(some 21),.un .not (.t 20),some (18,false),[]⟩,
 y9 22 (.pick (.t 18) (.c (.bool true)) (.t 21)),
 y9 23 (.mv (.t 22)),
 ⟨(some 24),.load true 42 (.t 6),some (23,false),[]⟩,
 ⟨(some 25),.call 73 [(.t 24)],some (23,false),[]⟩,
 ⟨(some 26),.un .not (.t 25),some (23,false),[]⟩,
 y9 27 (.pick (.t 23) (.c (.bool true)) (.t 26))] <|
 .cond (.t 27) (.seq (.region true [
 y9 28 (.build [(.int .i64 0),(.int .i64 0),(.str []),(.slice [] .nil),(.slice [] .nil),(.int .i64 0),(.int .i64 0),(.int .i64 0),(.int .i64 0),(.bool false),(.int .i64 0),(.str []),(.str []),(.slice [] .nil),(.str []),(.slice [] .nil),(.slice [] .nil),(.str []),(.bool false),(.str []),(.bool false),(.bool false),(.str []),(.str []),(.bool false),(.str []),(.str []),(.bool false),(.int .i64 0),(.str []),(.str []),(.slice [] .nil),(.slice [] .nil),(.int .i64 0),(.slice [] .nil),(.bool false),(.bool false),(.bool false),(.bool false),(.bool false),(.int .i64 0),(.int .i64 0)] []),
 y9 29 (.faddr 1 (.t 1)),
 y9 30 (.load false 1 (.t 29)),
 y9 31 (.build [(.int .i64 0)] [(0,1,(.t 30))]),
 y9 32 (.mkif 125 (.t 31)),
 ⟨none,.store 42 (.t 2) (.t 28),none,[2]⟩,
 y9 3 (.mv (.t 32))]) <|
 .ret) <|
 .skip) <|
 q9 [
 y9 33 (.load true 42 (.t 6)),
 w9 (.store 42 (.t 2) (.t 33)),
 y9 3 (.mv (.c .nilIface))] <|
 .ret
def c37 : AFun := .code 12 [.tmp 2] <|
 q9 [
 y9 2 (.mv (.c (.int .i64 0)))] <|
 q9 [
 y9 3 (.alloc 125 [(.int .i64 0)])] <|
 .seq (q9 [
 y9 4 (.mv (.t 0)),
 y9 5 (.mkif 127 (.t 3)),
 y9 6 (.call 74 [(.t 4),(.t 5)]),
 y9 7 (.mv (.t 6)),
 ⟨(some 8),.mv (.t 0),some (7,true),[]⟩,
 ⟨(some 9),.load false 1 (.c (.ptr 1 0)),some (7,true),[]⟩,
 ⟨(some 10),.call 75 [(.t 8),(.t 9)],some (7,true),[]⟩,
 y9 11 (.pick (.t 7) (.t 10) (.c (.bool false)))] <|
 .cond (.t 11) (q9 [
 y9 2 (.mv (.c (.int .i64 120)))] <|
 .ret) <|
 .skip) <|
 q9 [
 y9 2 (.mv (.c (.int .i64 0)))] <|
 .ret
def c38 : AFun := .code 101 [.tmp 2] <|
 q9 [
 y9 1 (.box 78 (.t 0)),
 y9 2 (.mv (.c (.slice [] .nil)))] <|
 q9 [
 y9 13 (.faddr 0 (.t 1)),
 y9 14 (.faddr 28 (.t 13)),
 y9 15 (.load true 4 (.t 14)),
 y9 16 (.call 76 [(.t 15)]),
 y9 12 (.mv (.t 16)),
 y9 17 (.extract 0 (.t 12)),
 y9 18 (.extract 1 (.t 12)),
 y9 3 (.mv (.t 17)),
 y9 4 (.mv (.t 18))] <|
 .seq (q9 [
 y9 19 (.faddr 35 (.t 1)),
 y9 20 (.faddr 0 (.t 19)),
 y9 21 (.load false 1 (.t 20)),
 y9 22 (.un .not (.t 21))] <|
 .cond (.t 22) (.region false [
 y9 3 (.mv (.c (.slice [] .nil)))]) <|
 .skip) <|
 .seq (q9 [
 y9 23 (.faddr 35 (.t 1)),
 y9 24 (.faddr 3 (.t 23)),
 y9 25 (.load false 1 (.t 24))] <|
 .cond (.t 25) (q9 [
 y9 26 (.build [(.int .i64 0),(.str []),(.slice [] .nil)] [(0,1,(.c (.int .i64 48)))]),
 y9 5 (.alloc 45 [(.int .i64 0),(.str []),(.slice [] .nil)]),
 w9 (.store 3 (.t 5) (.t 26))] <|
 .seq (q9 [
 y9 27 (.faddr 0 (.t 1)),
 y9 28 (.faddr 3 (.t 27)),
 y9 29 (.load false 1 (.t 28)),
 y9 30 (.len false (.t 29)),
 y9 31 (.mv (.c (.int .i64 0)))] <|
 .block 0 <| .loop <| q9 [
 y9 32 (.bin .lss (.t 31) (.t 30))] <|
 .seq (.cond (.t 32) (.skip) <|
 .exit 0) <|
 .seq (.block 1 <| q9 [
 y9 33 (.iaddr none 2 (.t 29) (.t 31)),
 y9 34 (.load true 2 (.t 33)),
 y9 7 (.alloc 64 [(.str []),(.slice [] .nil)]),
 w9 (.store 2 (.t 7) (.t 34))] <|
 q9 [
 y9 36 (.load true 2 (.t 7)),
 y9 37 (.call 77 [(.t 36),(.c (.int .i64 0))]),
 y9 35 (.mv (.t 37)),
 y9 38 (.extract 0 (.t 35)),
 y9 39 (.extract 1 (.t 35)),
 y9 8 (.alloc 45 [(.int .i64 0),(.str []),(.slice [] .nil)]),
 w9 (.store 3 (.t 8) (.t 38)),
 y9 9 (.mv (.t 39))] <|
 .region false [
 y9 40 (.faddr 2 (.t 5)),
 y9 41 (.load false 1 (.t 40)),
 y9 42 (.load true 3 (.t 8)),
 y9 43 (.bslice false true 1 3 [(.int .i64 0),(.str []),(.slice [] .nil)] [(0,3,(.t 42))]),
 y9 44 (.append 45 3 48 (.t 41) (.t 43)),
 y9 45 (.faddr 2 (.t 5)),
 w9 (.store 1 (.t 45) (.t 44))]) <|
 .region false [
 y9 46 (.bin .add (.t 31) (.c (.int .i64 1))),
 y9 31 (.mv (.t 46))]) <|
 .region true [
 y9 47 (.mv (.t 3)),
 y9 48 (.faddr 0 (.t 1)),
 y9 49 (.faddr 2 (.t 48)),
 y9 50 (.load false 1 (.t 49)),
 y9 51 (.call 78 [(.c (.int .i64 4)),(.t 50)]),
 ⟨(some 52),.load true 3 (.t 5),none,[3,4]⟩,
 y9 53 (.bslice false true 2 3 [(.int .i64 0),(.str []),(.slice [] .nil),(.int .i64 0),(.str []),(.slice [] .nil)] [(0,3,(.t 51)),(3,3,(.t 52))]),
 y9 54 (.append 45 3 48 (.t 47) (.t 53)),
 y9 3 (.mv (.t 54))]) <|
 .skip) <|
 .seq (q9 [
 y9 55 (.faddr 0 (.t 1)),
 y9 56 (.faddr 32 (.t 55)),
 y9 57 (.load false 1 (.t 56)),
 y9 58 (.len false (.t 57)),
 y9 59 (.mv (.c (.int .i64 0)))] <|
 .block 2 <| .loop <| q9 [
 y9 60 (.bin .lss (.t 59) (.t 58))] <|
 .seq (.cond (.t 60) (.skip) <|
 .exit 2) <|
 .seq (.block 3 <| q9 [
 y9 61 (.iaddr none 1 (.t 57) (.t 59)),
 y9 62 (.load false 1 (.t 61)),
 y9 11 (.mv (.t 62))] <|
 .region false [
 y9 63 (.mv (.t 3)),
 y9 64 (.mv (.t 11)),
 y9 65 (.call 78 [(.c (.int .i64 4)),(.t 64)]),
 y9 66 (.bslice false true 1 3 [(.int .i64 0),(.str []),(.slice [] .nil)] [(0,3,(.t 65))]),
 y9 67 (.append 45 3 48 (.t 63) (.t 66)),
 y9 3 (.mv (.t 67))]) <|
 .region false [
 y9 68 (.bin .add (.t 59) (.c (.int .i64 1))),
 y9 59 (.mv (.t 68))]) <|
 .seq (q9 [
 y9 69 (.faddr 0 (.t 1)),
 y9 70 (.faddr 25 (.t 69)),
 y9 71 (.faddr 0 (.t 70)),
 y9 72 (.load false 1 (.t 71)),
 y9 73 (.bin .neq (.t 72) (.c (.str [])))] <|
 .cond (.t 73) (.region false [
 y9 74 (.mv (.t 3)),
 y9 75 (.faddr 35 (.t 1)),
 y9 76 (.faddr 5 (.t 75)),
 y9 77 (.load false 1 (.t 76)),
 y9 78 (.faddr 0 (.t 1)),
 y9 79 (.faddr 25 (.t 78)),
 y9 80 (.faddr 0 (.t 79)),
 y9 81 (.load false 1 (.t 80)),
 y9 82 (.call 78 [(.t 77),(.t 81)]),
 y9 83 (.bslice false true 1 3 [(.int .i64 0),(.str []),(.slice [] .nil)] [(0,3,(.t 82))]),
 y9 84 (.append 45 3 48 (.t 74) (.t 83)),
 y9 3 (.mv (.t 84))]) <|
 .skip) <|
 .seq (q9 [
 y9 85 (.faddr 0 (.t 1)),
 y9 86 (.faddr 25 (.t 85)),
 y9 87 (.faddr 2 (.t 86)),
 y9 88 (.load false 1 (.t 87))] <|
 .cond (.t 88) (.region false [
 y9 89 (.mv (.t 3)),
 y9 90 (.faddr 35 (.t 1)),
 y9 91 (.faddr 6 (.t 90)),
 y9 92 (.load false 1 (.t 91)),
 y9 93 (.faddr 0 (.t 1)),
 y9 94 (.faddr 25 (.t 93)),
 y9 95 (.faddr 1 (.t 94)),
 y9 96 (.load false 1 (.t 95)),
 y9 97 (.call 78 [(.t 92),(.t 96)]),
 y9 98 (.bslice false true 1 3 [(.int .i64 0),(.str []),(.slice [] .nil)] [(0,3,(.t 97))]),
 y9 99 (.append 45 3 48 (.t 89) (.t 98)),
 y9 3 (.mv (.t 99))]) <|
 .skip) <|
 q9 [
 y9 100 (.mv (.t 3)),
 y9 2 (.mv (.t 100))] <|
 .ret
def c39 : AFun := .code 32 [.tmp 6] <|
 q9 [
 y9 6 (.mv (.c (.bool false)))] <|
 .seq (q9 [
 y9 10 (.mv (.t 0)),
 y9 11 (.len false (.t 10)),
 y9 12 (.mv (.t 1)),
 y9 13 (.len false (.t 12)),
 y9 14 (.bin .neq (.t 11) (.t 13))] <|
 .cond (.t 14) (q9 [
 y9 6 (.mv (.c (.bool false)))] <|
 .ret) <|
 .skip) <|
 .seq (q9 [
 y9 15 (.mv (.t 0)),
 y9 16 (.len false (.t 15)),
 y9 17 (.mv (.c (.int .i64 0)))] <|
 .block 0 <| .loop <| q9 [
 y9 18 (.bin .lss (.t 17) (.t 16))] <|
 .seq (.cond (.t 18) (.skip) <|
 .exit 0) <|
 .seq (.block 1 <| q9 [
 y9 19 (.mv (.t 17)),
 y9 20 (.iaddr none 3 (.t 15) (.t 17)),
 y9 21 (.load true 3 (.t 20)),
 y9 8 (.alloc 45 [(.int .i64 0),(.str []),(.slice [] .nil)]),
 y9 7 (.mv (.t 19)),
 w9 (.store 3 (.t 8) (.t 21))] <|
 q9 [
 y9 22 (.mv (.t 1)),
 y9 23 (.mv (.t 7)),
 y9 24 (.iaddr none 3 (.t 22) (.t 23)),
 y9 25 (.load true 3 (.t 24)),
 y9 9 (.alloc 45 [(.int .i64 0),(.str []),(.slice [] .nil)]),
 w9 (.store 3 (.t 9) (.t 25))] <|
 q9 [
 y9 26 (.mv (.t 2)),
 y9 27 (.load true 3 (.t 8)),
 y9 28 (.load true 3 (.t 9)),
 y9 29 (.callV (.t 26) [(.t 27),(.t 28)]),
 y9 30 (.un .not (.t 29))] <|
 .cond (.t 30) (q9 [
 y9 6 (.mv (.c (.bool false)))] <|
 .ret) <|
 .skip) <|
 .region false [
 y9 31 (.bin .add (.t 17) (.c (.int .i64 1))),
 y9 17 (.mv (.t 31))]) <|
 q9 [
 y9 6 (.mv (.c (.bool true)))] <|
 .ret
def c40 : AFun := .code 17 [.tmp 4] <|
 q9 [
 y9 2 (.box 64 (.t 0)),
 y9 3 (.box 64 (.t 1)),
 y9 4 (.mv (.c (.bool false)))] <|
 q9 [
 y9 5 (.faddr 0 (.t 2)),
 y9 6 (.load false 1 (.t 5)),
 y9 7 (.faddr 0 (.t 3)),
 y9 8 (.load false 1 (.t 7)),
 y9 9 (.bin .eql (.t 6) (.t 8)),
 y9 10 (.mv (.t 9)),
 ⟨(some 11),.faddr 1 (.t 2),some (10,true),[]⟩,
 ⟨(some 12),.load false 1 (.t 11),some (10,true),[]⟩,
 ⟨(some 13),.faddr 1 (.t 3),some (10,true),[]⟩,
 ⟨(some 14),.load false 1 (.t 13),some (10,true),[]⟩,
 ⟨(some 15),.call 44 [(.t 12),(.t 14)],some (10,true),[]⟩,
 y9 16 (.pick (.t 10) (.t 15) (.c (.bool false))),
 y9 4 (.mv (.t 16))] <|
 .ret
def c41 : AFun := .code 27 [.tmp 4] <|
 q9 [
 y9 4 (.mv (.c (.bool false)))] <|
 .seq (q9 [
 y9 6 (.mv (.t 0)),
 y9 7 (.len false (.t 6)),
 y9 8 (.mv (.t 1)),
 y9 9 (.len false (.t 8)),
 y9 10 (.bin .neq (.t 7) (.t 9))] <|
 .cond (.t 10) (q9 [
 y9 4 (.mv (.c (.bool false)))] <|
 .ret) <|
 .skip) <|
 .seq (q9 [
 y9 5 (.mv (.c (.int .i64 0)))] <|
 .block 0 <| .loop <| .seq (q9 [
 y9 11 (.mv (.t 5)),
 y9 12 (.mv (.t 0)),
 y9 13 (.len false (.t 12)),
 y9 14 (.bin .lss (.t 11) (.t 13))] <|
 .cond (.t 14) (.skip) <|
 .exit 0) <|
 .seq (.block 1 <| .seq (.region true [
 y9 17 (.mv (.t 0)),
 y9 18 (.mv (.t 5)),
 y9 19 (.iaddr none 2 (.t 17) (.t 18)),
 y9 20 (.load true 2 (.t 19)),
 y9 21 (.mv (.t 1)),
 y9 22 (.mv (.t 5)),
 ⟨(some 23),.iaddr none 2 (.t 21) (.t 22),none,[2,3]⟩,
 ⟨(some 24),.load true 2 (.t 23),none,[2,3]⟩,
 y9 25 (.call 40 [(.t 20),(.t 24)]),
 y9 26 (.un .not (.t 25))]) <|
 .cond (.t 26) (q9 [
 y9 4 (.mv (.c (.bool false)))] <|
 .ret) <|
 .skip) <|
 .region false [
 y9 15 (.mv (.t 5)),
 y9 16 (.bin .add (.t 15) (.c (.int .i64 1))),
 y9 5 (.mv (.t 16))]) <|
 q9 [
 y9 4 (.mv (.c (.bool true)))] <|
 .ret
def c42 : AFun := .code 52 [.tmp 4] <|
 q9 [
 y9 2 (.box 29 (.t 0)),
 y9 3 (.box 29 (.t 1)),
 y9 4 (.mv (.c (.bool false)))] <|
 q9 [
 y9 5 (.faddr 0 (.t 2)),
 y9 6 (.load false 1 (.t 5)),
 y9 7 (.faddr 0 (.t 3)),
 y9 8 (.load false 1 (.t 7)),
 y9 9 (.bin .eql (.t 6) (.t 8)),
 y9 10 (.mv (.t 9)),
 ⟨(some 11),.faddr 1 (.t 2),some (10,true),[]⟩,
 ⟨(some 12),.load false 1 (.t 11),some (10,true),[]⟩,
 ⟨(some 13),.faddr 1 (.t 3),some (10,true),[]⟩,
 ⟨(some 14),.load false 1 (.t 13),some (10,true),[]⟩,
 ⟨(some 15),.bin .eql (.t 12) (.t 14),some (10,true),[]⟩,
 y9 16 (.pick (.t 10) (.t 15) (.c (.bool false))),
 y9 17 (.mv (.t 16)),
 ⟨(some 18),.faddr 2 (.t 2),some (17,true),[]⟩,
 ⟨(some 19),.load false 1 (.t 18),some (17,true),[]⟩,
 ⟨(some 20),.faddr 2 (.t 3),some (17,true),[]⟩,
 ⟨(some 21),.load false 1 (.t 20),some (17,true),[]⟩,
 ⟨(some 22),.bin .eql (.t 19) (.t 21),some (17,true),[]⟩,
 y9 23 (.pick (.t 17) (.t 22) (.c (.bool false))),
 y9 24 (.mv (.t 23)),
 ⟨(some 25),.faddr 3 (.t 2),some (24,true),[]⟩,
 ⟨(some 26),.load false 1 (.t 25),some (24,true),[]⟩,
 ⟨(some 27),.faddr 3 (.t 3),some (24,true),[]⟩,
 ⟨(some 28),.load false 1 (.t 27),some (24,true),[]⟩,
 ⟨(some 29),.bin .eql (.t 26) (.t 28),some (24,true),[]⟩,
 y9 30 (.pick (.t 24) (.t 29) (.c (.bool false))),
 y9 31 (.mv (.t 30)),
 ⟨(some 32),.faddr 4 (.t 2),some (31,true),[]⟩,
 ⟨(some 33),.load false 1 (.t 32),some (31,true),[]⟩,
 ⟨(some 34),.faddr 4 (.t 3),some (31,true),[]⟩,
 ⟨(some 35),.load false 1 (.t 34),some (31,true),[]⟩,
 ⟨(some 36),.eq false .prim false (.t 33) (.t 35),some (31,true),[]⟩,
 y9 37 (.pick (.t 31) (.t 36) (.c (.bool false))),
 y9 38 (.mv (.t 37)),
 ⟨(some 39),.faddr 5 (.t 2),some (38,true),[]⟩,
 ⟨(some 40),.load true 6 (.t 39),some (38,true),[]⟩,
 ⟨(some 41),.faddr 5 (.t 3),some (38,true),[]⟩,
 ⟨(some 42),.load true 6 (.t 41),some (38,true),[]⟩,
 ⟨(some 43),.call 79 [(.t 40),(.t 42)],some (38,true),[]⟩,
 y9 44 (.pick (.t 38) (.t 43) (.c (.bool false))),
 y9 45 (.mv (.t 44)),
 ⟨(some 46),.faddr 11 (.t 2),some (45,true),[]⟩,
 ⟨(some 47),.load false 1 (.t 46),some (45,true),[]⟩,
 ⟨(some 48),.faddr 11 (.t 3),some (45,true),[]⟩,
 ⟨(some 49),.load false 1 (.t 48),some (45,true),[]⟩,
 ⟨(some 50),.call 44 [(.t 47),(.t 49)],some (45,true),[]⟩,
 y9 51 (.pick (.t 45) (.t 50) (.c (.bool false))),
 y9 4 (.mv (.t 51))] <|
 .ret
def c43 : AFun := .code 31 [.tmp 4] <|
 q9 [
 y9 2 (.box 37 (.t 0)),
 y9 3 (.box 37 (.t 1)),
 y9 4 (.mv (.c (.bool false)))] <|
 q9 [
 y9 5 (.faddr 0 (.t 2)),
 y9 6 (.load false 1 (.t 5)),
 y9 7 (.faddr 0 (.t 3)),
 y9 8 (.load false 1 (.t 7)),
 y9 9 (.bin .eql (.t 6) (.t 8)),
 y9 10 (.mv (.t 9)),
 ⟨(some 11),.faddr 1 (.t 2),some (10,true),[]⟩,
 ⟨(some 12),.load false 1 (.t 11),some (10,true),[]⟩,
 ⟨(some 13),.faddr 1 (.t 3),some (10,true),[]⟩,
 ⟨(some 14),.load false 1 (.t 13),some (10,true),[]⟩,
 ⟨(some 15),.bin .eql (.t 12) (.t 14),some (10,true),[]⟩,
 y9 16 (.pick (.t 10) (.t 15) (.c (.bool false))),
 y9 17 (.mv (.t 16)),
 ⟨(some 18),.faddr 2 (.t 2),some (17,true),[]⟩,
 ⟨(some 19),.load false 1 (.t 18),some (17,true),[]⟩,
 ⟨(some 20),.faddr 2 (.t 3),some (17,true),[]⟩,
 ⟨(some 21),.load false 1 (.t 20),some (17,true),[]⟩,
 ⟨(some 22),.bin .eql (.t 19) (.t 21),some (17,true),[]⟩,
 y9 23 (.pick (.t 17) (.t 22) (.c (.bool false))),
 y9 24 (.mv (.t 23)),
 ⟨(some 25),.faddr 3 (.t 2),some (24,true),[]⟩,
 ⟨(some 26),.load false 1 (.t 25),some (24,true),[]⟩,
 ⟨(some 27),.faddr 3 (.t 3),some (24,true),[]⟩,
 ⟨(some 28),.load false 1 (.t 27),some (24,true),[]⟩,
 ⟨(some 29),.call 44 [(.t 26),(.t 28)],some (24,true),[]⟩,
 y9 30 (.pick (.t 24) (.t 29) (.c (.bool false))),
 y9 4 (.mv (.t 30))] <|
 .ret
def c44 : AFun := .code 26 [.tmp 4] <|
 q9 [
 y9 4 (.mv (.c (.bool false)))] <|
 .seq (q9 [
 y9 6 (.mv (.t 0)),
 y9 7 (.len false (.t 6)),
 y9 8 (.mv (.t 1)),
 y9 9 (.len false (.t 8)),
 y9 10 (.bin .neq (.t 7) (.t 9))] <|
 .cond (.t 10) (q9 [
 y9 4 (.mv (.c (.bool false)))] <|
 .ret) <|
 .skip) <|
 .seq (q9 [
 y9 5 (.mv (.c (.int .i64 0)))] <|
 .block 0 <| .loop <| .seq (q9 [
 y9 11 (.mv (.t 5)),
 y9 12 (.mv (.t 0)),
 y9 13 (.len false (.t 12)),
 y9 14 (.bin .lss (.t 11) (.t 13))] <|
 .cond (.t 14) (.skip) <|
 .exit 0) <|
 .seq (.block 1 <| .seq (.region true [
 y9 17 (.mv (.t 0)),
 y9 18 (.mv (.t 5)),
 y9 19 (.iaddr none 1 (.t 17) (.t 18)),
 y9 20 (.load false 1 (.t 19)),
 y9 21 (.mv (.t 1)),
 y9 22 (.mv (.t 5)),
 ⟨(some 23),.iaddr none 1 (.t 21) (.t 22),none,[2,3]⟩,
 ⟨(some 24),.load false 1 (.t 23),none,[2,3]⟩,
 y9 25 (.bin .neq (.t 20) (.t 24))]) <|
 .cond (.t 25) (q9 [
 y9 4 (.mv (.c (.bool false)))] <|
 .ret) <|
 .skip) <|
 .region false [
 y9 15 (.mv (.t 5)),
 y9 16 (.bin .add (.t 15) (.c (.int .i64 1))),
 y9 5 (.mv (.t 16))]) <|
 q9 [
 y9 4 (.mv (.c (.bool true)))] <|
 .ret
def c45 : AFun := .code 61 [.cell 2 true 35,.tmp 3] <|
 q9 [
 y9 1 (.box 45 (.t 0)),
 y9 2 (.alloc 40 [(.int .i64 0),(.int .i64 0),(.str []),(.slice [] .nil),(.slice [] .nil),(.int .i64 0),(.int .i64 0),(.int .i64 0),(.int .i64 0),(.bool false),(.int .i64 0),(.str []),(.str []),(.slice [] .nil),(.str []),(.slice [] .nil),(.slice [] .nil),(.str []),(.bool false),(.str []),(.bool false),(.bool false),(.str []),(.str []),(.bool false),(.str []),(.str []),(.bool false),(.int .i64 0),(.str []),(.str []),(.slice [] .nil),(.slice [] .nil),(.int .i64 0),(.slice [] .nil)]),
 y9 3 (.mv (.c .nilIface))] <|
 q9 [
 y9 10 (.faddr 0 (.t 1)),
 y9 11 (.load false 1 (.t 10)),
 y9 12 (.bin .sub (.t 11) (.c (.int .i64 96))),
 y9 4 (.mv (.t 12))] <|
 q9 [
 y9 14 (.mv (.t 4)),
 y9 15 (.call 46 [(.t 14)]),
 y9 13 (.mv (.t 15)),
 y9 16 (.extract 0 (.t 13)),
 y9 17 (.extract 1 (.t 13)),
 y9 5 (.alloc 76 [(.bool false),(.bool false),(.bool false),(.bool false),(.bool false),(.int .i64 0),(.int .i64 0)]),
 w9 (.store 7 (.t 5) (.t 16)),
 y9 6 (.mv (.t 17))] <|
 .seq (q9 [
 y9 18 (.mv (.t 6)),
 y9 19 (.un .not (.t 18))] <|
 .cond (.t 19) (q9 [
 y9 20 (.build [(.int .i64 0),(.int .i64 0),(.str []),(.slice [] .nil),(.slice [] .nil),(.int .i64 0),(.int .i64 0),(.int .i64 0),(.int .i64 0),(.bool false),(.int .i64 0),(.str []),(.str []),(.slice [] .nil),(.str []),(.slice [] .nil),(.slice [] .nil),(.str []),(.bool false),(.str []),(.bool false),(.bool false),(.str []),(.str []),(.bool false),(.str []),(.str []),(.bool false),(.int .i64 0),(.str []),(.str []),(.slice [] .nil),(.slice [] .nil),(.int .i64 0),(.slice [] .nil)] []),
 y9 21 (.mv (.t 4)),
 y9 22 (.build [(.int .i64 0)] [(0,1,(.t 21))]),
 y9 23 (.mkif 125 (.t 22)),
 w9 (.store 35 (.t 2) (.t 20)),
 y9 3 (.mv (.t 23))] <|
 .ret) <|
 .skip) <|
 q9 [
 y9 24 (.faddr 2 (.t 1)),
 y9 25 (.load false 1 (.t 24)),
 y9 26 (.build [(.slice [] .nil)] [(0,1,(.t 25))]),
 y9 27 (.mv (.t 4)),
 y9 28 (.build [(.int .i64 0),(.int .i64 0),(.str []),(.slice [] .nil),(.slice [] .nil),(.int .i64 0),(.int .i64 0),(.int .i64 0),(.int .i64 0),(.bool false),(.int .i64 0),(.str []),(.str []),(.slice [] .nil),(.str []),(.slice [] .nil),(.slice [] .nil),(.str []),(.bool false),(.str []),(.bool false),(.bool false),(.str []),(.str []),(.bool false),(.str []),(.str []),(.bool false),(.int .i64 0),(.str []),(.str []),(.slice [] .nil),(.slice [] .nil),(.int .i64 0),(.slice [] .nil)] [(1,1,(.t 27))]),
 y9 29 (.load true 7 (.t 5)),
 y9 30 (.build [(.int .i64 0),(.int .i64 0),(.str []),(.slice [] .nil),(.slice [] .nil),(.int .i64 0),(.int .i64 0),(.int .i64 0),(.int .i64 0),(.bool false),(.int .i64 0),(.str []),(.str []),(.slice [] .nil),(.str []),(.slice [] .nil),(.slice [] .nil),(.str []),(.bool false),(.str []),(.bool false),(.bool false),(.str []),(.str []),(.bool false),(.str []),(.str []),(.bool false),(.int .i64 0),(.str []),(.str []),(.slice [] .nil),(.slice [] .nil),(.int .i64 0),(.slice [] .nil),(.bool false),(.bool false),(.bool false),(.bool false),(.bool false),(.int .i64 0),(.int .i64 0)] [(0,35,(.t 28)),(35,7,(.t 29))]),
 y9 31 (.build [(.slice [] .nil),(.int .i64 0),(.int .i64 0),(.str []),(.slice [] .nil),(.slice [] .nil),(.int .i64 0),(.int .i64 0),(.int .i64 0),(.int .i64 0),(.bool false),(.int .i64 0),(.str []),(.str []),(.slice [] .nil),(.str []),(.slice [] .nil),(.slice [] .nil),(.str []),(.bool false),(.str []),(.bool false),(.bool false),(.str []),(.str []),(.bool false),(.str []),(.str []),(.bool false),(.int .i64 0),(.str []),(.str []),(.slice [] .nil),(.slice [] .nil),(.int .i64 0),(.slice [] .nil),(.bool false),(.bool false),(.bool false),(.bool false),(.bool false),(.int .i64 0),(.int .i64 0)] [(0,1,(.t 26)),(1,42,(.t 30))]),
 y9 32 (.box 136 (.t 31)),
 y9 7 (.mv (.t 32))] <|
 q9 [
 y9 33 (.mv (.t 7)),
 y9 34 (.call 80 [(.t 33)])] <|
 q9 [
 y9 36 (.mv (.t 7)),
 y9 37 (.nilck (.t 36)),
 y9 38 (.faddr 1 (.t 37)),
 y9 39 (.faddr 0 (.t 38)),
 y9 40 (.load true 35 (.t 39)),
 y9 41 (.call 11 [(.t 40)]),
 y9 35 (.mv (.t 41)),
 y9 42 (.extract 0 (.t 35)),
 y9 43 (.extract 1 (.t 35)),
 y9 8 (.alloc 45 [(.int .i64 0),(.str []),(.slice [] .nil)]),
 w9 (.store 3 (.t 8) (.t 42)),
 y9 9 (.mv (.t 43))] <|
 .seq (q9 [
 y9 44 (.mv (.t 9)),
 y9 45 (.bin .neq (.t 44) (.c (.int .i64 0))),
 y9 46 (.mv (.t 45)),
 ⟨(some 47),.load true 3 (.t 8),some (46,false),[]⟩,
 ⟨(some 48),.load true 3 (.t 1),some (46,false),[]⟩,
 ⟨(some 49),.call 12 [(.t 47),(.t 48)],some (46,false),[]⟩,
 ⟨(some 50),.un .not (.t 49),some (46,false),[]⟩,
 y9 51 (.pick (.t 46) (.c (.bool true)) (.t 50))] <|
 .cond (.t 51) (q9 [
 y9 52 (.build [(.int .i64 0),(.int .i64 0),(.str []),(.slice [] .nil),(.slice [] .nil),(.int .i64 0),(.int .i64 0),(.int .i64 0),(.int .i64 0),(.bool false),(.int .i64 0),(.str []),(.str []),(.slice [] .nil),(.str []),(.slice [] .nil),(.slice [] .nil),(.str []),(.bool false),(.str []),(.bool false),(.bool false),(.str []),(.str []),(.bool false),(.str []),(.str []),(.bool false),(.int .i64 0),(.str []),(.str []),(.slice [] .nil),(.slice [] .nil),(.int .i64 0),(.slice [] .nil)] []),
 y9 53 (.mv (.t 4)),
 y9 54 (.build [(.int .i64 0)] [(0,1,(.t 53))]),
 y9 55 (.mkif 125 (.t 54)),
 w9 (.store 35 (.t 2) (.t 52)),
 y9 3 (.mv (.t 55))] <|
 .ret) <|
 .skip) <|
 q9 [
 y9 56 (.mv (.t 7)),
 y9 57 (.nilck (.t 56)),
 y9 58 (.faddr 1 (.t 57)),
 y9 59 (.faddr 0 (.t 58)),
 y9 60 (.load true 35 (.t 59)),
 w9 (.store 35 (.t 2) (.t 60)),
 y9 3 (.mv (.c .nilIface))] <|
 .ret
def c46 : AFun := .code 39 [.cell 2 true 7,.tmp 3] <|
 q9 [
 y9 2 (.alloc 76 [(.bool false),(.bool false),(.bool false),(.bool false),(.bool false),(.int .i64 0),(.int .i64 0)]),
 y9 3 (.mv (.c (.bool false)))] <|
 .seq (q9 [
 y9 4 (.mv (.t 0))] <|
 .block 0 <| .seq (.block 7 <| .seq (.block 6 <| .seq (.block 5 <| .seq (.block 4 <| .seq (.block 3 <| .seq (.block 2 <| .seq (.block 1 <| .seq (.seq (q9 [
 y9 6 (.bin .eql (.t 4) (.c (.int .i64 24))),
 y9 5 (.mv (.t 6))] <|
 .cond (.t 5) (.exit 1) <|
 .skip) <|
 .seq (q9 [
 y9 8 (.bin .eql (.t 4) (.c (.int .i64 1))),
 y9 7 (.mv (.t 8))] <|
 .cond (.t 7) (.exit 2) <|
 .skip) <|
 .seq (.seq (q9 [
 y9 10 (.bin .eql (.t 4) (.c (.int .i64 5))),
 y9 9 (.mv (.t 10))] <|
 .cond (.t 9) (.skip) <|
 q9 [
 y9 11 (.bin .eql (.t 4) (.c (.int .i64 7))),
 y9 9 (.mv (.t 11))] <|
 .cond (.t 9) (.skip) <|
 q9 [
 y9 12 (.bin .eql (.t 4) (.c (.int .i64 9))),
 y9 9 (.mv (.t 12))] <|
 .cond (.t 9) (.skip) <|
 q9 [
 y9 13 (.bin .eql (.t 4) (.c (.int .i64 11))),
 y9 9 (.mv (.t 13))] <|
 .cond (.t 9) (.skip) <|
 q9 [
 y9 14 (.bin .eql (.t 4) (.c (.int .i64 13))),
 y9 9 (.mv (.t 14))] <|
 .cond (.t 9) (.skip) <|
 .region false [
 y9 15 (.bin .eql (.t 4) (.c (.int .i64 15))),
 y9 9 (.mv (.t 15))]) <|
 .cond (.t 9) (.exit 3) <|
 .skip) <|
 .seq (q9 [
 y9 17 (.bin .eql (.t 4) (.c (.int .i64 4))),
 y9 16 (.mv (.t 17))] <|
 .cond (.t 16) (.exit 4) <|
 .skip) <|
 .seq (q9 [
 y9 19 (.bin .eql (.t 4) (.c (.int .i64 19))),
 y9 18 (.mv (.t 19))] <|
 .cond (.t 18) (.exit 5) <|
 .skip) <|
 q9 [
 y9 21 (.bin .eql (.t 4) (.c (.int .i64 25))),
 y9 20 (.mv (.t 21))] <|
 .cond (.t 20) (.exit 6) <|
 .skip) <|
 .exit 7) <|
 .region false [
 y9 22 (.faddr 2 (.t 2)),
 w9 (.store 1 (.t 22) (.c (.bool true))),
 y9 23 (.faddr 5 (.t 2)),
 w9 (.store 1 (.t 23) (.c (.int .i64 138))),
 y9 24 (.faddr 6 (.t 2)),
 w9 (.store 1 (.t 24) (.c (.int .i64 139)))]) <|
 q9 [
 y9 25 (.faddr 1 (.t 2)),
 w9 (.store 1 (.t 25) (.c (.bool true)))] <|
 q9 [
 y9 26 (.faddr 2 (.t 2)),
 y9 27 (.load false 1 (.t 26)),
 y9 28 (.un .not (.t 27))] <|
 .cond (.t 28) (.region false [
 y9 29 (.faddr 6 (.t 2)),
 w9 (.store 1 (.t 29) (.c (.int .i64 135)))]) <|
 .skip) <|
 q9 [
 y9 30 (.faddr 0 (.t 2)),
 w9 (.store 1 (.t 30) (.c (.bool true)))] <|
 .exit 0) <|
 q9 [
 y9 31 (.faddr 3 (.t 2)),
 w9 (.store 1 (.t 31) (.c (.bool true)))] <|
 .exit 0) <|
 q9 [
 y9 32 (.faddr 4 (.t 2)),
 w9 (.store 1 (.t 32) (.c (.bool true)))] <|
 .exit 0) <|
 q9 [
 y9 33 (.faddr 2 (.t 2)),
 w9 (.store 1 (.t 33) (.c (.bool true))),
 y9 34 (.faddr 1 (.t 2)),
 w9 (.store 1 (.t 34) (.c (.bool true))),
 y9 35 (.faddr 5 (.t 2)),
 w9 (.store 1 (.t 35) (.c (.int .i64 128))),
 y9 36 (.faddr 6 (.t 2)),
 w9 (.store 1 (.t 36) (.c (.int .i64 129)))] <|
 .exit 0) <|
 .seq (q9 [
 y9 37 (.load true 7 (.t 2)),
 w9 (.store 7 (.t 2) (.t 37)),
 y9 3 (.mv (.c (.bool false)))] <|
 .ret) <|
 .exit 0) <|
 q9 [
 y9 38 (.load true 7 (.t 2)),
 w9 (.store 7 (.t 2) (.t 38)),
 y9 3 (.mv (.c (.bool true)))] <|
 .ret
def c47 : AFun := .code 46 [.cell 4 true 3] <|
 q9 [
 y9 2 (.box 45 (.t 0)),
 y9 4 (.alloc 45 [(.int .i64 0),(.str []),(.slice [] .nil)])] <|
 .seq (.region true [
 y9 7 (.faddr 0 (.t 2)),
 y9 8 (.load false 1 (.t 7)),
 y9 9 (.faddr 1 (.t 2)),
 ⟨(some 10),.load false 1 (.t 9),none,[1]⟩,
 y9 11 (.faddr 1 (.t 2)),
 ⟨(some 12),.load false 1 (.t 11),none,[1,3]⟩,
 y9 13 (.len true (.t 12)),
 y9 14 (.min2 false (.t 13) (.c (.int .i64 4000))),
 y9 15 (.slice true 1 (.t 10) none (some (.t 14)) none),
 y9 16 (.build [(.int .i64 0),(.str []),(.slice [] .nil)] [(0,1,(.t 8)),(1,1,(.t 15))]),
 ⟨(some 5),.alloc 45 [(.int .i64 0),(.str []),(.slice [] .nil)],none,[1,3,5]⟩,
 w9 (.store 3 (.t 5) (.t 16))]) <|
 .seq (q9 [
 y9 6 (.mv (.c (.int .i64 0)))] <|
 .block 0 <| .loop <| .seq (q9 [
 y9 17 (.mv (.t 6)),
 y9 18 (.faddr 2 (.t 2)),
 y9 19 (.load false 1 (.t 18)),
 y9 20 (.len false (.t 19)),
 y9 21 (.bin .lss (.t 17) (.t 20)),
 y9 22 (.mv (.t 21)),
 ⟨(some 23),.mv (.t 6),some (22,true),[]⟩,
 ⟨(some 24),.bin .lss (.t 23) (.c (.int .i64 60)),some (22,true),[]⟩,
 y9 25 (.pick (.t 22) (.t 24) (.c (.bool false))),
 y9 26 (.mv (.t 25)),
 ⟨(some 27),.mv (.t 1),some (26,true),[]⟩,
 ⟨(some 28),.bin .gtr (.t 27) (.c (.int .i64 1)),some (26,true),[]⟩,
 y9 29 (.pick (.t 26) (.t 28) (.c (.bool false)))] <|
 .cond (.t 29) (.skip) <|
 .exit 0) <|
 .seq (.block 1 <| .region true [
 y9 32 (.faddr 2 (.t 5)),
 y9 33 (.load false 1 (.t 32)),
 y9 34 (.faddr 2 (.t 2)),
 ⟨(some 35),.load false 1 (.t 34),none,[1]⟩,
 y9 36 (.mv (.t 6)),
 ⟨(some 37),.iaddr none 3 (.t 35) (.t 36),none,[1]⟩,
 ⟨(some 38),.load true 3 (.t 37),none,[1]⟩,
 y9 39 (.mv (.t 1)),
 y9 40 (.bin .sub (.t 39) (.c (.int .i64 1))),
 ⟨(some 41),.call 47 [(.t 38),(.t 40)],none,[1]⟩,
 ⟨(some 42),.bslice false true 1 3 [(.int .i64 0),(.str []),(.slice [] .nil)] [(0,3,(.t 41))],none,[1]⟩,
 y9 43 (.append 45 3 48 (.t 33) (.t 42)),
 y9 44 (.faddr 2 (.t 5)),
 w9 (.store 1 (.t 44) (.t 43))]) <|
 .region false [
 y9 30 (.mv (.t 6)),
 y9 31 (.bin .add (.t 30) (.c (.int .i64 1))),
 y9 6 (.mv (.t 31))]) <|
 q9 [
 y9 45 (.load true 3 (.t 5)),
 w9 (.store 3 (.t 4) (.t 45))] <|
 .ret
def c48 : AFun := .code 5 [.cell 2 true 3] <|
 q9 [
 y9 2 (.alloc 45 [(.int .i64 0),(.str []),(.slice [] .nil)])] <|
 q9 [
 y9 3 (.mv (.t 0)),
 y9 4 (.build [(.int .i64 0),(.str []),(.slice [] .nil)] [(0,1,(.c (.int .i64 4))),(1,1,(.t 3))]),
 w9 (.store 3 (.t 2) (.t 4))] <|
 .ret
def c49 : AFun := .code 29 [.cell 2 true 3] <|
 q9 [
 y9 2 (.alloc 45 [(.int .i64 0),(.str []),(.slice [] .nil)])] <|
 q9 [
 y9 7 (.build [(.int .i64 0),(.str []),(.slice [] .nil)] [(0,1,(.c (.int .i64 48)))]),
 y9 3 (.alloc 45 [(.int .i64 0),(.str []),(.slice [] .nil)]),
 w9 (.store 3 (.t 3) (.t 7))] <|
 .seq (q9 [
 y9 4 (.mv (.c (.int .i64 0)))] <|
 .block 0 <| .loop <| .seq (q9 [
 y9 8 (.mv (.t 4)),
 y9 9 (.mv (.t 0)),
 y9 10 (.len false (.t 9)),
 y9 11 (.bin .lss (.t 8) (.t 10))] <|
 .cond (.t 11) (.skip) <|
 .exit 0) <|
 .seq (.block 1 <| q9 [
 y9 15 (.mv (.t 0)),
 y9 16 (.mv (.t 4)),
 y9 17 (.iaddr none 2 (.t 15) (.t 16)),
 y9 18 (.load true 2 (.t 17)),
 y9 19 (.call 81 [(.t 18),(.c (.int .i64 0))]),
 y9 14 (.mv (.t 19)),
 y9 20 (.extract 0 (.t 14)),
 y9 21 (.extract 1 (.t 14)),
 y9 5 (.alloc 45 [(.int .i64 0),(.str []),(.slice [] .nil)]),
 w9 (.store 3 (.t 5) (.t 20)),
 y9 6 (.mv (.t 21))] <|
 .region false [
 y9 22 (.faddr 2 (.t 3)),
 y9 23 (.load false 1 (.t 22)),
 y9 24 (.load true 3 (.t 5)),
 y9 25 (.bslice false true 1 3 [(.int .i64 0),(.str []),(.slice [] .nil)] [(0,3,(.t 24))]),
 y9 26 (.append 45 3 48 (.t 23) (.t 25)),
 y9 27 (.faddr 2 (.t 3)),
 w9 (.store 1 (.t 27) (.t 26))]) <|
 .region false [
 y9 12 (.mv (.t 4)),
 y9 13 (.bin .add (.t 12) (.c (.int .i64 1))),
 y9 4 (.mv (.t 13))]) <|
 q9 [
 y9 28 (.load true 3 (.t 3)),
 w9 (.store 3 (.t 2) (.t 28))] <|
 .ret
def c50 : AFun := .code 26 [.cell 4 true 3] <|
 q9 [
 y9 4 (.alloc 45 [(.int .i64 0),(.str []),(.slice [] .nil)])] <|
 q9 [
 y9 7 (.mv (.t 0)),
 y9 8 (.build [(.int .i64 0),(.str []),(.slice [] .nil)] [(0,1,(.t 7))]),
 y9 5 (.alloc 45 [(.int .i64 0),(.str []),(.slice [] .nil)]),
 w9 (.store 3 (.t 5) (.t 8))] <|
 .seq (q9 [
 y9 6 (.mv (.c (.int .i64 0)))] <|
 .block 0 <| .loop <| .seq (q9 [
 y9 9 (.mv (.t 6)),
 y9 10 (.mv (.t 1)),
 y9 11 (.len false (.t 10)),
 y9 12 (.bin .lss (.t 9) (.t 11))] <|
 .cond (.t 12) (.skip) <|
 .exit 0) <|
 .seq (.block 1 <| .region true [
 y9 15 (.faddr 2 (.t 5)),
 y9 16 (.load false 1 (.t 15)),
 y9 17 (.mv (.t 1)),
 y9 18 (.mv (.t 6)),
 ⟨(some 19),.iaddr none 1 (.t 17) (.t 18),none,[1]⟩,
 ⟨(some 20),.load false 1 (.t 19),none,[1]⟩,
 ⟨(some 21),.call 48 [(.t 20)],none,[1]⟩,
 ⟨(some 22),.bslice false true 1 3 [(.int .i64 0),(.str []),(.slice [] .nil)] [(0,3,(.t 21))],none,[1]⟩,
 y9 23 (.append 45 3 48 (.t 16) (.t 22)),
 y9 24 (.faddr 2 (.t 5)),
 w9 (.store 1 (.t 24) (.t 23))]) <|
 .region false [
 y9 13 (.mv (.t 6)),
 y9 14 (.bin .add (.t 13) (.c (.int .i64 1))),
 y9 6 (.mv (.t 14))]) <|
 q9 [
 y9 25 (.load true 3 (.t 5)),
 w9 (.store 3 (.t 4) (.t 25))] <|
 .ret
def c51 : AFun := .code 28 [.tmp 6] <|
 q9 [
 y9 3 (.box 35 (.t 0)),
 y9 6 (.mv (.c (.slice [] .nil)))] <|
 q9 [
 y9 7 (.mv (.c (.slice [] .nil)))] <|
 .seq (q9 [
 y9 8 (.faddr 0 (.t 3)),
 y9 9 (.load false 1 (.t 8)),
 y9 10 (.bin .neq (.t 9) (.c (.str [])))] <|
 .cond (.t 10) (.region false [
 y9 11 (.mv (.t 7)),
 y9 12 (.mv (.t 1)),
 y9 13 (.faddr 0 (.t 3)),
 y9 14 (.load false 1 (.t 13)),
 y9 15 (.build [(.int .i64 0),(.str []),(.slice [] .nil)] [(0,1,(.t 12)),(1,1,(.t 14))]),
 y9 16 (.bslice false true 1 3 [(.int .i64 0),(.str []),(.slice [] .nil)] [(0,3,(.t 15))]),
 y9 17 (.append 45 3 48 (.t 11) (.t 16)),
 y9 7 (.mv (.t 17))]) <|
 .skip) <|
 .seq (q9 [
 y9 18 (.faddr 2 (.t 3)),
 y9 19 (.load false 1 (.t 18))] <|
 .cond (.t 19) (.region false [
 y9 20 (.mv (.t 7)),
 y9 21 (.mv (.t 2)),
 y9 22 (.faddr 1 (.t 3)),
 y9 23 (.load false 1 (.t 22)),
 y9 24 (.build [(.int .i64 0),(.str []),(.slice [] .nil)] [(0,1,(.t 21)),(1,1,(.t 23))]),
 y9 25 (.bslice false true 1 3 [(.int .i64 0),(.str []),(.slice [] .nil)] [(0,3,(.t 24))]),
 y9 26 (.append 45 3 48 (.t 20) (.t 25)),
 y9 7 (.mv (.t 26))]) <|
 .skip) <|
 q9 [
 y9 27 (.mv (.t 7)),
 y9 6 (.mv (.t 27))] <|
 .ret
def c52 : AFun := .code 29 [.tmp 2,.tmp 3] <|
 q9 [
 y9 1 (.box 37 (.t 0)),
 y9 2 (.mv (.c (.slice [] .nil))),
 y9 3 (.mv (.c (.int .i64 0)))] <|
 .seq (q9 [
 y9 5 (.load true 4 (.t 1)),
 y9 6 (.call 55 [(.t 5)]),
 y9 7 (.un .not (.t 6))] <|
 .cond (.t 7) (q9 [
 y9 2 (.mv (.c (.slice [] .nil))),
 y9 3 (.mv (.c (.int .i64 100)))] <|
 .ret) <|
 .skip) <|
 .seq (.region true [
 y9 8 (.faddr 0 (.t 1)),
 y9 9 (.load false 1 (.t 8)),
 y9 10 (.call 82 [(.c (.int .i64 10)),(.t 9)]),
 y9 11 (.faddr 1 (.t 1)),
 ⟨(some 12),.load false 1 (.t 11),none,[1,2]⟩,
 y9 13 (.call 48 [(.t 12)]),
 y9 14 (.faddr 2 (.t 1)),
 ⟨(some 15),.load false 1 (.t 14),none,[1,2,4,5]⟩,
 y9 16 (.call 48 [(.t 15)]),
 y9 17 (.bslice false true 3 3 [(.int .i64 0),(.str []),(.slice [] .nil),(.int .i64 0),(.str []),(.slice [] .nil),(.int .i64 0),(.str []),(.slice [] .nil)] [(0,3,(.t 10)),(3,3,(.t 13)),(6,3,(.t 16))]),
 y9 4 (.mv (.t 17))]) <|
 .seq (q9 [
 y9 18 (.faddr 3 (.t 1)),
 y9 19 (.load false 1 (.t 18)),
 y9 20 (.len false (.t 19)),
 y9 21 (.bin .gtr (.t 20) (.c (.int .i64 0)))] <|
 .cond (.t 21) (.region false [
 y9 22 (.mv (.t 4)),
 y9 23 (.faddr 3 (.t 1)),
 y9 24 (.load false 1 (.t 23)),
 y9 25 (.call 50 [(.c (.int .i64 163)),(.t 24)]),
 y9 26 (.bslice false true 1 3 [(.int .i64 0),(.str []),(.slice [] .nil)] [(0,3,(.t 25))]),
 y9 27 (.append 45 3 48 (.t 22) (.t 26)),
 y9 4 (.mv (.t 27))]) <|
 .skip) <|
 q9 [
 y9 28 (.mv (.t 4)),
 y9 2 (.mv (.t 28)),
 y9 3 (.mv (.c (.int .i64 0)))] <|
 .ret
def c53 : AFun := .code 94 [.cell 2 true 35] <|
 q9 [
 y9 1 (.box 45 (.t 0)),
 y9 2 (.alloc 40 [(.int .i64 0),(.int .i64 0),(.str []),(.slice [] .nil),(.slice [] .nil),(.int .i64 0),(.int .i64 0),(.int .i64 0),(.int .i64 0),(.bool false),(.int .i64 0),(.str []),(.str []),(.slice [] .nil),(.str []),(.slice [] .nil),(.slice [] .nil),(.str []),(.bool false),(.str []),(.bool false),(.bool false),(.str []),(.str []),(.bool false),(.str []),(.str []),(.bool false),(.int .i64 0),(.str []),(.str []),(.slice [] .nil),(.slice [] .nil),(.int .i64 0),(.slice [] .nil)])] <|
 q9 [
 y9 8 (.faddr 0 (.t 1)),
 y9 9 (.load false 1 (.t 8)),
 y9 10 (.bin .sub (.t 9) (.c (.int .i64 96))),
 y9 11 (.build [(.int .i64 0),(.int .i64 0),(.str []),(.slice [] .nil),(.slice [] .nil),(.int .i64 0),(.int .i64 0),(.int .i64 0),(.int .i64 0),(.bool false),(.int .i64 0),(.str []),(.str []),(.slice [] .nil),(.str []),(.slice [] .nil),(.slice [] .nil),(.str []),(.bool false),(.str []),(.bool false),(.bool false),(.str []),(.str []),(.bool false),(.str []),(.str []),(.bool false),(.int .i64 0),(.str []),(.str []),(.slice [] .nil),(.slice [] .nil),(.int .i64 0),(.slice [] .nil)] [(1,1,(.t 10))]),
 y9 3 (.alloc 40 [(.int .i64 0),(.int .i64 0),(.str []),(.slice [] .nil),(.slice [] .nil),(.int .i64 0),(.int .i64 0),(.int .i64 0),(.int .i64 0),(.bool false),(.int .i64 0),(.str []),(.str []),(.slice [] .nil),(.str []),(.slice [] .nil),(.slice [] .nil),(.str []),(.bool false),(.str []),(.bool false),(.bool false),(.str []),(.str []),(.bool false),(.str []),(.str []),(.bool false),(.int .i64 0),(.str []),(.str []),(.slice [] .nil),(.slice [] .nil),(.int .i64 0),(.slice [] .nil)]),
 w9 (.store 35 (.t 3) (.t 11))] <|
 q9 [
 y9 12 (.faddr 2 (.t 1)),
 y9 13 (.load false 1 (.t 12)),
 y9 4 (.mv (.t 13))] <|
 .seq (q9 [
 y9 14 (.faddr 1 (.t 3)),
 y9 15 (.load false 1 (.t 14))] <|
 .block 0 <| q9 [
 y9 17 (.bin .eql (.t 15) (.c (.int .i64 4))),
 y9 16 (.mv (.t 17))] <|
 .cond (.t 16) (q9 [
 y9 18 (.load true 3 (.t 1)),
 y9 19 (.call 83 [(.t 18),(.c (.int .i64 0))]),
 y9 20 (.field 1 false 1 (.t 19)),
 y9 21 (.faddr 2 (.t 3)),
 w9 (.store 1 (.t 21) (.t 20))] <|
 q9 [
 y9 22 (.load true 3 (.t 1)),
 y9 23 (.call 83 [(.t 22),(.c (.int .i64 1))]),
 y9 24 (.field 2 false 1 (.t 23)),
 y9 25 (.call 84 [(.t 24)]),
 y9 26 (.faddr 3 (.t 3)),
 w9 (.store 1 (.t 26) (.t 25))] <|
 q9 [
 y9 27 (.load true 35 (.t 3)),
 w9 (.store 35 (.t 2) (.t 27))] <|
 .ret) <|
 q9 [
 y9 29 (.bin .eql (.t 15) (.c (.int .i64 19))),
 y9 28 (.mv (.t 29))] <|
 .cond (.t 28) (q9 [
 y9 30 (.mv (.t 4)),
 y9 31 (.call 85 [(.t 30)]),
 y9 32 (.faddr 32 (.t 3)),
 w9 (.store 1 (.t 32) (.t 31))] <|
 q9 [
 y9 33 (.load true 35 (.t 3)),
 w9 (.store 35 (.t 2) (.t 33))] <|
 .ret) <|
 .skip) <|
 .seq (.block 1 <| .loop <| .seq (q9 [
 y9 34 (.mv (.t 4)),
 y9 35 (.len false (.t 34)),
 y9 36 (.bin .gtr (.t 35) (.c (.int .i64 0))),
 y9 37 (.mv (.t 36)),
 ⟨(some 38),.mv (.t 4),some (37,true),[]⟩,
 ⟨(some 39),.mv (.t 4),some (37,true),[]⟩,
 ⟨(some 40),.len false (.t 39),some (37,true),[]⟩,
 ⟨(some 41),.bin .sub (.t 40) (.c (.int .i64 1)),some (37,true),[]⟩,
 ⟨(some 42),.iaddr none 3 (.t 38) (.t 41),some (37,true),[]⟩,
 ⟨(some 43),.faddr 0 (.t 42),some (37,true),[]⟩,
 ⟨(some 44),.load false 1 (.t 43),some (37,true),[]⟩,
 ⟨(some 45),.bin .geq (.t 44) (.c (.int .i64 128)),some (37,true),[]⟩,
 y9 46 (.pick (.t 37) (.t 45) (.c (.bool false))),
 y9 47 (.mv (.t 46)),
 ⟨(some 48),.mv (.t 4),some (47,true),[]⟩,
 ⟨(some 49),.mv (.t 4),some (47,true),[]⟩,
 ⟨(some 50),.len false (.t 49),some (47,true),[]⟩,
 ⟨(some 51),.bin .sub (.t 50) (.c (.int .i64 1)),some (47,true),[]⟩,
 ⟨(some 52),.iaddr none 3 (.t 48) (.t 51),some (47,true),[]⟩,
 ⟨(some 53),.faddr 0 (.t 52),some (47,true),[]⟩,
 ⟨(some 54),.load false 1 (.t 53),some (47,true),[]⟩,
 ⟨(some 55),.bin .lss (.t 54) (.c (.int .i64 160)),some (47,true),[]⟩,
 y9 56 (.pick (.t 47) (.t 55) (.c (.bool false)))] <|
 .cond (.t 56) (.skip) <|
 .exit 1) <|
 .block 2 <| q9 [
 y9 57 (.mv (.t 4)),
 y9 58 (.mv (.t 4)),
 y9 59 (.len false (.t 58)),
 y9 60 (.bin .sub (.t 59) (.c (.int .i64 1))),
 y9 61 (.iaddr none 3 (.t 57) (.t 60)),
 y9 62 (.load true 3 (.t 61)),
 y9 5 (.alloc 45 [(.int .i64 0),(.str []),(.slice [] .nil)]),
 w9 (.store 3 (.t 5) (.t 62))] <|
 .seq (q9 [
 y9 63 (.faddr 0 (.t 5)),
 y9 64 (.load false 1 (.t 63)),
 y9 65 (.bin .eql (.t 64) (.c (.int .i64 128))),
 y9 66 (.mv (.t 65)),
 ⟨(some 67),.faddr 0 (.t 5),some (66,false),[]⟩,
 ⟨(some 68),.load false 1 (.t 67),some (66,false),[]⟩,
 ⟨(some 69),.bin .eql (.t 68) (.c (.int .i64 138)),some (66,false),[]⟩,
 y9 70 (.pick (.t 66) (.c (.bool true)) (.t 69))] <|
 .cond (.t 70) (.region false [
 y9 71 (.faddr 1 (.t 5)),
 y9 72 (.load false 1 (.t 71)),
 y9 73 (.faddr 25 (.t 3)),
 y9 74 (.faddr 0 (.t 73)),
 w9 (.store 1 (.t 74) (.t 72))]) <|
 q9 [
 y9 75 (.faddr 1 (.t 5)),
 y9 76 (.load false 1 (.t 75)),
 y9 77 (.faddr 25 (.t 3)),
 y9 78 (.faddr 1 (.t 77)),
 w9 (.store 1 (.t 78) (.t 76))] <|
 .region false [
 y9 79 (.faddr 25 (.t 3)),
 y9 80 (.faddr 2 (.t 79)),
 w9 (.store 1 (.t 80) (.c (.bool true)))]) <|
 .region false [
 y9 81 (.mv (.t 4)),
 y9 82 (.mv (.t 4)),
 y9 83 (.len false (.t 82)),
 y9 84 (.bin .sub (.t 83) (.c (.int .i64 1))),
 y9 85 (.slice false 3 (.t 81) none (some (.t 84)) none),
 y9 4 (.mv (.t 85))]) <|
 q9 [
 y9 87 (.mv (.t 4)),
 y9 88 (.call 86 [(.t 87)]),
 y9 86 (.mv (.t 88)),
 y9 89 (.extract 0 (.t 86)),
 y9 90 (.extract 1 (.t 86)),
 y9 6 (.alloc 37 [(.int .i64 0),(.str []),(.str []),(.slice [] .nil)]),
 w9 (.store 4 (.t 6) (.t 89)),
 y9 7 (.mv (.t 90))] <|
 q9 [
 y9 91 (.load true 4 (.t 6)),
 y9 92 (.faddr 28 (.t 3)),
 w9 (.store 4 (.t 92) (.t 91))] <|
 q9 [
 y9 93 (.load true 35 (.t 3)),
 w9 (.store 35 (.t 2) (.t 93))] <|
 .ret
def c54 : AFun := .code 45 [.cell 2 true 35] <|
 q9 [
 y9 1 (.box 40 (.t 0)),
 y9 2 (.alloc 40 [(.int .i64 0),(.int .i64 0),(.str []),(.slice [] .nil),(.slice [] .nil),(.int .i64 0),(.int .i64 0),(.int .i64 0),(.int .i64 0),(.bool false),(.int .i64 0),(.str []),(.str []),(.slice [] .nil),(.str []),(.slice [] .nil),(.slice [] .nil),(.str []),(.bool false),(.str []),(.bool false),(.bool false),(.str []),(.str []),(.bool false),(.str []),(.str []),(.bool false),(.int .i64 0),(.str []),(.str []),(.slice [] .nil),(.slice [] .nil),(.int .i64 0),(.slice [] .nil)])] <|
 q9 [
 y9 4 (.faddr 1 (.t 1)),
 y9 5 (.load false 1 (.t 4)),
 y9 6 (.build [(.int .i64 0),(.int .i64 0),(.str []),(.slice [] .nil),(.slice [] .nil),(.int .i64 0),(.int .i64 0),(.int .i64 0),(.int .i64 0),(.bool false),(.int .i64 0),(.str []),(.str []),(.slice [] .nil),(.str []),(.slice [] .nil),(.slice [] .nil),(.str []),(.bool false),(.str []),(.bool false),(.bool false),(.str []),(.str []),(.bool false),(.str []),(.str []),(.bool false),(.int .i64 0),(.str []),(.str []),(.slice [] .nil),(.slice [] .nil),(.int .i64 0),(.slice [] .nil)] [(1,1,(.t 5))]),
 y9 3 (.alloc 40 [(.int .i64 0),(.int .i64 0),(.str []),(.slice [] .nil),(.slice [] .nil),(.int .i64 0),(.int .i64 0),(.int .i64 0),(.int .i64 0),(.bool false),(.int .i64 0),(.str []),(.str []),(.slice [] .nil),(.str []),(.slice [] .nil),(.slice [] .nil),(.str []),(.bool false),(.str []),(.bool false),(.bool false),(.str []),(.str []),(.bool false),(.str []),(.str []),(.bool false),(.int .i64 0),(.str []),(.str []),(.slice [] .nil),(.slice [] .nil),(.int .i64 0),(.slice [] .nil)]),
 w9 (.store 35 (.t 3) (.t 6))] <|
 .seq (q9 [
 y9 7 (.faddr 1 (.t 1)),
 y9 8 (.load false 1 (.t 7)),
 y9 9 (.call 61 [(.t 8)])] <|
 .cond (.t 9) (.region false [
 y9 10 (.faddr 28 (.t 1)),
 y9 11 (.load true 4 (.t 10)),
 y9 12 (.faddr 28 (.t 3)),
 w9 (.store 4 (.t 12) (.t 11))]) <|
 .skip) <|
 .seq (q9 [
 y9 13 (.faddr 1 (.t 1)),
 y9 14 (.load false 1 (.t 13))] <|
 .block 0 <| q9 [
 y9 16 (.bin .eql (.t 14) (.c (.int .i64 1))),
 y9 15 (.mv (.t 16))] <|
 .cond (.t 15) (.region false [
 y9 17 (.faddr 25 (.t 1)),
 y9 18 (.faddr 1 (.t 17)),
 y9 19 (.load false 1 (.t 18)),
 y9 20 (.faddr 25 (.t 1)),
 y9 21 (.faddr 2 (.t 20)),
 y9 22 (.load false 1 (.t 21)),
 y9 23 (.build [(.str []),(.str []),(.bool false)] [(1,1,(.t 19)),(2,1,(.t 22))]),
 y9 24 (.faddr 25 (.t 3)),
 w9 (.store 3 (.t 24) (.t 23))]) <|
 .seq (q9 [
 y9 26 (.bin .eql (.t 14) (.c (.int .i64 24))),
 y9 25 (.mv (.t 26))] <|
 .cond (.t 25) (.skip) <|
 .region false [
 y9 27 (.bin .eql (.t 14) (.c (.int .i64 25))),
 y9 25 (.mv (.t 27))]) <|
 .cond (.t 25) (.region false [
 y9 28 (.faddr 25 (.t 1)),
 y9 29 (.load true 3 (.t 28)),
 y9 30 (.faddr 25 (.t 3)),
 w9 (.store 3 (.t 30) (.t 29))]) <|
 q9 [
 y9 32 (.bin .eql (.t 14) (.c (.int .i64 4))),
 y9 31 (.mv (.t 32))] <|
 .cond (.t 31) (q9 [
 y9 33 (.faddr 2 (.t 1)),
 y9 34 (.load false 1 (.t 33)),
 y9 35 (.faddr 2 (.t 3)),
 w9 (.store 1 (.t 35) (.t 34))] <|
 .region false [
 y9 36 (.faddr 3 (.t 1)),
 y9 37 (.load false 1 (.t 36)),
 y9 38 (.faddr 3 (.t 3)),
 w9 (.store 1 (.t 38) (.t 37))]) <|
 q9 [
 y9 40 (.bin .eql (.t 14) (.c (.int .i64 19))),
 y9 39 (.mv (.t 40))] <|
 .cond (.t 39) (.region false [
 y9 41 (.faddr 32 (.t 1)),
 y9 42 (.load false 1 (.t 41)),
 y9 43 (.faddr 32 (.t 3)),
 w9 (.store 1 (.t 43) (.t 42))]) <|
 .skip) <|
 q9 [
 y9 44 (.load true 35 (.t 3)),
 w9 (.store 35 (.t 2) (.t 44))] <|
 .ret
def c55 : AFun := .code 39 [.tmp 2] <|
 q9 [
 y9 1 (.box 37 (.t 0)),
 y9 2 (.mv (.c (.bool false)))] <|
 .seq (q9 [
 y9 3 (.faddr 0 (.t 1)),
 y9 4 (.load false 1 (.t 3)),
 y9 5 (.bin .lss (.t 4) (.c (.int .i64 0))),
 y9 6 (.mv (.t 5)),
 ⟨(some 7),.faddr 0 (.t 1),some (6,false),[]⟩,
 ⟨(some 8),.load false 1 (.t 7),some (6,false),[]⟩,
 ⟨(some 9),.bin .gtr (.t 8) (.c (.int .i64 200)),some (6,false),[]⟩,
 y9 10 (.pick (.t 6) (.c (.bool true)) (.t 9)),
 y9 11 (.mv (.t 10)),
 ⟨(some 12),.faddr 1 (.t 1),some (11,false),[]⟩,
 ⟨(some 13),.load false 1 (.t 12),some (11,false),[]⟩,
 ⟨(some 14),.call 56 [(.t 13)],some (11,false),[]⟩,
 ⟨(some 15),.un .not (.t 14),some (11,false),[]⟩,
 y9 16 (.pick (.t 11) (.c (.bool true)) (.t 15)),
 y9 17 (.mv (.t 16)),
 ⟨(some 18),.faddr 2 (.t 1),some (17,false),[]⟩,
 ⟨(some 19),.load false 1 (.t 18),some (17,false),[]⟩,
 ⟨(some 20),.len true (.t 19),some (17,false),[]⟩,
 ⟨(some 21),.bin .gtr (.t 20) (.c (.int .i64 60)),some (17,false),[]⟩,
 y9 22 (.pick (.t 17) (.c (.bool true)) (.t 21)),
 y9 23 (.mv (.t 22)),
 ⟨(some 24),.faddr 2 (.t 1),some (23,false),[]⟩,
 ⟨(some 25),.load false 1 (.t 24),some (23,false),[]⟩,
 ⟨(some 26),.call 87 [(.t 25)],some (23,false),[]⟩,
 ⟨(some 27),.un .not (.t 26),some (23,false),[]⟩,
 y9 28 (.pick (.t 23) (.c (.bool true)) (.t 27))] <|
 .cond (.t 28) (q9 [
 y9 2 (.mv (.c (.bool false)))] <|
 .ret) <|
 .skip) <|
 .seq (q9 [
 y9 29 (.faddr 0 (.t 1)),
 y9 30 (.load false 1 (.t 29)),
 y9 31 (.bin .eql (.t 30) (.c (.int .i64 10)))] <|
 .cond (.t 31) (q9 [
 y9 32 (.faddr 3 (.t 1)),
 y9 33 (.load false 1 (.t 32)),
 y9 34 (.call 58 [(.t 33),(.c (.int .i64 1))]),
 y9 2 (.mv (.t 34))] <|
 .ret) <|
 .skip) <|
 q9 [
 y9 35 (.faddr 3 (.t 1)),
 y9 36 (.load false 1 (.t 35)),
 y9 37 (.len false (.t 36)),
 y9 38 (.bin .eql (.t 37) (.c (.int .i64 0))),
 y9 2 (.mv (.t 38))] <|
 .ret
def c56 : AFun := .code 17 [.tmp 2] <|
 q9 [
 y9 2 (.mv (.c (.bool false)))] <|
 q9 [
 y9 6 (.mv (.t 0)),
 y9 7 (.call 88 [(.t 6)]),
 y9 5 (.mv (.t 7)),
 y9 8 (.extract 0 (.t 5)),
 y9 9 (.extract 1 (.t 5)),
 y9 3 (.mv (.t 8)),
 y9 4 (.mv (.t 9))] <|
 q9 [
 y9 10 (.mv (.t 4)),
 y9 11 (.bin .eql (.t 10) (.c (.int .i64 0))),
 y9 12 (.mv (.t 11)),
 ⟨(some 13),.mv (.t 0),some (12,true),[]⟩,
 ⟨(some 14),.len true (.t 13),some (12,true),[]⟩,
 ⟨(some 15),.bin .leq (.t 14) (.c (.int .i64 200)),some (12,true),[]⟩,
 y9 16 (.pick (.t 12) (.t 15) (.c (.bool false))),
 y9 2 (.mv (.t 16))] <|
 .ret
def c57 : AFun := .code 15 [.tmp 4] <|
 q9 [
 y9 4 (.mv (.c (.bool false)))] <|
 q9 [
 y9 5 (.mv (.t 0)),
 y9 6 (.len true (.t 5)),
 y9 7 (.bin .leq (.t 6) (.c (.int .i64 200))),
 y9 8 (.mv (.t 7)),
 ⟨(some 9),.mv (.t 1),some (8,true),[]⟩,
 ⟨(some 10),.mv (.t 9),some (8,true),[]⟩,
 ⟨(some 11),.mv (.t 0),some (10,false),[]⟩,
 ⟨(some 12),.bin .eql (.t 11) (.c (.str [])),some (10,false),[]⟩,
 ⟨(some 13),.pick (.t 10) (.c (.bool true)) (.t 12),some (8,true),[]⟩,
 y9 14 (.pick (.t 8) (.t 13) (.c (.bool false))),
 y9 4 (.mv (.t 14))] <|
 .ret
def c58 : AFun := .code 42 [.tmp 4] <|
 q9 [
 y9 4 (.mv (.c (.bool false)))] <|
 .seq (q9 [
 y9 5 (.mv (.c (.int .i64 0)))] <|
 .block 0 <| .loop <| .seq (q9 [
 y9 6 (.mv (.t 5)),
 y9 7 (.mv (.t 0)),
 y9 8 (.len false (.t 7)),
 y9 9 (.bin .lss (.t 6) (.t 8))] <|
 .cond (.t 9) (.skip) <|
 .exit 0) <|
 .seq (.block 1 <| q9 [
 y9 12 (.mv (.t 0)),
 y9 13 (.mv (.t 5)),
 y9 14 (.iaddr none 1 (.t 12) (.t 13)),
 y9 15 (.load false 1 (.t 14)),
 y9 16 (.bin .eql (.t 15) (.c (.str []))),
 y9 17 (.mv (.t 16)),
 ⟨(some 18),.mv (.t 0),some (17,false),[]⟩,
 ⟨(some 19),.mv (.t 5),some (17,false),[]⟩,
 ⟨(some 20),.iaddr none 1 (.t 18) (.t 19),some (17,false),[]⟩,
 ⟨(some 21),.load false 1 (.t 20),some (17,false),[]⟩,
 ⟨(some 22),.len true (.t 21),some (17,false),[]⟩,
 ⟨(some 23),.bin .gtr (.t 22) (.c (.int .i64 60)),some (17,false),[]⟩,
 y9 24 (.pick (.t 17) (.c (.bool true)) (.t 23)),
 y9 25 (.mv (.t 24)),
 ⟨(some 26),.mv (.t 0),some (25,false),[]⟩,
 ⟨(some 27),.mv (.t 5),some (25,false),[]⟩,
 ⟨(some 28),.iaddr none 1 (.t 26) (.t 27),some (25,false),[]⟩,
 ⟨(some 29),.load false 1 (.t 28),some (25,false),[]⟩,
 ⟨(some 30),.call 87 [(.t 29)],some (25,false),[]⟩,
 ⟨(some 31),.un .not (.t 30),some (25,false),[]⟩,
 y9 32 (.pick (.t 25) (.c (.bool true)) (.t 31))] <|
 .cond (.t 32) (q9 [
 y9 4 (.mv (.c (.bool false)))] <|
 .ret) <|
 .skip) <|
 .region false [
 y9 10 (.mv (.t 5)),
 y9 11 (.bin .add (.t 10) (.c (.int .i64 1))),
 y9 5 (.mv (.t 11))]) <|
 q9 [
 y9 33 (.mv (.t 0)),
 y9 34 (.len false (.t 33)),
 y9 35 (.mv (.t 1)),
 y9 36 (.bin .geq (.t 34) (.t 35)),
 y9 37 (.mv (.t 36)),
 ⟨(some 38),.mv (.t 0),some (37,true),[]⟩,
 ⟨(some 39),.len false (.t 38),some (37,true),[]⟩,
 ⟨(some 40),.bin .leq (.t 39) (.c (.int .i64 3)),some (37,true),[]⟩,
 y9 41 (.pick (.t 37) (.t 40) (.c (.bool false))),
 y9 4 (.mv (.t 41))] <|
 .ret
def c59 : AFun := .code 10 [.tmp 2] <|
 q9 [
 y9 2 (.mv (.c (.bool false)))] <|
 q9 [
 y9 3 (.mv (.t 0)),
 y9 4 (.call 89 [(.t 3)]),
 y9 5 (.mv (.t 4)),
 ⟨(some 6),.mv (.t 0),some (5,true),[]⟩,
 ⟨(some 7),.index none (.t 6) (.c (.int .i64 0)),some (5,true),[]⟩,
 ⟨(some 8),.call 90 [(.t 7)],some (5,true),[]⟩,
 y9 9 (.pick (.t 5) (.t 8) (.c (.bool false))),
 y9 2 (.mv (.t 9))] <|
 .ret
def c60 : AFun := .code 30 [.tmp 6] <|
 q9 [
 y9 6 (.mv (.c (.bool false)))] <|
 .seq (q9 [
 y9 7 (.mv (.c (.int .i64 0)))] <|
 .block 0 <| .loop <| .seq (q9 [
 y9 8 (.mv (.t 7)),
 y9 9 (.mv (.t 0)),
 y9 10 (.len false (.t 9)),
 y9 11 (.bin .lss (.t 8) (.t 10))] <|
 .cond (.t 11) (.skip) <|
 .exit 0) <|
 .seq (.block 1 <| q9 [
 y9 14 (.mv (.t 0)),
 y9 15 (.mv (.t 7)),
 y9 16 (.iaddr none 2 (.t 14) (.t 15)),
 y9 17 (.load true 2 (.t 16)),
 y9 18 (.mv (.t 1)),
 y9 19 (.call 91 [(.t 17),(.t 18)]),
 y9 20 (.un .not (.t 19))] <|
 .cond (.t 20) (q9 [
 y9 6 (.mv (.c (.bool false)))] <|
 .ret) <|
 .skip) <|
 .region false [
 y9 12 (.mv (.t 7)),
 y9 13 (.bin .add (.t 12) (.c (.int .i64 1))),
 y9 7 (.mv (.t 13))]) <|
 q9 [
 y9 21 (.mv (.t 0)),
 y9 22 (.len false (.t 21)),
 y9 23 (.mv (.t 2)),
 y9 24 (.bin .geq (.t 22) (.t 23)),
 y9 25 (.mv (.t 24)),
 ⟨(some 26),.mv (.t 0),some (25,true),[]⟩,
 ⟨(some 27),.len false (.t 26),some (25,true),[]⟩,
 ⟨(some 28),.bin .leq (.t 27) (.c (.int .i64 6)),some (25,true),[]⟩,
 y9 29 (.pick (.t 25) (.t 28) (.c (.bool false))),
 y9 6 (.mv (.t 29))] <|
 .ret
def c61 : AFun := .code 13 [.tmp 2] <|
 q9 [
 y9 2 (.mv (.c (.bool false)))] <|
 q9 [
 y9 3 (.mv (.t 0)),
 y9 4 (.call 92 [(.t 3)]),
 y9 5 (.mv (.t 4)),
 ⟨(some 6),.mv (.t 0),some (5,false),[]⟩,
 ⟨(some 7),.bin .eql (.t 6) (.c (.int .i64 1)),some (5,false),[]⟩,
 y9 8 (.pick (.t 5) (.c (.bool true)) (.t 7)),
 y9 9 (.mv (.t 8)),
 ⟨(some 10),.mv (.t 0),some (9,false),[]⟩,
 ⟨(some 11),.bin .eql (.t 10) (.c (.int .i64 24)),some (9,false),[]⟩,
 y9 12 (.pick (.t 9) (.c (.bool true)) (.t 11)),
 y9 2 (.mv (.t 12))] <|
 .ret
def c62 : AFun := .code 3 [.tmp 0] <|
 q9 [
 y9 0 (.mv (.c .junk))] <|
 q9 [
 y9 1 (.mkmap),
 w9 (.insert 1 (.t 1) (.c (.int .i64 0)) (.c (.int .i64 1))),
 w9 (.insert 1 (.t 1) (.c (.int .i64 3)) (.c (.int .i64 5))),
 w9 (.insert 1 (.t 1) (.c (.int .i64 6)) (.c (.int .i64 7))),
 w9 (.insert 1 (.t 1) (.c (.int .i64 8)) (.c (.int .i64 9))),
 w9 (.insert 1 (.t 1) (.c (.int .i64 10)) (.c (.int .i64 11))),
 w9 (.insert 1 (.t 1) (.c (.int .i64 12)) (.c (.int .i64 13))),
 w9 (.insert 1 (.t 1) (.c (.int .i64 14)) (.c (.int .i64 15))),
 w9 (.insert 1 (.t 1) (.c (.int .i64 23)) (.c (.int .i64 24))),
 y9 2 (.mv (.t 1)),
 y9 0 (.mv (.t 2))] <|
 .ret
def c63 : AFun := .code 3 [.tmp 0] <|
 q9 [
 y9 0 (.mv (.c .junk))] <|
 q9 [
 y9 1 (.mkmap),
 w9 (.insert 1 (.t 1) (.c (.int .i64 0)) (.c (.func 93 []))),
 w9 (.insert 1 (.t 1) (.c (.int .i64 2)) (.c (.func 94 []))),
 w9 (.insert 1 (.t 1) (.c (.int .i64 3)) (.c (.func 95 []))),
 w9 (.insert 1 (.t 1) (.c (.int .i64 6)) (.c (.func 96 []))),
 w9 (.insert 1 (.t 1) (.c (.int .i64 8)) (.c (.func 97 []))),
 w9 (.insert 1 (.t 1) (.c (.int .i64 10)) (.c (.func 94 []))),
 w9 (.insert 1 (.t 1) (.c (.int .i64 12)) (.c (.func 98 []))),
 w9 (.insert 1 (.t 1) (.c (.int .i64 14)) (.c (.func 99 []))),
 w9 (.insert 1 (.t 1) (.c (.int .i64 16)) (.c (.func 100 []))),
 w9 (.insert 1 (.t 1) (.c (.int .i64 23)) (.c (.func 101 []))),
 y9 2 (.mv (.t 1)),
 y9 0 (.mv (.t 2))] <|
 .ret
def c64 : AFun := .code 50 [.cell 2 true 35,.tmp 3] <|
 q9 [
 y9 1 (.box 45 (.t 0)),
 y9 2 (.alloc 40 [(.int .i64 0),(.int .i64 0),(.str []),(.slice [] .nil),(.slice [] .nil),(.int .i64 0),(.int .i64 0),(.int .i64 0),(.int .i64 0),(.bool false),(.int .i64 0),(.str []),(.str []),(.slice [] .nil),(.str []),(.slice [] .nil),(.slice [] .nil),(.str []),(.bool false),(.str []),(.bool false),(.bool false),(.str []),(.str []),(.bool false),(.str []),(.str []),(.bool false),(.int .i64 0),(.str []),(.str []),(.slice [] .nil),(.slice [] .nil),(.int .i64 0),(.slice [] .nil)]),
 y9 3 (.mv (.c .nilIface))] <|
 .seq (.region true [
 y9 10 (.call 102 []),
 y9 11 (.faddr 0 (.t 1)),
 ⟨(some 12),.load false 1 (.t 11),none,[0]⟩,
 y9 13 (.lookup 1 (.agg [(.int .i64 0),.nilFunc]) true (.t 10) (.t 12)),
 y9 9 (.mv (.t 13)),
 y9 14 (.extract 0 (.t 9)),
 y9 15 (.extract 1 (.t 9)),
 ⟨(some 4),.alloc 148 [(.int .i64 0),.nilFunc],none,[0,2,3]⟩,
 w9 (.store 2 (.t 4) (.t 14)),
 y9 5 (.mv (.t 15))]) <|
 .seq (q9 [
 y9 16 (.mv (.t 5)),
 y9 17 (.un .not (.t 16))] <|
 .cond (.t 17) (.seq (.region true [
 y9 18 (.build [(.int .i64 0),(.int .i64 0),(.str []),(.slice [] .nil),(.slice [] .nil),(.int .i64 0),(.int .i64 0),(.int .i64 0),(.int .i64 0),(.bool false),(.int .i64 0),(.str []),(.str []),(.slice [] .nil),(.str []),(.slice [] .nil),(.slice [] .nil),(.str []),(.bool false),(.str []),(.bool false),(.bool false),(.str []),(.str []),(.bool false),(.str []),(.str []),(.bool false),(.int .i64 0),(.str []),(.str []),(.slice [] .nil),(.slice [] .nil),(.int .i64 0),(.slice [] .nil)] []),
 y9 19 (.faddr 0 (.t 1)),
 y9 20 (.load false 1 (.t 19)),
 y9 21 (.build [(.int .i64 0)] [(0,1,(.t 20))]),
 y9 22 (.mkif 153 (.t 21)),
 ⟨none,.store 35 (.t 2) (.t 18),none,[2]⟩,
 y9 3 (.mv (.t 22))]) <|
 .ret) <|
 .skip) <|
 q9 [
 y9 23 (.faddr 0 (.t 4)),
 y9 24 (.load false 1 (.t 23)),
 y9 25 (.build [(.int .i64 0),(.int .i64 0),(.str []),(.slice [] .nil),(.slice [] .nil),(.int .i64 0),(.int .i64 0),(.int .i64 0),(.int .i64 0),(.bool false),(.int .i64 0),(.str []),(.str []),(.slice [] .nil),(.str []),(.slice [] .nil),(.slice [] .nil),(.str []),(.bool false),(.str []),(.bool false),(.bool false),(.str []),(.str []),(.bool false),(.str []),(.str []),(.bool false),(.int .i64 0),(.str []),(.str []),(.slice [] .nil),(.slice [] .nil),(.int .i64 0),(.slice [] .nil)] [(1,1,(.t 24))]),
 y9 6 (.alloc 40 [(.int .i64 0),(.int .i64 0),(.str []),(.slice [] .nil),(.slice [] .nil),(.int .i64 0),(.int .i64 0),(.int .i64 0),(.int .i64 0),(.bool false),(.int .i64 0),(.str []),(.str []),(.slice [] .nil),(.str []),(.slice [] .nil),(.slice [] .nil),(.str []),(.bool false),(.str []),(.bool false),(.bool false),(.str []),(.str []),(.bool false),(.str []),(.str []),(.bool false),(.int .i64 0),(.str []),(.str []),(.slice [] .nil),(.slice [] .nil),(.int .i64 0),(.slice [] .nil)]),
 w9 (.store 35 (.t 6) (.t 25))] <|
 q9 [
 y9 26 (.faddr 1 (.t 4)),
 y9 27 (.load false 1 (.t 26)),
 y9 28 (.load true 3 (.t 1)),
 y9 29 (.build [(.int .i64 0),(.str []),(.slice [] .nil)] [(0,3,(.t 28))]),
 y9 30 (.callV (.t 27) [(.t 29),(.t 6)])] <|
 q9 [
 y9 32 (.load true 35 (.t 6)),
 y9 33 (.call 103 [(.t 32)]),
 y9 31 (.mv (.t 33)),
 y9 34 (.extract 0 (.t 31)),
 y9 35 (.extract 1 (.t 31)),
 y9 7 (.alloc 45 [(.int .i64 0),(.str []),(.slice [] .nil)]),
 w9 (.store 3 (.t 7) (.t 34)),
 y9 8 (.mv (.t 35))] <|
 .seq (q9 [
 y9 36 (.mv (.t 8)),
 y9 37 (.bin .neq (.t 36) (.c (.int .i64 0))),
 y9 38 (.mv (.t 37)),
 ⟨(some 39),.load true 3 (.t 7),some (38,false),[]⟩,
 ⟨(some 40),.load true 3 (.t 1),some (38,false),[]⟩,
 ⟨(some 41),.call 104 [(.t 39),(.t 40)],some (38,false),[]⟩,
 ⟨(some 42),.un .not (.t 41),some (38,false),[]⟩,
 y9 43 (.pick (.t 38) (.c (.bool true)) (.t 42))] <|
 .cond (.t 43) (.seq (.region true [
 y9 44 (.build [(.int .i64 0),(.int .i64 0),(.str []),(.slice [] .nil),(.slice [] .nil),(.int .i64 0),(.int .i64 0),(.int .i64 0),(.int .i64 0),(.bool false),(.int .i64 0),(.str []),(.str []),(.slice [] .nil),(.str []),(.slice [] .nil),(.slice [] .nil),(.str []),(.bool false),(.str []),(.bool false),(.bool false),(.str []),(.str []),(.bool false),(.str []),(.str []),(.bool false),(.int .i64 0),(.str []),(.str []),(.slice [] .nil),(.slice [] .nil),(.int .i64 0),(.slice [] .nil)] []),
 y9 45 (.faddr 0 (.t 4)),
 y9 46 (.load false 1 (.t 45)),
 y9 47 (.build [(.int .i64 0)] [(0,1,(.t 46))]),
 y9 48 (.mkif 153 (.t 47)),
 ⟨none,.store 35 (.t 2) (.t 44),none,[2]⟩,
 y9 3 (.mv (.t 48))]) <|
 .ret) <|
 .skip) <|
 q9 [
 y9 49 (.load true 35 (.t 6)),
 w9 (.store 35 (.t 2) (.t 49)),
 y9 3 (.mv (.c .nilIface))] <|
 .ret
def c65 : AFun := .code 12 [.tmp 2] <|
 q9 [
 y9 2 (.mv (.c (.int .i64 0)))] <|
 q9 [
 y9 3 (.alloc 153 [(.int .i64 0)])] <|
 .seq (q9 [
 y9 4 (.mv (.t 0)),
 y9 5 (.load false 1 (.c (.ptr 2 0))),
 y9 6 (.call 75 [(.t 4),(.t 5)]),
 y9 7 (.mv (.t 6)),
 ⟨(some 8),.mv (.t 0),some (7,true),[]⟩,
 ⟨(some 9),.mkif 157 (.t 3),some (7,true),[]⟩,
 ⟨(some 10),.call 74 [(.t 8),(.t 9)],some (7,true),[]⟩,
 y9 11 (.pick (.t 7) (.t 10) (.c (.bool false)))] <|
 .cond (.t 11) (q9 [
 y9 2 (.mv (.c (.int .i64 110)))] <|
 .ret) <|
 .skip) <|
 q9 [
 y9 2 (.mv (.c (.int .i64 0)))] <|
 .ret
def c66 : AFun := .code 54 [.cell 2 false 1] <|
 q9 [
 y9 1 (.box 116 (.t 0)),
 y9 2 (.alloc 80 [.nilIface])] <|
 .seq (.region true [
 y9 8 (.call 63 []),
 y9 9 (.faddr 0 (.t 1)),
 y9 10 (.faddr 1 (.t 9)),
 ⟨(some 11),.load false 1 (.t 10),none,[0]⟩,
 y9 12 (.lookup 1 .nilFunc true (.t 8) (.t 11)),
 y9 7 (.mv (.t 12)),
 y9 13 (.extract 0 (.t 7)),
 y9 14 (.extract 1 (.t 7)),
 y9 3 (.mv (.t 13)),
 y9 4 (.mv (.t 14))]) <|
 .seq (q9 [
 y9 15 (.mv (.t 4)),
 y9 16 (.un .not (.t 15)),
 y9 17 (.mv (.t 16)),
 ⟨(some 18),.faddr 0 (.t 1),some (17,false),[]⟩,
 ⟨(some 19),.faddr 2 (.t 18),some (17,false),[]⟩,
 ⟨(some 20),.load false 1 (.t 19),some (17,false),[]⟩,
 ⟨(some 21),.call 105 [(.t 20)],some (17,false),[]⟩,
 ⟨(some 22),.un .not (.t 21),some (17,false),[]⟩,
 y9 23 (.pick (.t 17) (.c (.bool true)) (.t 22)),
 y9 24 (.mv (.t 23)),
 ⟨(some 25),.mv (.t 3),some (24,false),[]⟩,
 ⟨(some 26),.load true 35 (.t 1),some (24,false),[]⟩,
 ⟨(some 27),.callV (.t 25) [(.t 26)],some (24,false),[]⟩,
 ⟨(some 28),.un .not (.t 27),some (24,false),[]⟩,
 y9 29 (.pick (.t 24) (.c (.bool true)) (.t 28))] <|
 .cond (.t 29) (q9 [
 y9 30 (.faddr 0 (.t 1)),
 y9 31 (.faddr 1 (.t 30)),
 y9 32 (.load false 1 (.t 31)),
 y9 33 (.build [(.int .i64 0)] [(0,1,(.t 32))]),
 y9 34 (.mkif 153 (.t 33)),
 w9 (.store 1 (.t 2) (.t 34))] <|
 .ret) <|
 .skip) <|
 .seq (q9 [
 y9 35 (.load true 35 (.t 1)),
 y9 36 (.call 106 [(.t 35)])] <|
 .block 0 <| .rfunc (.t 36) [37,38] (q9 [
 y9 5 (.mv (.t 37))] <|
 .region false [
 y9 6 (.mv (.t 38))]) <|
 .block 1 <| q9 [
 y9 39 (.mv (.t 6)),
 y9 40 (.un .not (.t 39)),
 y9 41 (.mv (.t 40)),
 ⟨(some 42),.mv (.t 5),some (41,true),[]⟩,
 ⟨(some 43),.faddr 0 (.t 1),some (41,true),[]⟩,
 ⟨(some 44),.faddr 1 (.t 43),some (41,true),[]⟩,
 ⟨(some 45),.load false 1 (.t 44),some (41,true),[]⟩,
 ⟨(some 46),.call 107 [(.t 42),(.t 45)],some (41,true),[]⟩,
 ⟨(some 47),.un .not (.t 46),some (41,true),[]⟩,
 y9 48 (.pick (.t 41) (.t 47) (.c (.bool false)))] <|
 .cond (.t 48) (q9 [
 y9 49 (.faddr 0 (.t 1)),
 y9 50 (.faddr 1 (.t 49)),
 y9 51 (.load false 1 (.t 50)),
 y9 52 (.build [(.int .i64 0)] [(0,1,(.t 51))]),
 y9 53 (.mkif 153 (.t 52)),
 w9 (.store 1 (.t 2) (.t 53))] <|
 .ret) <|
 .skip) <|
 q9 [
 w9 (.store 1 (.t 2) (.c .nilIface))] <|
 .ret
def c67 : AFun := .code 11 [.tmp 2] <|
 q9 [
 y9 1 (.box 45 (.t 0)),
 y9 2 (.mv (.c (.bool false)))] <|
 q9 [
 y9 3 (.load true 3 (.t 1)),
 y9 4 (.call 108 [(.t 3)]),
 y9 5 (.mv (.t 4)),
 ⟨(some 6),.load true 3 (.t 1),some (5,true),[]⟩,
 ⟨(some 7),.call 69 [(.t 6)],some (5,true),[]⟩,
 ⟨(some 8),.len true (.t 7),some (5,true),[]⟩,
 ⟨(some 9),.bin .leq (.t 8) (.c (.int .i64 4000)),some (5,true),[]⟩,
 y9 10 (.pick (.t 5) (.t 9) (.c (.bool false))),
 y9 2 (.mv (.t 10))] <|
 .ret
def c68 : AFun := .code 26 [.tmp 2] <|
 q9 [
 y9 2 (.mv (.c (.int .i64 0)))] <|
 q9 [
 y9 3 (.alloc 164 [(.int .i64 0)])] <|
 .seq (.block 0 <| q9 [
 y9 5 (.mv (.t 0)),
 y9 6 (.mkif 165 (.t 3)),
 y9 7 (.call 74 [(.t 5),(.t 6)]),
 y9 4 (.mv (.t 7))] <|
 .cond (.t 4) (q9 [
 y9 8 (.faddr 0 (.t 3)),
 y9 9 (.load false 1 (.t 8)),
 y9 2 (.mv (.t 9))] <|
 .ret) <|
 q9 [
 y9 11 (.mv (.t 0)),
 y9 12 (.load false 1 (.c (.ptr 3 0))),
 y9 13 (.call 75 [(.t 11),(.t 12)]),
 y9 10 (.mv (.t 13))] <|
 .cond (.t 10) (q9 [
 y9 2 (.mv (.c (.int .i64 10)))] <|
 .ret) <|
 q9 [
 y9 15 (.mv (.t 0)),
 y9 16 (.load false 1 (.c (.ptr 4 0))),
 y9 17 (.call 75 [(.t 15),(.t 16)]),
 y9 14 (.mv (.t 17))] <|
 .cond (.t 14) (q9 [
 y9 2 (.mv (.c (.int .i64 11)))] <|
 .ret) <|
 q9 [
 y9 19 (.mv (.t 0)),
 y9 20 (.load false 1 (.c (.ptr 5 0))),
 y9 21 (.call 75 [(.t 19),(.t 20)]),
 y9 18 (.mv (.t 21))] <|
 .cond (.t 18) (q9 [
 y9 2 (.mv (.c (.int .i64 20)))] <|
 .ret) <|
 q9 [
 y9 23 (.mv (.t 0)),
 y9 24 (.load false 1 (.c (.ptr 0 0))),
 y9 25 (.call 75 [(.t 23),(.t 24)]),
 y9 22 (.mv (.t 25))] <|
 .cond (.t 22) (q9 [
 y9 2 (.mv (.c (.int .i64 21)))] <|
 .ret) <|
 .skip) <|
 q9 [
 y9 2 (.mv (.c (.int .i64 0)))] <|
 .ret
def c69 : AFun := .code 27 [.tmp 2] <|
 q9 [
 y9 1 (.box 45 (.t 0)),
 y9 2 (.mv (.c (.str [])))] <|
 q9 [
 y9 3 (.mv (.c (.slice [] .nil)))] <|
 .seq (q9 [
 y9 6 (.faddr 2 (.t 1)),
 y9 7 (.load false 1 (.t 6)),
 y9 8 (.len false (.t 7)),
 y9 9 (.mv (.c (.int .i64 0)))] <|
 .block 0 <| .loop <| q9 [
 y9 10 (.bin .lss (.t 9) (.t 8))] <|
 .seq (.cond (.t 10) (.skip) <|
 .exit 0) <|
 .seq (.block 1 <| q9 [
 y9 11 (.iaddr none 3 (.t 7) (.t 9)),
 y9 12 (.load true 3 (.t 11)),
 y9 5 (.alloc 45 [(.int .i64 0),(.str []),(.slice [] .nil)]),
 w9 (.store 3 (.t 5) (.t 12))] <|
 .region false [
 y9 13 (.mv (.t 3)),
 y9 14 (.load true 3 (.t 5)),
 y9 15 (.call 69 [(.t 14)]),
 y9 16 (.bslice false false 1 1 [(.str [])] [(0,1,(.t 15))]),
 y9 17 (.append 9 1 16 (.t 13) (.t 16)),
 y9 3 (.mv (.t 17))]) <|
 .region false [
 y9 18 (.bin .add (.t 9) (.c (.int .i64 1))),
 y9 9 (.mv (.t 18))]) <|
 .seq (.region true [
 y9 19 (.faddr 0 (.t 1)),
 y9 20 (.load false 1 (.t 19)),
 y9 21 (.mv (.t 3)),
 y9 22 (.faddr 1 (.t 1)),
 ⟨(some 23),.load false 1 (.t 22),none,[1]⟩,
 ⟨(some 24),.bslice false false 1 1 [(.str [])] [(0,1,(.t 23))],none,[1]⟩,
 ⟨(some 25),.append 9 1 16 (.t 21) (.t 24),none,[1]⟩,
 y9 26 (.call 109 [(.t 20),(.t 25)]),
 y9 2 (.mv (.t 26))]) <|
 .ret
def c70 : AFun := .code 11 [.tmp 4] <|
 q9 [
 y9 4 (.mv (.c (.str [])))] <|
 q9 [
 y9 5 (.mv (.t 0)),
 y9 6 (.mv (.t 0)),
 y9 7 (.len true (.t 6)),
 y9 8 (.mv (.t 1)),
 y9 9 (.min2 false (.t 7) (.t 8)),
 y9 10 (.slice true 1 (.t 5) none (some (.t 9)) none),
 y9 4 (.mv (.t 10))] <|
 .ret
def c71 : AFun := .code 90 [.cell 4 true 6] <|
 q9 [
 y9 2 (.box 27 (.t 0)),
 y9 4 (.alloc 27 [(.int .i64 0),(.str []),(.str []),(.slice [] .nil),(.str []),(.slice [] .nil)])] <|
 .seq (.region true [
 y9 8 (.faddr 0 (.t 2)),
 y9 9 (.load false 1 (.t 8)),
 y9 10 (.faddr 1 (.t 2)),
 ⟨(some 11),.load false 1 (.t 10),none,[1]⟩,
 y9 12 (.faddr 1 (.t 2)),
 ⟨(some 13),.load false 1 (.t 12),none,[1,3]⟩,
 y9 14 (.len true (.t 13)),
 y9 15 (.min2 false (.t 14) (.c (.int .i64 61))),
 y9 16 (.slice true 1 (.t 11) none (some (.t 15)) none),
 y9 17 (.faddr 2 (.t 2)),
 ⟨(some 18),.load false 1 (.t 17),none,[1,3,5]⟩,
 y9 19 (.faddr 2 (.t 2)),
 ⟨(some 20),.load false 1 (.t 19),none,[1,3,5,10]⟩,
 y9 21 (.len true (.t 20)),
 y9 22 (.min2 false (.t 21) (.c (.int .i64 61))),
 y9 23 (.slice true 1 (.t 18) none (some (.t 22)) none),
 y9 24 (.faddr 4 (.t 2)),
 ⟨(some 25),.load false 1 (.t 24),none,[1,3,5,10,12]⟩,
 y9 26 (.faddr 4 (.t 2)),
 ⟨(some 27),.load false 1 (.t 26),none,[1,3,5,10,12,17]⟩,
 y9 28 (.len true (.t 27)),
 y9 29 (.min2 false (.t 28) (.c (.int .i64 61))),
 y9 30 (.slice true 1 (.t 25) none (some (.t 29)) none),
 y9 31 (.build [(.int .i64 0),(.str []),(.str []),(.slice [] .nil),(.str []),(.slice [] .nil)] [(0,1,(.t 9)),(1,1,(.t 16)),(2,1,(.t 23)),(4,1,(.t 30))]),
 ⟨(some 5),.alloc 27 [(.int .i64 0),(.str []),(.str []),(.slice [] .nil),(.str []),(.slice [] .nil)],none,[1,3,5,10,12,17,19]⟩,
 w9 (.store 6 (.t 5) (.t 31))]) <|
 .seq (q9 [
 y9 6 (.mv (.c (.int .i64 0)))] <|
 .block 0 <| .loop <| .seq (q9 [
 y9 32 (.mv (.t 6)),
 y9 33 (.faddr 3 (.t 2)),
 y9 34 (.load false 1 (.t 33)),
 y9 35 (.len false (.t 34)),
 y9 36 (.bin .lss (.t 32) (.t 35)),
 y9 37 (.mv (.t 36)),
 ⟨(some 38),.mv (.t 6),some (37,true),[]⟩,
 ⟨(some 39),.bin .lss (.t 38) (.c (.int .i64 10)),some (37,true),[]⟩,
 y9 40 (.pick (.t 37) (.t 39) (.c (.bool false)))] <|
 .cond (.t 40) (.skip) <|
 .exit 0) <|
 .seq (.block 1 <| .region true [
 y9 43 (.faddr 3 (.t 5)),
 y9 44 (.load false 1 (.t 43)),
 y9 45 (.faddr 3 (.t 2)),
 ⟨(some 46),.load false 1 (.t 45),none,[1]⟩,
 y9 47 (.mv (.t 6)),
 ⟨(some 48),.iaddr none 1 (.t 46) (.t 47),none,[1]⟩,
 ⟨(some 49),.load false 1 (.t 48),none,[1]⟩,
 y9 50 (.faddr 3 (.t 2)),
 ⟨(some 51),.load false 1 (.t 50),none,[1,3,5,6]⟩,
 y9 52 (.mv (.t 6)),
 ⟨(some 53),.iaddr none 1 (.t 51) (.t 52),none,[1,3,5,6]⟩,
 ⟨(some 54),.load false 1 (.t 53),none,[1,3,5,6]⟩,
 y9 55 (.len true (.t 54)),
 y9 56 (.min2 false (.t 55) (.c (.int .i64 61))),
 y9 57 (.slice true 1 (.t 49) none (some (.t 56)) none),
 ⟨(some 58),.bslice false false 1 1 [(.str [])] [(0,1,(.t 57))],none,[1]⟩,
 y9 59 (.append 9 1 16 (.t 44) (.t 58)),
 y9 60 (.faddr 3 (.t 5)),
 w9 (.store 1 (.t 60) (.t 59))]) <|
 .region false [
 y9 41 (.mv (.t 6)),
 y9 42 (.bin .add (.t 41) (.c (.int .i64 1))),
 y9 6 (.mv (.t 42))]) <|
 .seq (q9 [
 y9 7 (.mv (.c (.int .i64 0)))] <|
 .block 2 <| .loop <| .seq (q9 [
 y9 61 (.mv (.t 7)),
 y9 62 (.faddr 5 (.t 2)),
 y9 63 (.load false 1 (.t 62)),
 y9 64 (.len false (.t 63)),
 y9 65 (.bin .lss (.t 61) (.t 64)),
 y9 66 (.mv (.t 65)),
 ⟨(some 67),.mv (.t 7),some (66,true),[]⟩,
 ⟨(some 68),.bin .lss (.t 67) (.c (.int .i64 10)),some (66,true),[]⟩,
 y9 69 (.pick (.t 66) (.t 68) (.c (.bool false))),
 y9 70 (.mv (.t 69)),
 ⟨(some 71),.mv (.t 1),some (70,true),[]⟩,
 ⟨(some 72),.bin .gtr (.t 71) (.c (.int .i64 1)),some (70,true),[]⟩,
 y9 73 (.pick (.t 70) (.t 72) (.c (.bool false)))] <|
 .cond (.t 73) (.skip) <|
 .exit 2) <|
 .seq (.block 3 <| .region true [
 y9 76 (.faddr 5 (.t 5)),
 y9 77 (.load false 1 (.t 76)),
 y9 78 (.faddr 5 (.t 2)),
 ⟨(some 79),.load false 1 (.t 78),none,[1]⟩,
 y9 80 (.mv (.t 7)),
 ⟨(some 81),.iaddr none 6 (.t 79) (.t 80),none,[1]⟩,
 ⟨(some 82),.load true 6 (.t 81),none,[1]⟩,
 y9 83 (.mv (.t 1)),
 y9 84 (.bin .sub (.t 83) (.c (.int .i64 1))),
 ⟨(some 85),.call 71 [(.t 82),(.t 84)],none,[1]⟩,
 ⟨(some 86),.bslice false true 1 6 [(.int .i64 0),(.str []),(.str []),(.slice [] .nil),(.str []),(.slice [] .nil)] [(0,6,(.t 85))],none,[1]⟩,
 y9 87 (.append 27 6 104 (.t 77) (.t 86)),
 y9 88 (.faddr 5 (.t 5)),
 w9 (.store 1 (.t 88) (.t 87))]) <|
 .region false [
 y9 74 (.mv (.t 7)),
 y9 75 (.bin .add (.t 74) (.c (.int .i64 1))),
 y9 7 (.mv (.t 75))]) <|
 q9 [
 y9 89 (.load true 6 (.t 5)),
 w9 (.store 6 (.t 4) (.t 89))] <|
 .ret
def c72 : AFun := .code 77 [.tmp 2] <|
 q9 [
 y9 1 (.box 78 (.t 0)),
 y9 2 (.mv (.c (.bool false)))] <|
 q9 [
 y9 4 (.faddr 0 (.t 1)),
 y9 5 (.faddr 2 (.t 4)),
 y9 6 (.load false 1 (.t 5)),
 y9 7 (.bin .neq (.t 6) (.c (.str []))),
 y9 8 (.mv (.t 7)),
 ⟨(some 9),.faddr 0 (.t 1),some (8,false),[]⟩,
 ⟨(some 10),.faddr 3 (.t 9),some (8,false),[]⟩,
 ⟨(some 11),.load false 1 (.t 10),some (8,false),[]⟩,
 ⟨(some 12),.len false (.t 11),some (8,false),[]⟩,
 ⟨(some 13),.bin .gtr (.t 12) (.c (.int .i64 0)),some (8,false),[]⟩,
 y9 14 (.pick (.t 8) (.c (.bool true)) (.t 13)),
 y9 3 (.mv (.t 14))] <|
 .seq (.region true [
 y9 15 (.faddr 0 (.t 1)),
 y9 16 (.load true 35 (.t 15)),
 y9 17 (.call 111 [(.t 16)]),
 y9 18 (.faddr 35 (.t 1)),
 y9 19 (.faddr 0 (.t 18)),
 ⟨(some 20),.load false 1 (.t 19),none,[1,2]⟩,
 y9 21 (.un .not (.t 20)),
 y9 22 (.mv (.t 21)),
 ⟨(some 23),.faddr 0 (.t 1),some (22,true),[]⟩,
 ⟨(some 24),.faddr 28 (.t 23),some (22,true),[]⟩,
 ⟨(some 25),.load true 4 (.t 24),some (22,true),[]⟩,
 ⟨(some 26),.call 112 [(.t 25)],some (22,true),[]⟩,
 ⟨(some 27),.un .not (.t 26),some (22,true),[]⟩,
 y9 28 (.pick (.t 22) (.t 27) (.c (.bool false))),
 y9 29 (.faddr 35 (.t 1)),
 y9 30 (.faddr 1 (.t 29)),
 ⟨(some 31),.load false 1 (.t 30),none,[1,2,5,10,11]⟩,
 y9 32 (.un .not (.t 31)),
 y9 33 (.mv (.t 32)),
 ⟨(some 34),.faddr 0 (.t 1),some (33,true),[]⟩,
 ⟨(some 35),.faddr 25 (.t 34),some (33,true),[]⟩,
 ⟨(some 36),.faddr 2 (.t 35),some (33,true),[]⟩,
 ⟨(some 37),.load false 1 (.t 36),some (33,true),[]⟩,
 ⟨(some 38),.mv (.t 37),some (33,true),[]⟩,
 ⟨(some 39),.faddr 0 (.t 1),some (38,false),[]⟩,
 ⟨(some 40),.faddr 25 (.t 39),some (38,false),[]⟩,
 ⟨(some 41),.faddr 1 (.t 40),some (38,false),[]⟩,
 ⟨(some 42),.load false 1 (.t 41),some (38,false),[]⟩,
 ⟨(some 43),.bin .neq (.t 42) (.c (.str [])),some (38,false),[]⟩,
 ⟨(some 44),.pick (.t 38) (.c (.bool true)) (.t 43),some (33,true),[]⟩,
 y9 45 (.pick (.t 33) (.t 44) (.c (.bool false))),
 y9 46 (.faddr 35 (.t 1)),
 y9 47 (.faddr 2 (.t 46)),
 ⟨(some 48),.load false 1 (.t 47),none,[1,2,5,10,11,16,22,27]⟩,
 y9 49 (.un .not (.t 48)),
 y9 50 (.mv (.t 49)),
 ⟨(some 51),.faddr 0 (.t 1),some (50,true),[]⟩,
 ⟨(some 52),.faddr 25 (.t 51),some (50,true),[]⟩,
 ⟨(some 53),.faddr 0 (.t 52),some (50,true),[]⟩,
 ⟨(some 54),.load false 1 (.t 53),some (50,true),[27]⟩,
 ⟨(some 55),.bin .neq (.t 54) (.c (.str [])),some (50,true),[]⟩,
 y9 56 (.pick (.t 50) (.t 55) (.c (.bool false))),
 y9 57 (.faddr 35 (.t 1)),
 y9 58 (.faddr 3 (.t 57)),
 ⟨(some 59),.load false 1 (.t 58),none,[1,2,5,10,11,16,22,27,33,39]⟩,
 y9 60 (.un .not (.t 59)),
 y9 61 (.mv (.t 60)),
 ⟨(some 62),.mv (.t 3),some (61,true),[]⟩,
 y9 63 (.pick (.t 61) (.t 62) (.c (.bool false))),
 y9 64 (.faddr 35 (.t 1)),
 y9 65 (.faddr 4 (.t 64)),
 ⟨(some 66),.load false 1 (.t 65),none,[1,2,5,10,11,16,22,27,33,39,44]⟩,
 y9 67 (.un .not (.t 66)),
 y9 68 (.mv (.t 67)),
 ⟨(some 69),.faddr 0 (.t 1),some (68,true),[]⟩,
 ⟨(some 70),.faddr 32 (.t 69),some (68,true),[]⟩,
 ⟨(some 71),.load false 1 (.t 70),some (68,true),[27,39]⟩,
 ⟨(some 72),.len false (.t 71),some (68,true),[]⟩,
 ⟨(some 73),.bin .gtr (.t 72) (.c (.int .i64 0)),some (68,true),[]⟩,
 y9 74 (.pick (.t 68) (.t 73) (.c (.bool false))),
 y9 75 (.bslice false false 6 1 [(.bool false),(.bool false),(.bool false),(.bool false),(.bool false),(.bool false)] [(0,1,(.t 17)),(1,1,(.t 28)),(2,1,(.t 45)),(3,1,(.t 56)),(4,1,(.t 63)),(5,1,(.t 74))]),
 y9 76 (.call 110 [(.t 75)]),
 y9 2 (.mv (.t 76))]) <|
 .ret
def c73 : AFun := .code 99 [.tmp 2] <|
 q9 [
 y9 1 (.box 78 (.t 0)),
 y9 2 (.mv (.c (.bool false)))] <|
 q9 [
 y9 10 (.faddr 0 (.t 1)),
 y9 11 (.faddr 28 (.t 10)),
 y9 12 (.load true 4 (.t 11)),
 y9 13 (.call 76 [(.t 12)]),
 y9 9 (.mv (.t 13)),
 y9 14 (.extract 0 (.t 9)),
 y9 15 (.extract 1 (.t 9)),
 y9 3 (.mv (.t 14)),
 y9 4 (.mv (.t 15))] <|
 q9 [
 y9 16 (.faddr 0 (.t 1)),
 y9 17 (.faddr 25 (.t 16)),
 y9 18 (.faddr 1 (.t 17)),
 y9 19 (.load false 1 (.t 18)),
 y9 20 (.len true (.t 19)),
 y9 21 (.bin .leq (.t 20) (.c (.int .i64 200))),
 y9 22 (.mv (.t 21)),
 ⟨(some 23),.faddr 0 (.t 1),some (22,true),[]⟩,
 ⟨(some 24),.faddr 25 (.t 23),some (22,true),[]⟩,
 ⟨(some 25),.faddr 2 (.t 24),some (22,true),[]⟩,
 ⟨(some 26),.load false 1 (.t 25),some (22,true),[]⟩,
 ⟨(some 27),.mv (.t 26),some (22,true),[]⟩,
 ⟨(some 28),.faddr 0 (.t 1),some (27,false),[]⟩,
 ⟨(some 29),.faddr 25 (.t 28),some (27,false),[]⟩,
 ⟨(some 30),.faddr 1 (.t 29),some (27,false),[]⟩,
 ⟨(some 31),.load false 1 (.t 30),some (27,false),[]⟩,
 ⟨(some 32),.bin .eql (.t 31) (.c (.str [])),some (27,false),[]⟩,
 ⟨(some 33),.pick (.t 27) (.c (.bool true)) (.t 32),some (22,true),[]⟩,
 y9 34 (.pick (.t 22) (.t 33) (.c (.bool false))),
 y9 5 (.mv (.t 34))] <|
 q9 [
 y9 35 (.faddr 0 (.t 1)),
 y9 36 (.faddr 25 (.t 35)),
 y9 37 (.faddr 0 (.t 36)),
 y9 38 (.load false 1 (.t 37)),
 y9 39 (.bin .eql (.t 38) (.c (.str []))),
 y9 40 (.mv (.t 39)),
 ⟨(some 41),.faddr 0 (.t 1),some (40,false),[]⟩,
 ⟨(some 42),.faddr 25 (.t 41),some (40,false),[]⟩,
 ⟨(some 43),.faddr 0 (.t 42),some (40,false),[]⟩,
 ⟨(some 44),.load false 1 (.t 43),some (40,false),[]⟩,
 ⟨(some 45),.call 113 [(.t 44)],some (40,false),[]⟩,
 y9 46 (.pick (.t 40) (.c (.bool true)) (.t 45)),
 y9 6 (.mv (.t 46))] <|
 q9 [
 y9 47 (.faddr 0 (.t 1)),
 y9 48 (.faddr 3 (.t 47)),
 y9 49 (.load false 1 (.t 48)),
 y9 50 (.len false (.t 49)),
 y9 51 (.bin .leq (.t 50) (.c (.int .i64 6))),
 y9 7 (.alloc 4 [(.bool false)]),
 w9 (.store 1 (.t 7) (.t 51))] <|
 .seq (q9 [
 y9 52 (.load true 42 (.t 1)),
 y9 53 (.call 114 [(.t 52)])] <|
 .block 0 <| .rfunc (.t 53) [54] (.skip) <|
 .block 1 <| .region false [
 w9 (.store 1 (.t 7) (.c (.bool false)))]) <|
 q9 [
 y9 55 (.faddr 0 (.t 1)),
 y9 56 (.faddr 32 (.t 55)),
 y9 57 (.load false 1 (.t 56)),
 y9 58 (.len false (.t 57)),
 y9 59 (.bin .leq (.t 58) (.c (.int .i64 3))),
 y9 60 (.mv (.t 59)),
 ⟨(some 61),.faddr 0 (.t 1),some (60,true),[]⟩,
 ⟨(some 62),.faddr 32 (.t 61),some (60,true),[]⟩,
 ⟨(some 63),.load false 1 (.t 62),some (60,true),[]⟩,
 ⟨(some 64),.call 115 [(.c (.func 116 [])),(.t 63)],some (60,true),[]⟩,
 y9 65 (.pick (.t 60) (.t 64) (.c (.bool false))),
 y9 66 (.mv (.t 65)),
 ⟨(some 67),.faddr 35 (.t 1),some (66,true),[]⟩,
 ⟨(some 68),.faddr 4 (.t 67),some (66,true),[]⟩,
 ⟨(some 69),.load false 1 (.t 68),some (66,true),[]⟩,
 ⟨(some 70),.un .not (.t 69),some (66,true),[]⟩,
 ⟨(some 71),.mv (.t 70),some (66,true),[]⟩,
 ⟨(some 72),.faddr 0 (.t 1),some (71,false),[]⟩,
 ⟨(some 73),.faddr 32 (.t 72),some (71,false),[]⟩,
 ⟨(some 74),.load false 1 (.t 73),some (71,false),[]⟩,
 ⟨(some 75),.len false (.t 74),some (71,false),[]⟩,
 ⟨(some 76),.bin .gtr (.t 75) (.c (.int .i64 0)),some (71,false),[]⟩,
 ⟨(some 77),.pick (.t 71) (.c (.bool true)) (.t 76),some (66,true),[]⟩,
 y9 78 (.pick (.t 66) (.t 77) (.c (.bool false))),
 y9 8 (.mv (.t 78))] <|
 q9 [
 y9 79 (.mv (.t 4)),
 y9 80 (.bin .eql (.t 79) (.c (.int .i64 0))),
 y9 81 (.mv (.t 80)),
 ⟨(some 82),.mv (.t 5),some (81,true),[]⟩,
 y9 83 (.pick (.t 81) (.t 82) (.c (.bool false))),
 y9 84 (.mv (.t 83)),
 ⟨(some 85),.mv (.t 6),some (84,true),[]⟩,
 y9 86 (.pick (.t 84) (.t 85) (.c (.bool false))),
 y9 87 (.mv (.t 86)),
 ⟨(some 88),.load false 1 (.t 7),some (87,true),[]⟩,
 y9 89 (.pick (.t 87) (.t 88) (.c (.bool false))),
 y9 90 (.mv (.t 89)),
 ⟨(some 91),.mv (.t 8),some (90,true),[]⟩,
 y9 92 (.pick (.t 90) (.t 91) (.c (.bool false))),
 y9 93 (.mv (.t 92)),
 ⟨(some 94),.faddr 0 (.t 1),some (93,true),[]⟩,
 ⟨(some 95),.faddr 2 (.t 94),some (93,true),[]⟩,
 ⟨(some 96),.load false 1 (.t 95),some (93,true),[]⟩,
 ⟨(some 97),.call 105 [(.t 96)],some (93,true),[]⟩,
 y9 98 (.pick (.t 93) (.t 97) (.c (.bool false))),
 y9 2 (.mv (.t 98))] <|
 .ret
def c74 : AFun := .code 42 [.tmp 4] <|
 q9 [
 y9 4 (.mv (.c (.bool false)))] <|
 .seq (q9 [
 y9 8 (.mv (.t 0)),
 y9 9 (.eq false (.iface [15,127,157,165,234,252,336,354,360,378,420,427,428]) true (.t 8) (.c .nilIface))] <|
 .cond (.t 9) (q9 [
 y9 4 (.mv (.c (.bool false)))] <|
 .ret) <|
 .skip) <|
 .seq (q9 [
 y9 10 (.mv (.t 1)),
 y9 11 (.eq false (.iface [15,127,157,165,234,252,336,354,360,378,420,427,428]) true (.t 10) (.c .nilIface))] <|
 .cond (.t 11) (.region false [
 y9 12 (.mkif 9 (.c (.str [101,114,114,111,114,115,58,32,116,97,114,103,101,116,32,99,97,110,110,111,116,32,98,101,32,110,105,108]))),
 w9 (.bad)]) <|
 .skip) <|
 q9 [
 y9 13 (.mv (.t 1)),
 y9 14 (.call 117 [(.t 13)]),
 y9 5 (.alloc 175 [.nilptr,.nilptr,(.int .u64 0)]),
 w9 (.store 3 (.t 5) (.t 14))] <|
 q9 [
 y9 15 (.load true 3 (.t 5)),
 y9 16 (.call 118 [(.t 15)]),
 y9 6 (.mv (.t 16))] <|
 .seq (q9 [
 y9 17 (.mv (.t 6)),
 y9 18 (.invoke [(17,365,none),(175,376,none),(232,365,(some 0)),(233,365,(some 0))] (.t 17) []),
 y9 19 (.bin .neq (.t 18) (.c (.int .u8 22))),
 y9 20 (.mv (.t 19)),
 ⟨(some 21),.load true 3 (.t 5),some (20,false),[]⟩,
 ⟨(some 22),.call 119 [(.t 21)],some (20,false),[]⟩,
 y9 23 (.pick (.t 20) (.c (.bool true)) (.t 22))] <|
 .cond (.t 23) (.region false [
 y9 24 (.mkif 9 (.c (.str [101,114,114,111,114,115,58,32,116,97,114,103,101,116,32,109,117,115,116,32,98,101,32,97,32,110,111,110,45,110,105,108,32,112,111,105,110,116,101,114]))),
 w9 (.bad)]) <|
 .skip) <|
 q9 [
 y9 25 (.mv (.t 6)),
 y9 26 (.invoke [(17,364,none),(175,183,none),(232,364,(some 0)),(233,381,none)] (.t 25) []),
 y9 7 (.mv (.t 26))] <|
 .seq (q9 [
 y9 27 (.mv (.t 7)),
 y9 28 (.invoke [(17,365,none),(175,376,none),(232,365,(some 0)),(233,365,(some 0))] (.t 27) []),
 y9 29 (.bin .neq (.t 28) (.c (.int .u8 20))),
 y9 30 (.mv (.t 29)),
 ⟨(some 31),.mv (.t 7),some (30,true),[]⟩,
 ⟨(some 32),.load false 1 (.c (.ptr 6 0)),some (30,true),[]⟩,
 ⟨(some 33),.invoke [(233,382,none)] (.t 31) [(.t 32)],some (30,true),[]⟩,
 ⟨(some 34),.un .not (.t 33),some (30,true),[]⟩,
 y9 35 (.pick (.t 30) (.t 34) (.c (.bool false)))] <|
 .cond (.t 35) (.region false [
 y9 36 (.mkif 9 (.c (.str [101,114,114,111,114,115,58,32,42,116,97,114,103,101,116,32,109,117,115,116,32,98,101,32,105,110,116,101,114,102,97,99,101,32,111,114,32,105,109,112,108,101,109,101,110,116,32,101,114,114,111,114]))),
 w9 (.bad)]) <|
 .skip) <|
 q9 [
 y9 37 (.mv (.t 0)),
 y9 38 (.mv (.t 1)),
 y9 39 (.load true 3 (.t 5)),
 y9 40 (.mv (.t 7)),
 y9 41 (.call 120 [(.t 37),(.t 38),(.t 39),(.t 40)]),
 y9 4 (.mv (.t 41))] <|
 .ret
def c75 : AFun := .code 22 [.tmp 4] <|
 q9 [
 y9 4 (.mv (.c (.bool false)))] <|
 .seq (q9 [
 y9 6 (.mv (.t 0)),
 y9 7 (.eq false (.iface [15,127,157,165,234,252,336,354,360,378,420,427,428]) true (.t 6) (.c .nilIface)),
 y9 8 (.mv (.t 7)),
 ⟨(some 9),.mv (.t 1),some (8,false),[]⟩,
 ⟨(some 10),.eq false (.iface [15,127,157,165,234,252,336,354,360,378,420,427,428]) true (.t 9) (.c .nilIface),some (8,false),[]⟩,
 y9 11 (.pick (.t 8) (.c (.bool true)) (.t 10))] <|
 .cond (.t 11) (q9 [
 y9 12 (.mv (.t 0)),
 y9 13 (.mv (.t 1)),
 y9 14 (.eq false (.iface [15,127,157,165,234,252,336,354,360,378,420,427,428]) false (.t 12) (.t 13)),
 y9 4 (.mv (.t 14))] <|
 .ret) <|
 .skip) <|
 q9 [
 y9 15 (.mv (.t 1)),
 y9 16 (.call 121 [(.t 15)]),
 y9 17 (.invoke [(233,380,none)] (.t 16) []),
 y9 5 (.mv (.t 17))] <|
 q9 [
 y9 18 (.mv (.t 0)),
 y9 19 (.mv (.t 1)),
 y9 20 (.mv (.t 5)),
 y9 21 (.call 122 [(.t 18),(.t 19),(.t 20)]),
 y9 4 (.mv (.t 21))] <|
 .ret
def c76 : AFun := .code 33 [.tmp 2,.tmp 3] <|
 q9 [
 y9 1 (.box 37 (.t 0)),
 y9 2 (.mv (.c (.slice [] .nil))),
 y9 3 (.mv (.c (.int .i64 0)))] <|
 .seq (q9 [
 y9 6 (.load true 4 (.t 1)),
 y9 7 (.call 123 [(.t 6)]),
 y9 4 (.mv (.t 7))] <|
 q9 [
 y9 8 (.mv (.t 4)),
 y9 9 (.eq true (.iface [15,127,157,165,234,252,336,354,360,378,420,427,428]) true (.t 8) (.c .nilIface))] <|
 .cond (.t 9) (q9 [
 y9 10 (.mv (.t 4)),
 y9 11 (.call 124 [(.t 10)]),
 y9 2 (.mv (.c (.slice [] .nil))),
 y9 3 (.mv (.t 11))] <|
 .ret) <|
 .skip) <|
 .seq (.region true [
 y9 12 (.faddr 0 (.t 1)),
 y9 13 (.load false 1 (.t 12)),
 y9 14 (.call 125 [(.t 13)]),
 y9 15 (.faddr 1 (.t 1)),
 ⟨(some 16),.load false 1 (.t 15),none,[1,2]⟩,
 y9 17 (.call 126 [(.t 16)]),
 y9 18 (.faddr 2 (.t 1)),
 ⟨(some 19),.load false 1 (.t 18),none,[1,2,4,5]⟩,
 y9 20 (.call 126 [(.t 19)]),
 y9 21 (.bslice false true 3 3 [(.int .i64 0),(.str []),(.slice [] .nil),(.int .i64 0),(.str []),(.slice [] .nil),(.int .i64 0),(.str []),(.slice [] .nil)] [(0,3,(.t 14)),(3,3,(.t 17)),(6,3,(.t 20))]),
 y9 5 (.mv (.t 21))]) <|
 .seq (q9 [
 y9 22 (.faddr 3 (.t 1)),
 y9 23 (.load false 1 (.t 22)),
 y9 24 (.len false (.t 23)),
 y9 25 (.bin .gtr (.t 24) (.c (.int .i64 0)))] <|
 .cond (.t 25) (.region false [
 y9 26 (.mv (.t 5)),
 y9 27 (.faddr 3 (.t 1)),
 y9 28 (.load false 1 (.t 27)),
 y9 29 (.call 127 [(.c (.int .i64 163)),(.t 28)]),
 y9 30 (.bslice false true 1 3 [(.int .i64 0),(.str []),(.slice [] .nil)] [(0,3,(.t 29))]),
 y9 31 (.append 45 3 48 (.t 26) (.t 30)),
 y9 5 (.mv (.t 31))]) <|
 .skip) <|
 q9 [
 y9 32 (.mv (.t 5)),
 y9 2 (.mv (.t 32)),
 y9 3 (.mv (.c (.int .i64 0)))] <|
 .ret
def c77 : AFun := .code 23 [.cell 4 true 3,.tmp 5] <|
 q9 [
 y9 2 (.box 64 (.t 0)),
 y9 4 (.alloc 45 [(.int .i64 0),(.str []),(.slice [] .nil)]),
 y9 5 (.mv (.c (.int .i64 0)))] <|
 .seq (q9 [
 y9 7 (.load true 2 (.t 2)),
 y9 8 (.mv (.t 1)),
 y9 9 (.call 128 [(.t 7),(.t 8)]),
 y9 6 (.mv (.t 9))] <|
 q9 [
 y9 10 (.mv (.t 6)),
 y9 11 (.eq true (.iface [15,127,157,165,234,252,336,354,360,378,420,427,428]) true (.t 10) (.c .nilIface))] <|
 .cond (.t 11) (q9 [
 y9 12 (.build [(.int .i64 0),(.str []),(.slice [] .nil)] []),
 y9 13 (.mv (.t 6)),
 y9 14 (.call 124 [(.t 13)]),
 w9 (.store 3 (.t 4) (.t 12)),
 y9 5 (.mv (.t 14))] <|
 .ret) <|
 .skip) <|
 .seq (.region true [
 y9 15 (.faddr 0 (.t 2)),
 y9 16 (.load false 1 (.t 15)),
 y9 17 (.call 126 [(.t 16)]),
 y9 18 (.faddr 1 (.t 2)),
 ⟨(some 19),.load false 1 (.t 18),none,[1,2]⟩,
 y9 20 (.call 127 [(.c (.int .i64 49)),(.t 19)]),
 y9 21 (.bslice false true 2 3 [(.int .i64 0),(.str []),(.slice [] .nil),(.int .i64 0),(.str []),(.slice [] .nil)] [(0,3,(.t 17)),(3,3,(.t 20))]),
 y9 22 (.call 129 [(.c (.int .i64 48)),(.t 21)]),
 w9 (.store 3 (.t 4) (.t 22)),
 y9 5 (.mv (.c (.int .i64 0)))]) <|
 .ret
def c78 : AFun := .code 8 [.cell 4 true 3] <|
 q9 [
 y9 4 (.alloc 45 [(.int .i64 0),(.str []),(.slice [] .nil)])] <|
 q9 [
 y9 5 (.mv (.t 0)),
 y9 6 (.mv (.t 1)),
 y9 7 (.build [(.int .i64 0),(.str []),(.slice [] .nil)] [(0,1,(.t 5)),(1,1,(.t 6))]),
 w9 (.store 3 (.t 4) (.t 7))] <|
 .ret
def c79 : AFun := .code 68 [.tmp 4] <|
 q9 [
 y9 2 (.box 27 (.t 0)),
 y9 3 (.box 27 (.t 1)),
 y9 4 (.mv (.c (.bool false)))] <|
 .seq (q9 [
 y9 6 (.faddr 0 (.t 2)),
 y9 7 (.load false 1 (.t 6)),
 y9 8 (.faddr 0 (.t 3)),
 y9 9 (.load false 1 (.t 8)),
 y9 10 (.bin .neq (.t 7) (.t 9)),
 y9 11 (.mv (.t 10)),
 ⟨(some 12),.faddr 1 (.t 2),some (11,false),[]⟩,
 ⟨(some 13),.load false 1 (.t 12),some (11,false),[]⟩,
 ⟨(some 14),.faddr 1 (.t 3),some (11,false),[]⟩,
 ⟨(some 15),.load false 1 (.t 14),some (11,false),[]⟩,
 ⟨(some 16),.bin .neq (.t 13) (.t 15),some (11,false),[]⟩,
 y9 17 (.pick (.t 11) (.c (.bool true)) (.t 16)),
 y9 18 (.mv (.t 17)),
 ⟨(some 19),.faddr 2 (.t 2),some (18,false),[]⟩,
 ⟨(some 20),.load false 1 (.t 19),some (18,false),[]⟩,
 ⟨(some 21),.faddr 2 (.t 3),some (18,false),[]⟩,
 ⟨(some 22),.load false 1 (.t 21),some (18,false),[]⟩,
 ⟨(some 23),.bin .neq (.t 20) (.t 22),some (18,false),[]⟩,
 y9 24 (.pick (.t 18) (.c (.bool true)) (.t 23)),
 y9 25 (.mv (.t 24)),
 ⟨(some 26),.faddr 4 (.t 2),some (25,false),[]⟩,
 ⟨(some 27),.load false 1 (.t 26),some (25,false),[]⟩,
 ⟨(some 28),.faddr 4 (.t 3),some (25,false),[]⟩,
 ⟨(some 29),.load false 1 (.t 28),some (25,false),[]⟩,
 ⟨(some 30),.bin .neq (.t 27) (.t 29),some (25,false),[]⟩,
 y9 31 (.pick (.t 25) (.c (.bool true)) (.t 30)),
 y9 32 (.mv (.t 31)),
 ⟨(some 33),.faddr 3 (.t 2),some (32,false),[]⟩,
 ⟨(some 34),.load false 1 (.t 33),some (32,false),[]⟩,
 ⟨(some 35),.faddr 3 (.t 3),some (32,false),[]⟩,
 ⟨(some 36),.load false 1 (.t 35),some (32,false),[]⟩,
 ⟨(some 37),.call 44 [(.t 34),(.t 36)],some (32,false),[]⟩,
 ⟨(some 38),.un .not (.t 37),some (32,false),[]⟩,
 y9 39 (.pick (.t 32) (.c (.bool true)) (.t 38)),
 y9 40 (.mv (.t 39)),
 ⟨(some 41),.faddr 5 (.t 2),some (40,false),[]⟩,
 ⟨(some 42),.load false 1 (.t 41),some (40,false),[]⟩,
 ⟨(some 43),.len false (.t 42),some (40,false),[]⟩,
 ⟨(some 44),.faddr 5 (.t 3),some (40,false),[]⟩,
 ⟨(some 45),.load false 1 (.t 44),some (40,false),[]⟩,
 ⟨(some 46),.len false (.t 45),some (40,false),[]⟩,
 ⟨(some 47),.bin .neq (.t 43) (.t 46),some (40,false),[]⟩,
 y9 48 (.pick (.t 40) (.c (.bool true)) (.t 47))] <|
 .cond (.t 48) (q9 [
 y9 4 (.mv (.c (.bool false)))] <|
 .ret) <|
 .skip) <|
 .seq (q9 [
 y9 5 (.mv (.c (.int .i64 0)))] <|
 .block 0 <| .loop <| .seq (q9 [
 y9 49 (.mv (.t 5)),
 y9 50 (.faddr 5 (.t 2)),
 y9 51 (.load false 1 (.t 50)),
 y9 52 (.len false (.t 51)),
 y9 53 (.bin .lss (.t 49) (.t 52))] <|
 .cond (.t 53) (.skip) <|
 .exit 0) <|
 .seq (.block 1 <| .seq (.region true [
 y9 56 (.faddr 5 (.t 2)),
 y9 57 (.load false 1 (.t 56)),
 y9 58 (.mv (.t 5)),
 y9 59 (.iaddr none 6 (.t 57) (.t 58)),
 y9 60 (.load true 6 (.t 59)),
 y9 61 (.faddr 5 (.t 3)),
 ⟨(some 62),.load false 1 (.t 61),none,[1,3,4]⟩,
 y9 63 (.mv (.t 5)),
 ⟨(some 64),.iaddr none 6 (.t 62) (.t 63),none,[1,3,4]⟩,
 ⟨(some 65),.load true 6 (.t 64),none,[1,3,4]⟩,
 y9 66 (.call 79 [(.t 60),(.t 65)]),
 y9 67 (.un .not (.t 66))]) <|
 .cond (.t 67) (q9 [
 y9 4 (.mv (.c (.bool false)))] <|
 .ret) <|
 .skip) <|
 .region false [
 y9 54 (.mv (.t 5)),
 y9 55 (.bin .add (.t 54) (.c (.int .i64 1))),
 y9 5 (.mv (.t 55))]) <|
 q9 [
 y9 4 (.mv (.c (.bool true)))] <|
 .ret
def c80 : AFun := .code 165 [] <|
 .seq (q9 [
 y9 8 (.mv (.t 0)),
 y9 9 (.nilck (.t 8)),
 y9 10 (.faddr 1 (.t 9)),
 y9 11 (.faddr 35 (.t 10)),
 y9 12 (.faddr 3 (.t 11)),
 y9 13 (.load false 1 (.t 12)),
 y9 14 (.mv (.t 13)),
 ⟨(some 15),.mv (.t 0),some (14,true),[]⟩,
 ⟨(some 16),.nilck (.t 15),some (14,true),[]⟩,
 ⟨(some 17),.faddr 0 (.t 16),some (14,true),[]⟩,
 ⟨(some 18),.faddr 0 (.t 17),some (14,true),[]⟩,
 ⟨(some 19),.load false 1 (.t 18),some (14,true),[]⟩,
 ⟨(some 20),.len false (.t 19),some (14,true),[]⟩,
 ⟨(some 21),.bin .eql (.t 20) (.c (.int .i64 2)),some (14,true),[]⟩,
 y9 22 (.pick (.t 14) (.t 21) (.c (.bool false)))] <|
 .cond (.t 22) (q9 [
 y9 23 (.mv (.t 0)),
 y9 24 (.mv (.t 0)),
 y9 25 (.nilck (.t 24)),
 y9 26 (.faddr 0 (.t 25)),
 y9 27 (.faddr 0 (.t 26)),
 y9 28 (.load false 1 (.t 27)),
 y9 29 (.iaddr none 3 (.t 28) (.c (.int .i64 0))),
 y9 30 (.faddr 1 (.t 29)),
 y9 31 (.load false 1 (.t 30)),
 y9 32 (.nilck (.t 23)),
 y9 33 (.faddr 1 (.t 32)),
 y9 34 (.faddr 0 (.t 33)),
 y9 35 (.faddr 2 (.t 34)),
 w9 (.store 1 (.t 35) (.t 31))] <|
 q9 [
 y9 36 (.mv (.t 0)),
 y9 37 (.nilck (.t 36)),
 y9 38 (.faddr 0 (.t 37)),
 y9 39 (.faddr 0 (.t 38)),
 y9 40 (.load false 1 (.t 39)),
 y9 41 (.iaddr none 3 (.t 40) (.c (.int .i64 1))),
 y9 42 (.faddr 2 (.t 41)),
 y9 43 (.load false 1 (.t 42)),
 y9 44 (.len false (.t 43)),
 y9 45 (.mv (.c (.int .i64 0)))] <|
 .block 0 <| .loop <| q9 [
 y9 46 (.bin .lss (.t 45) (.t 44))] <|
 .seq (.cond (.t 46) (.skip) <|
 .exit 0) <|
 .seq (.block 1 <| q9 [
 y9 47 (.iaddr none 3 (.t 43) (.t 45)),
 y9 48 (.load true 3 (.t 47)),
 y9 3 (.alloc 45 [(.int .i64 0),(.str []),(.slice [] .nil)]),
 w9 (.store 3 (.t 3) (.t 48))] <|
 q9 [
 y9 50 (.load true 3 (.t 3)),
 y9 51 (.call 130 [(.t 50),(.c (.int .i64 0))]),
 y9 49 (.mv (.t 51)),
 y9 52 (.extract 0 (.t 49)),
 y9 53 (.extract 1 (.t 49)),
 y9 4 (.alloc 64 [(.str []),(.slice [] .nil)]),
 w9 (.store 2 (.t 4) (.t 52)),
 y9 5 (.mv (.t 53))] <|
 .region true [
 y9 54 (.mv (.t 0)),
 y9 55 (.mv (.t 0)),
 y9 56 (.nilck (.t 55)),
 y9 57 (.faddr 1 (.t 56)),
 y9 58 (.faddr 0 (.t 57)),
 y9 59 (.faddr 3 (.t 58)),
 y9 60 (.load false 1 (.t 59)),
 ⟨(some 61),.load true 2 (.t 4),none,[6]⟩,
 ⟨(some 62),.bslice false true 1 2 [(.str []),(.slice [] .nil)] [(0,2,(.t 61))],none,[6]⟩,
 y9 63 (.append 64 2 40 (.t 60) (.t 62)),
 y9 64 (.nilck (.t 54)),
 y9 65 (.faddr 1 (.t 64)),
 y9 66 (.faddr 0 (.t 65)),
 y9 67 (.faddr 3 (.t 66)),
 w9 (.store 1 (.t 67) (.t 63))]) <|
 .region false [
 y9 68 (.bin .add (.t 45) (.c (.int .i64 1))),
 y9 45 (.mv (.t 68))]) <|
 .skip) <|
 .seq (q9 [
 y9 69 (.mv (.t 0)),
 y9 70 (.nilck (.t 69)),
 y9 71 (.faddr 1 (.t 70)),
 y9 72 (.faddr 35 (.t 71)),
 y9 73 (.faddr 4 (.t 72)),
 y9 74 (.load false 1 (.t 73))] <|
 .cond (.t 74) (q9 [
 y9 75 (.mv (.t 0)),
 y9 76 (.nilck (.t 75)),
 y9 77 (.faddr 0 (.t 76)),
 y9 78 (.faddr 0 (.t 77)),
 y9 79 (.load false 1 (.t 78)),
 y9 80 (.len false (.t 79)),
 y9 81 (.mv (.c (.int .i64 0)))] <|
 .block 2 <| .loop <| q9 [
 y9 82 (.bin .lss (.t 81) (.t 80))] <|
 .seq (.cond (.t 82) (.skip) <|
 .exit 2) <|
 .seq (.block 3 <| q9 [
 y9 83 (.iaddr none 3 (.t 79) (.t 81)),
 y9 84 (.load true 3 (.t 83)),
 y9 7 (.alloc 45 [(.int .i64 0),(.str []),(.slice [] .nil)]),
 w9 (.store 3 (.t 7) (.t 84))] <|
 .region true [
 y9 85 (.mv (.t 0)),
 y9 86 (.mv (.t 0)),
 y9 87 (.nilck (.t 86)),
 y9 88 (.faddr 1 (.t 87)),
 y9 89 (.faddr 0 (.t 88)),
 y9 90 (.faddr 32 (.t 89)),
 y9 91 (.load false 1 (.t 90)),
 y9 92 (.faddr 1 (.t 7)),
 ⟨(some 93),.load false 1 (.t 92),none,[6]⟩,
 ⟨(some 94),.bslice false false 1 1 [(.str [])] [(0,1,(.t 93))],none,[6]⟩,
 y9 95 (.append 9 1 16 (.t 91) (.t 94)),
 y9 96 (.nilck (.t 85)),
 y9 97 (.faddr 1 (.t 96)),
 y9 98 (.faddr 0 (.t 97)),
 y9 99 (.faddr 32 (.t 98)),
 w9 (.store 1 (.t 99) (.t 95))]) <|
 .region false [
 y9 100 (.bin .add (.t 81) (.c (.int .i64 1))),
 y9 81 (.mv (.t 100))]) <|
 .skip) <|
 .seq (.region true [
 y9 102 (.mv (.t 0)),
 y9 103 (.mv (.t 0)),
 y9 104 (.mv (.t 0)),
 y9 105 (.nilck (.t 104)),
 y9 106 (.faddr 0 (.t 105)),
 y9 107 (.mv (.t 0)),
 y9 108 (.nilck (.t 107)),
 y9 109 (.faddr 1 (.t 108)),
 y9 110 (.faddr 35 (.t 109)),
 y9 111 (.faddr 6 (.t 110)),
 y9 112 (.load false 1 (.t 111)),
 y9 113 (.call 131 [(.t 106),(.t 112)]),
 y9 101 (.mv (.t 113)),
 y9 114 (.extract 0 (.t 101)),
 y9 115 (.extract 1 (.t 101)),
 y9 116 (.nilck (.t 102)),
 y9 117 (.faddr 1 (.t 116)),
 y9 118 (.faddr 0 (.t 117)),
 y9 119 (.faddr 25 (.t 118)),
 y9 120 (.faddr 1 (.t 119)),
 w9 (.store 1 (.t 120) (.t 114)),
 y9 121 (.nilck (.t 103)),
 y9 122 (.faddr 1 (.t 121)),
 y9 123 (.faddr 0 (.t 122)),
 y9 124 (.faddr 25 (.t 123)),
 y9 125 (.faddr 2 (.t 124)),
 w9 (.store 1 (.t 125) (.t 115))]) <|
 .seq (.region true [
 y9 127 (.mv (.t 0)),
 y9 128 (.mv (.t 0)),
 y9 129 (.nilck (.t 128)),
 y9 130 (.faddr 0 (.t 129)),
 y9 131 (.mv (.t 0)),
 y9 132 (.nilck (.t 131)),
 y9 133 (.faddr 1 (.t 132)),
 y9 134 (.faddr 35 (.t 133)),
 y9 135 (.faddr 5 (.t 134)),
 y9 136 (.load false 1 (.t 135)),
 y9 137 (.call 131 [(.t 130),(.t 136)]),
 y9 126 (.mv (.t 137)),
 y9 138 (.extract 0 (.t 126)),
 y9 139 (.extract 1 (.t 126)),
 y9 140 (.nilck (.t 127)),
 y9 141 (.faddr 1 (.t 140)),
 y9 142 (.faddr 0 (.t 141)),
 y9 143 (.faddr 25 (.t 142)),
 y9 144 (.faddr 0 (.t 143)),
 w9 (.store 1 (.t 144) (.t 138))]) <|
 q9 [
 y9 145 (.mv (.t 0)),
 y9 146 (.nilck (.t 145)),
 y9 147 (.faddr 1 (.t 146)),
 y9 148 (.faddr 35 (.t 147)),
 y9 149 (.faddr 0 (.t 148)),
 y9 150 (.load false 1 (.t 149))] <|
 .cond (.t 150) (.region false [
 y9 152 (.mv (.t 0)),
 y9 153 (.mv (.t 0)),
 y9 154 (.nilck (.t 153)),
 y9 155 (.faddr 0 (.t 154)),
 y9 156 (.faddr 0 (.t 155)),
 y9 157 (.load false 1 (.t 156)),
 y9 158 (.call 132 [(.t 157)]),
 y9 151 (.mv (.t 158)),
 y9 159 (.extract 0 (.t 151)),
 y9 160 (.extract 1 (.t 151)),
 y9 161 (.nilck (.t 152)),
 y9 162 (.faddr 1 (.t 161)),
 y9 163 (.faddr 0 (.t 162)),
 y9 164 (.faddr 28 (.t 163)),
 w9 (.store 4 (.t 164) (.t 159))]) <|
 .skip
def c81 : AFun := .code 38 [.cell 4 true 3,.tmp 5] <|
 q9 [
 y9 2 (.box 64 (.t 0)),
 y9 4 (.alloc 45 [(.int .i64 0),(.str []),(.slice [] .nil)]),
 y9 5 (.mv (.c (.int .i64 0)))] <|
 .seq (q9 [
 y9 8 (.load true 2 (.t 2)),
 y9 9 (.mv (.t 1)),
 y9 10 (.call 91 [(.t 8),(.t 9)]),
 y9 11 (.un .not (.t 10))] <|
 .cond (.t 11) (q9 [
 y9 12 (.build [(.int .i64 0),(.str []),(.slice [] .nil)] []),
 w9 (.store 3 (.t 4) (.t 12)),
 y9 5 (.mv (.c (.int .i64 100)))] <|
 .ret) <|
 .skip) <|
 q9 [
 y9 13 (.build [(.int .i64 0),(.str []),(.slice [] .nil)] [(0,1,(.c (.int .i64 49)))]),
 y9 6 (.alloc 45 [(.int .i64 0),(.str []),(.slice [] .nil)]),
 w9 (.store 3 (.t 6) (.t 13))] <|
 .seq (q9 [
 y9 7 (.mv (.c (.int .i64 0)))] <|
 .block 0 <| .loop <| .seq (q9 [
 y9 14 (.mv (.t 7)),
 y9 15 (.faddr 1 (.t 2)),
 y9 16 (.load false 1 (.t 15)),
 y9 17 (.len false (.t 16)),
 y9 18 (.bin .lss (.t 14) (.t 17))] <|
 .cond (.t 18) (.skip) <|
 .exit 0) <|
 .seq (.block 1 <| .region true [
 y9 21 (.faddr 2 (.t 6)),
 y9 22 (.load false 1 (.t 21)),
 y9 23 (.faddr 1 (.t 2)),
 ⟨(some 24),.load false 1 (.t 23),none,[1]⟩,
 y9 25 (.mv (.t 7)),
 ⟨(some 26),.iaddr none 1 (.t 24) (.t 25),none,[1]⟩,
 ⟨(some 27),.load false 1 (.t 26),none,[1]⟩,
 ⟨(some 28),.call 48 [(.t 27)],none,[1]⟩,
 ⟨(some 29),.bslice false true 1 3 [(.int .i64 0),(.str []),(.slice [] .nil)] [(0,3,(.t 28))],none,[1]⟩,
 y9 30 (.append 45 3 48 (.t 22) (.t 29)),
 y9 31 (.faddr 2 (.t 6)),
 w9 (.store 1 (.t 31) (.t 30))]) <|
 .region false [
 y9 19 (.mv (.t 7)),
 y9 20 (.bin .add (.t 19) (.c (.int .i64 1))),
 y9 7 (.mv (.t 20))]) <|
 .seq (.region true [
 y9 32 (.faddr 0 (.t 2)),
 y9 33 (.load false 1 (.t 32)),
 y9 34 (.call 48 [(.t 33)]),
 ⟨(some 35),.load true 3 (.t 6),none,[1,2]⟩,
 y9 36 (.bslice false true 2 3 [(.int .i64 0),(.str []),(.slice [] .nil),(.int .i64 0),(.str []),(.slice [] .nil)] [(0,3,(.t 34)),(3,3,(.t 35))]),
 y9 37 (.build [(.int .i64 0),(.str []),(.slice [] .nil)] [(0,1,(.c (.int .i64 48))),(2,1,(.t 36))]),
 w9 (.store 3 (.t 4) (.t 37)),
 y9 5 (.mv (.c (.int .i64 0)))]) <|
 .ret
def c82 : AFun := .code 15 [.cell 4 true 3] <|
 q9 [
 y9 4 (.alloc 45 [(.int .i64 0),(.str []),(.slice [] .nil)])] <|
 q9 [
 y9 8 (.mv (.t 1)),
 y9 9 (.call 133 [(.t 8)]),
 y9 7 (.mv (.t 9)),
 y9 10 (.extract 0 (.t 7)),
 y9 11 (.extract 1 (.t 7)),
 y9 5 (.mv (.t 10)),
 y9 6 (.mv (.t 11))] <|
 q9 [
 y9 12 (.mv (.t 0)),
 y9 13 (.mv (.t 5)),
 y9 14 (.build [(.int .i64 0),(.str []),(.slice [] .nil)] [(0,1,(.t 12)),(1,1,(.t 13))]),
 w9 (.store 3 (.t 4) (.t 14))] <|
 .ret
def c83 : AFun := .code 16 [.cell 4 true 3] <|
 q9 [
 y9 2 (.box 45 (.t 0)),
 y9 4 (.alloc 45 [(.int .i64 0),(.str []),(.slice [] .nil)])] <|
 .seq (q9 [
 y9 5 (.mv (.t 1)),
 y9 6 (.faddr 2 (.t 2)),
 y9 7 (.load false 1 (.t 6)),
 y9 8 (.len false (.t 7)),
 y9 9 (.bin .geq (.t 5) (.t 8))] <|
 .cond (.t 9) (q9 [
 y9 10 (.build [(.int .i64 0),(.str []),(.slice [] .nil)] []),
 w9 (.store 3 (.t 4) (.t 10))] <|
 .ret) <|
 .skip) <|
 q9 [
 y9 11 (.faddr 2 (.t 2)),
 y9 12 (.load false 1 (.t 11)),
 y9 13 (.mv (.t 1)),
 y9 14 (.iaddr none 3 (.t 12) (.t 13)),
 y9 15 (.load true 3 (.t 14)),
 w9 (.store 3 (.t 4) (.t 15))] <|
 .ret
def c84 : AFun := .code 26 [.tmp 2] <|
 q9 [
 y9 2 (.mv (.c (.slice [] .nil)))] <|
 q9 [
 y9 3 (.mv (.c (.slice [] .nil)))] <|
 .seq (q9 [
 y9 4 (.mv (.c (.int .i64 0)))] <|
 .block 0 <| .loop <| .seq (q9 [
 y9 7 (.mv (.t 4)),
 y9 8 (.mv (.t 0)),
 y9 9 (.len false (.t 8)),
 y9 10 (.bin .lss (.t 7) (.t 9))] <|
 .cond (.t 10) (.skip) <|
 .exit 0) <|
 .seq (.block 1 <| q9 [
 y9 14 (.mv (.t 0)),
 y9 15 (.mv (.t 4)),
 y9 16 (.iaddr none 3 (.t 14) (.t 15)),
 y9 17 (.load true 3 (.t 16)),
 y9 18 (.call 134 [(.t 17),(.c (.int .i64 0))]),
 y9 13 (.mv (.t 18)),
 y9 19 (.extract 0 (.t 13)),
 y9 20 (.extract 1 (.t 13)),
 y9 5 (.alloc 64 [(.str []),(.slice [] .nil)]),
 w9 (.store 2 (.t 5) (.t 19)),
 y9 6 (.mv (.t 20))] <|
 .region false [
 y9 21 (.mv (.t 3)),
 y9 22 (.load true 2 (.t 5)),
 y9 23 (.bslice false true 1 2 [(.str []),(.slice [] .nil)] [(0,2,(.t 22))]),
 y9 24 (.append 64 2 40 (.t 21) (.t 23)),
 y9 3 (.mv (.t 24))]) <|
 .region false [
 y9 11 (.mv (.t 4)),
 y9 12 (.bin .add (.t 11) (.c (.int .i64 1))),
 y9 4 (.mv (.t 12))]) <|
 q9 [
 y9 25 (.mv (.t 3)),
 y9 2 (.mv (.t 25))] <|
 .ret
def c85 : AFun := .code 20 [.tmp 2] <|
 q9 [
 y9 2 (.mv (.c (.slice [] .nil)))] <|
 q9 [
 y9 3 (.mv (.c (.slice [] .nil)))] <|
 .seq (q9 [
 y9 4 (.mv (.c (.int .i64 0)))] <|
 .block 0 <| .loop <| .seq (q9 [
 y9 5 (.mv (.t 4)),
 y9 6 (.mv (.t 0)),
 y9 7 (.len false (.t 6)),
 y9 8 (.bin .lss (.t 5) (.t 7))] <|
 .cond (.t 8) (.skip) <|
 .exit 0) <|
 .seq (.block 1 <| .region false [
 y9 11 (.mv (.t 3)),
 y9 12 (.mv (.t 0)),
 y9 13 (.mv (.t 4)),
 y9 14 (.iaddr none 3 (.t 12) (.t 13)),
 y9 15 (.faddr 1 (.t 14)),
 y9 16 (.load false 1 (.t 15)),
 y9 17 (.bslice false false 1 1 [(.str [])] [(0,1,(.t 16))]),
 y9 18 (.append 9 1 16 (.t 11) (.t 17)),
 y9 3 (.mv (.t 18))]) <|
 .region false [
 y9 9 (.mv (.t 4)),
 y9 10 (.bin .add (.t 9) (.c (.int .i64 1))),
 y9 4 (.mv (.t 10))]) <|
 q9 [
 y9 19 (.mv (.t 3)),
 y9 2 (.mv (.t 19))] <|
 .ret
def c86 : AFun := .code 60 [.cell 2 true 4,.tmp 3] <|
 q9 [
 y9 2 (.alloc 37 [(.int .i64 0),(.str []),(.str []),(.slice [] .nil)]),
 y9 3 (.mv (.c (.int .i64 0)))] <|
 .seq (q9 [
 y9 9 (.mv (.t 0)),
 y9 10 (.len false (.t 9)),
 y9 11 (.bin .lss (.t 10) (.c (.int .i64 3))),
 y9 12 (.mv (.t 11)),
 ⟨(some 13),.mv (.t 0),some (12,false),[]⟩,
 ⟨(some 14),.len false (.t 13),some (12,false),[]⟩,
 ⟨(some 15),.bin .gtr (.t 14) (.c (.int .i64 4)),some (12,false),[]⟩,
 y9 16 (.pick (.t 12) (.c (.bool true)) (.t 15))] <|
 .cond (.t 16) (q9 [
 y9 17 (.build [(.int .i64 0),(.str []),(.str []),(.slice [] .nil)] []),
 w9 (.store 4 (.t 2) (.t 17)),
 y9 3 (.mv (.c (.int .i64 100)))] <|
 .ret) <|
 .skip) <|
 q9 [
 y9 19 (.mv (.t 0)),
 y9 20 (.iaddr none 3 (.t 19) (.c (.int .i64 0))),
 y9 21 (.faddr 1 (.t 20)),
 y9 22 (.load false 1 (.t 21)),
 y9 23 (.call 135 [(.t 22)]),
 y9 18 (.mv (.t 23)),
 y9 24 (.extract 0 (.t 18)),
 y9 25 (.extract 1 (.t 18)),
 y9 4 (.mv (.t 24)),
 y9 5 (.mv (.t 25))] <|
 .seq (.region true [
 y9 26 (.mv (.t 4)),
 y9 27 (.mv (.t 0)),
 y9 28 (.iaddr none 3 (.t 27) (.c (.int .i64 1))),
 y9 29 (.faddr 1 (.t 28)),
 y9 30 (.load false 1 (.t 29)),
 y9 31 (.mv (.t 0)),
 ⟨(some 32),.iaddr none 3 (.t 31) (.c (.int .i64 2)),none,[2,4]⟩,
 y9 33 (.faddr 1 (.t 32)),
 ⟨(some 34),.load false 1 (.t 33),none,[2,4]⟩,
 y9 35 (.build [(.int .i64 0),(.str []),(.str []),(.slice [] .nil)] [(0,1,(.t 26)),(1,1,(.t 30)),(2,1,(.t 34))]),
 ⟨(some 6),.alloc 37 [(.int .i64 0),(.str []),(.str []),(.slice [] .nil)],none,[2,4,6,8]⟩,
 w9 (.store 4 (.t 6) (.t 35))]) <|
 .seq (q9 [
 y9 36 (.mv (.t 0)),
 y9 37 (.len false (.t 36)),
 y9 38 (.bin .eql (.t 37) (.c (.int .i64 4)))] <|
 .cond (.t 38) (.region false [
 y9 39 (.mv (.t 0)),
 y9 40 (.iaddr none 3 (.t 39) (.c (.int .i64 3))),
 y9 41 (.faddr 2 (.t 40)),
 y9 42 (.load false 1 (.t 41)),
 y9 43 (.call 85 [(.t 42)]),
 y9 44 (.faddr 3 (.t 6)),
 w9 (.store 1 (.t 44) (.t 43))]) <|
 .skip) <|
 q9 [
 y9 46 (.load true 4 (.t 6)),
 y9 47 (.call 52 [(.t 46)]),
 y9 45 (.mv (.t 47)),
 y9 48 (.extract 0 (.t 45)),
 y9 49 (.extract 1 (.t 45)),
 y9 7 (.mv (.t 48)),
 y9 8 (.mv (.t 49))] <|
 .seq (q9 [
 y9 50 (.mv (.t 8)),
 y9 51 (.bin .neq (.t 50) (.c (.int .i64 0))),
 y9 52 (.mv (.t 51)),
 ⟨(some 53),.mv (.t 0),some (52,false),[]⟩,
 ⟨(some 54),.mv (.t 7),some (52,false),[]⟩,
 ⟨(some 55),.call 136 [(.t 53),(.t 54)],some (52,false),[]⟩,
 ⟨(some 56),.un .not (.t 55),some (52,false),[]⟩,
 y9 57 (.pick (.t 52) (.c (.bool true)) (.t 56))] <|
 .cond (.t 57) (q9 [
 y9 58 (.build [(.int .i64 0),(.str []),(.str []),(.slice [] .nil)] []),
 w9 (.store 4 (.t 2) (.t 58)),
 y9 3 (.mv (.c (.int .i64 100)))] <|
 .ret) <|
 .skip) <|
 q9 [
 y9 59 (.load true 4 (.t 6)),
 w9 (.store 4 (.t 2) (.t 59)),
 y9 3 (.mv (.c (.int .i64 0)))] <|
 .ret
def c87 : AFun := .code 6 [.tmp 2] <|
 q9 [
 y9 2 (.mv (.c (.bool false)))] <|
 q9 [
 y9 3 (.mv (.t 0)),
 y9 4 (.call 137 [(.t 3)]),
 y9 5 (.bin .lss (.t 4) (.c (.int .i64 0))),
 y9 2 (.mv (.t 5))] <|
 .ret
def c88 : AFun := .code 58 [.tmp 2,.tmp 3] <|
 q9 [
 y9 2 (.mv (.c (.slice [] .nil))),
 y9 3 (.mv (.c (.int .i64 0)))] <|
 q9 [
 y9 4 (.mv (.c (.slice [] .nil)))] <|
 .seq (q9 [
 y9 12 (.mv (.t 0)),
 y9 13 (.bin .eql (.t 12) (.c (.str [])))] <|
 .cond (.t 13) (q9 [
 y9 2 (.mv (.c (.slice [] .nil))),
 y9 3 (.mv (.c (.int .i64 0)))] <|
 .ret) <|
 .skip) <|
 q9 [
 y9 14 (.mv (.t 0)),
 y9 15 (.call 138 [(.t 14),(.c (.int .u8 44))]),
 y9 5 (.mv (.t 15))] <|
 .seq (q9 [
 y9 6 (.mv (.c (.int .i64 0)))] <|
 .block 0 <| .loop <| .seq (q9 [
 y9 16 (.mv (.t 6)),
 y9 17 (.mv (.t 5)),
 y9 18 (.len false (.t 17)),
 y9 19 (.bin .lss (.t 16) (.t 18))] <|
 .cond (.t 19) (.skip) <|
 .exit 0) <|
 .seq (.block 1 <| q9 [
 y9 22 (.mv (.t 5)),
 y9 23 (.mv (.t 6)),
 y9 24 (.iaddr none 1 (.t 22) (.t 23)),
 y9 25 (.load false 1 (.t 24)),
 y9 26 (.call 138 [(.t 25),(.c (.int .u8 43))]),
 y9 7 (.mv (.t 26))] <|
 q9 [
 y9 27 (.build [(.slice [] .nil)] []),
 y9 8 (.alloc 202 [(.slice [] .nil)]),
 w9 (.store 1 (.t 8) (.t 27))] <|
 .seq (q9 [
 y9 9 (.mv (.c (.int .i64 0)))] <|
 .block 2 <| .loop <| .seq (q9 [
 y9 28 (.mv (.t 9)),
 y9 29 (.mv (.t 7)),
 y9 30 (.len false (.t 29)),
 y9 31 (.bin .lss (.t 28) (.t 30))] <|
 .cond (.t 31) (.skip) <|
 .exit 2) <|
 .seq (.block 3 <| q9 [
 y9 35 (.mv (.t 7)),
 y9 36 (.mv (.t 9)),
 y9 37 (.iaddr none 1 (.t 35) (.t 36)),
 y9 38 (.load false 1 (.t 37)),
 y9 39 (.call 139 [(.t 38)]),
 y9 34 (.mv (.t 39)),
 y9 40 (.extract 0 (.t 34)),
 y9 41 (.extract 1 (.t 34)),
 y9 10 (.alloc 204 [(.str []),(.str [])]),
 w9 (.store 2 (.t 10) (.t 40)),
 y9 11 (.mv (.t 41))] <|
 .seq (q9 [
 y9 42 (.mv (.t 11)),
 y9 43 (.un .not (.t 42))] <|
 .cond (.t 43) (q9 [
 y9 2 (.mv (.c (.slice [] .nil))),
 y9 3 (.mv (.c (.int .i64 70)))] <|
 .ret) <|
 .skip) <|
 .region false [
 y9 44 (.faddr 0 (.t 8)),
 y9 45 (.load false 1 (.t 44)),
 y9 46 (.load true 2 (.t 10)),
 y9 47 (.bslice false true 1 2 [(.str []),(.str [])] [(0,2,(.t 46))]),
 y9 48 (.append 204 2 32 (.t 45) (.t 47)),
 y9 49 (.faddr 0 (.t 8)),
 w9 (.store 1 (.t 49) (.t 48))]) <|
 .region false [
 y9 32 (.mv (.t 9)),
 y9 33 (.bin .add (.t 32) (.c (.int .i64 1))),
 y9 9 (.mv (.t 33))]) <|
 .region false [
 y9 50 (.mv (.t 4)),
 y9 51 (.load true 1 (.t 8)),
 y9 52 (.bslice false true 1 1 [(.slice [] .nil)] [(0,1,(.t 51))]),
 y9 53 (.append 202 1 24 (.t 50) (.t 52)),
 y9 4 (.mv (.t 53))]) <|
 .region false [
 y9 20 (.mv (.t 6)),
 y9 21 (.bin .add (.t 20) (.c (.int .i64 1))),
 y9 6 (.mv (.t 21))]) <|
 .seq (q9 [
 y9 54 (.mv (.t 4)),
 y9 55 (.call 140 [(.t 54)]),
 y9 56 (.un .not (.t 55))] <|
 .cond (.t 56) (q9 [
 y9 2 (.mv (.c (.slice [] .nil))),
 y9 3 (.mv (.c (.int .i64 70)))] <|
 .ret) <|
 .skip) <|
 q9 [
 y9 57 (.mv (.t 4)),
 y9 2 (.mv (.t 57)),
 y9 3 (.mv (.c (.int .i64 0)))] <|
 .ret
def c89 : AFun := .code 14 [.tmp 2] <|
 q9 [
 y9 2 (.mv (.c (.bool false)))] <|
 q9 [
 y9 3 (.mv (.t 0)),
 y9 4 (.len true (.t 3)),
 y9 5 (.bin .leq (.t 4) (.c (.int .i64 20))),
 y9 6 (.mv (.t 5)),
 ⟨(some 7),.mv (.t 0),some (6,true),[]⟩,
 ⟨(some 8),.call 141 [(.t 7)],some (6,true),[]⟩,
 ⟨(some 9),.mv (.t 8),some (6,true),[]⟩,
 ⟨(some 10),.mv (.t 0),some (9,false),[]⟩,
 ⟨(some 11),.call 142 [(.t 10)],some (9,false),[]⟩,
 ⟨(some 12),.pick (.t 9) (.c (.bool true)) (.t 11),some (6,true),[]⟩,
 y9 13 (.pick (.t 6) (.t 12) (.c (.bool false))),
 y9 2 (.mv (.t 13))] <|
 .ret
def c90 : AFun := .code 9 [.tmp 2] <|
 q9 [
 y9 2 (.mv (.c (.bool false)))] <|
 q9 [
 y9 3 (.mv (.t 0)),
 y9 4 (.bin .geq (.t 3) (.c (.int .u8 48))),
 y9 5 (.mv (.t 4)),
 ⟨(some 6),.mv (.t 0),some (5,true),[]⟩,
 ⟨(some 7),.bin .leq (.t 6) (.c (.int .u8 57)),some (5,true),[]⟩,
 y9 8 (.pick (.t 5) (.t 7) (.c (.bool false))),
 y9 2 (.mv (.t 8))] <|
 .ret
def c91 : AFun := .code 43 [.tmp 4] <|
 q9 [
 y9 2 (.box 64 (.t 0)),
 y9 4 (.mv (.c (.bool false)))] <|
 .seq (q9 [
 y9 6 (.mv (.t 1)),
 y9 7 (.bin .lss (.t 6) (.c (.int .i64 0))),
 y9 8 (.mv (.t 7)),
 ⟨(some 9),.mv (.t 1),some (8,false),[]⟩,
 ⟨(some 10),.bin .gtr (.t 9) (.c (.int .i64 1)),some (8,false),[]⟩,
 y9 11 (.pick (.t 8) (.c (.bool true)) (.t 10)),
 y9 12 (.mv (.t 11)),
 ⟨(some 13),.faddr 0 (.t 2),some (12,false),[]⟩,
 ⟨(some 14),.load false 1 (.t 13),some (12,false),[]⟩,
 ⟨(some 15),.call 143 [(.t 14)],some (12,false),[]⟩,
 ⟨(some 16),.un .not (.t 15),some (12,false),[]⟩,
 y9 17 (.pick (.t 12) (.c (.bool true)) (.t 16))] <|
 .cond (.t 17) (q9 [
 y9 4 (.mv (.c (.bool false)))] <|
 .ret) <|
 .skip) <|
 .seq (q9 [
 y9 5 (.mv (.c (.int .i64 0)))] <|
 .block 0 <| .loop <| .seq (q9 [
 y9 18 (.mv (.t 5)),
 y9 19 (.faddr 1 (.t 2)),
 y9 20 (.load false 1 (.t 19)),
 y9 21 (.len false (.t 20)),
 y9 22 (.bin .lss (.t 18) (.t 21))] <|
 .cond (.t 22) (.skip) <|
 .exit 0) <|
 .seq (.block 1 <| q9 [
 y9 25 (.faddr 1 (.t 2)),
 y9 26 (.load false 1 (.t 25)),
 y9 27 (.mv (.t 5)),
 y9 28 (.iaddr none 1 (.t 26) (.t 27)),
 y9 29 (.load false 1 (.t 28)),
 y9 30 (.len true (.t 29)),
 y9 31 (.bin .gtr (.t 30) (.c (.int .i64 200)))] <|
 .cond (.t 31) (q9 [
 y9 4 (.mv (.c (.bool false)))] <|
 .ret) <|
 .skip) <|
 .region false [
 y9 23 (.mv (.t 5)),
 y9 24 (.bin .add (.t 23) (.c (.int .i64 1))),
 y9 5 (.mv (.t 24))]) <|
 q9 [
 y9 32 (.faddr 1 (.t 2)),
 y9 33 (.load false 1 (.t 32)),
 y9 34 (.len false (.t 33)),
 y9 35 (.mv (.t 1)),
 y9 36 (.bin .geq (.t 34) (.t 35)),
 y9 37 (.mv (.t 36)),
 ⟨(some 38),.faddr 1 (.t 2),some (37,true),[]⟩,
 ⟨(some 39),.load false 1 (.t 38),some (37,true),[]⟩,
 ⟨(some 40),.len false (.t 39),some (37,true),[]⟩,
 ⟨(some 41),.bin .leq (.t 40) (.c (.int .i64 6)),some (37,true),[]⟩,
 y9 42 (.pick (.t 37) (.t 41) (.c (.bool false))),
 y9 4 (.mv (.t 42))] <|
 .ret
def c92 : AFun := .code 25 [.tmp 2] <|
 q9 [
 y9 2 (.mv (.c (.bool false)))] <|
 q9 [
 y9 3 (.mv (.t 0)),
 y9 4 (.bin .eql (.t 3) (.c (.int .i64 5))),
 y9 5 (.mv (.t 4)),
 ⟨(some 6),.mv (.t 0),some (5,false),[]⟩,
 ⟨(some 7),.bin .eql (.t 6) (.c (.int .i64 7)),some (5,false),[]⟩,
 y9 8 (.pick (.t 5) (.c (.bool true)) (.t 7)),
 y9 9 (.mv (.t 8)),
 ⟨(some 10),.mv (.t 0),some (9,false),[]⟩,
 ⟨(some 11),.bin .eql (.t 10) (.c (.int .i64 9)),some (9,false),[]⟩,
 y9 12 (.pick (.t 9) (.c (.bool true)) (.t 11)),
 y9 13 (.mv (.t 12)),
 ⟨(some 14),.mv (.t 0),some (13,false),[]⟩,
 ⟨(some 15),.bin .eql (.t 14) (.c (.int .i64 11)),some (13,false),[]⟩,
 y9 16 (.pick (.t 13) (.c (.bool true)) (.t 15)),
 y9 17 (.mv (.t 16)),
 ⟨(some 18),.mv (.t 0),some (17,false),[]⟩,
 ⟨(some 19),.bin .eql (.t 18) (.c (.int .i64 13)),some (17,false),[]⟩,
 y9 20 (.pick (.t 17) (.c (.bool true)) (.t 19)),
 y9 21 (.mv (.t 20)),
 ⟨(some 22),.mv (.t 0),some (21,false),[]⟩,
 ⟨(some 23),.bin .eql (.t 22) (.c (.int .i64 15)),some (21,false),[]⟩,
 y9 24 (.pick (.t 21) (.c (.bool true)) (.t 23)),
 y9 2 (.mv (.t 24))] <|
 .ret
def c93 : AFun := .code 43 [.tmp 2] <|
 q9 [
 y9 1 (.box 116 (.t 0)),
 y9 2 (.mv (.c (.bool false)))] <|
 q9 [
 y9 5 (.faddr 0 (.t 1)),
 y9 6 (.faddr 21 (.t 5)),
 y9 7 (.load true 4 (.t 6)),
 y9 3 (.alloc 33 [(.bool false),(.str []),(.str []),(.bool false)]),
 w9 (.store 4 (.t 3) (.t 7))] <|
 .seq (q9 [
 y9 8 (.faddr 0 (.t 3)),
 y9 9 (.load false 1 (.t 8))] <|
 .cond (.t 9) (q9 [
 y9 10 (.faddr 2 (.t 3)),
 y9 11 (.load false 1 (.t 10)),
 y9 12 (.bin .eql (.t 11) (.c (.str []))),
 y9 13 (.mv (.t 12)),
 ⟨(some 14),.faddr 3 (.t 3),some (13,true),[]⟩,
 ⟨(some 15),.load false 1 (.t 14),some (13,true),[]⟩,
 ⟨(some 16),.un .not (.t 15),some (13,true),[]⟩,
 y9 17 (.pick (.t 13) (.t 16) (.c (.bool false))),
 y9 18 (.mv (.t 17)),
 ⟨(some 19),.faddr 1 (.t 3),some (18,true),[]⟩,
 ⟨(some 20),.load false 1 (.t 19),some (18,true),[]⟩,
 ⟨(some 21),.len true (.t 20),some (18,true),[]⟩,
 ⟨(some 22),.bin .leq (.t 21) (.c (.int .i64 200)),some (18,true),[]⟩,
 y9 23 (.pick (.t 18) (.t 22) (.c (.bool false))),
 y9 2 (.mv (.t 23))] <|
 .ret) <|
 .skip) <|
 q9 [
 y9 4 (.mv (.c (.func 144 [])))] <|
 .seq (.region true [
 y9 24 (.faddr 2 (.t 3)),
 y9 25 (.load false 1 (.t 24)),
 y9 26 (.bin .neq (.t 25) (.c (.str []))),
 y9 27 (.faddr 2 (.t 3)),
 ⟨(some 28),.load false 1 (.t 27),none,[1]⟩,
 y9 29 (.len true (.t 28)),
 y9 30 (.bin .leq (.t 29) (.c (.int .i64 20))),
 y9 31 (.faddr 2 (.t 3)),
 ⟨(some 32),.load false 1 (.t 31),none,[1,4]⟩,
 y9 33 (.mv (.t 4)),
 ⟨(some 34),.call 146 [(.t 32),(.t 33)],none,[1,4]⟩,
 y9 35 (.un .not (.t 34)),
 y9 36 (.faddr 1 (.t 3)),
 ⟨(some 37),.load false 1 (.t 36),none,[1,4,8,10]⟩,
 y9 38 (.faddr 3 (.t 3)),
 ⟨(some 39),.load false 1 (.t 38),none,[1,4,8,10,13]⟩,
 ⟨(some 40),.call 147 [(.t 37),(.t 39)],none,[1,4]⟩,
 y9 41 (.bslice false false 4 1 [(.bool false),(.bool false),(.bool false),(.bool false)] [(0,1,(.t 26)),(1,1,(.t 30)),(2,1,(.t 35)),(3,1,(.t 40))]),
 y9 42 (.call 145 [(.t 41)]),
 y9 2 (.mv (.t 42))]) <|
 .ret
def c94 : AFun := .code 3 [.tmp 2] <|
 q9 [
 y9 1 (.box 116 (.t 0)),
 y9 2 (.mv (.c (.bool false)))] <|
 q9 [
 y9 2 (.mv (.c (.bool true)))] <|
 .ret
def c95 : AFun := .code 40 [.tmp 2] <|
 q9 [
 y9 1 (.box 116 (.t 0)),
 y9 2 (.mv (.c (.bool false)))] <|
 q9 [
 y9 5 (.faddr 0 (.t 1)),
 y9 6 (.faddr 5 (.t 5)),
 y9 7 (.load true 12 (.t 6)),
 y9 3 (.alloc 29 [(.int .i64 0),(.int .i64 0),(.int .i64 0),(.int .i64 0),(.bool false),(.int .i64 0),(.str []),(.str []),(.slice [] .nil),(.str []),(.slice [] .nil),(.slice [] .nil)]),
 w9 (.store 12 (.t 3) (.t 7))] <|
 q9 [
 y9 4 (.mv (.c (.func 148 [])))] <|
 .seq (.region true [
 y9 8 (.faddr 0 (.t 3)),
 y9 9 (.load false 1 (.t 8)),
 y9 10 (.bin .geq (.t 9) (.c (.int .i64 0))),
 y9 11 (.faddr 0 (.t 3)),
 ⟨(some 12),.load false 1 (.t 11),none,[1]⟩,
 y9 13 (.bin .leq (.t 12) (.c (.int .i64 2))),
 y9 14 (.faddr 1 (.t 3)),
 ⟨(some 15),.load false 1 (.t 14),none,[1,4]⟩,
 y9 16 (.bin .geq (.t 15) (.c (.int .i64 0))),
 y9 17 (.faddr 1 (.t 3)),
 ⟨(some 18),.load false 1 (.t 17),none,[1,4,7]⟩,
 y9 19 (.bin .leq (.t 18) (.c (.int .i64 3))),
 y9 20 (.faddr 2 (.t 3)),
 ⟨(some 21),.load false 1 (.t 20),none,[1,4,7,10]⟩,
 ⟨(some 22),.call 150 [(.t 21)],none,[1,4,7,10]⟩,
 y9 23 (.faddr 3 (.t 3)),
 ⟨(some 24),.load false 1 (.t 23),none,[1,4,7,10,13,14]⟩,
 ⟨(some 25),.call 150 [(.t 24)],none,[1,4,7,10]⟩,
 y9 26 (.faddr 5 (.t 3)),
 ⟨(some 27),.load true 6 (.t 26),none,[1,4,7,10,13,14,16,17]⟩,
 ⟨(some 28),.call 151 [(.t 27)],none,[1,4,7,10]⟩,
 y9 29 (.faddr 11 (.t 3)),
 ⟨(some 30),.load false 1 (.t 29),none,[1,4,7,10,13,14,16,17,19,20]⟩,
 y9 31 (.len false (.t 30)),
 y9 32 (.bin .leq (.t 31) (.c (.int .i64 6))),
 y9 33 (.faddr 11 (.t 3)),
 ⟨(some 34),.load false 1 (.t 33),none,[1,4,7,10,13,14,16,17,19,20,22]⟩,
 y9 35 (.mv (.t 4)),
 ⟨(some 36),.call 152 [(.t 34),(.t 35)],none,[1,4,7,10,22]⟩,
 y9 37 (.un .not (.t 36)),
 y9 38 (.bslice false false 9 1 [(.bool false),(.bool false),(.bool false),(.bool false),(.bool false),(.bool false),(.bool false),(.bool false),(.bool false)] [(0,1,(.t 10)),(1,1,(.t 13)),(2,1,(.t 16)),(3,1,(.t 19)),(4,1,(.t 22)),(5,1,(.t 25)),(6,1,(.t 28)),(7,1,(.t 32)),(8,1,(.t 37))]),
 y9 39 (.call 145 [(.t 38)]),
 y9 2 (.mv (.t 39))]) <|
 .ret
def c96 : AFun := .code 22 [.tmp 2] <|
 q9 [
 y9 1 (.box 116 (.t 0)),
 y9 2 (.mv (.c (.bool false)))] <|
 q9 [
 y9 3 (.mv (.c (.func 153 [])))] <|
 .seq (.region true [
 y9 4 (.faddr 0 (.t 1)),
 y9 5 (.faddr 4 (.t 4)),
 y9 6 (.load false 1 (.t 5)),
 y9 7 (.len false (.t 6)),
 y9 8 (.bin .geq (.t 7) (.c (.int .i64 1))),
 y9 9 (.faddr 0 (.t 1)),
 y9 10 (.faddr 4 (.t 9)),
 ⟨(some 11),.load false 1 (.t 10),none,[2]⟩,
 y9 12 (.len false (.t 11)),
 y9 13 (.bin .leq (.t 12) (.c (.int .i64 6))),
 y9 14 (.faddr 0 (.t 1)),
 y9 15 (.faddr 4 (.t 14)),
 ⟨(some 16),.load false 1 (.t 15),none,[2,7]⟩,
 y9 17 (.mv (.t 3)),
 ⟨(some 18),.call 155 [(.t 16),(.t 17)],none,[2,7]⟩,
 y9 19 (.un .not (.t 18)),
 y9 20 (.bslice false false 3 1 [(.bool false),(.bool false),(.bool false)] [(0,1,(.t 8)),(1,1,(.t 13)),(2,1,(.t 19))]),
 y9 21 (.call 145 [(.t 20)]),
 y9 2 (.mv (.t 21))]) <|
 .ret
def c97 : AFun := .code 22 [.tmp 2] <|
 q9 [
 y9 1 (.box 116 (.t 0)),
 y9 2 (.mv (.c (.bool false)))] <|
 q9 [
 y9 3 (.mv (.c (.func 156 [])))] <|
 .seq (.region true [
 y9 4 (.faddr 0 (.t 1)),
 y9 5 (.faddr 3 (.t 4)),
 y9 6 (.load false 1 (.t 5)),
 y9 7 (.len false (.t 6)),
 y9 8 (.bin .geq (.t 7) (.c (.int .i64 1))),
 y9 9 (.faddr 0 (.t 1)),
 y9 10 (.faddr 3 (.t 9)),
 ⟨(some 11),.load false 1 (.t 10),none,[2]⟩,
 y9 12 (.len false (.t 11)),
 y9 13 (.bin .leq (.t 12) (.c (.int .i64 6))),
 y9 14 (.faddr 0 (.t 1)),
 y9 15 (.faddr 3 (.t 14)),
 ⟨(some 16),.load false 1 (.t 15),none,[2,7]⟩,
 y9 17 (.mv (.t 3)),
 ⟨(some 18),.call 157 [(.t 16),(.t 17)],none,[2,7]⟩,
 y9 19 (.un .not (.t 18)),
 y9 20 (.bslice false false 3 1 [(.bool false),(.bool false),(.bool false)] [(0,1,(.t 8)),(1,1,(.t 13)),(2,1,(.t 19))]),
 y9 21 (.call 145 [(.t 20)]),
 y9 2 (.mv (.t 21))]) <|
 .ret
def c98 : AFun := .code 41 [.tmp 2] <|
 q9 [
 y9 1 (.box 116 (.t 0)),
 y9 2 (.mv (.c (.bool false)))] <|
 q9 [
 y9 6 (.faddr 0 (.t 1)),
 y9 7 (.faddr 17 (.t 6)),
 y9 8 (.faddr 0 (.t 7)),
 y9 9 (.load false 1 (.t 8)),
 y9 10 (.call 158 [(.t 9)]),
 y9 5 (.mv (.t 10)),
 y9 11 (.extract 0 (.t 5)),
 y9 12 (.extract 1 (.t 5)),
 y9 3 (.mv (.t 11)),
 y9 4 (.mv (.t 12))] <|
 .seq (.region true [
 y9 13 (.mv (.t 4)),
 y9 14 (.bin .eql (.t 13) (.c (.int .i64 0))),
 y9 15 (.mv (.t 3)),
 y9 16 (.len false (.t 15)),
 y9 17 (.bin .eql (.t 16) (.c (.int .i64 1))),
 y9 18 (.faddr 0 (.t 1)),
 y9 19 (.faddr 17 (.t 18)),
 y9 20 (.faddr 0 (.t 19)),
 y9 21 (.load false 1 (.t 20)),
 y9 22 (.call 105 [(.t 21)]),
 y9 23 (.faddr 0 (.t 1)),
 y9 24 (.faddr 17 (.t 23)),
 y9 25 (.faddr 2 (.t 24)),
 ⟨(some 26),.load false 1 (.t 25),none,[8,9]⟩,
 y9 27 (.call 105 [(.t 26)]),
 y9 28 (.faddr 0 (.t 1)),
 y9 29 (.faddr 17 (.t 28)),
 y9 30 (.faddr 3 (.t 29)),
 ⟨(some 31),.load false 1 (.t 30),none,[8,9,13,14]⟩,
 y9 32 (.mv (.t 31)),
 ⟨(some 33),.faddr 0 (.t 1),some (32,false),[]⟩,
 ⟨(some 34),.faddr 17 (.t 33),some (32,false),[]⟩,
 ⟨(some 35),.faddr 2 (.t 34),some (32,false),[]⟩,
 ⟨(some 36),.load false 1 (.t 35),some (32,false),[]⟩,
 ⟨(some 37),.bin .eql (.t 36) (.c (.str [])),some (32,false),[]⟩,
 y9 38 (.pick (.t 32) (.c (.bool true)) (.t 37)),
 y9 39 (.bslice false false 5 1 [(.bool false),(.bool false),(.bool false),(.bool false),(.bool false)] [(0,1,(.t 14)),(1,1,(.t 17)),(2,1,(.t 22)),(3,1,(.t 27)),(4,1,(.t 38))]),
 y9 40 (.call 145 [(.t 39)]),
 y9 2 (.mv (.t 40))]) <|
 .ret
def c99 : AFun := .code 22 [.tmp 2] <|
 q9 [
 y9 1 (.box 116 (.t 0)),
 y9 2 (.mv (.c (.bool false)))] <|
 q9 [
 y9 3 (.load true 35 (.t 1)),
 y9 4 (.call 97 [(.t 3)]),
 y9 5 (.mv (.t 4)),
 ⟨(some 6),.faddr 0 (.t 1),some (5,true),[]⟩,
 ⟨(some 7),.faddr 3 (.t 6),some (5,true),[]⟩,
 ⟨(some 8),.load false 1 (.t 7),some (5,true),[]⟩,
 ⟨(some 9),.len false (.t 8),some (5,true),[]⟩,
 ⟨(some 10),.bin .eql (.t 9) (.c (.int .i64 1)),some (5,true),[]⟩,
 y9 11 (.pick (.t 5) (.t 10) (.c (.bool false))),
 y9 12 (.mv (.t 11)),
 ⟨(some 13),.faddr 0 (.t 1),some (12,true),[]⟩,
 ⟨(some 14),.faddr 3 (.t 13),some (12,true),[]⟩,
 ⟨(some 15),.load false 1 (.t 14),some (12,true),[]⟩,
 ⟨(some 16),.iaddr none 2 (.t 15) (.c (.int .i64 0)),some (12,true),[]⟩,
 ⟨(some 17),.faddr 1 (.t 16),some (12,true),[]⟩,
 ⟨(some 18),.load false 1 (.t 17),some (12,true),[]⟩,
 ⟨(some 19),.len false (.t 18),some (12,true),[]⟩,
 ⟨(some 20),.bin .eql (.t 19) (.c (.int .i64 1)),some (12,true),[]⟩,
 y9 21 (.pick (.t 12) (.t 20) (.c (.bool false))),
 y9 2 (.mv (.t 21))] <|
 .ret
def c100 : AFun := .code 7 [.tmp 2] <|
 q9 [
 y9 1 (.box 116 (.t 0)),
 y9 2 (.mv (.c (.bool false)))] <|
 q9 [
 y9 3 (.faddr 0 (.t 1)),
 y9 4 (.faddr 33 (.t 3)),
 y9 5 (.load false 1 (.t 4)),
 y9 6 (.call 150 [(.t 5)]),
 y9 2 (.mv (.t 6))] <|
 .ret
def c101 : AFun := .code 19 [.tmp 2] <|
 q9 [
 y9 1 (.box 116 (.t 0)),
 y9 2 (.mv (.c (.bool false)))] <|
 q9 [
 y9 3 (.faddr 0 (.t 1)),
 y9 4 (.faddr 25 (.t 3)),
 y9 5 (.faddr 0 (.t 4)),
 y9 6 (.load false 1 (.t 5)),
 y9 7 (.call 113 [(.t 6)]),
 y9 8 (.mv (.t 7)),
 ⟨(some 9),.faddr 0 (.t 1),some (8,true),[]⟩,
 ⟨(some 10),.faddr 25 (.t 9),some (8,true),[]⟩,
 ⟨(some 11),.faddr 1 (.t 10),some (8,true),[]⟩,
 ⟨(some 12),.load false 1 (.t 11),some (8,true),[]⟩,
 ⟨(some 13),.faddr 0 (.t 1),some (8,true),[]⟩,
 ⟨(some 14),.faddr 25 (.t 13),some (8,true),[]⟩,
 ⟨(some 15),.faddr 2 (.t 14),some (8,true),[]⟩,
 ⟨(some 16),.load false 1 (.t 15),some (8,true),[]⟩,
 ⟨(some 17),.call 147 [(.t 12),(.t 16)],some (8,true),[]⟩,
 y9 18 (.pick (.t 8) (.t 17) (.c (.bool false))),
 y9 2 (.mv (.t 18))] <|
 .ret
def c102 : AFun := .code 13 [.tmp 0] <|
 q9 [
 y9 0 (.mv (.c .junk))] <|
 q9 [
 y9 1 (.mkmap),
 y9 2 (.build [(.int .i64 0),.nilFunc] [(0,1,(.c (.int .i64 0))),(1,1,(.c (.func 159 [])))]),
 w9 (.insert 1 (.t 1) (.c (.int .i64 96)) (.t 2)),
 y9 3 (.build [(.int .i64 0),.nilFunc] [(0,1,(.c (.int .i64 2))),(1,1,(.c (.func 160 [])))]),
 w9 (.insert 1 (.t 1) (.c (.int .i64 66)) (.t 3)),
 y9 4 (.build [(.int .i64 0),.nilFunc] [(0,1,(.c (.int .i64 3))),(1,1,(.c (.func 161 [])))]),
 w9 (.insert 1 (.t 1) (.c (.int .i64 99)) (.t 4)),
 y9 5 (.build [(.int .i64 0),.nilFunc] [(0,1,(.c (.int .i64 6))),(1,1,(.c (.func 162 [])))]),
 w9 (.insert 1 (.t 1) (.c (.int .i64 102)) (.t 5)),
 y9 6 (.build [(.int .i64 0),.nilFunc] [(0,1,(.c (.int .i64 8))),(1,1,(.c (.func 163 [])))]),
 w9 (.insert 1 (.t 1) (.c (.int .i64 104)) (.t 6)),
 y9 7 (.build [(.int .i64 0),.nilFunc] [(0,1,(.c (.int .i64 10))),(1,1,(.c (.func 164 [])))]),
 w9 (.insert 1 (.t 1) (.c (.int .i64 74)) (.t 7)),
 y9 8 (.build [(.int .i64 0),.nilFunc] [(0,1,(.c (.int .i64 12))),(1,1,(.c (.func 165 [])))]),
 w9 (.insert 1 (.t 1) (.c (.int .i64 108)) (.t 8)),
 y9 9 (.build [(.int .i64 0),.nilFunc] [(0,1,(.c (.int .i64 14))),(1,1,(.c (.func 166 [])))]),
 w9 (.insert 1 (.t 1) (.c (.int .i64 110)) (.t 9)),
 y9 10 (.build [(.int .i64 0),.nilFunc] [(0,1,(.c (.int .i64 16))),(1,1,(.c (.func 167 [])))]),
 w9 (.insert 1 (.t 1) (.c (.int .i64 80)) (.t 10)),
 y9 11 (.build [(.int .i64 0),.nilFunc] [(0,1,(.c (.int .i64 23))),(1,1,(.c (.func 168 [])))]),
 w9 (.insert 1 (.t 1) (.c (.int .i64 119)) (.t 11)),
 y9 12 (.mv (.t 1)),
 y9 0 (.mv (.t 12))] <|
 .ret
def c103 : AFun := .code 20 [.cell 2 true 3,.tmp 3] <|
 q9 [
 y9 1 (.box 40 (.t 0)),
 y9 2 (.alloc 45 [(.int .i64 0),(.str []),(.slice [] .nil)]),
 y9 3 (.mv (.c (.int .i64 0)))] <|
 .seq (q9 [
 y9 5 (.load true 35 (.t 1)),
 y9 6 (.build [(.int .i64 0),(.int .i64 0),(.str []),(.slice [] .nil),(.slice [] .nil),(.int .i64 0),(.int .i64 0),(.int .i64 0),(.int .i64 0),(.bool false),(.int .i64 0),(.str []),(.str []),(.slice [] .nil),(.str []),(.slice [] .nil),(.slice [] .nil),(.str []),(.bool false),(.str []),(.bool false),(.bool false),(.str []),(.str []),(.bool false),(.str []),(.str []),(.bool false),(.int .i64 0),(.str []),(.str []),(.slice [] .nil),(.slice [] .nil),(.int .i64 0),(.slice [] .nil)] [(0,35,(.t 5))]),
 y9 7 (.call 66 [(.t 6)]),
 y9 4 (.mv (.t 7))] <|
 q9 [
 y9 8 (.mv (.t 4)),
 y9 9 (.eq true (.iface [15,127,157,165,234,252,336,354,360,378,420,427,428]) true (.t 8) (.c .nilIface))] <|
 .cond (.t 9) (q9 [
 y9 10 (.build [(.int .i64 0),(.str []),(.slice [] .nil)] []),
 y9 11 (.mv (.t 4)),
 y9 12 (.call 65 [(.t 11)]),
 w9 (.store 3 (.t 2) (.t 10)),
 y9 3 (.mv (.t 12))] <|
 .ret) <|
 .skip) <|
 .seq (.region true [
 y9 13 (.call 169 []),
 y9 14 (.faddr 1 (.t 1)),
 ⟨(some 15),.load false 1 (.t 14),none,[0]⟩,
 y9 16 (.lookup 1 .nilFunc false (.t 13) (.t 15)),
 ⟨(some 17),.load true 35 (.t 1),none,[0,2,3]⟩,
 y9 18 (.build [(.int .i64 0),(.int .i64 0),(.str []),(.slice [] .nil),(.slice [] .nil),(.int .i64 0),(.int .i64 0),(.int .i64 0),(.int .i64 0),(.bool false),(.int .i64 0),(.str []),(.str []),(.slice [] .nil),(.str []),(.slice [] .nil),(.slice [] .nil),(.str []),(.bool false),(.str []),(.bool false),(.bool false),(.str []),(.str []),(.bool false),(.str []),(.str []),(.bool false),(.int .i64 0),(.str []),(.str []),(.slice [] .nil),(.slice [] .nil),(.int .i64 0),(.slice [] .nil)] [(0,35,(.t 17))]),
 y9 19 (.callV (.t 16) [(.t 18)]),
 w9 (.store 3 (.t 2) (.t 19)),
 y9 3 (.mv (.c (.int .i64 0)))]) <|
 .ret
def c104 : AFun := .code 26 [.tmp 4] <|
 q9 [
 y9 2 (.box 45 (.t 0)),
 y9 3 (.box 45 (.t 1)),
 y9 4 (.mv (.c (.bool false)))] <|
 q9 [
 y9 5 (.mv (.c (.func 170 [])))] <|
 q9 [
 y9 6 (.faddr 0 (.t 2)),
 y9 7 (.load false 1 (.t 6)),
 y9 8 (.faddr 0 (.t 3)),
 y9 9 (.load false 1 (.t 8)),
 y9 10 (.bin .eql (.t 7) (.t 9)),
 y9 11 (.mv (.t 10)),
 ⟨(some 12),.faddr 1 (.t 2),some (11,true),[]⟩,
 ⟨(some 13),.load false 1 (.t 12),some (11,true),[]⟩,
 ⟨(some 14),.faddr 1 (.t 3),some (11,true),[]⟩,
 ⟨(some 15),.load false 1 (.t 14),some (11,true),[]⟩,
 ⟨(some 16),.bin .eql (.t 13) (.t 15),some (11,true),[]⟩,
 y9 17 (.pick (.t 11) (.t 16) (.c (.bool false))),
 y9 18 (.mv (.t 17)),
 ⟨(some 19),.faddr 2 (.t 2),some (18,true),[]⟩,
 ⟨(some 20),.load false 1 (.t 19),some (18,true),[]⟩,
 ⟨(some 21),.faddr 2 (.t 3),some (18,true),[]⟩,
 ⟨(some 22),.load false 1 (.t 21),some (18,true),[]⟩,
 ⟨(some 23),.mv (.t 5),some (18,true),[]⟩,
 ⟨(some 24),.call 39 [(.t 20),(.t 22),(.t 23)],some (18,true),[]⟩,
 y9 25 (.pick (.t 18) (.t 24) (.c (.bool false))),
 y9 4 (.mv (.t 25))] <|
 .ret
def c105 : AFun := .code 17 [.tmp 2] <|
 q9 [
 y9 2 (.mv (.c (.bool false)))] <|
 q9 [
 y9 6 (.mv (.t 0)),
 y9 7 (.call 158 [(.t 6)]),
 y9 5 (.mv (.t 7)),
 y9 8 (.extract 0 (.t 5)),
 y9 9 (.extract 1 (.t 5)),
 y9 3 (.mv (.t 8)),
 y9 4 (.mv (.t 9))] <|
 q9 [
 y9 10 (.mv (.t 4)),
 y9 11 (.bin .eql (.t 10) (.c (.int .i64 0))),
 y9 12 (.mv (.t 11)),
 ⟨(some 13),.mv (.t 0),some (12,true),[]⟩,
 ⟨(some 14),.len true (.t 13),some (12,true),[]⟩,
 ⟨(some 15),.bin .leq (.t 14) (.c (.int .i64 200)),some (12,true),[]⟩,
 y9 16 (.pick (.t 12) (.t 15) (.c (.bool false))),
 y9 2 (.mv (.t 16))] <|
 .ret
def c106 : AFun := .code 68 [.tmp 2] <|
 q9 [
 y9 1 (.box 116 (.t 0)),
 y9 2 (.mv (.c .nilFunc))] <|
 q9 [
 y9 7 (.faddr 0 (.t 1)),
 y9 8 (.faddr 5 (.t 7)),
 y9 9 (.load true 12 (.t 8)),
 y9 3 (.alloc 29 [(.int .i64 0),(.int .i64 0),(.int .i64 0),(.int .i64 0),(.bool false),(.int .i64 0),(.str []),(.str []),(.slice [] .nil),(.str []),(.slice [] .nil),(.slice [] .nil)]),
 w9 (.store 12 (.t 3) (.t 9))] <|
 q9 [
 y9 10 (.faddr 0 (.t 3)),
 y9 11 (.load false 1 (.t 10)),
 y9 12 (.bin .neq (.t 11) (.c (.int .i64 0))),
 y9 13 (.mv (.t 12)),
 ⟨(some 14),.faddr 1 (.t 3),some (13,false),[]⟩,
 ⟨(some 15),.load false 1 (.t 14),some (13,false),[]⟩,
 ⟨(some 16),.bin .neq (.t 15) (.c (.int .i64 0)),some (13,false),[]⟩,
 y9 17 (.pick (.t 13) (.c (.bool true)) (.t 16)),
 y9 18 (.mv (.t 17)),
 ⟨(some 19),.faddr 2 (.t 3),some (18,false),[]⟩,
 ⟨(some 20),.load false 1 (.t 19),some (18,false),[]⟩,
 ⟨(some 21),.bin .neq (.t 20) (.c (.int .i64 0)),some (18,false),[]⟩,
 y9 22 (.pick (.t 18) (.c (.bool true)) (.t 21)),
 y9 23 (.mv (.t 22)),
 ⟨(some 24),.faddr 3 (.t 3),some (23,false),[]⟩,
 ⟨(some 25),.load false 1 (.t 24),some (23,false),[]⟩,
 ⟨(some 26),.bin .neq (.t 25) (.c (.int .i64 0)),some (23,false),[]⟩,
 y9 27 (.pick (.t 23) (.c (.bool true)) (.t 26)),
 y9 28 (.mv (.t 27)),
 ⟨(some 29),.faddr 4 (.t 3),some (28,false),[]⟩,
 ⟨(some 30),.load false 1 (.t 29),some (28,false),[]⟩,
 y9 31 (.pick (.t 28) (.c (.bool true)) (.t 30)),
 y9 32 (.mv (.t 31)),
 ⟨(some 33),.faddr 5 (.t 3),some (32,false),[]⟩,
 ⟨(some 34),.load true 6 (.t 33),some (32,false),[]⟩,
 ⟨(some 35),.build [(.int .i64 0),(.str []),(.str []),(.slice [] .nil),(.str []),(.slice [] .nil)] [],some (32,false),[]⟩,
 ⟨(some 36),.call 172 [(.t 34),(.t 35)],some (32,false),[]⟩,
 ⟨(some 37),.un .not (.t 36),some (32,false),[]⟩,
 y9 38 (.pick (.t 32) (.c (.bool true)) (.t 37)),
 y9 39 (.mv (.t 38)),
 ⟨(some 40),.faddr 11 (.t 3),some (39,false),[]⟩,
 ⟨(some 41),.load false 1 (.t 40),some (39,false),[]⟩,
 ⟨(some 42),.len false (.t 41),some (39,false),[]⟩,
 ⟨(some 43),.bin .gtr (.t 42) (.c (.int .i64 0)),some (39,false),[]⟩,
 y9 44 (.pick (.t 39) (.c (.bool true)) (.t 43)),
 y9 4 (.alloc 4 [(.bool false)]),
 w9 (.store 1 (.t 4) (.t 44))] <|
 q9 [
 y9 45 (.faddr 0 (.t 1)),
 y9 46 (.faddr 28 (.t 45)),
 y9 47 (.load true 4 (.t 46)),
 y9 5 (.alloc 37 [(.int .i64 0),(.str []),(.str []),(.slice [] .nil)]),
 w9 (.store 4 (.t 5) (.t 47))] <|
 q9 [
 y9 48 (.faddr 0 (.t 5)),
 y9 49 (.load false 1 (.t 48)),
 y9 50 (.bin .neq (.t 49) (.c (.int .i64 0))),
 y9 51 (.mv (.t 50)),
 ⟨(some 52),.faddr 1 (.t 5),some (51,false),[]⟩,
 ⟨(some 53),.load false 1 (.t 52),some (51,false),[]⟩,
 ⟨(some 54),.bin .neq (.t 53) (.c (.str [])),some (51,false),[]⟩,
 y9 55 (.pick (.t 51) (.c (.bool true)) (.t 54)),
 y9 56 (.mv (.t 55)),
 ⟨(some 57),.faddr 2 (.t 5),some (56,false),[]⟩,
 ⟨(some 58),.load false 1 (.t 57),some (56,false),[]⟩,
 ⟨(some 59),.bin .neq (.t 58) (.c (.str [])),some (56,false),[]⟩,
 y9 60 (.pick (.t 56) (.c (.bool true)) (.t 59)),
 y9 61 (.mv (.t 60)),
 ⟨(some 62),.faddr 3 (.t 5),some (61,false),[]⟩,
 ⟨(some 63),.load false 1 (.t 62),some (61,false),[]⟩,
 ⟨(some 64),.len false (.t 63),some (61,false),[]⟩,
 ⟨(some 65),.bin .gtr (.t 64) (.c (.int .i64 0)),some (61,false),[]⟩,
 y9 66 (.pick (.t 61) (.c (.bool true)) (.t 65)),
 y9 6 (.alloc 4 [(.bool false)]),
 w9 (.store 1 (.t 6) (.t 66))] <|
 q9 [
 y9 67 (.mkfn 173 [(.t 1),(.t 6),(.t 4)]),
 y9 2 (.mv (.t 67))] <|
 .ret
def c107 : AFun := .code 9 [.tmp 4] <|
 q9 [
 y9 4 (.mv (.c (.bool false)))] <|
 q9 [
 y9 5 (.mv (.t 0)),
 y9 6 (.mv (.t 1)),
 y9 7 (.call 174 [(.t 5),(.t 6)]),
 y9 8 (.bin .geq (.t 7) (.c (.int .i64 0))),
 y9 4 (.mv (.t 8))] <|
 .ret
def c108 : AFun := .code 29 [.cell 2 false 1] <|
 q9 [
 y9 1 (.box 45 (.t 0)),
 y9 2 (.alloc 4 [(.bool false)])] <|
 q9 [
 y9 3 (.alloc 3 [(.int .i64 0)]),
 w9 (.store 1 (.t 3) (.c (.int .i64 0)))] <|
 .seq (q9 [
 y9 6 (.load true 3 (.t 1)),
 y9 7 (.call 175 [(.t 6)])] <|
 .block 0 <| .rfunc (.t 7) [8,9] (q9 [
 y9 4 (.mv (.t 8))] <|
 .region false [
 y9 5 (.alloc 45 [(.int .i64 0),(.str []),(.slice [] .nil)]),
 w9 (.store 3 (.t 5) (.t 9))]) <|
 .block 1 <| q9 [
 y9 10 (.load false 1 (.t 3)),
 y9 11 (.bin .add (.t 10) (.c (.int .i64 1))),
 w9 (.store 1 (.t 3) (.t 11))] <|
 q9 [
 y9 12 (.load false 1 (.t 3)),
 y9 13 (.bin .gtr (.t 12) (.c (.int .i64 200))),
 y9 14 (.mv (.t 13)),
 ⟨(some 15),.mv (.t 4),some (14,false),[]⟩,
 ⟨(some 16),.bin .gtr (.t 15) (.c (.int .i64 12)),some (14,false),[]⟩,
 y9 17 (.pick (.t 14) (.c (.bool true)) (.t 16)),
 y9 18 (.mv (.t 17)),
 ⟨(some 19),.load true 3 (.t 5),some (18,false),[]⟩,
 ⟨(some 20),.call 176 [(.t 19)],some (18,false),[]⟩,
 ⟨(some 21),.un .not (.t 20),some (18,false),[]⟩,
 y9 22 (.pick (.t 18) (.c (.bool true)) (.t 21)),
 y9 23 (.mv (.t 22)),
 ⟨(some 24),.faddr 1 (.t 5),some (23,false),[]⟩,
 ⟨(some 25),.load false 1 (.t 24),some (23,false),[]⟩,
 ⟨(some 26),.len true (.t 25),some (23,false),[]⟩,
 ⟨(some 27),.bin .gtr (.t 26) (.c (.int .i64 4000)),some (23,false),[]⟩,
 y9 28 (.pick (.t 23) (.c (.bool true)) (.t 27))] <|
 .cond (.t 28) (q9 [
 w9 (.store 1 (.t 2) (.c (.bool false)))] <|
 .ret) <|
 .skip) <|
 q9 [
 w9 (.store 1 (.t 2) (.c (.bool true)))] <|
 .ret
def c109 : AFun := .code 24 [.tmp 4] <|
 q9 [
 y9 4 (.mv (.c (.str [])))] <|
 q9 [
 y9 8 (.mv (.t 1)),
 y9 9 (.call 177 [(.t 8),(.c (.str []))]),
 y9 5 (.mv (.t 9))] <|
 q9 [
 y9 11 (.mv (.t 5)),
 y9 12 (.len true (.t 11)),
 y9 13 (.call 178 [(.t 12)]),
 y9 10 (.mv (.t 13)),
 y9 14 (.extract 0 (.t 10)),
 y9 15 (.extract 1 (.t 10)),
 y9 6 (.mv (.t 14)),
 y9 7 (.mv (.t 15))] <|
 q9 [
 y9 16 (.mv (.t 0)),
 y9 17 (.conv (.toInt .u8) (.t 16)),
 y9 18 (.bslice false false 1 1 [(.int .u8 0)] [(0,1,(.t 17))]),
 y9 19 (.conv .b2s (.t 18)),
 y9 20 (.mv (.t 6)),
 y9 21 (.bin .add (.t 19) (.t 20)),
 y9 22 (.mv (.t 5)),
 y9 23 (.bin .add (.t 21) (.t 22)),
 y9 4 (.mv (.t 23))] <|
 .ret
def c110 : AFun := .code 6 [.tmp 2] <|
 q9 [
 y9 2 (.mv (.c (.bool false)))] <|
 q9 [
 y9 3 (.mv (.t 0)),
 y9 4 (.call 179 [(.t 3),(.c (.bool true))]),
 y9 5 (.un .not (.t 4)),
 y9 2 (.mv (.t 5))] <|
 .ret
def c111 : AFun := .code 105 [.tmp 2] <|
 q9 [
 y9 1 (.box 40 (.t 0)),
 y9 2 (.mv (.c (.bool false)))] <|
 q9 [
 y9 7 (.faddr 5 (.t 1)),
 y9 8 (.load true 12 (.t 7)),
 y9 3 (.alloc 29 [(.int .i64 0),(.int .i64 0),(.int .i64 0),(.int .i64 0),(.bool false),(.int .i64 0),(.str []),(.str []),(.slice [] .nil),(.str []),(.slice [] .nil),(.slice [] .nil)]),
 w9 (.store 12 (.t 3) (.t 8))] <|
 q9 [
 y9 9 (.faddr 0 (.t 3)),
 y9 10 (.load false 1 (.t 9)),
 y9 11 (.bin .neq (.t 10) (.c (.int .i64 0))),
 y9 12 (.mv (.t 11)),
 ⟨(some 13),.faddr 1 (.t 3),some (12,false),[]⟩,
 ⟨(some 14),.load false 1 (.t 13),some (12,false),[]⟩,
 ⟨(some 15),.bin .neq (.t 14) (.c (.int .i64 0)),some (12,false),[]⟩,
 y9 16 (.pick (.t 12) (.c (.bool true)) (.t 15)),
 y9 17 (.mv (.t 16)),
 ⟨(some 18),.faddr 2 (.t 3),some (17,false),[]⟩,
 ⟨(some 19),.load false 1 (.t 18),some (17,false),[]⟩,
 ⟨(some 20),.bin .neq (.t 19) (.c (.int .i64 0)),some (17,false),[]⟩,
 y9 21 (.pick (.t 17) (.c (.bool true)) (.t 20)),
 y9 22 (.mv (.t 21)),
 ⟨(some 23),.faddr 3 (.t 3),some (22,false),[]⟩,
 ⟨(some 24),.load false 1 (.t 23),some (22,false),[]⟩,
 ⟨(some 25),.bin .neq (.t 24) (.c (.int .i64 0)),some (22,false),[]⟩,
 y9 26 (.pick (.t 22) (.c (.bool true)) (.t 25)),
 y9 27 (.mv (.t 26)),
 ⟨(some 28),.faddr 4 (.t 3),some (27,false),[]⟩,
 ⟨(some 29),.load false 1 (.t 28),some (27,false),[]⟩,
 y9 30 (.pick (.t 27) (.c (.bool true)) (.t 29)),
 y9 31 (.mv (.t 30)),
 ⟨(some 32),.faddr 11 (.t 3),some (31,false),[]⟩,
 ⟨(some 33),.load false 1 (.t 32),some (31,false),[]⟩,
 ⟨(some 34),.len false (.t 33),some (31,false),[]⟩,
 ⟨(some 35),.bin .gtr (.t 34) (.c (.int .i64 0)),some (31,false),[]⟩,
 y9 36 (.pick (.t 31) (.c (.bool true)) (.t 35)),
 y9 4 (.mv (.t 36))] <|
 q9 [
 y9 37 (.faddr 5 (.t 3)),
 y9 38 (.load true 6 (.t 37)),
 y9 5 (.alloc 27 [(.int .i64 0),(.str []),(.str []),(.slice [] .nil),(.str []),(.slice [] .nil)]),
 w9 (.store 6 (.t 5) (.t 38))] <|
 q9 [
 y9 39 (.faddr 0 (.t 5)),
 y9 40 (.load false 1 (.t 39)),
 y9 41 (.bin .neq (.t 40) (.c (.int .i64 0))),
 y9 42 (.mv (.t 41)),
 ⟨(some 43),.faddr 1 (.t 5),some (42,false),[]⟩,
 ⟨(some 44),.load false 1 (.t 43),some (42,false),[]⟩,
 ⟨(some 45),.bin .neq (.t 44) (.c (.str [])),some (42,false),[]⟩,
 y9 46 (.pick (.t 42) (.c (.bool true)) (.t 45)),
 y9 47 (.mv (.t 46)),
 ⟨(some 48),.faddr 2 (.t 5),some (47,false),[]⟩,
 ⟨(some 49),.load false 1 (.t 48),some (47,false),[]⟩,
 ⟨(some 50),.bin .neq (.t 49) (.c (.str [])),some (47,false),[]⟩,
 y9 51 (.pick (.t 47) (.c (.bool true)) (.t 50)),
 y9 52 (.mv (.t 51)),
 ⟨(some 53),.faddr 4 (.t 5),some (52,false),[]⟩,
 ⟨(some 54),.load false 1 (.t 53),some (52,false),[]⟩,
 ⟨(some 55),.bin .neq (.t 54) (.c (.str [])),some (52,false),[]⟩,
 y9 56 (.pick (.t 52) (.c (.bool true)) (.t 55)),
 y9 57 (.mv (.t 56)),
 ⟨(some 58),.faddr 3 (.t 5),some (57,false),[]⟩,
 ⟨(some 59),.load false 1 (.t 58),some (57,false),[]⟩,
 ⟨(some 60),.len false (.t 59),some (57,false),[]⟩,
 ⟨(some 61),.faddr 5 (.t 5),some (57,false),[]⟩,
 ⟨(some 62),.load false 1 (.t 61),some (57,false),[]⟩,
 ⟨(some 63),.len false (.t 62),some (57,false),[]⟩,
 ⟨(some 64),.bin .add (.t 60) (.t 63),some (57,false),[]⟩,
 ⟨(some 65),.bin .gtr (.t 64) (.c (.int .i64 0)),some (57,false),[]⟩,
 y9 66 (.pick (.t 57) (.c (.bool true)) (.t 65)),
 y9 6 (.mv (.t 66))] <|
 q9 [
 y9 67 (.mv (.t 4)),
 y9 68 (.mv (.t 67)),
 ⟨(some 69),.mv (.t 6),some (68,false),[]⟩,
 y9 70 (.pick (.t 68) (.c (.bool true)) (.t 69)),
 y9 71 (.mv (.t 70)),
 ⟨(some 72),.faddr 4 (.t 1),some (71,false),[]⟩,
 ⟨(some 73),.load false 1 (.t 72),some (71,false),[]⟩,
 ⟨(some 74),.len false (.t 73),some (71,false),[]⟩,
 ⟨(some 75),.bin .gtr (.t 74) (.c (.int .i64 0)),some (71,false),[]⟩,
 y9 76 (.pick (.t 71) (.c (.bool true)) (.t 75)),
 y9 77 (.mv (.t 76)),
 ⟨(some 78),.faddr 17 (.t 1),some (77,false),[]⟩,
 ⟨(some 79),.load true 4 (.t 78),some (77,false),[]⟩,
 ⟨(some 80),.build [(.str []),(.bool false),(.str []),(.bool false)] [],some (77,false),[]⟩,
 ⟨(some 81),.eq true (.cells [2,0,2,0]) false (.t 79) (.t 80),some (77,false),[]⟩,
 y9 82 (.pick (.t 77) (.c (.bool true)) (.t 81)),
 y9 83 (.mv (.t 82)),
 ⟨(some 84),.faddr 21 (.t 1),some (83,false),[]⟩,
 ⟨(some 85),.load true 4 (.t 84),some (83,false),[]⟩,
 ⟨(some 86),.build [(.bool false),(.str []),(.str []),(.bool false)] [],some (83,false),[]⟩,
 ⟨(some 87),.eq true (.cells [0,2,2,0]) false (.t 85) (.t 86),some (83,false),[]⟩,
 y9 88 (.pick (.t 83) (.c (.bool true)) (.t 87)),
 y9 89 (.mv (.t 88)),
 ⟨(some 90),.faddr 33 (.t 1),some (89,false),[]⟩,
 ⟨(some 91),.load false 1 (.t 90),some (89,false),[]⟩,
 ⟨(some 92),.bin .neq (.t 91) (.c (.int .i64 0)),some (89,false),[]⟩,
 y9 93 (.pick (.t 89) (.c (.bool true)) (.t 92)),
 y9 94 (.mv (.t 93)),
 ⟨(some 95),.faddr 0 (.t 1),some (94,false),[]⟩,
 ⟨(some 96),.load false 1 (.t 95),some (94,false),[]⟩,
 ⟨(some 97),.bin .neq (.t 96) (.c (.int .i64 0)),some (94,false),[]⟩,
 y9 98 (.pick (.t 94) (.c (.bool true)) (.t 97)),
 y9 99 (.mv (.t 98)),
 ⟨(some 100),.faddr 34 (.t 1),some (99,false),[]⟩,
 ⟨(some 101),.load false 1 (.t 100),some (99,false),[]⟩,
 ⟨(some 102),.len false (.t 101),some (99,false),[]⟩,
 ⟨(some 103),.bin .gtr (.t 102) (.c (.int .i64 0)),some (99,false),[]⟩,
 y9 104 (.pick (.t 99) (.c (.bool true)) (.t 103)),
 y9 2 (.mv (.t 104))] <|
 .ret
def c112 : AFun := .code 18 [.tmp 2] <|
 q9 [
 y9 1 (.box 37 (.t 0)),
 y9 2 (.mv (.c (.bool false)))] <|
 q9 [
 y9 3 (.faddr 0 (.t 1)),
 y9 4 (.load false 1 (.t 3)),
 y9 5 (.bin .neq (.t 4) (.c (.int .i64 0))),
 y9 6 (.faddr 1 (.t 1)),
 y9 7 (.load false 1 (.t 6)),
 y9 8 (.bin .neq (.t 7) (.c (.str []))),
 y9 9 (.faddr 2 (.t 1)),
 y9 10 (.load false 1 (.t 9)),
 y9 11 (.bin .neq (.t 10) (.c (.str []))),
 y9 12 (.faddr 3 (.t 1)),
 y9 13 (.load false 1 (.t 12)),
 y9 14 (.len false (.t 13)),
 y9 15 (.bin .gtr (.t 14) (.c (.int .i64 0))),
 y9 16 (.bslice false false 4 1 [(.bool false),(.bool false),(.bool false),(.bool false)] [(0,1,(.t 5)),(1,1,(.t 8)),(2,1,(.t 11)),(3,1,(.t 15))]),
 y9 17 (.call 110 [(.t 16)]),
 y9 2 (.mv (.t 17))] <|
 .ret
def c113 : AFun := .code 15 [.tmp 2] <|
 q9 [
 y9 2 (.mv (.c (.bool false)))] <|
 q9 [
 y9 3 (.mv (.t 0)),
 y9 4 (.call 180 [(.t 3)]),
 y9 5 (.mv (.t 4)),
 ⟨(some 6),.mv (.t 0),some (5,true),[]⟩,
 ⟨(some 7),.index none (.t 6) (.c (.int .i64 0)),some (5,true),[]⟩,
 ⟨(some 8),.bin .geq (.t 7) (.c (.int .u8 48)),some (5,true),[]⟩,
 y9 9 (.pick (.t 5) (.t 8) (.c (.bool false))),
 y9 10 (.mv (.t 9)),
 ⟨(some 11),.mv (.t 0),some (10,true),[]⟩,
 ⟨(some 12),.index none (.t 11) (.c (.int .i64 0)),some (10,true),[]⟩,
 ⟨(some 13),.bin .leq (.t 12) (.c (.int .u8 57)),some (10,true),[]⟩,
 y9 14 (.pick (.t 10) (.t 13) (.c (.bool false))),
 y9 2 (.mv (.t 14))] <|
 .ret
def c114 : AFun := .code 4 [.tmp 2] <|
 q9 [
 y9 1 (.box 78 (.t 0)),
 y9 2 (.mv (.c .nilFunc))] <|
 q9 [
 y9 3 (.mkfn 181 [(.t 1)]),
 y9 2 (.mv (.t 3))] <|
 .ret
def c115 : AFun := .code 18 [.tmp 4] <|
 q9 [
 y9 4 (.mv (.c (.bool false)))] <|
 .seq (q9 [
 y9 7 (.mv (.t 1)),
 y9 8 (.len false (.t 7)),
 y9 9 (.mv (.c (.int .i64 0)))] <|
 .block 0 <| .loop <| q9 [
 y9 10 (.bin .lss (.t 9) (.t 8))] <|
 .seq (.cond (.t 10) (.skip) <|
 .exit 0) <|
 .seq (.block 1 <| q9 [
 y9 11 (.iaddr none 1 (.t 7) (.t 9)),
 y9 12 (.load false 1 (.t 11)),
 y9 6 (.mv (.t 12))] <|
 q9 [
 y9 13 (.mv (.t 0)),
 y9 14 (.mv (.t 6)),
 y9 15 (.callV (.t 13) [(.t 14)]),
 y9 16 (.un .not (.t 15))] <|
 .cond (.t 16) (q9 [
 y9 4 (.mv (.c (.bool false)))] <|
 .ret) <|
 .skip) <|
 .region false [
 y9 17 (.bin .add (.t 9) (.c (.int .i64 1))),
 y9 9 (.mv (.t 17))]) <|
 q9 [
 y9 4 (.mv (.c (.bool true)))] <|
 .ret
def c116 : AFun := .code 14 [.tmp 2] <|
 q9 [
 y9 2 (.mv (.c (.bool false)))] <|
 q9 [
 y9 3 (.mv (.t 0)),
 y9 4 (.bin .neq (.t 3) (.c (.str []))),
 y9 5 (.mv (.t 4)),
 ⟨(some 6),.mv (.t 0),some (5,true),[]⟩,
 ⟨(some 7),.len true (.t 6),some (5,true),[]⟩,
 ⟨(some 8),.bin .leq (.t 7) (.c (.int .i64 60)),some (5,true),[]⟩,
 y9 9 (.pick (.t 5) (.t 8) (.c (.bool false))),
 y9 10 (.mv (.t 9)),
 ⟨(some 11),.mv (.t 0),some (10,true),[]⟩,
 ⟨(some 12),.call 182 [(.t 11)],some (10,true),[]⟩,
 y9 13 (.pick (.t 10) (.t 12) (.c (.bool false))),
 y9 2 (.mv (.t 13))] <|
 .ret
def c117 : AFun := .prim 10
def c118 : AFun := .prim 11
def c119 : AFun := .prim 12
def c120 : AFun := .code 62 [.tmp 8] <|
 q9 [
 y9 6 (.box 175 (.t 2)),
 y9 8 (.mv (.c (.bool false)))] <|
 .block 0 <| .loop <| .block 1 <| .seq (q9 [
 y9 16 (.mv (.t 0)),
 y9 17 (.call 121 [(.t 16)]),
 y9 18 (.mv (.t 3)),
 y9 19 (.invoke [(233,379,none)] (.t 17) [(.t 18)])] <|
 .cond (.t 19) (q9 [
 y9 20 (.load true 3 (.t 6)),
 y9 21 (.call 183 [(.t 20)]),
 y9 22 (.mv (.t 0)),
 y9 23 (.call 117 [(.t 22)]),
 y9 24 (.call 184 [(.t 21),(.t 23)])] <|
 q9 [
 y9 8 (.mv (.c (.bool true)))] <|
 .ret) <|
 .skip) <|
 .seq (q9 [
 y9 26 (.mv (.t 0)),
 y9 27 (.assertI 457 [] .nilIface true (.t 26)),
 y9 25 (.mv (.t 27)),
 y9 28 (.extract 0 (.t 25)),
 y9 29 (.extract 1 (.t 25)),
 y9 9 (.mv (.t 28)),
 y9 10 (.mv (.t 29))] <|
 q9 [
 y9 30 (.mv (.t 10)),
 y9 31 (.mv (.t 30)),
 ⟨(some 32),.mv (.t 9),some (31,true),[]⟩,
 ⟨(some 33),.mv (.t 1),some (31,true),[]⟩,
 ⟨(some 34),.invoke [] (.t 32) [(.t 33)],some (31,true),[]⟩,
 y9 35 (.pick (.t 31) (.t 34) (.c (.bool false)))] <|
 .cond (.t 35) (q9 [
 y9 8 (.mv (.c (.bool true)))] <|
 .ret) <|
 .skip) <|
 q9 [
 y9 36 (.mv (.t 0))] <|
 .block 2 <| q9 [
 y9 37 (.assertI 457 [120,125,127,153,157,251,252,335,336,345,353,354,360,377,378,386,418,420,426,427] .nilIface true (.t 36)),
 y9 38 (.extract 1 (.t 37)),
 y9 39 (.extract 0 (.t 37))] <|
 .cond (.t 38) (q9 [
 y9 11 (.mv (.t 39))] <|
 q9 [
 y9 40 (.mv (.t 11)),
 y9 41 (.invoke [(120,369,none),(125,371,none),(153,373,none),(251,390,none),(335,393,none),(345,395,none),(353,397,none),(377,399,none),(386,401,none),(418,403,none),(426,405,none)] (.t 40) []),
 y9 0 (.mv (.t 41))] <|
 q9 [
 y9 42 (.mv (.t 0)),
 y9 43 (.eq false (.iface [15,127,157,165,234,252,336,354,360,378,420,427,428]) true (.t 42) (.c .nilIface))] <|
 .cond (.t 43) (q9 [
 y9 8 (.mv (.c (.bool false)))] <|
 .ret) <|
 .skip) <|
 q9 [
 y9 44 (.assertI 457 [] .nilIface true (.t 36)),
 y9 45 (.extract 1 (.t 44)),
 y9 46 (.extract 0 (.t 44))] <|
 .cond (.t 45) (q9 [
 y9 12 (.mv (.t 46))] <|
 .seq (q9 [
 y9 47 (.mv (.t 12)),
 y9 48 (.invoke [(120,369,none),(125,371,none),(153,373,none),(251,390,none),(335,393,none),(345,395,none),(353,397,none),(377,399,none),(386,401,none),(418,403,none),(426,405,none)] (.t 47) []),
 y9 49 (.len false (.t 48)),
 y9 50 (.mv (.c (.int .i64 0)))] <|
 .block 3 <| .loop <| q9 [
 y9 51 (.bin .lss (.t 50) (.t 49))] <|
 .seq (.cond (.t 51) (.skip) <|
 .exit 3) <|
 .seq (.block 4 <| q9 [
 y9 52 (.iaddr none 1 (.t 48) (.t 50)),
 y9 53 (.load false 1 (.t 52)),
 y9 14 (.mv (.t 53))] <|
 .seq (q9 [
 y9 54 (.mv (.t 14)),
 y9 55 (.eq false (.iface [15,127,157,165,234,252,336,354,360,378,420,427,428]) true (.t 54) (.c .nilIface))] <|
 .cond (.t 55) (.exit 4) <|
 .skip) <|
 q9 [
 y9 56 (.mv (.t 14)),
 y9 57 (.mv (.t 1)),
 y9 58 (.load true 3 (.t 6)),
 y9 59 (.mv (.t 3)),
 y9 60 (.call 120 [(.t 56),(.t 57),(.t 58),(.t 59)])] <|
 .cond (.t 60) (q9 [
 y9 8 (.mv (.c (.bool true)))] <|
 .ret) <|
 .skip) <|
 .region false [
 y9 61 (.bin .add (.t 50) (.c (.int .i64 1))),
 y9 50 (.mv (.t 61))]) <|
 q9 [
 y9 8 (.mv (.c (.bool false)))] <|
 .ret) <|
 q9 [
 y9 15 (.mv (.t 36))] <|
 q9 [
 y9 8 (.mv (.c (.bool false)))] <|
 .ret
def c121 : AFun := .prim 15
def c122 : AFun := .code 54 [.tmp 6] <|
 q9 [
 y9 6 (.mv (.c (.bool false)))] <|
 .block 0 <| .loop <| .block 1 <| .seq (q9 [
 y9 14 (.mv (.t 2)),
 y9 15 (.mv (.t 14)),
 ⟨(some 16),.mv (.t 0),some (15,true),[]⟩,
 ⟨(some 17),.mv (.t 1),some (15,true),[]⟩,
 ⟨(some 18),.eq false (.iface [15,127,157,165,234,252,336,354,360,378,420,427,428]) false (.t 16) (.t 17),some (15,true),[]⟩,
 y9 19 (.pick (.t 15) (.t 18) (.c (.bool false)))] <|
 .cond (.t 19) (q9 [
 y9 6 (.mv (.c (.bool true)))] <|
 .ret) <|
 .skip) <|
 .seq (q9 [
 y9 21 (.mv (.t 0)),
 y9 22 (.assertI 457 [] .nilIface true (.t 21)),
 y9 20 (.mv (.t 22)),
 y9 23 (.extract 0 (.t 20)),
 y9 24 (.extract 1 (.t 20)),
 y9 7 (.mv (.t 23)),
 y9 8 (.mv (.t 24))] <|
 q9 [
 y9 25 (.mv (.t 8)),
 y9 26 (.mv (.t 25)),
 ⟨(some 27),.mv (.t 7),some (26,true),[]⟩,
 ⟨(some 28),.mv (.t 1),some (26,true),[]⟩,
 ⟨(some 29),.invoke [] (.t 27) [(.t 28)],some (26,true),[]⟩,
 y9 30 (.pick (.t 26) (.t 29) (.c (.bool false)))] <|
 .cond (.t 30) (q9 [
 y9 6 (.mv (.c (.bool true)))] <|
 .ret) <|
 .skip) <|
 q9 [
 y9 31 (.mv (.t 0))] <|
 .block 2 <| q9 [
 y9 32 (.assertI 457 [120,125,127,153,157,251,252,335,336,345,353,354,360,377,378,386,418,420,426,427] .nilIface true (.t 31)),
 y9 33 (.extract 1 (.t 32)),
 y9 34 (.extract 0 (.t 32))] <|
 .cond (.t 33) (q9 [
 y9 9 (.mv (.t 34))] <|
 q9 [
 y9 35 (.mv (.t 9)),
 y9 36 (.invoke [(120,369,none),(125,371,none),(153,373,none),(251,390,none),(335,393,none),(345,395,none),(353,397,none),(377,399,none),(386,401,none),(418,403,none),(426,405,none)] (.t 35) []),
 y9 0 (.mv (.t 36))] <|
 q9 [
 y9 37 (.mv (.t 0)),
 y9 38 (.eq false (.iface [15,127,157,165,234,252,336,354,360,378,420,427,428]) true (.t 37) (.c .nilIface))] <|
 .cond (.t 38) (q9 [
 y9 6 (.mv (.c (.bool false)))] <|
 .ret) <|
 .skip) <|
 q9 [
 y9 39 (.assertI 457 [] .nilIface true (.t 31)),
 y9 40 (.extract 1 (.t 39)),
 y9 41 (.extract 0 (.t 39))] <|
 .cond (.t 40) (q9 [
 y9 10 (.mv (.t 41))] <|
 .seq (q9 [
 y9 42 (.mv (.t 10)),
 y9 43 (.invoke [(120,369,none),(125,371,none),(153,373,none),(251,390,none),(335,393,none),(345,395,none),(353,397,none),(377,399,none),(386,401,none),(418,403,none),(426,405,none)] (.t 42) []),
 y9 44 (.len false (.t 43)),
 y9 45 (.mv (.c (.int .i64 0)))] <|
 .block 3 <| .loop <| q9 [
 y9 46 (.bin .lss (.t 45) (.t 44))] <|
 .seq (.cond (.t 46) (.skip) <|
 .exit 3) <|
 .seq (.block 4 <| q9 [
 y9 47 (.iaddr none 1 (.t 43) (.t 45)),
 y9 48 (.load false 1 (.t 47)),
 y9 12 (.mv (.t 48))] <|
 q9 [
 y9 49 (.mv (.t 12)),
 y9 50 (.mv (.t 1)),
 y9 51 (.mv (.t 2)),
 y9 52 (.call 122 [(.t 49),(.t 50),(.t 51)])] <|
 .cond (.t 52) (q9 [
 y9 6 (.mv (.c (.bool true)))] <|
 .ret) <|
 .skip) <|
 .region false [
 y9 53 (.bin .add (.t 45) (.c (.int .i64 1))),
 y9 45 (.mv (.t 53))]) <|
 q9 [
 y9 6 (.mv (.c (.bool false)))] <|
 .ret) <|
 q9 [
 y9 13 (.mv (.t 31))] <|
 q9 [
 y9 6 (.mv (.c (.bool false)))] <|
 .ret
def c123 : AFun := .code 32 [.tmp 2] <|
 q9 [
 y9 1 (.box 37 (.t 0)),
 y9 2 (.mv (.c .nilIface))] <|
 .seq (.region true [
 y9 3 (.faddr 0 (.t 1)),
 y9 4 (.load false 1 (.t 3)),
 y9 5 (.bin .geq (.t 4) (.c (.int .i64 0))),
 y9 6 (.faddr 0 (.t 1)),
 ⟨(some 7),.load false 1 (.t 6),none,[1]⟩,
 y9 8 (.bin .leq (.t 7) (.c (.int .i64 200))),
 y9 9 (.faddr 1 (.t 1)),
 ⟨(some 10),.load false 1 (.t 9),none,[1,4]⟩,
 ⟨(some 11),.call 105 [(.t 10)],none,[1,4]⟩,
 y9 12 (.faddr 2 (.t 1)),
 ⟨(some 13),.load false 1 (.t 12),none,[1,4,7,8]⟩,
 ⟨(some 14),.call 182 [(.t 13)],none,[1,4]⟩,
 y9 15 (.faddr 2 (.t 1)),
 ⟨(some 16),.load false 1 (.t 15),none,[1,4,7,8,10,11]⟩,
 ⟨(some 17),.bslice false false 1 1 [(.str [])] [(0,1,(.t 16))],none,[1,4,7,8,10,11]⟩,
 ⟨(some 18),.call 186 [(.c (.int .i64 60)),(.t 17)],none,[1,4]⟩,
 y9 19 (.faddr 3 (.t 1)),
 ⟨(some 20),.load false 1 (.t 19),none,[1,4,7,8,10,11,13,14,15]⟩,
 ⟨(some 21),.call 187 [(.t 20)],none,[1,4]⟩,
 y9 22 (.faddr 0 (.t 1)),
 ⟨(some 23),.load false 1 (.t 22),none,[1,4,7,8,10,11,13,14,15,17,18]⟩,
 y9 24 (.bin .eql (.t 23) (.c (.int .i64 10))),
 y9 25 (.faddr 3 (.t 1)),
 ⟨(some 26),.load false 1 (.t 25),none,[1,4,7,8,10,11,13,14,15,17,18,20]⟩,
 y9 27 (.len false (.t 26)),
 y9 28 (.bin .gtr (.t 27) (.c (.int .i64 0))),
 y9 29 (.eq false .prim false (.t 24) (.t 28)),
 y9 30 (.bslice false false 7 1 [(.bool false),(.bool false),(.bool false),(.bool false),(.bool false),(.bool false),(.bool false)] [(0,1,(.t 5)),(1,1,(.t 8)),(2,1,(.t 11)),(3,1,(.t 14)),(4,1,(.t 18)),(5,1,(.t 21)),(6,1,(.t 29))]),
 y9 31 (.call 185 [(.c (.str [114,101,115,117,108,116])),(.t 30)]),
 y9 2 (.mv (.t 31))]) <|
 .ret
def c124 : AFun := .code 12 [.tmp 2] <|
 q9 [
 y9 2 (.mv (.c (.int .i64 0)))] <|
 q9 [
 y9 3 (.alloc 251 [(.str [])])] <|
 .seq (q9 [
 y9 4 (.mv (.t 0)),
 y9 5 (.mkif 252 (.t 3)),
 y9 6 (.call 74 [(.t 4),(.t 5)]),
 y9 7 (.mv (.t 6)),
 ⟨(some 8),.mv (.t 0),some (7,true),[]⟩,
 ⟨(some 9),.load false 1 (.c (.ptr 7 0)),some (7,true),[]⟩,
 ⟨(some 10),.call 75 [(.t 8),(.t 9)],some (7,true),[]⟩,
 y9 11 (.pick (.t 7) (.t 10) (.c (.bool false)))] <|
 .cond (.t 11) (q9 [
 y9 2 (.mv (.c (.int .i64 100)))] <|
 .ret) <|
 .skip) <|
 q9 [
 y9 2 (.mv (.c (.int .i64 0)))] <|
 .ret
def c125 : AFun := .code 12 [.cell 2 true 3] <|
 q9 [
 y9 2 (.alloc 45 [(.int .i64 0),(.str []),(.slice [] .nil)])] <|
 q9 [
 y9 6 (.mv (.t 0)),
 y9 7 (.call 188 [(.t 6)]),
 y9 5 (.mv (.t 7)),
 y9 8 (.extract 0 (.t 5)),
 y9 9 (.extract 1 (.t 5)),
 y9 3 (.mv (.t 8)),
 y9 4 (.mv (.t 9))] <|
 q9 [
 y9 10 (.mv (.t 3)),
 y9 11 (.build [(.int .i64 0),(.str []),(.slice [] .nil)] [(0,1,(.c (.int .i64 10))),(1,1,(.t 10))]),
 w9 (.store 3 (.t 2) (.t 11))] <|
 .ret
def c126 : AFun := .code 5 [.cell 2 true 3] <|
 q9 [
 y9 2 (.alloc 45 [(.int .i64 0),(.str []),(.slice [] .nil)])] <|
 q9 [
 y9 3 (.mv (.t 0)),
 y9 4 (.build [(.int .i64 0),(.str []),(.slice [] .nil)] [(0,1,(.c (.int .i64 4))),(1,1,(.t 3))]),
 w9 (.store 3 (.t 2) (.t 4))] <|
 .ret
def c127 : AFun := .code 25 [.cell 4 true 3] <|
 q9 [
 y9 4 (.alloc 45 [(.int .i64 0),(.str []),(.slice [] .nil)])] <|
 q9 [
 y9 8 (.mv (.t 0)),
 y9 9 (.call 129 [(.t 8),(.c (.slice [] .nil))]),
 y9 5 (.alloc 45 [(.int .i64 0),(.str []),(.slice [] .nil)]),
 w9 (.store 3 (.t 5) (.t 9))] <|
 .seq (q9 [
 y9 10 (.mv (.t 1)),
 y9 11 (.len false (.t 10)),
 y9 12 (.mv (.c (.int .i64 0)))] <|
 .block 0 <| .loop <| q9 [
 y9 13 (.bin .lss (.t 12) (.t 11))] <|
 .seq (.cond (.t 13) (.skip) <|
 .exit 0) <|
 .seq (.block 1 <| q9 [
 y9 14 (.iaddr none 1 (.t 10) (.t 12)),
 y9 15 (.load false 1 (.t 14)),
 y9 7 (.mv (.t 15))] <|
 .region true [
 y9 16 (.faddr 2 (.t 5)),
 y9 17 (.load false 1 (.t 16)),
 y9 18 (.mv (.t 7)),
 ⟨(some 19),.call 126 [(.t 18)],none,[1]⟩,
 ⟨(some 20),.bslice false true 1 3 [(.int .i64 0),(.str []),(.slice [] .nil)] [(0,3,(.t 19))],none,[1]⟩,
 y9 21 (.append 45 3 48 (.t 17) (.t 20)),
 y9 22 (.faddr 2 (.t 5)),
 w9 (.store 1 (.t 22) (.t 21))]) <|
 .region false [
 y9 23 (.bin .add (.t 12) (.c (.int .i64 1))),
 y9 12 (.mv (.t 23))]) <|
 q9 [
 y9 24 (.load true 3 (.t 5)),
 w9 (.store 3 (.t 4) (.t 24))] <|
 .ret
def c128 : AFun := .code 28 [.tmp 4] <|
 q9 [
 y9 2 (.box 64 (.t 0)),
 y9 4 (.mv (.c .nilIface))] <|
 q9 [
 y9 6 (.faddr 1 (.t 2)),
 y9 7 (.load false 1 (.t 6)),
 y9 8 (.len false (.t 7)),
 y9 5 (.mv (.t 8))] <|
 .seq (.region true [
 y9 9 (.mv (.t 1)),
 y9 10 (.bin .eql (.t 9) (.c (.int .i64 0))),
 y9 11 (.mv (.t 10)),
 ⟨(some 12),.mv (.t 1),some (11,false),[]⟩,
 ⟨(some 13),.bin .eql (.t 12) (.c (.int .i64 1)),some (11,false),[]⟩,
 y9 14 (.pick (.t 11) (.c (.bool true)) (.t 13)),
 y9 15 (.faddr 0 (.t 2)),
 y9 16 (.load false 1 (.t 15)),
 y9 17 (.call 149 [(.t 16)]),
 y9 18 (.mv (.t 5)),
 y9 19 (.mv (.t 1)),
 y9 20 (.bin .geq (.t 18) (.t 19)),
 y9 21 (.mv (.t 5)),
 y9 22 (.bin .leq (.t 21) (.c (.int .i64 6))),
 y9 23 (.faddr 1 (.t 2)),
 ⟨(some 24),.load false 1 (.t 23),none,[7,8]⟩,
 y9 25 (.call 186 [(.c (.int .i64 200)),(.t 24)]),
 y9 26 (.bslice false false 5 1 [(.bool false),(.bool false),(.bool false),(.bool false),(.bool false)] [(0,1,(.t 14)),(1,1,(.t 17)),(2,1,(.t 20)),(3,1,(.t 22)),(4,1,(.t 25))]),
 y9 27 (.call 185 [(.c (.str [97,116,116,114,105,98,117,116,101])),(.t 26)]),
 y9 4 (.mv (.t 27))]) <|
 .ret
def c129 : AFun := .code 8 [.cell 4 true 3] <|
 q9 [
 y9 4 (.alloc 45 [(.int .i64 0),(.str []),(.slice [] .nil)])] <|
 q9 [
 y9 5 (.mv (.t 0)),
 y9 6 (.mv (.t 1)),
 y9 7 (.build [(.int .i64 0),(.str []),(.slice [] .nil)] [(0,1,(.t 5)),(2,1,(.t 6))]),
 w9 (.store 3 (.t 4) (.t 7))] <|
 .ret
def c130 : AFun := .code 17 [.cell 4 true 2,.tmp 5] <|
 q9 [
 y9 2 (.box 45 (.t 0)),
 y9 4 (.alloc 64 [(.str []),(.slice [] .nil)]),
 y9 5 (.mv (.c (.int .i64 0)))] <|
 q9 [
 y9 9 (.load true 3 (.t 2)),
 y9 10 (.mv (.t 1)),
 y9 11 (.call 189 [(.t 9),(.t 10)]),
 y9 8 (.mv (.t 11)),
 y9 12 (.extract 0 (.t 8)),
 y9 13 (.extract 1 (.t 8)),
 y9 6 (.alloc 64 [(.str []),(.slice [] .nil)]),
 w9 (.store 2 (.t 6) (.t 12)),
 y9 7 (.mv (.t 13))] <|
 .seq (.region true [
 y9 14 (.load true 2 (.t 6)),
 y9 15 (.mv (.t 7)),
 ⟨(some 16),.call 124 [(.t 15)],none,[0]⟩,
 w9 (.store 2 (.t 4) (.t 14)),
 y9 5 (.mv (.t 16))]) <|
 .ret
def c131 : AFun := .code 50 [.tmp 4,.tmp 5] <|
 q9 [
 y9 4 (.mv (.c (.str []))),
 y9 5 (.mv (.c (.bool false)))] <|
 q9 [
 y9 8 (.mv (.t 0)),
 y9 9 (.nilck (.t 8)),
 y9 10 (.faddr 0 (.t 9)),
 y9 11 (.load false 1 (.t 10)),
 y9 12 (.len false (.t 11)),
 y9 13 (.bin .sub (.t 12) (.c (.int .i64 1))),
 y9 6 (.mv (.t 13))] <|
 .seq (q9 [
 y9 14 (.mv (.t 6)),
 y9 15 (.bin .lss (.t 14) (.c (.int .i64 0))),
 y9 16 (.mv (.t 15)),
 ⟨(some 17),.mv (.t 0),some (16,false),[]⟩,
 ⟨(some 18),.nilck (.t 17),some (16,false),[]⟩,
 ⟨(some 19),.faddr 0 (.t 18),some (16,false),[]⟩,
 ⟨(some 20),.load false 1 (.t 19),some (16,false),[]⟩,
 ⟨(some 21),.mv (.t 6),some (16,false),[]⟩,
 ⟨(some 22),.iaddr none 3 (.t 20) (.t 21),some (16,false),[]⟩,
 ⟨(some 23),.faddr 0 (.t 22),some (16,false),[]⟩,
 ⟨(some 24),.load false 1 (.t 23),some (16,false),[]⟩,
 ⟨(some 25),.mv (.t 1),some (16,false),[]⟩,
 ⟨(some 26),.bin .neq (.t 24) (.t 25),some (16,false),[]⟩,
 y9 27 (.pick (.t 16) (.c (.bool true)) (.t 26)),
 y9 28 (.mv (.t 27)),
 ⟨(some 29),.mv (.t 1),some (28,false),[]⟩,
 ⟨(some 30),.bin .eql (.t 29) (.c (.int .i64 0)),some (28,false),[]⟩,
 y9 31 (.pick (.t 28) (.c (.bool true)) (.t 30))] <|
 .cond (.t 31) (q9 [
 y9 4 (.mv (.c (.str []))),
 y9 5 (.mv (.c (.bool false)))] <|
 .ret) <|
 .skip) <|
 q9 [
 y9 32 (.mv (.t 0)),
 y9 33 (.nilck (.t 32)),
 y9 34 (.faddr 0 (.t 33)),
 y9 35 (.load false 1 (.t 34)),
 y9 36 (.mv (.t 6)),
 y9 37 (.iaddr none 3 (.t 35) (.t 36)),
 y9 38 (.faddr 1 (.t 37)),
 y9 39 (.load false 1 (.t 38)),
 y9 7 (.mv (.t 39))] <|
 q9 [
 y9 40 (.mv (.t 0)),
 y9 41 (.mv (.t 0)),
 y9 42 (.nilck (.t 41)),
 y9 43 (.faddr 0 (.t 42)),
 y9 44 (.load false 1 (.t 43)),
 y9 45 (.mv (.t 6)),
 y9 46 (.slice false 3 (.t 44) none (some (.t 45)) none),
 y9 47 (.nilck (.t 40)),
 y9 48 (.faddr 0 (.t 47)),
 w9 (.store 1 (.t 48) (.t 46))] <|
 q9 [
 y9 49 (.mv (.t 7)),
 y9 4 (.mv (.t 49)),
 y9 5 (.mv (.c (.bool true)))] <|
 .ret
def c132 : AFun := .code 14 [.cell 2 true 4,.tmp 3] <|
 q9 [
 y9 2 (.alloc 37 [(.int .i64 0),(.str []),(.str []),(.slice [] .nil)]),
 y9 3 (.mv (.c (.int .i64 0)))] <|
 q9 [
 y9 7 (.mv (.t 0)),
 y9 8 (.call 190 [(.t 7)]),
 y9 6 (.mv (.t 8)),
 y9 9 (.extract 0 (.t 6)),
 y9 10 (.extract 1 (.t 6)),
 y9 4 (.alloc 37 [(.int .i64 0),(.str []),(.str []),(.slice [] .nil)]),
 w9 (.store 4 (.t 4) (.t 9)),
 y9 5 (.mv (.t 10))] <|
 .seq (.region true [
 y9 11 (.load true 4 (.t 4)),
 y9 12 (.mv (.t 5)),
 ⟨(some 13),.call 124 [(.t 12)],none,[0]⟩,
 w9 (.store 4 (.t 2) (.t 11)),
 y9 3 (.mv (.t 13))]) <|
 .ret
def c133 : AFun := .code 50 [.tmp 2,.tmp 3] <|
 q9 [
 y9 2 (.mv (.c (.str []))),
 y9 3 (.mv (.c (.int .i64 0)))] <|
 .seq (q9 [
 y9 9 (.mv (.t 0)),
 y9 10 (.bin .lss (.t 9) (.c (.int .i64 (-2147483648)))),
 y9 11 (.mv (.t 10)),
 ⟨(some 12),.mv (.t 0),some (11,false),[]⟩,
 ⟨(some 13),.bin .gtr (.t 12) (.c (.int .i64 2147483647)),some (11,false),[]⟩,
 y9 14 (.pick (.t 11) (.c (.bool true)) (.t 13))] <|
 .cond (.t 14) (q9 [
 y9 2 (.mv (.c (.str []))),
 y9 3 (.mv (.c (.int .i64 30)))] <|
 .ret) <|
 .skip) <|
 q9 [
 y9 4 (.mv (.c (.int .i64 1)))] <|
 q9 [
 y9 5 (.mv (.c (.int .i64 128)))] <|
 .seq (.block 0 <| .loop <| .seq (q9 [
 y9 15 (.mv (.t 0)),
 y9 16 (.mv (.t 5)),
 y9 17 (.un .neg (.t 16)),
 y9 18 (.bin .lss (.t 15) (.t 17)),
 y9 19 (.mv (.t 18)),
 ⟨(some 20),.mv (.t 0),some (19,false),[]⟩,
 ⟨(some 21),.mv (.t 5),some (19,false),[]⟩,
 ⟨(some 22),.bin .geq (.t 20) (.t 21),some (19,false),[]⟩,
 y9 23 (.pick (.t 19) (.c (.bool true)) (.t 22))] <|
 .cond (.t 23) (.skip) <|
 .exit 0) <|
 .block 1 <| q9 [
 y9 24 (.mv (.t 4)),
 y9 25 (.bin .add (.t 24) (.c (.int .i64 1))),
 y9 4 (.mv (.t 25))] <|
 .region false [
 y9 26 (.mv (.t 5)),
 y9 27 (.bin .mul (.c (.int .i64 256)) (.t 26)),
 y9 5 (.mv (.t 27))]) <|
 q9 [
 y9 6 (.mv (.c (.str [])))] <|
 q9 [
 y9 28 (.mv (.t 0)),
 y9 7 (.mv (.t 28))] <|
 .seq (q9 [
 y9 29 (.mv (.t 7)),
 y9 30 (.bin .lss (.t 29) (.c (.int .i64 0)))] <|
 .cond (.t 30) (.region false [
 y9 31 (.mv (.t 7)),
 y9 32 (.mv (.t 5)),
 y9 33 (.bin .mul (.c (.int .i64 2)) (.t 32)),
 y9 34 (.bin .add (.t 31) (.t 33)),
 y9 7 (.mv (.t 34))]) <|
 .skip) <|
 .seq (q9 [
 y9 8 (.mv (.c (.int .i64 0)))] <|
 .block 2 <| .loop <| .seq (q9 [
 y9 35 (.mv (.t 8)),
 y9 36 (.mv (.t 4)),
 y9 37 (.bin .lss (.t 35) (.t 36))] <|
 .cond (.t 37) (.skip) <|
 .exit 2) <|
 .seq (.block 3 <| q9 [
 y9 40 (.mv (.t 7)),
 y9 41 (.bin .rem (.t 40) (.c (.int .i64 256))),
 y9 42 (.conv (.toInt .u8) (.t 41)),
 y9 43 (.bslice false false 1 1 [(.int .u8 0)] [(0,1,(.t 42))]),
 y9 44 (.conv .b2s (.t 43)),
 y9 45 (.mv (.t 6)),
 y9 46 (.bin .add (.t 44) (.t 45)),
 y9 6 (.mv (.t 46))] <|
 .region false [
 y9 47 (.mv (.t 7)),
 y9 48 (.bin .quo (.t 47) (.c (.int .i64 256))),
 y9 7 (.mv (.t 48))]) <|
 .region false [
 y9 38 (.mv (.t 8)),
 y9 39 (.bin .add (.t 38) (.c (.int .i64 1))),
 y9 8 (.mv (.t 39))]) <|
 q9 [
 y9 49 (.mv (.t 6)),
 y9 2 (.mv (.t 49)),
 y9 3 (.mv (.c (.int .i64 0)))] <|
 .ret
def c134 : AFun := .code 59 [.cell 4 true 2,.tmp 5] <|
 q9 [
 y9 2 (.box 45 (.t 0)),
 y9 4 (.alloc 64 [(.str []),(.slice [] .nil)]),
 y9 5 (.mv (.c (.int .i64 0)))] <|
 q9 [
 y9 11 (.build [(.str []),(.slice [] .nil)] []),
 y9 6 (.alloc 64 [(.str []),(.slice [] .nil)]),
 w9 (.store 2 (.t 6) (.t 11))] <|
 .seq (q9 [
 y9 12 (.faddr 2 (.t 2)),
 y9 13 (.load false 1 (.t 12)),
 y9 14 (.len false (.t 13)),
 y9 15 (.bin .eql (.t 14) (.c (.int .i64 2)))] <|
 .cond (.t 15) (q9 [
 y9 16 (.faddr 2 (.t 2)),
 y9 17 (.load false 1 (.t 16)),
 y9 18 (.iaddr none 3 (.t 17) (.c (.int .i64 0))),
 y9 19 (.faddr 1 (.t 18)),
 y9 20 (.load false 1 (.t 19)),
 y9 21 (.faddr 0 (.t 6)),
 w9 (.store 1 (.t 21) (.t 20))] <|
 q9 [
 y9 22 (.faddr 2 (.t 2)),
 y9 23 (.load false 1 (.t 22)),
 y9 24 (.iaddr none 3 (.t 23) (.c (.int .i64 1))),
 y9 25 (.faddr 2 (.t 24)),
 y9 26 (.load false 1 (.t 25)),
 y9 7 (.mv (.t 26))] <|
 q9 [
 y9 8 (.mv (.c (.int .i64 0)))] <|
 .block 0 <| .loop <| .seq (q9 [
 y9 27 (.mv (.t 8)),
 y9 28 (.mv (.t 7)),
 y9 29 (.len false (.t 28)),
 y9 30 (.bin .lss (.t 27) (.t 29))] <|
 .cond (.t 30) (.skip) <|
 .exit 0) <|
 .seq (.block 1 <| .region true [
 y9 33 (.faddr 1 (.t 6)),
 y9 34 (.load false 1 (.t 33)),
 y9 35 (.mv (.t 7)),
 y9 36 (.mv (.t 8)),
 ⟨(some 37),.iaddr none 3 (.t 35) (.t 36),none,[1]⟩,
 y9 38 (.faddr 1 (.t 37)),
 ⟨(some 39),.load false 1 (.t 38),none,[1]⟩,
 ⟨(some 40),.bslice false false 1 1 [(.str [])] [(0,1,(.t 39))],none,[1]⟩,
 y9 41 (.append 9 1 16 (.t 34) (.t 40)),
 y9 42 (.faddr 1 (.t 6)),
 w9 (.store 1 (.t 42) (.t 41))]) <|
 .region false [
 y9 31 (.mv (.t 8)),
 y9 32 (.bin .add (.t 31) (.c (.int .i64 1))),
 y9 8 (.mv (.t 32))]) <|
 .skip) <|
 q9 [
 y9 44 (.load true 2 (.t 6)),
 y9 45 (.mv (.t 1)),
 y9 46 (.call 81 [(.t 44),(.t 45)]),
 y9 43 (.mv (.t 46)),
 y9 47 (.extract 0 (.t 43)),
 y9 48 (.extract 1 (.t 43)),
 y9 9 (.alloc 45 [(.int .i64 0),(.str []),(.slice [] .nil)]),
 w9 (.store 3 (.t 9) (.t 47)),
 y9 10 (.mv (.t 48))] <|
 .seq (q9 [
 y9 49 (.mv (.t 10)),
 y9 50 (.bin .neq (.t 49) (.c (.int .i64 0))),
 y9 51 (.mv (.t 50)),
 ⟨(some 52),.load true 3 (.t 2),some (51,false),[]⟩,
 ⟨(some 53),.load true 3 (.t 9),some (51,false),[]⟩,
 ⟨(some 54),.call 21 [(.t 52),(.t 53)],some (51,false),[]⟩,
 ⟨(some 55),.un .not (.t 54),some (51,false),[]⟩,
 y9 56 (.pick (.t 51) (.c (.bool true)) (.t 55))] <|
 .cond (.t 56) (q9 [
 y9 57 (.build [(.str []),(.slice [] .nil)] []),
 w9 (.store 2 (.t 4) (.t 57)),
 y9 5 (.mv (.c (.int .i64 100)))] <|
 .ret) <|
 .skip) <|
 q9 [
 y9 58 (.load true 2 (.t 6)),
 w9 (.store 2 (.t 4) (.t 58)),
 y9 5 (.mv (.c (.int .i64 0)))] <|
 .ret
def c135 : AFun := .code 51 [.tmp 2,.tmp 3] <|
 q9 [
 y9 2 (.mv (.c (.int .i64 0))),
 y9 3 (.mv (.c (.int .i64 0)))] <|
 .seq (q9 [
 y9 9 (.mv (.t 0)),
 y9 10 (.len true (.t 9)),
 y9 11 (.bin .lss (.t 10) (.c (.int .i64 1))),
 y9 12 (.mv (.t 11)),
 ⟨(some 13),.mv (.t 0),some (12,false),[]⟩,
 ⟨(some 14),.len true (.t 13),some (12,false),[]⟩,
 ⟨(some 15),.bin .gtr (.t 14) (.c (.int .i64 4)),some (12,false),[]⟩,
 y9 16 (.pick (.t 12) (.c (.bool true)) (.t 15))] <|
 .cond (.t 16) (q9 [
 y9 2 (.mv (.c (.int .i64 0))),
 y9 3 (.mv (.c (.int .i64 30)))] <|
 .ret) <|
 .skip) <|
 q9 [
 y9 4 (.mv (.c (.int .i64 0)))] <|
 q9 [
 y9 5 (.mv (.c (.int .i64 1)))] <|
 .seq (q9 [
 y9 6 (.mv (.c (.int .i64 0)))] <|
 .block 0 <| .loop <| .seq (q9 [
 y9 17 (.mv (.t 6)),
 y9 18 (.mv (.t 0)),
 y9 19 (.len true (.t 18)),
 y9 20 (.bin .lss (.t 17) (.t 19))] <|
 .cond (.t 20) (.skip) <|
 .exit 0) <|
 .seq (.block 1 <| q9 [
 y9 23 (.mv (.t 4)),
 y9 24 (.bin .mul (.c (.int .i64 256)) (.t 23)),
 y9 25 (.mv (.t 0)),
 y9 26 (.mv (.t 6)),
 y9 27 (.index none (.t 25) (.t 26)),
 y9 28 (.conv (.toInt .i64) (.t 27)),
 y9 29 (.bin .add (.t 24) (.t 28)),
 y9 4 (.mv (.t 29))] <|
 .region false [
 y9 30 (.mv (.t 5)),
 y9 31 (.bin .mul (.c (.int .i64 256)) (.t 30)),
 y9 5 (.mv (.t 31))]) <|
 .region false [
 y9 21 (.mv (.t 6)),
 y9 22 (.bin .add (.t 21) (.c (.int .i64 1))),
 y9 6 (.mv (.t 22))]) <|
 .seq (q9 [
 y9 32 (.mv (.t 0)),
 y9 33 (.index none (.t 32) (.c (.int .i64 0))),
 y9 34 (.bin .geq (.t 33) (.c (.int .u8 128)))] <|
 .cond (.t 34) (.region false [
 y9 35 (.mv (.t 4)),
 y9 36 (.mv (.t 5)),
 y9 37 (.bin .sub (.t 35) (.t 36)),
 y9 4 (.mv (.t 37))]) <|
 .skip) <|
 q9 [
 y9 39 (.mv (.t 4)),
 y9 40 (.call 133 [(.t 39)]),
 y9 38 (.mv (.t 40)),
 y9 41 (.extract 0 (.t 38)),
 y9 42 (.extract 1 (.t 38)),
 y9 7 (.mv (.t 41)),
 y9 8 (.mv (.t 42))] <|
 .seq (q9 [
 y9 43 (.mv (.t 8)),
 y9 44 (.bin .neq (.t 43) (.c (.int .i64 0))),
 y9 45 (.mv (.t 44)),
 ⟨(some 46),.mv (.t 7),some (45,false),[]⟩,
 ⟨(some 47),.mv (.t 0),some (45,false),[]⟩,
 ⟨(some 48),.bin .neq (.t 46) (.t 47),some (45,false),[]⟩,
 y9 49 (.pick (.t 45) (.c (.bool true)) (.t 48))] <|
 .cond (.t 49) (q9 [
 y9 2 (.mv (.c (.int .i64 0))),
 y9 3 (.mv (.c (.int .i64 30)))] <|
 .ret) <|
 .skip) <|
 q9 [
 y9 50 (.mv (.t 4)),
 y9 2 (.mv (.t 50)),
 y9 3 (.mv (.c (.int .i64 0)))] <|
 .ret
def c136 : AFun := .code 27 [.tmp 4] <|
 q9 [
 y9 4 (.mv (.c (.bool false)))] <|
 .seq (q9 [
 y9 6 (.mv (.t 0)),
 y9 7 (.len false (.t 6)),
 y9 8 (.mv (.t 1)),
 y9 9 (.len false (.t 8)),
 y9 10 (.bin .neq (.t 7) (.t 9))] <|
 .cond (.t 10) (q9 [
 y9 4 (.mv (.c (.bool false)))] <|
 .ret) <|
 .skip) <|
 .seq (q9 [
 y9 5 (.mv (.c (.int .i64 0)))] <|
 .block 0 <| .loop <| .seq (q9 [
 y9 11 (.mv (.t 5)),
 y9 12 (.mv (.t 0)),
 y9 13 (.len false (.t 12)),
 y9 14 (.bin .lss (.t 11) (.t 13))] <|
 .cond (.t 14) (.skip) <|
 .exit 0) <|
 .seq (.block 1 <| .seq (.region true [
 y9 17 (.mv (.t 0)),
 y9 18 (.mv (.t 5)),
 y9 19 (.iaddr none 3 (.t 17) (.t 18)),
 y9 20 (.load true 3 (.t 19)),
 y9 21 (.mv (.t 1)),
 y9 22 (.mv (.t 5)),
 ⟨(some 23),.iaddr none 3 (.t 21) (.t 22),none,[2,3]⟩,
 ⟨(some 24),.load true 3 (.t 23),none,[2,3]⟩,
 y9 25 (.call 21 [(.t 20),(.t 24)]),
 y9 26 (.un .not (.t 25))]) <|
 .cond (.t 26) (q9 [
 y9 4 (.mv (.c (.bool false)))] <|
 .ret) <|
 .skip) <|
 .region false [
 y9 15 (.mv (.t 5)),
 y9 16 (.bin .add (.t 15) (.c (.int .i64 1))),
 y9 5 (.mv (.t 16))]) <|
 q9 [
 y9 4 (.mv (.c (.bool true)))] <|
 .ret
def c137 : AFun := .code 22 [.tmp 2] <|
 q9 [
 y9 2 (.mv (.c (.int .i64 0)))] <|
 q9 [
 y9 3 (.mv (.c (.int .i64 0)))] <|
 .seq (.block 0 <| .loop <| .seq (q9 [
 y9 6 (.mv (.t 3)),
 y9 7 (.mv (.t 0)),
 y9 8 (.len true (.t 7)),
 y9 9 (.bin .lss (.t 6) (.t 8))] <|
 .cond (.t 9) (.skip) <|
 .exit 0) <|
 .block 1 <| q9 [
 y9 11 (.mv (.t 0)),
 y9 12 (.mv (.t 3)),
 y9 13 (.call 191 [(.t 11),(.t 12)]),
 y9 10 (.mv (.t 13)),
 y9 14 (.extract 0 (.t 10)),
 y9 15 (.extract 1 (.t 10)),
 y9 4 (.mv (.t 14)),
 y9 5 (.mv (.t 15))] <|
 .seq (q9 [
 y9 16 (.mv (.t 5)),
 y9 17 (.bin .eql (.t 16) (.c (.int .i64 0)))] <|
 .cond (.t 17) (q9 [
 y9 18 (.mv (.t 3)),
 y9 2 (.mv (.t 18))] <|
 .ret) <|
 .skip) <|
 .region false [
 y9 19 (.mv (.t 3)),
 y9 20 (.mv (.t 5)),
 y9 21 (.bin .add (.t 19) (.t 20)),
 y9 3 (.mv (.t 21))]) <|
 q9 [
 y9 2 (.mv (.c (.int .i64 (-1))))] <|
 .ret
def c138 : AFun := .code 40 [.tmp 4] <|
 q9 [
 y9 4 (.mv (.c (.slice [] .nil)))] <|
 q9 [
 y9 5 (.mv (.c (.slice [] .nil)))] <|
 q9 [
 y9 6 (.mv (.c (.int .i64 0)))] <|
 .seq (q9 [
 y9 7 (.mv (.c (.int .i64 0)))] <|
 .block 0 <| .loop <| .seq (q9 [
 y9 8 (.mv (.t 7)),
 y9 9 (.mv (.t 0)),
 y9 10 (.len true (.t 9)),
 y9 11 (.bin .lss (.t 8) (.t 10))] <|
 .cond (.t 11) (.skip) <|
 .exit 0) <|
 .seq (.block 1 <| q9 [
 y9 14 (.mv (.t 0)),
 y9 15 (.mv (.t 7)),
 y9 16 (.index none (.t 14) (.t 15)),
 y9 17 (.bin .eql (.t 16) (.c (.int .u8 92)))] <|
 .cond (.t 17) (.region false [
 y9 18 (.mv (.t 7)),
 y9 19 (.bin .add (.t 18) (.c (.int .i64 1))),
 y9 7 (.mv (.t 19))]) <|
 q9 [
 y9 20 (.mv (.t 0)),
 y9 21 (.mv (.t 7)),
 y9 22 (.index none (.t 20) (.t 21)),
 y9 23 (.mv (.t 1)),
 y9 24 (.bin .eql (.t 22) (.t 23))] <|
 .cond (.t 24) (q9 [
 y9 25 (.mv (.t 5)),
 y9 26 (.mv (.t 0)),
 y9 27 (.mv (.t 6)),
 y9 28 (.mv (.t 7)),
 y9 29 (.slice true 1 (.t 26) (some (.t 27)) (some (.t 28)) none),
 y9 30 (.bslice false false 1 1 [(.str [])] [(0,1,(.t 29))]),
 y9 31 (.append 9 1 16 (.t 25) (.t 30)),
 y9 5 (.mv (.t 31))] <|
 .region false [
 y9 32 (.mv (.t 7)),
 y9 33 (.bin .add (.t 32) (.c (.int .i64 1))),
 y9 6 (.mv (.t 33))]) <|
 .skip) <|
 .region false [
 y9 12 (.mv (.t 7)),
 y9 13 (.bin .add (.t 12) (.c (.int .i64 1))),
 y9 7 (.mv (.t 13))]) <|
 q9 [
 y9 34 (.mv (.t 5)),
 y9 35 (.mv (.t 0)),
 y9 36 (.mv (.t 6)),
 y9 37 (.slice true 1 (.t 35) (some (.t 36)) none none),
 y9 38 (.bslice false false 1 1 [(.str [])] [(0,1,(.t 37))]),
 y9 39 (.append 9 1 16 (.t 34) (.t 38)),
 y9 4 (.mv (.t 39))] <|
 .ret
def c139 : AFun := .code 33 [.cell 2 true 2,.tmp 3] <|
 q9 [
 y9 2 (.alloc 204 [(.str []),(.str [])]),
 y9 3 (.mv (.c (.bool false)))] <|
 .seq (q9 [
 y9 4 (.mv (.c (.int .i64 0)))] <|
 .block 0 <| .loop <| .seq (q9 [
 y9 7 (.mv (.t 4)),
 y9 8 (.mv (.t 0)),
 y9 9 (.len true (.t 8)),
 y9 10 (.bin .lss (.t 7) (.t 9))] <|
 .cond (.t 10) (.skip) <|
 .exit 0) <|
 .seq (.block 1 <| q9 [
 y9 13 (.mv (.t 0)),
 y9 14 (.mv (.t 4)),
 y9 15 (.index none (.t 13) (.t 14)),
 y9 16 (.bin .eql (.t 15) (.c (.int .u8 61)))] <|
 .cond (.t 16) (q9 [
 y9 18 (.mv (.t 0)),
 y9 19 (.mv (.t 4)),
 y9 20 (.bin .add (.t 19) (.c (.int .i64 1))),
 y9 21 (.slice true 1 (.t 18) (some (.t 20)) none none),
 y9 22 (.call 192 [(.t 21)]),
 y9 17 (.mv (.t 22)),
 y9 23 (.extract 0 (.t 17)),
 y9 24 (.extract 1 (.t 17)),
 y9 5 (.mv (.t 23)),
 y9 6 (.mv (.t 24))] <|
 q9 [
 y9 25 (.mv (.t 0)),
 y9 26 (.mv (.t 4)),
 y9 27 (.slice true 1 (.t 25) none (some (.t 26)) none),
 y9 28 (.mv (.t 5)),
 y9 29 (.build [(.str []),(.str [])] [(0,1,(.t 27)),(1,1,(.t 28))]),
 y9 30 (.mv (.t 6)),
 y9 31 (.bin .eql (.t 30) (.c (.int .i64 0))),
 w9 (.store 2 (.t 2) (.t 29)),
 y9 3 (.mv (.t 31))] <|
 .ret) <|
 .skip) <|
 .region false [
 y9 11 (.mv (.t 4)),
 y9 12 (.bin .add (.t 11) (.c (.int .i64 1))),
 y9 4 (.mv (.t 12))]) <|
 q9 [
 y9 32 (.build [(.str []),(.str [])] []),
 w9 (.store 2 (.t 2) (.t 32)),
 y9 3 (.mv (.c (.bool false)))] <|
 .ret
def c140 : AFun := .code 64 [.tmp 2] <|
 q9 [
 y9 2 (.mv (.c (.bool false)))] <|
 .seq (q9 [
 y9 3 (.mv (.c (.int .i64 0)))] <|
 .block 0 <| .loop <| .seq (q9 [
 y9 5 (.mv (.t 3)),
 y9 6 (.mv (.t 0)),
 y9 7 (.len false (.t 6)),
 y9 8 (.bin .lss (.t 5) (.t 7))] <|
 .cond (.t 8) (.skip) <|
 .exit 0) <|
 .seq (.block 1 <| .seq (q9 [
 y9 11 (.mv (.t 0)),
 y9 12 (.mv (.t 3)),
 y9 13 (.iaddr none 1 (.t 11) (.t 12)),
 y9 14 (.faddr 0 (.t 13)),
 y9 15 (.load false 1 (.t 14)),
 y9 16 (.len false (.t 15)),
 y9 17 (.bin .lss (.t 16) (.c (.int .i64 1))),
 y9 18 (.mv (.t 17)),
 ⟨(some 19),.mv (.t 0),some (18,false),[]⟩,
 ⟨(some 20),.mv (.t 3),some (18,false),[]⟩,
 ⟨(some 21),.iaddr none 1 (.t 19) (.t 20),some (18,false),[]⟩,
 ⟨(some 22),.faddr 0 (.t 21),some (18,false),[]⟩,
 ⟨(some 23),.load false 1 (.t 22),some (18,false),[]⟩,
 ⟨(some 24),.len false (.t 23),some (18,false),[]⟩,
 ⟨(some 25),.bin .gtr (.t 24) (.c (.int .i64 3)),some (18,false),[]⟩,
 y9 26 (.pick (.t 18) (.c (.bool true)) (.t 25))] <|
 .cond (.t 26) (q9 [
 y9 2 (.mv (.c (.bool false)))] <|
 .ret) <|
 .skip) <|
 q9 [
 y9 4 (.mv (.c (.int .i64 0)))] <|
 .block 2 <| .loop <| .seq (q9 [
 y9 27 (.mv (.t 4)),
 y9 28 (.mv (.t 0)),
 y9 29 (.mv (.t 3)),
 y9 30 (.iaddr none 1 (.t 28) (.t 29)),
 y9 31 (.faddr 0 (.t 30)),
 y9 32 (.load false 1 (.t 31)),
 y9 33 (.len false (.t 32)),
 y9 34 (.bin .lss (.t 27) (.t 33))] <|
 .cond (.t 34) (.skip) <|
 .exit 2) <|
 .seq (.block 3 <| q9 [
 y9 37 (.mv (.t 0)),
 y9 38 (.mv (.t 3)),
 y9 39 (.iaddr none 1 (.t 37) (.t 38)),
 y9 40 (.faddr 0 (.t 39)),
 y9 41 (.load false 1 (.t 40)),
 y9 42 (.mv (.t 4)),
 y9 43 (.iaddr none 2 (.t 41) (.t 42)),
 y9 44 (.faddr 0 (.t 43)),
 y9 45 (.load false 1 (.t 44)),
 y9 46 (.call 89 [(.t 45)]),
 y9 47 (.un .not (.t 46)),
 y9 48 (.mv (.t 47)),
 ⟨(some 49),.mv (.t 0),some (48,false),[]⟩,
 ⟨(some 50),.mv (.t 3),some (48,false),[]⟩,
 ⟨(some 51),.iaddr none 1 (.t 49) (.t 50),some (48,false),[]⟩,
 ⟨(some 52),.faddr 0 (.t 51),some (48,false),[]⟩,
 ⟨(some 53),.load false 1 (.t 52),some (48,false),[]⟩,
 ⟨(some 54),.mv (.t 4),some (48,false),[]⟩,
 ⟨(some 55),.iaddr none 2 (.t 53) (.t 54),some (48,false),[]⟩,
 ⟨(some 56),.faddr 1 (.t 55),some (48,false),[]⟩,
 ⟨(some 57),.load false 1 (.t 56),some (48,false),[]⟩,
 ⟨(some 58),.len true (.t 57),some (48,false),[]⟩,
 ⟨(some 59),.bin .gtr (.t 58) (.c (.int .i64 60)),some (48,false),[]⟩,
 y9 60 (.pick (.t 48) (.c (.bool true)) (.t 59))] <|
 .cond (.t 60) (q9 [
 y9 2 (.mv (.c (.bool false)))] <|
 .ret) <|
 .skip) <|
 .region false [
 y9 35 (.mv (.t 4)),
 y9 36 (.bin .add (.t 35) (.c (.int .i64 1))),
 y9 4 (.mv (.t 36))]) <|
 .region false [
 y9 9 (.mv (.t 3)),
 y9 10 (.bin .add (.t 9) (.c (.int .i64 1))),
 y9 3 (.mv (.t 10))]) <|
 q9 [
 y9 61 (.mv (.t 0)),
 y9 62 (.len false (.t 61)),
 y9 63 (.bin .leq (.t 62) (.c (.int .i64 8))),
 y9 2 (.mv (.t 63))] <|
 .ret
def c141 : AFun := .code 36 [.tmp 2] <|
 q9 [
 y9 2 (.mv (.c (.bool false)))] <|
 .seq (q9 [
 y9 4 (.mv (.t 0)),
 y9 5 (.bin .eql (.t 4) (.c (.str []))),
 y9 6 (.mv (.t 5)),
 ⟨(some 7),.mv (.t 0),some (6,false),[]⟩,
 ⟨(some 8),.index none (.t 7) (.c (.int .i64 0)),some (6,false),[]⟩,
 ⟨(some 9),.call 193 [(.t 8)],some (6,false),[]⟩,
 ⟨(some 10),.un .not (.t 9),some (6,false),[]⟩,
 y9 11 (.pick (.t 6) (.c (.bool true)) (.t 10))] <|
 .cond (.t 11) (q9 [
 y9 2 (.mv (.c (.bool false)))] <|
 .ret) <|
 .skip) <|
 .seq (q9 [
 y9 3 (.mv (.c (.int .i64 0)))] <|
 .block 0 <| .loop <| .seq (q9 [
 y9 12 (.mv (.t 3)),
 y9 13 (.mv (.t 0)),
 y9 14 (.len true (.t 13)),
 y9 15 (.bin .lss (.t 12) (.t 14))] <|
 .cond (.t 15) (.skip) <|
 .exit 0) <|
 .seq (.block 1 <| q9 [
 y9 18 (.mv (.t 0)),
 y9 19 (.mv (.t 3)),
 y9 20 (.index none (.t 18) (.t 19)),
 y9 21 (.call 193 [(.t 20)]),
 y9 22 (.un .not (.t 21)),
 y9 23 (.mv (.t 22)),
 ⟨(some 24),.mv (.t 0),some (23,true),[]⟩,
 ⟨(some 25),.mv (.t 3),some (23,true),[]⟩,
 ⟨(some 26),.index none (.t 24) (.t 25),some (23,true),[]⟩,
 ⟨(some 27),.call 90 [(.t 26)],some (23,true),[]⟩,
 ⟨(some 28),.un .not (.t 27),some (23,true),[]⟩,
 y9 29 (.pick (.t 23) (.t 28) (.c (.bool false))),
 y9 30 (.mv (.t 29)),
 ⟨(some 31),.mv (.t 0),some (30,true),[]⟩,
 ⟨(some 32),.mv (.t 3),some (30,true),[]⟩,
 ⟨(some 33),.index none (.t 31) (.t 32),some (30,true),[]⟩,
 ⟨(some 34),.bin .neq (.t 33) (.c (.int .u8 45)),some (30,true),[]⟩,
 y9 35 (.pick (.t 30) (.t 34) (.c (.bool false)))] <|
 .cond (.t 35) (q9 [
 y9 2 (.mv (.c (.bool false)))] <|
 .ret) <|
 .skip) <|
 .region false [
 y9 16 (.mv (.t 3)),
 y9 17 (.bin .add (.t 16) (.c (.int .i64 1))),
 y9 3 (.mv (.t 17))]) <|
 q9 [
 y9 2 (.mv (.c (.bool true)))] <|
 .ret
def c142 : AFun := .code 55 [.tmp 2] <|
 q9 [
 y9 2 (.mv (.c (.bool false)))] <|
 q9 [
 y9 3 (.mv (.c (.int .i64 0)))] <|
 q9 [
 y9 4 (.mv (.c (.int .i64 0)))] <|
 .seq (q9 [
 y9 5 (.mv (.c (.int .i64 0)))] <|
 .block 0 <| .loop <| .seq (q9 [
 y9 6 (.mv (.t 5)),
 y9 7 (.mv (.t 0)),
 y9 8 (.len true (.t 7)),
 y9 9 (.bin .leq (.t 6) (.t 8))] <|
 .cond (.t 9) (.skip) <|
 .exit 0) <|
 .seq (.block 1 <| .seq (q9 [
 y9 12 (.mv (.t 5)),
 y9 13 (.mv (.t 0)),
 y9 14 (.len true (.t 13)),
 y9 15 (.bin .lss (.t 12) (.t 14)),
 y9 16 (.mv (.t 15)),
 ⟨(some 17),.mv (.t 0),some (16,true),[]⟩,
 ⟨(some 18),.mv (.t 5),some (16,true),[]⟩,
 ⟨(some 19),.index none (.t 17) (.t 18),some (16,true),[]⟩,
 ⟨(some 20),.call 90 [(.t 19)],some (16,true),[]⟩,
 y9 21 (.pick (.t 16) (.t 20) (.c (.bool false)))] <|
 .cond (.t 21) (.exit 1) <|
 .skip) <|
 .seq (q9 [
 y9 22 (.mv (.t 5)),
 y9 23 (.mv (.t 0)),
 y9 24 (.len true (.t 23)),
 y9 25 (.bin .lss (.t 22) (.t 24)),
 y9 26 (.mv (.t 25)),
 ⟨(some 27),.mv (.t 0),some (26,true),[]⟩,
 ⟨(some 28),.mv (.t 5),some (26,true),[]⟩,
 ⟨(some 29),.index none (.t 27) (.t 28),some (26,true),[]⟩,
 ⟨(some 30),.bin .neq (.t 29) (.c (.int .u8 46)),some (26,true),[]⟩,
 y9 31 (.pick (.t 26) (.t 30) (.c (.bool false))),
 y9 32 (.mv (.t 31)),
 ⟨(some 33),.mv (.t 5),some (32,false),[]⟩,
 ⟨(some 34),.mv (.t 3),some (32,false),[]⟩,
 ⟨(some 35),.bin .eql (.t 33) (.t 34),some (32,false),[]⟩,
 y9 36 (.pick (.t 32) (.c (.bool true)) (.t 35)),
 y9 37 (.mv (.t 36)),
 ⟨(some 38),.mv (.t 5),some (37,false),[]⟩,
 ⟨(some 39),.mv (.t 3),some (37,false),[]⟩,
 ⟨(some 40),.bin .add (.t 39) (.c (.int .i64 1)),some (37,false),[]⟩,
 ⟨(some 41),.bin .gtr (.t 38) (.t 40),some (37,false),[]⟩,
 ⟨(some 42),.mv (.t 41),some (37,false),[]⟩,
 ⟨(some 43),.mv (.t 0),some (42,true),[]⟩,
 ⟨(some 44),.mv (.t 3),some (42,true),[]⟩,
 ⟨(some 45),.index none (.t 43) (.t 44),some (42,true),[]⟩,
 ⟨(some 46),.bin .eql (.t 45) (.c (.int .u8 48)),some (42,true),[]⟩,
 ⟨(some 47),.pick (.t 42) (.t 46) (.c (.bool false)),some (37,false),[]⟩,
 y9 48 (.pick (.t 37) (.c (.bool true)) (.t 47))] <|
 .cond (.t 48) (q9 [
 y9 2 (.mv (.c (.bool false)))] <|
 .ret) <|
 .skip) <|
 q9 [
 y9 49 (.mv (.t 4)),
 y9 50 (.bin .add (.t 49) (.c (.int .i64 1))),
 y9 4 (.mv (.t 50))] <|
 .region false [
 y9 51 (.mv (.t 5)),
 y9 52 (.bin .add (.t 51) (.c (.int .i64 1))),
 y9 3 (.mv (.t 52))]) <|
 .region false [
 y9 10 (.mv (.t 5)),
 y9 11 (.bin .add (.t 10) (.c (.int .i64 1))),
 y9 5 (.mv (.t 11))]) <|
 q9 [
 y9 53 (.mv (.t 4)),
 y9 54 (.bin .geq (.t 53) (.c (.int .i64 2))),
 y9 2 (.mv (.t 54))] <|
 .ret
def c143 : AFun := .code 50 [.tmp 2] <|
 q9 [
 y9 2 (.mv (.c (.bool false)))] <|
 q9 [
 y9 3 (.mv (.c (.int .i64 0)))] <|
 q9 [
 y9 4 (.mv (.c (.int .i64 0)))] <|
 .seq (q9 [
 y9 5 (.mv (.c (.int .i64 0)))] <|
 .block 0 <| .loop <| .seq (q9 [
 y9 6 (.mv (.t 5)),
 y9 7 (.mv (.t 0)),
 y9 8 (.len true (.t 7)),
 y9 9 (.bin .leq (.t 6) (.t 8))] <|
 .cond (.t 9) (.skip) <|
 .exit 0) <|
 .seq (.block 1 <| .seq (q9 [
 y9 12 (.mv (.t 5)),
 y9 13 (.mv (.t 0)),
 y9 14 (.len true (.t 13)),
 y9 15 (.bin .lss (.t 12) (.t 14)),
 y9 16 (.mv (.t 15)),
 ⟨(some 17),.mv (.t 0),some (16,true),[]⟩,
 ⟨(some 18),.mv (.t 5),some (16,true),[]⟩,
 ⟨(some 19),.index none (.t 17) (.t 18),some (16,true),[]⟩,
 ⟨(some 20),.bin .neq (.t 19) (.c (.int .u8 59)),some (16,true),[]⟩,
 y9 21 (.pick (.t 16) (.t 20) (.c (.bool false)))] <|
 .cond (.t 21) (.exit 1) <|
 .skip) <|
 .seq (q9 [
 y9 22 (.mv (.t 4)),
 y9 23 (.bin .eql (.t 22) (.c (.int .i64 0))),
 y9 24 (.mv (.t 23)),
 ⟨(some 25),.mv (.t 0),some (24,true),[]⟩,
 ⟨(some 26),.mv (.t 5),some (24,true),[]⟩,
 ⟨(some 27),.slice true 1 (.t 25) none (some (.t 26)) none,some (24,true),[]⟩,
 ⟨(some 28),.call 89 [(.t 27)],some (24,true),[]⟩,
 ⟨(some 29),.un .not (.t 28),some (24,true),[]⟩,
 y9 30 (.pick (.t 24) (.t 29) (.c (.bool false))),
 y9 31 (.mv (.t 30)),
 ⟨(some 32),.mv (.t 4),some (31,false),[]⟩,
 ⟨(some 33),.bin .gtr (.t 32) (.c (.int .i64 0)),some (31,false),[]⟩,
 ⟨(some 34),.mv (.t 33),some (31,false),[]⟩,
 ⟨(some 35),.mv (.t 0),some (34,true),[]⟩,
 ⟨(some 36),.mv (.t 3),some (34,true),[]⟩,
 ⟨(some 37),.mv (.t 5),some (34,true),[]⟩,
 ⟨(some 38),.slice true 1 (.t 35) (some (.t 36)) (some (.t 37)) none,some (34,true),[]⟩,
 ⟨(some 39),.call 194 [(.t 38)],some (34,true),[]⟩,
 ⟨(some 40),.un .not (.t 39),some (34,true),[]⟩,
 ⟨(some 41),.pick (.t 34) (.t 40) (.c (.bool false)),some (31,false),[]⟩,
 y9 42 (.pick (.t 31) (.c (.bool true)) (.t 41))] <|
 .cond (.t 42) (q9 [
 y9 2 (.mv (.c (.bool false)))] <|
 .ret) <|
 .skip) <|
 q9 [
 y9 43 (.mv (.t 4)),
 y9 44 (.bin .add (.t 43) (.c (.int .i64 1))),
 y9 4 (.mv (.t 44))] <|
 .region false [
 y9 45 (.mv (.t 5)),
 y9 46 (.bin .add (.t 45) (.c (.int .i64 1))),
 y9 3 (.mv (.t 46))]) <|
 .region false [
 y9 10 (.mv (.t 5)),
 y9 11 (.bin .add (.t 10) (.c (.int .i64 1))),
 y9 5 (.mv (.t 11))]) <|
 q9 [
 y9 47 (.mv (.t 0)),
 y9 48 (.len true (.t 47)),
 y9 49 (.bin .leq (.t 48) (.c (.int .i64 30))),
 y9 2 (.mv (.t 49))] <|
 .ret
def c144 : AFun := .code 21 [.tmp 2] <|
 q9 [
 y9 2 (.mv (.c (.bool false)))] <|
 .seq (.block 0 <| .seq (.block 2 <| .block 1 <| .seq (.seq (.seq (q9 [
 y9 4 (.mv (.t 0)),
 y9 5 (.bin .geq (.t 4) (.c (.int .i32 65))),
 y9 6 (.mv (.t 5)),
 ⟨(some 7),.mv (.t 0),some (6,true),[]⟩,
 ⟨(some 8),.bin .leq (.t 7) (.c (.int .i32 90)),some (6,true),[]⟩,
 y9 9 (.pick (.t 6) (.t 8) (.c (.bool false))),
 y9 3 (.mv (.t 9))] <|
 .cond (.t 3) (.skip) <|
 .region false [
 y9 10 (.mv (.t 0)),
 y9 11 (.bin .geq (.t 10) (.c (.int .i32 48))),
 y9 12 (.mv (.t 11)),
 ⟨(some 13),.mv (.t 0),some (12,true),[]⟩,
 ⟨(some 14),.bin .leq (.t 13) (.c (.int .i32 57)),some (12,true),[]⟩,
 y9 15 (.pick (.t 12) (.t 14) (.c (.bool false))),
 y9 3 (.mv (.t 15))]) <|
 .cond (.t 3) (.exit 1) <|
 .skip) <|
 .seq (q9 [
 y9 17 (.mv (.t 0)),
 y9 18 (.bin .eql (.t 17) (.c (.int .i32 45))),
 y9 16 (.mv (.t 18))] <|
 .cond (.t 16) (.skip) <|
 .region false [
 y9 19 (.mv (.t 0)),
 y9 20 (.bin .eql (.t 19) (.c (.int .i32 95))),
 y9 16 (.mv (.t 20))]) <|
 .cond (.t 16) (.exit 2) <|
 .skip) <|
 .exit 0) <|
 .seq (q9 [
 y9 2 (.mv (.c (.bool false)))] <|
 .ret) <|
 .exit 0) <|
 q9 [
 y9 2 (.mv (.c (.bool true)))] <|
 .ret
def c145 : AFun := .code 6 [.tmp 2] <|
 q9 [
 y9 2 (.mv (.c (.bool false)))] <|
 q9 [
 y9 3 (.mv (.t 0)),
 y9 4 (.call 179 [(.t 3),(.c (.bool false))]),
 y9 5 (.un .not (.t 4)),
 y9 2 (.mv (.t 5))] <|
 .ret
def c146 : AFun := .code 9 [.tmp 4] <|
 q9 [
 y9 4 (.mv (.c (.bool false)))] <|
 q9 [
 y9 5 (.mv (.t 0)),
 y9 6 (.mv (.t 1)),
 y9 7 (.call 195 [(.t 5),(.t 6)]),
 y9 8 (.bin .geq (.t 7) (.c (.int .i64 0))),
 y9 4 (.mv (.t 8))] <|
 .ret
def c147 : AFun := .code 15 [.tmp 4] <|
 q9 [
 y9 4 (.mv (.c (.bool false)))] <|
 q9 [
 y9 5 (.mv (.t 0)),
 y9 6 (.len true (.t 5)),
 y9 7 (.bin .leq (.t 6) (.c (.int .i64 200))),
 y9 8 (.mv (.t 7)),
 ⟨(some 9),.mv (.t 1),some (8,true),[]⟩,
 ⟨(some 10),.mv (.t 9),some (8,true),[]⟩,
 ⟨(some 11),.mv (.t 0),some (10,false),[]⟩,
 ⟨(some 12),.bin .eql (.t 11) (.c (.str [])),some (10,false),[]⟩,
 ⟨(some 13),.pick (.t 10) (.c (.bool true)) (.t 12),some (8,true),[]⟩,
 y9 14 (.pick (.t 8) (.t 13) (.c (.bool false))),
 y9 4 (.mv (.t 14))] <|
 .ret
def c148 : AFun := .code 10 [.tmp 2] <|
 q9 [
 y9 2 (.mv (.c (.bool false)))] <|
 q9 [
 y9 3 (.mv (.t 0)),
 y9 4 (.bin .neq (.t 3) (.c (.str [42]))),
 y9 5 (.mv (.t 4)),
 ⟨(some 6),.mv (.t 0),some (5,true),[]⟩,
 ⟨(some 7),.call 149 [(.t 6)],some (5,true),[]⟩,
 ⟨(some 8),.un .not (.t 7),some (5,true),[]⟩,
 y9 9 (.pick (.t 5) (.t 8) (.c (.bool false))),
 y9 2 (.mv (.t 9))] <|
 .ret
def c149 : AFun := .code 29 [.tmp 2] <|
 q9 [
 y9 2 (.mv (.c (.bool false)))] <|
 q9 [
 y9 6 (.mv (.t 0)),
 y9 7 (.call 196 [(.t 6),(.c (.str [59]))]),
 y9 3 (.mv (.t 7))] <|
 .seq (q9 [
 y9 8 (.mv (.t 0)),
 y9 9 (.len true (.t 8)),
 y9 10 (.bin .gtr (.t 9) (.c (.int .i64 30))),
 y9 11 (.mv (.t 10)),
 ⟨(some 12),.mv (.t 3),some (11,false),[]⟩,
 ⟨(some 13),.iaddr none 1 (.t 12) (.c (.int .i64 0)),some (11,false),[]⟩,
 ⟨(some 14),.load false 1 (.t 13),some (11,false),[]⟩,
 ⟨(some 15),.call 180 [(.t 14)],some (11,false),[]⟩,
 ⟨(some 16),.un .not (.t 15),some (11,false),[]⟩,
 y9 17 (.pick (.t 11) (.c (.bool true)) (.t 16))] <|
 .cond (.t 17) (q9 [
 y9 2 (.mv (.c (.bool false)))] <|
 .ret) <|
 .skip) <|
 .seq (q9 [
 y9 18 (.mv (.t 3)),
 y9 19 (.slice false 1 (.t 18) (some (.c (.int .i64 1))) none none),
 y9 20 (.len false (.t 19)),
 y9 21 (.mv (.c (.int .i64 0)))] <|
 .block 0 <| .loop <| q9 [
 y9 22 (.bin .lss (.t 21) (.t 20))] <|
 .seq (.cond (.t 22) (.skip) <|
 .exit 0) <|
 .seq (.block 1 <| q9 [
 y9 23 (.iaddr none 1 (.t 19) (.t 21)),
 y9 24 (.load false 1 (.t 23)),
 y9 5 (.mv (.t 24))] <|
 q9 [
 y9 25 (.mv (.t 5)),
 y9 26 (.call 197 [(.t 25)]),
 y9 27 (.un .not (.t 26))] <|
 .cond (.t 27) (q9 [
 y9 2 (.mv (.c (.bool false)))] <|
 .ret) <|
 .skip) <|
 .region false [
 y9 28 (.bin .add (.t 21) (.c (.int .i64 1))),
 y9 21 (.mv (.t 28))]) <|
 q9 [
 y9 2 (.mv (.c (.bool true)))] <|
 .ret
def c150 : AFun := .code 9 [.tmp 2] <|
 q9 [
 y9 2 (.mv (.c (.bool false)))] <|
 q9 [
 y9 3 (.mv (.t 0)),
 y9 4 (.bin .geq (.t 3) (.c (.int .i64 0))),
 y9 5 (.mv (.t 4)),
 ⟨(some 6),.mv (.t 0),some (5,true),[]⟩,
 ⟨(some 7),.bin .leq (.t 6) (.c (.int .i64 2147483647)),some (5,true),[]⟩,
 y9 8 (.pick (.t 5) (.t 7) (.c (.bool false))),
 y9 2 (.mv (.t 8))] <|
 .ret
def c151 : AFun := .code 16 [.cell 2 false 1] <|
 q9 [
 y9 1 (.box 27 (.t 0)),
 y9 2 (.alloc 4 [(.bool false)])] <|
 .seq (q9 [
 y9 5 (.load true 6 (.t 1)),
 y9 6 (.call 198 [(.t 5)])] <|
 .block 0 <| .rfunc (.t 6) [7,8] (q9 [
 y9 3 (.mv (.t 7))] <|
 .region false [
 y9 4 (.alloc 27 [(.int .i64 0),(.str []),(.str []),(.slice [] .nil),(.str []),(.slice [] .nil)]),
 w9 (.store 6 (.t 4) (.t 8))]) <|
 .block 1 <| q9 [
 y9 9 (.mv (.t 3)),
 y9 10 (.bin .gtr (.t 9) (.c (.int .i64 6))),
 y9 11 (.mv (.t 10)),
 ⟨(some 12),.load true 6 (.t 4),some (11,false),[]⟩,
 ⟨(some 13),.call 199 [(.t 12)],some (11,false),[]⟩,
 ⟨(some 14),.un .not (.t 13),some (11,false),[]⟩,
 y9 15 (.pick (.t 11) (.c (.bool true)) (.t 14))] <|
 .cond (.t 15) (q9 [
 w9 (.store 1 (.t 2) (.c (.bool false)))] <|
 .ret) <|
 .skip) <|
 q9 [
 w9 (.store 1 (.t 2) (.c (.bool true)))] <|
 .ret
def c152 : AFun := .code 9 [.tmp 4] <|
 q9 [
 y9 4 (.mv (.c (.bool false)))] <|
 q9 [
 y9 5 (.mv (.t 0)),
 y9 6 (.mv (.t 1)),
 y9 7 (.call 200 [(.t 5),(.t 6)]),
 y9 8 (.bin .geq (.t 7) (.c (.int .i64 0))),
 y9 4 (.mv (.t 8))] <|
 .ret
def c153 : AFun := .code 12 [.tmp 2] <|
 q9 [
 y9 1 (.box 67 (.t 0)),
 y9 2 (.mv (.c (.bool false)))] <|
 q9 [
 y9 6 (.load true 3 (.t 1)),
 y9 7 (.call 154 [(.t 6)]),
 y9 5 (.mv (.t 7)),
 y9 8 (.extract 0 (.t 5)),
 y9 9 (.extract 1 (.t 5)),
 y9 3 (.alloc 45 [(.int .i64 0),(.str []),(.slice [] .nil)]),
 w9 (.store 3 (.t 3) (.t 8)),
 y9 4 (.mv (.t 9))] <|
 q9 [
 y9 10 (.mv (.t 4)),
 y9 11 (.bin .neq (.t 10) (.c (.int .i64 0))),
 y9 2 (.mv (.t 11))] <|
 .ret
def c154 : AFun := .code 26 [.cell 2 true 3,.tmp 3] <|
 q9 [
 y9 1 (.box 67 (.t 0)),
 y9 2 (.alloc 45 [(.int .i64 0),(.str []),(.slice [] .nil)]),
 y9 3 (.mv (.c (.int .i64 0)))] <|
 .seq (q9 [
 y9 7 (.load true 3 (.t 1)),
 y9 8 (.call 201 [(.t 7)]),
 y9 4 (.mv (.t 8))] <|
 q9 [
 y9 9 (.mv (.t 4)),
 y9 10 (.eq true (.iface [15,127,157,165,234,252,336,354,360,378,420,427,428]) true (.t 9) (.c .nilIface))] <|
 .cond (.t 10) (q9 [
 y9 11 (.build [(.int .i64 0),(.str []),(.slice [] .nil)] []),
 y9 12 (.mv (.t 4)),
 y9 13 (.call 124 [(.t 12)]),
 w9 (.store 3 (.t 2) (.t 11)),
 y9 3 (.mv (.t 13))] <|
 .ret) <|
 .skip) <|
 q9 [
 y9 15 (.faddr 1 (.t 1)),
 y9 16 (.load true 2 (.t 15)),
 y9 17 (.call 77 [(.t 16),(.c (.int .i64 0))]),
 y9 14 (.mv (.t 17)),
 y9 18 (.extract 0 (.t 14)),
 y9 19 (.extract 1 (.t 14)),
 y9 5 (.alloc 45 [(.int .i64 0),(.str []),(.slice [] .nil)]),
 w9 (.store 3 (.t 5) (.t 18)),
 y9 6 (.mv (.t 19))] <|
 .seq (.region true [
 y9 20 (.faddr 0 (.t 1)),
 y9 21 (.load false 1 (.t 20)),
 y9 22 (.call 125 [(.t 21)]),
 ⟨(some 23),.load true 3 (.t 5),none,[1,2]⟩,
 y9 24 (.bslice false true 2 3 [(.int .i64 0),(.str []),(.slice [] .nil),(.int .i64 0),(.str []),(.slice [] .nil)] [(0,3,(.t 22)),(3,3,(.t 23))]),
 y9 25 (.call 129 [(.c (.int .i64 48)),(.t 24)]),
 w9 (.store 3 (.t 2) (.t 25)),
 y9 3 (.mv (.c (.int .i64 0)))]) <|
 .ret
def c155 : AFun := .code 9 [.tmp 4] <|
 q9 [
 y9 4 (.mv (.c (.bool false)))] <|
 q9 [
 y9 5 (.mv (.t 0)),
 y9 6 (.mv (.t 1)),
 y9 7 (.call 202 [(.t 5),(.t 6)]),
 y9 8 (.bin .geq (.t 7) (.c (.int .i64 0))),
 y9 4 (.mv (.t 8))] <|
 .ret
def c156 : AFun := .code 12 [.tmp 2] <|
 q9 [
 y9 1 (.box 64 (.t 0)),
 y9 2 (.mv (.c (.bool false)))] <|
 q9 [
 y9 6 (.load true 2 (.t 1)),
 y9 7 (.call 77 [(.t 6),(.c (.int .i64 1))]),
 y9 5 (.mv (.t 7)),
 y9 8 (.extract 0 (.t 5)),
 y9 9 (.extract 1 (.t 5)),
 y9 3 (.alloc 45 [(.int .i64 0),(.str []),(.slice [] .nil)]),
 w9 (.store 3 (.t 3) (.t 8)),
 y9 4 (.mv (.t 9))] <|
 q9 [
 y9 10 (.mv (.t 4)),
 y9 11 (.bin .neq (.t 10) (.c (.int .i64 0))),
 y9 2 (.mv (.t 11))] <|
 .ret
def c157 : AFun := .code 9 [.tmp 4] <|
 q9 [
 y9 4 (.mv (.c (.bool false)))] <|
 q9 [
 y9 5 (.mv (.t 0)),
 y9 6 (.mv (.t 1)),
 y9 7 (.call 203 [(.t 5),(.t 6)]),
 y9 8 (.bin .geq (.t 7) (.c (.int .i64 0))),
 y9 4 (.mv (.t 8))] <|
 .ret
def c158 : AFun := .code 14 [.tmp 2,.tmp 3] <|
 q9 [
 y9 2 (.mv (.c (.slice [] .nil))),
 y9 3 (.mv (.c (.int .i64 0)))] <|
 q9 [
 y9 7 (.mv (.t 0)),
 y9 8 (.call 204 [(.t 7)]),
 y9 6 (.mv (.t 8)),
 y9 9 (.extract 0 (.t 6)),
 y9 10 (.extract 1 (.t 6)),
 y9 4 (.mv (.t 9)),
 y9 5 (.mv (.t 10))] <|
 q9 [
 y9 11 (.mv (.t 4)),
 y9 12 (.mv (.t 5)),
 y9 13 (.call 205 [(.t 12)]),
 y9 2 (.mv (.t 11)),
 y9 3 (.mv (.t 13))] <|
 .ret
def c159 : AFun := .code 42 [] <|
 q9 [
 y9 2 (.box 155 (.t 0))] <|
 q9 [
 y9 5 (.load true 3 (.t 2)),
 y9 6 (.call 206 [(.t 5),(.c (.int .i64 2))]),
 y9 4 (.alloc 155 [(.int .i64 0),(.str []),(.slice [] .nil)]),
 w9 (.store 3 (.t 4) (.t 6))] <|
 .seq (.region true [
 y9 7 (.mv (.t 1)),
 y9 8 (.mv (.t 1)),
 y9 9 (.load true 3 (.t 2)),
 y9 10 (.call 206 [(.t 9),(.c (.int .i64 1))]),
 y9 11 (.field 0 true 3 (.t 10)),
 y9 12 (.field 1 false 1 (.t 11)),
 y9 13 (.faddr 0 (.t 4)),
 y9 14 (.faddr 1 (.t 13)),
 ⟨(some 15),.load false 1 (.t 14),none,[2,3]⟩,
 y9 16 (.build [(.bool false),(.str []),(.str []),(.bool false)] [(0,1,(.c (.bool true))),(1,1,(.t 15))]),
 y9 17 (.nilck (.t 7)),
 y9 18 (.faddr 2 (.t 17)),
 ⟨none,.store 1 (.t 18) (.t 12),none,[8]⟩,
 y9 19 (.nilck (.t 8)),
 y9 20 (.faddr 21 (.t 19)),
 w9 (.store 4 (.t 20) (.t 16))]) <|
 q9 [
 y9 21 (.faddr 0 (.t 4)),
 y9 22 (.faddr 0 (.t 21)),
 y9 23 (.load false 1 (.t 22)),
 y9 24 (.bin .eql (.t 23) (.c (.int .i64 163)))] <|
 .cond (.t 24) (.region true [
 y9 25 (.mv (.t 1)),
 y9 26 (.load true 3 (.t 4)),
 y9 27 (.call 206 [(.t 26),(.c (.int .i64 0))]),
 y9 28 (.field 0 true 3 (.t 27)),
 y9 29 (.field 1 false 1 (.t 28)),
 ⟨(some 30),.load true 3 (.t 4),none,[1,2]⟩,
 y9 31 (.call 206 [(.t 30),(.c (.int .i64 1))]),
 y9 32 (.field 0 true 3 (.t 31)),
 y9 33 (.field 1 false 1 (.t 32)),
 y9 34 (.faddr 0 (.t 4)),
 y9 35 (.faddr 2 (.t 34)),
 ⟨(some 36),.load false 1 (.t 35),none,[1,2,5,6]⟩,
 y9 37 (.len false (.t 36)),
 y9 38 (.bin .gtr (.t 37) (.c (.int .i64 1))),
 y9 39 (.build [(.bool false),(.str []),(.str []),(.bool false)] [(2,1,(.t 29)),(1,1,(.t 33)),(3,1,(.t 38))]),
 y9 40 (.nilck (.t 25)),
 y9 41 (.faddr 21 (.t 40)),
 w9 (.store 4 (.t 41) (.t 39))]) <|
 .skip
def c160 : AFun := .code 4 [] <|
 .region false [
 y9 2 (.box 155 (.t 0))]
def c161 : AFun := .code 43 [] <|
 q9 [
 y9 2 (.box 155 (.t 0))] <|
 q9 [
 y9 7 (.load true 3 (.t 2)),
 y9 8 (.call 206 [(.t 7),(.c (.int .i64 6))]),
 y9 9 (.field 0 true 3 (.t 8)),
 y9 10 (.call 207 [(.t 9)]),
 y9 6 (.mv (.t 10)),
 y9 11 (.extract 0 (.t 6)),
 y9 12 (.extract 1 (.t 6)),
 y9 4 (.alloc 27 [(.int .i64 0),(.str []),(.str []),(.slice [] .nil),(.str []),(.slice [] .nil)]),
 w9 (.store 6 (.t 4) (.t 11)),
 y9 5 (.mv (.t 12))] <|
 .region true [
 y9 13 (.mv (.t 1)),
 y9 14 (.mv (.t 1)),
 y9 15 (.load true 3 (.t 2)),
 y9 16 (.call 206 [(.t 15),(.c (.int .i64 0))]),
 y9 17 (.field 0 true 3 (.t 16)),
 y9 18 (.field 1 false 1 (.t 17)),
 ⟨(some 19),.load true 3 (.t 2),none,[2,3]⟩,
 y9 20 (.call 206 [(.t 19),(.c (.int .i64 1))]),
 y9 21 (.call 208 [(.t 20)]),
 ⟨(some 22),.load true 3 (.t 2),none,[2,3,6,7,8]⟩,
 y9 23 (.call 206 [(.t 22),(.c (.int .i64 2))]),
 y9 24 (.call 208 [(.t 23)]),
 ⟨(some 25),.load true 3 (.t 2),none,[2,3,6,7,8,9,10,11]⟩,
 y9 26 (.call 206 [(.t 25),(.c (.int .i64 3))]),
 y9 27 (.call 208 [(.t 26)]),
 ⟨(some 28),.load true 3 (.t 2),none,[2,3,6,7,8,9,10,11,12,13,14]⟩,
 y9 29 (.call 206 [(.t 28),(.c (.int .i64 4))]),
 y9 30 (.call 208 [(.t 29)]),
 ⟨(some 31),.load true 3 (.t 2),none,[2,3,6,7,8,9,10,11,12,13,14,15,16,17]⟩,
 y9 32 (.call 206 [(.t 31),(.c (.int .i64 5))]),
 y9 33 (.call 209 [(.t 32)]),
 ⟨(some 34),.load true 6 (.t 4),none,[2,3,6,7,8,9,10,11,12,13,14,15,16,17,18,19,20]⟩,
 ⟨(some 35),.load true 3 (.t 2),none,[2,3,6,7,8,9,10,11,12,13,14,15,16,17,18,19,20,21]⟩,
 ⟨(some 36),.call 206 [(.t 35),(.c (.int .i64 7))],none,[21]⟩,
 ⟨(some 37),.call 210 [(.t 36)],none,[21]⟩,
 y9 38 (.build [(.int .i64 0),(.int .i64 0),(.int .i64 0),(.int .i64 0),(.bool false),(.int .i64 0),(.str []),(.str []),(.slice [] .nil),(.str []),(.slice [] .nil),(.slice [] .nil)] [(0,1,(.t 21)),(1,1,(.t 24)),(2,1,(.t 27)),(3,1,(.t 30)),(4,1,(.t 33)),(5,6,(.t 34)),(11,1,(.t 37))]),
 y9 39 (.nilck (.t 13)),
 y9 40 (.faddr 2 (.t 39)),
 ⟨none,.store 1 (.t 40) (.t 18),none,[21]⟩,
 y9 41 (.nilck (.t 14)),
 y9 42 (.faddr 5 (.t 41)),
 w9 (.store 12 (.t 42) (.t 38))]
def c162 : AFun := .code 40 [] <|
 q9 [
 y9 2 (.box 155 (.t 0))] <|
 q9 [
 y9 8 (.mv (.t 1)),
 y9 9 (.load true 3 (.t 2)),
 y9 10 (.call 206 [(.t 9),(.c (.int .i64 0))]),
 y9 11 (.field 0 true 3 (.t 10)),
 y9 12 (.field 1 false 1 (.t 11)),
 y9 13 (.nilck (.t 8)),
 y9 14 (.faddr 2 (.t 13)),
 w9 (.store 1 (.t 14) (.t 12))] <|
 q9 [
 y9 15 (.load true 3 (.t 2)),
 y9 16 (.call 206 [(.t 15),(.c (.int .i64 1))]),
 y9 17 (.field 0 true 3 (.t 16)),
 y9 18 (.field 2 false 1 (.t 17)),
 y9 19 (.len false (.t 18)),
 y9 20 (.mv (.c (.int .i64 0)))] <|
 .block 0 <| .loop <| q9 [
 y9 21 (.bin .lss (.t 20) (.t 19))] <|
 .seq (.cond (.t 21) (.skip) <|
 .exit 0) <|
 .seq (.block 1 <| q9 [
 y9 22 (.iaddr none 3 (.t 18) (.t 20)),
 y9 23 (.load true 3 (.t 22)),
 y9 5 (.alloc 45 [(.int .i64 0),(.str []),(.slice [] .nil)]),
 w9 (.store 3 (.t 5) (.t 23))] <|
 q9 [
 y9 25 (.load true 3 (.t 5)),
 y9 26 (.call 211 [(.t 25)]),
 y9 24 (.mv (.t 26)),
 y9 27 (.extract 0 (.t 24)),
 y9 28 (.extract 1 (.t 24)),
 y9 6 (.alloc 67 [(.int .i64 0),(.str []),(.slice [] .nil)]),
 w9 (.store 3 (.t 6) (.t 27)),
 y9 7 (.mv (.t 28))] <|
 .region true [
 y9 29 (.mv (.t 1)),
 y9 30 (.mv (.t 1)),
 y9 31 (.nilck (.t 30)),
 y9 32 (.faddr 4 (.t 31)),
 y9 33 (.load false 1 (.t 32)),
 ⟨(some 34),.load true 3 (.t 6),none,[4]⟩,
 ⟨(some 35),.bslice false true 1 3 [(.int .i64 0),(.str []),(.slice [] .nil)] [(0,3,(.t 34))],none,[4]⟩,
 y9 36 (.append 67 3 48 (.t 33) (.t 35)),
 y9 37 (.nilck (.t 29)),
 y9 38 (.faddr 4 (.t 37)),
 w9 (.store 1 (.t 38) (.t 36))]) <|
 .region false [
 y9 39 (.bin .add (.t 20) (.c (.int .i64 1))),
 y9 20 (.mv (.t 39))]
def c163 : AFun := .code 40 [] <|
 q9 [
 y9 2 (.box 155 (.t 0))] <|
 q9 [
 y9 8 (.mv (.t 1)),
 y9 9 (.load true 3 (.t 2)),
 y9 10 (.call 206 [(.t 9),(.c (.int .i64 0))]),
 y9 11 (.field 0 true 3 (.t 10)),
 y9 12 (.field 1 false 1 (.t 11)),
 y9 13 (.nilck (.t 8)),
 y9 14 (.faddr 2 (.t 13)),
 w9 (.store 1 (.t 14) (.t 12))] <|
 q9 [
 y9 15 (.load true 3 (.t 2)),
 y9 16 (.call 206 [(.t 15),(.c (.int .i64 1))]),
 y9 17 (.field 0 true 3 (.t 16)),
 y9 18 (.field 2 false 1 (.t 17)),
 y9 19 (.len false (.t 18)),
 y9 20 (.mv (.c (.int .i64 0)))] <|
 .block 0 <| .loop <| q9 [
 y9 21 (.bin .lss (.t 20) (.t 19))] <|
 .seq (.cond (.t 21) (.skip) <|
 .exit 0) <|
 .seq (.block 1 <| q9 [
 y9 22 (.iaddr none 3 (.t 18) (.t 20)),
 y9 23 (.load true 3 (.t 22)),
 y9 5 (.alloc 45 [(.int .i64 0),(.str []),(.slice [] .nil)]),
 w9 (.store 3 (.t 5) (.t 23))] <|
 q9 [
 y9 25 (.load true 3 (.t 5)),
 y9 26 (.call 130 [(.t 25),(.c (.int .i64 1))]),
 y9 24 (.mv (.t 26)),
 y9 27 (.extract 0 (.t 24)),
 y9 28 (.extract 1 (.t 24)),
 y9 6 (.alloc 64 [(.str []),(.slice [] .nil)]),
 w9 (.store 2 (.t 6) (.t 27)),
 y9 7 (.mv (.t 28))] <|
 .region true [
 y9 29 (.mv (.t 1)),
 y9 30 (.mv (.t 1)),
 y9 31 (.nilck (.t 30)),
 y9 32 (.faddr 3 (.t 31)),
 y9 33 (.load false 1 (.t 32)),
 ⟨(some 34),.load true 2 (.t 6),none,[4]⟩,
 ⟨(some 35),.bslice false true 1 2 [(.str []),(.slice [] .nil)] [(0,2,(.t 34))],none,[4]⟩,
 y9 36 (.append 64 2 40 (.t 33) (.t 35)),
 y9 37 (.nilck (.t 29)),
 y9 38 (.faddr 3 (.t 37)),
 w9 (.store 1 (.t 38) (.t 36))]) <|
 .region false [
 y9 39 (.bin .add (.t 20) (.c (.int .i64 1))),
 y9 20 (.mv (.t 39))]
def c164 : AFun := .code 10 [] <|
 q9 [
 y9 2 (.box 155 (.t 0))] <|
 .region false [
 y9 4 (.mv (.t 1)),
 y9 5 (.faddr 0 (.t 2)),
 y9 6 (.faddr 1 (.t 5)),
 y9 7 (.load false 1 (.t 6)),
 y9 8 (.nilck (.t 4)),
 y9 9 (.faddr 2 (.t 8)),
 w9 (.store 1 (.t 9) (.t 7))]
def c165 : AFun := .code 31 [] <|
 q9 [
 y9 2 (.box 155 (.t 0))] <|
 .region true [
 y9 4 (.mv (.t 1)),
 y9 5 (.mv (.t 1)),
 y9 6 (.load true 3 (.t 2)),
 y9 7 (.call 206 [(.t 6),(.c (.int .i64 0))]),
 y9 8 (.field 0 true 3 (.t 7)),
 y9 9 (.field 1 false 1 (.t 8)),
 ⟨(some 10),.load true 3 (.t 2),none,[2,3]⟩,
 y9 11 (.call 206 [(.t 10),(.c (.int .i64 1))]),
 y9 12 (.field 0 true 3 (.t 11)),
 y9 13 (.field 1 false 1 (.t 12)),
 ⟨(some 14),.load true 3 (.t 2),none,[2,3,6,7]⟩,
 y9 15 (.call 206 [(.t 14),(.c (.int .i64 2))]),
 y9 16 (.call 209 [(.t 15)]),
 ⟨(some 17),.load true 3 (.t 2),none,[2,3,6,7,10,11,12]⟩,
 y9 18 (.call 206 [(.t 17),(.c (.int .i64 3))]),
 y9 19 (.field 0 true 3 (.t 18)),
 y9 20 (.field 1 false 1 (.t 19)),
 y9 21 (.faddr 0 (.t 2)),
 y9 22 (.faddr 2 (.t 21)),
 ⟨(some 23),.load false 1 (.t 22),none,[2,3,6,7,10,11,12,13,14]⟩,
 y9 24 (.len false (.t 23)),
 y9 25 (.bin .gtr (.t 24) (.c (.int .i64 3))),
 y9 26 (.build [(.str []),(.bool false),(.str []),(.bool false)] [(0,1,(.t 13)),(1,1,(.t 16)),(2,1,(.t 20)),(3,1,(.t 25))]),
 y9 27 (.nilck (.t 4)),
 y9 28 (.faddr 2 (.t 27)),
 ⟨none,.store 1 (.t 28) (.t 9),none,[19]⟩,
 y9 29 (.nilck (.t 5)),
 y9 30 (.faddr 17 (.t 29)),
 w9 (.store 4 (.t 30) (.t 26))]
def c166 : AFun := .code 27 [] <|
 q9 [
 y9 2 (.box 155 (.t 0))] <|
 .region true [
 y9 4 (.mv (.t 1)),
 y9 5 (.mv (.t 1)),
 y9 6 (.load true 3 (.t 2)),
 y9 7 (.call 206 [(.t 6),(.c (.int .i64 0))]),
 y9 8 (.field 0 true 3 (.t 7)),
 y9 9 (.field 1 false 1 (.t 8)),
 ⟨(some 10),.load true 3 (.t 2),none,[2,3]⟩,
 y9 11 (.call 206 [(.t 10),(.c (.int .i64 1))]),
 y9 12 (.call 206 [(.t 11),(.c (.int .i64 0))]),
 y9 13 (.field 0 true 3 (.t 12)),
 y9 14 (.field 1 false 1 (.t 13)),
 ⟨(some 15),.load true 3 (.t 2),none,[2,3,6,7,8]⟩,
 y9 16 (.call 206 [(.t 15),(.c (.int .i64 1))]),
 y9 17 (.call 206 [(.t 16),(.c (.int .i64 1))]),
 y9 18 (.field 0 true 3 (.t 17)),
 y9 19 (.field 1 false 1 (.t 18)),
 y9 20 (.bslice false false 1 1 [(.str [])] [(0,1,(.t 19))]),
 y9 21 (.build [(.str []),(.slice [] .nil)] [(0,1,(.t 14)),(1,1,(.t 20))]),
 y9 22 (.bslice false true 1 2 [(.str []),(.slice [] .nil)] [(0,2,(.t 21))]),
 y9 23 (.nilck (.t 4)),
 y9 24 (.faddr 2 (.t 23)),
 ⟨none,.store 1 (.t 24) (.t 9),none,[16,18]⟩,
 y9 25 (.nilck (.t 5)),
 y9 26 (.faddr 3 (.t 25)),
 w9 (.store 1 (.t 26) (.t 22))]
def c167 : AFun := .code 9 [] <|
 q9 [
 y9 2 (.box 155 (.t 0))] <|
 .region false [
 y9 4 (.mv (.t 1)),
 y9 5 (.load true 3 (.t 2)),
 y9 6 (.call 208 [(.t 5)]),
 y9 7 (.nilck (.t 4)),
 y9 8 (.faddr 33 (.t 7)),
 w9 (.store 1 (.t 8) (.t 6))]
end Am
