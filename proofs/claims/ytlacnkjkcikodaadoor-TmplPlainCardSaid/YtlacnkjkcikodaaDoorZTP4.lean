/- the template of any rule as itself is the document's; the table of a grammar as itself is sound, if the grammar may be; its sorts are the nonterminals themselves: part 5 of 6 of its proof, packed by a program of this session out of the texts AmK4, AmK5, AmK6, AmGv, AmKT, Sp0, SpN, SpM, SpG, AmTopG, Shelf, AmHq, AmGo, AmKO, SpH. -/
import Derived.Test.YtlacnkjkcikodaaDoorZTP3
import Derived.Test.YtlacnkjkcikodaaDoorProg
import Derived.KernelRfl
import Derived.Lib.Bytealg
import Derived.Shelf.Strings.Builder1
import Derived.Shelf.Small.Strs
import Derived.Shelf.Strings.BuilderF
import Derived.Shelf.Strings.BuilderK
import Derived.Shelf.Strconv.Itoa0
import Derived.Shelf.Strconv.Itoa1
import Derived.Shelf.LaysM
import Derived.Shelf.Strconv.Itoa2
import Derived.Shelf.Strconv.Itoa3
import Derived.Shelf.Strings.Search1
import Derived.Shelf.Strings.Prefix
import Derived.Shelf.Strings.BuilderCap
import Derived.BigCall
import Derived.Lib.Hide
import Derived.WalkKit
import Derived.Lib.FrozenHead
import Derived.Lib.SmallJoins
section
set_option linter.unusedVariables false
set_option maxRecDepth 1000000
namespace Go.Proofs.YtlacnkjkcikodaaDoor.Am
open Go
def b_ref12_stands_l0 : ACode :=
  (.seq (.seq (.reg 0 [oo 29 (.mv (.t 13)),
 oo 30 (.mv (.t 2)),
 oo 31 (.len .sl (.t 30)),
 oo 32 (.bin .lss (.t 29) (.t 31))])
 (.cond (.t 32) (.skip) (.keep [11, 12] [] (.exit 0))))
 (.keep [2, 3, 4, 5, 680011, 710012, 13] [4, 5] (.seq (.block 1 (.seq (.reg 0 [oo 35 (.mv (.t 2)),
 oo 36 (.mv (.t 13)),
 oo 37 (.ixa 3 (.t 35) (.t 36)),
 oo 38 (.load true 3 (.t 37)),
 oo 14 (.alloc [(.int .i64 0), (.int .i64 0), (.sl [] .nil)]),
 ox (.store 3 (.t 14) (.t 38))])
 (.seq (.seq (.reg 0 [oo 39 (.fld 0 (.t 14)),
 oo 40 (.load false 1 (.t 39)),
 oo 41 (.bin .lss (.t 40) (ci 0)),
 oo 42 (.mv (.t 41)),
 og 43 42 false (.fld 0 (.t 14)),
 og 44 42 false (.load false 1 (.t 43)),
 og 45 42 false (.bin .gtr (.t 44) (ci 3)),
 oo 46 (.pick (.t 42) (.c (.bool true)) (.t 45))])
 (.cond (.t 46) (.seq (.reg 0 [oo 8 (.mv (.c (.sl [] .nil))),
 oo 9 (.mv (.c (.sl [] .nil))),
 oo 10 (.mv (ci 3))])
 (.keep [8, 9, 10] [] (.ret))) (.skip)))
 (.keep [2, 3, 4, 5, 680011, 710012, 13, 14] [4, 5, 14] (.seq (.seq (.reg 0 [oo 47 (.fld 0 (.t 14)),
 oo 48 (.load false 1 (.t 47)),
 oo 49 (.bin .eql (.t 48) (ci 2))])
 (.cond (.t 49) (.seq (.seq (.reg 0 [oo 50 (.fld 8 (.t 4)),
 oo 51 (.load false 1 (.t 50)),
 oo 52 (.fld 0 (.t 5)),
 oo 53 (.load false 1 (.t 52)),
 oo 54 (.ixa 3 (.t 51) (.t 53)),
 oo 55 (.fld 0 (.t 54)),
 oo 56 (.load false 1 (.t 55)),
 oo 57 (.un .not (.t 56))])
 (.cond (.t 57) (.seq (.reg 0 [oo 8 (.mv (.c (.sl [] .nil))),
 oo 9 (.mv (.c (.sl [] .nil))),
 oo 10 (.mv (ci 9))])
 (.keep [8, 9, 10] [] (.ret))) (.skip)))
 (.keep [2, 3, 4, 5, 680011, 710012, 13] [4, 5] (.seq (.reg 0 [oo 58 (.mv (.t 11)),
 oo 59 (.fld 8 (.t 4)),
 oo 60 (.load false 1 (.t 59)),
 oo 61 (.fld 0 (.t 5)),
 oo 62 (.load false 1 (.t 61)),
 oo 63 (.ixa 3 (.t 60) (.t 62)),
 oo 64 (.fld 1 (.t 63)),
 oo 65 (.load false 1 (.t 64)),
 oo 66 (.app 1 (.t 58) (.t 65)),
 oo 11 (.mv (.t 66))])
 (.seq (.reg 0 [oo 67 (.mv (.t 12)),
 oo 68 (.bslice [(.int .i64 0)] 1 [(0, (ci (-1)))]),
 oo 69 (.app 1 (.t 67) (.t 68)),
 oo 12 (.mv (.t 69))])
 (.exit 1))))) (.skip)))
 (.keep [2, 3, 4, 5, 680011, 710012, 13, 14] [4, 5, 14] (.seq (.reg 0 [oo 15 (.mv (.c (.sl [] .nil))),
 oo 16 (.mv (.c (.sl [] .nil)))])
 (.seq (.seq (.reg 0 [oo 70 (.fld 0 (.t 14)),
 oo 71 (.load false 1 (.t 70)),
 oo 72 (.bin .eql (.t 71) (ci 0)),
 oo 73 (.mv (.t 72)),
 og 74 73 false (.fld 0 (.t 14)),
 og 75 73 false (.load false 1 (.t 74)),
 og 76 73 false (.bin .eql (.t 75) (ci 3)),
 oo 77 (.pick (.t 73) (.c (.bool true)) (.t 76))])
 (.cond (.t 77) (.seq (.reg 0 [oo 79 (.load true 10 (.t 4)),
 oo 80 (.load true 2 (.t 5)),
 oo 81 (.fld 2 (.t 14)),
 oo 82 (.load false 1 (.t 81)),
 oo 83 (.mv (.t 3)),
 oo 84 (.bin .add (.t 83) (ci 1)),
 oo 85 (.call true (cf f_ref12_stands) [(.t 79), (.t 80), (.t 82), (.t 84)]),
 oo 78 (.mv (.t 85)),
 oo 86 (.ext (.t 78) 0),
 oo 87 (.ext (.t 78) 1),
 oo 88 (.ext (.t 78) 2),
 oo 17 (.mv (.t 86)),
 oo 18 (.mv (.t 87)),
 oo 19 (.mv (.t 88))])
 (.seq (.seq (.reg 0 [oo 89 (.mv (.t 19)),
 oo 90 (.bin .neq (.t 89) (ci 0))])
 (.cond (.t 90) (.seq (.reg 0 [oo 91 (.mv (.t 19)),
 oo 8 (.mv (.c (.sl [] .nil))),
 oo 9 (.mv (.c (.sl [] .nil))),
 oo 10 (.mv (.t 91))])
 (.keep [8, 9, 10] [] (.ret))) (.skip)))
 (.keep [2, 3, 4, 5, 680011, 710012, 13, 14, 17, 18] [4, 5, 14] (.reg 0 [oo 92 (.mv (.t 17)),
 oo 93 (.mv (.t 18)),
 oo 15 (.mv (.t 92)),
 oo 16 (.mv (.t 93))])))) (.skip)))
 (.keep [2, 3, 4, 5, 680011, 710012, 13, 14, 15, 16] [4, 5, 14] (.seq (.seq (.reg 0 [oo 94 (.fld 0 (.t 14)),
 oo 95 (.load false 1 (.t 94)),
 oo 96 (.bin .eql (.t 95) (ci 0))])
 (.cond (.t 96) (.seq (.seq (.reg 0 [oo 97 (.fld 1 (.t 14)),
 oo 98 (.load false 1 (.t 97)),
 oo 99 (.bin .lss (.t 98) (ci 0)),
 oo 100 (.mv (.t 99)),
 og 101 100 false (.fld 1 (.t 14)),
 og 102 100 false (.load false 1 (.t 101)),
 og 103 100 false (.fld 0 (.t 4)),
 og 104 100 false (.fld 3 (.t 103)),
 og 105 100 false (.load false 1 (.t 104)),
 og 106 100 false (.len .sl (.t 105)),
 og 107 100 false (.bin .geq (.t 102) (.t 106)),
 oo 108 (.pick (.t 100) (.c (.bool true)) (.t 107))])
 (.cond (.t 108) (.seq (.reg 0 [oo 8 (.mv (.c (.sl [] .nil))),
 oo 9 (.mv (.c (.sl [] .nil))),
 oo 10 (.mv (ci 8))])
 (.keep [8, 9, 10] [] (.ret))) (.skip)))
 (.keep [2, 3, 4, 5, 680011, 710012, 13, 14, 15, 16] [4, 5, 14] (.seq (.seq (.reg 0 [oo 109 (.mv (.t 15)),
 oo 110 (.fld 0 (.t 4)),
 oo 111 (.fld 3 (.t 110)),
 oo 112 (.load false 1 (.t 111)),
 oo 113 (.fld 1 (.t 14)),
 oo 114 (.load false 1 (.t 113)),
 oo 115 (.ixa 2 (.t 112) (.t 114)),
 oo 116 (.fld 1 (.t 115)),
 oo 117 (.load false 1 (.t 116)),
 oo 118 (.call true (cf f_ref12_ints) [(.t 109), (.t 117)]),
 oo 119 (.un .not (.t 118))])
 (.cond (.t 119) (.seq (.reg 0 [oo 8 (.mv (.c (.sl [] .nil))),
 oo 9 (.mv (.c (.sl [] .nil))),
 oo 10 (.mv (ci 9))])
 (.keep [8, 9, 10] [] (.ret))) (.skip)))
 (.keep [2, 3, 4, 5, 680011, 710012, 13, 14, 16] [4, 5, 14] (.seq (.reg 0 [oo 120 (.mv (.t 11)),
 oo 121 (.fld 0 (.t 4)),
 oo 122 (.fld 3 (.t 121)),
 oo 123 (.load false 1 (.t 122)),
 oo 124 (.fld 1 (.t 14)),
 oo 125 (.load false 1 (.t 124)),
 oo 126 (.ixa 2 (.t 123) (.t 125)),
 oo 127 (.fld 0 (.t 126)),
 oo 128 (.load false 1 (.t 127)),
 oo 129 (.bslice [(.int .i64 0)] 1 [(0, (.t 128))]),
 oo 130 (.app 1 (.t 120) (.t 129)),
 oo 11 (.mv (.t 130))])
 (.seq (.reg 0 [oo 131 (.mv (.t 12)),
 oo 132 (.mv (.t 16)),
 oo 133 (.app 1 (.t 131) (.t 132)),
 oo 12 (.mv (.t 133))])
 (.exit 1))))))) (.skip)))
 (.keep [2, 3, 4, 5, 680011, 710012, 13, 14, 15, 16] [4, 5, 14] (.seq (.seq (.reg 0 [oo 134 (.fld 1 (.t 14)),
 oo 135 (.load false 1 (.t 134)),
 oo 136 (.bin .lss (.t 135) (ci 0)),
 oo 137 (.mv (.t 136)),
 og 138 137 false (.fld 1 (.t 14)),
 og 139 137 false (.load false 1 (.t 138)),
 og 140 137 false (.fld 1 (.t 5)),
 og 141 137 false (.load false 1 (.t 140)),
 og 142 137 false (.len .sl (.t 141)),
 og 143 137 false (.bin .geq (.t 139) (.t 142)),
 oo 144 (.pick (.t 137) (.c (.bool true)) (.t 143))])
 (.cond (.t 144) (.seq (.reg 0 [oo 8 (.mv (.c (.sl [] .nil))),
 oo 9 (.mv (.c (.sl [] .nil))),
 oo 10 (.mv (ci 3))])
 (.keep [8, 9, 10] [] (.ret))) (.skip)))
 (.keep [2, 3, 4, 5, 680011, 710012, 13, 14, 15, 16] [4, 5, 14] (.seq (.reg 0 [oo 145 (.fld 1 (.t 5)),
 oo 146 (.load false 1 (.t 145)),
 oo 147 (.fld 1 (.t 14)),
 oo 148 (.load false 1 (.t 147)),
 oo 149 (.ixa 1 (.t 146) (.t 148)),
 oo 150 (.load false 1 (.t 149)),
 oo 20 (.mv (.t 150))])
 (.seq (.seq (.reg 0 [oo 151 (.mv (.t 20)),
 oo 152 (.bin .lss (.t 151) (ci 0))])
 (.cond (.t 152) (.seq (.seq (.reg 0 [oo 153 (.fld 0 (.t 14)),
 oo 154 (.load false 1 (.t 153)),
 oo 155 (.bin .eql (.t 154) (ci 3))])
 (.cond (.t 155) (.seq (.reg 0 [oo 8 (.mv (.c (.sl [] .nil))),
 oo 9 (.mv (.c (.sl [] .nil))),
 oo 10 (.mv (ci 9))])
 (.keep [8, 9, 10] [] (.ret))) (.skip)))
 (.keep [2, 3, 4, 5, 680011, 710012, 13, 14, 16, 20] [4, 5, 14] (.reg 0 [oo 156 (.mv (.t 11)),
 oo 157 (.mv (.t 20)),
 oo 158 (.bslice [(.int .i64 0)] 1 [(0, (.t 157))]),
 oo 159 (.app 1 (.t 156) (.t 158)),
 oo 11 (.mv (.t 159))]))) (.seq (.reg 0 [oo 160 (.fld 8 (.t 4)),
 oo 161 (.load false 1 (.t 160)),
 oo 162 (.mv (.t 20)),
 oo 163 (.ixa 3 (.t 161) (.t 162)),
 oo 164 (.load true 3 (.t 163)),
 oo 21 (.alloc [(.bool false), (.sl [] .nil), (.sl [] .nil)]),
 ox (.store 3 (.t 21) (.t 164))])
 (.seq (.seq (.reg 0 [oo 165 (.fld 0 (.t 21)),
 oo 166 (.load false 1 (.t 165)),
 oo 167 (.fld 0 (.t 14)),
 oo 168 (.load false 1 (.t 167)),
 oo 169 (.bin .eql (.t 168) (ci 3)),
 oo 170 (.eqv true .b (.t 166) (.t 169)),
 oo 171 (.mv (.t 170)),
 og 172 171 false (.fld 0 (.t 14)),
 og 173 171 false (.load false 1 (.t 172)),
 og 174 171 false (.bin .eql (.t 173) (ci 3)),
 og 175 171 false (.mv (.t 174)),
 og 176 175 true (.mv (.t 15)),
 og 177 175 true (.fld 1 (.t 21)),
 og 178 175 true (.load false 1 (.t 177)),
 og 179 175 true (.call true (cf f_ref12_ints) [(.t 176), (.t 178)]),
 og 180 175 true (.un .not (.t 179)),
 og 181 171 false (.pick (.t 175) (.t 180) (.c (.bool false))),
 oo 182 (.pick (.t 171) (.c (.bool true)) (.t 181))])
 (.cond (.t 182) (.seq (.reg 0 [oo 8 (.mv (.c (.sl [] .nil))),
 oo 9 (.mv (.c (.sl [] .nil))),
 oo 10 (.mv (ci 9))])
 (.keep [8, 9, 10] [] (.ret))) (.skip)))
 (.keep [2, 3, 4, 5, 680011, 710012, 13, 14, 16, 21] [4, 5, 14, 21] (.reg 0 [oo 183 (.mv (.t 11)),
 oo 184 (.fld 2 (.t 21)),
 oo 185 (.load false 1 (.t 184)),
 oo 186 (.app 1 (.t 183) (.t 185)),
 oo 11 (.mv (.t 186))]))))))
 (.keep [2, 3, 4, 5, 680011, 710012, 13, 14, 16] [4, 5, 14] (.reg 6 [oo 187 (.mv (.t 12)),
 oo 188 (.mv (.t 16)),
 oo 189 (.app 1 (.t 187) (.t 188)),
 oo 190 (.fld 1 (.t 14)),
 oo 191 (.load false 1 (.t 190)),
 oo 192 (.bslice [(.int .i64 0)] 1 [(0, (.t 191))]),
 oo 193 (.app 1 (.t 189) (.t 192)),
 oo 12 (.mv (.t 193))])))))))))))))))))
 (.keep [2, 3, 4, 5, 680011, 710012, 13] [4, 5] (.reg 0 [oo 33 (.mv (.t 13)),
 oo 34 (.bin .add (.t 33) (ci 1)),
 oo 13 (.mv (.t 34))])))))
def c_ref12_stands_l0 : ACode := .keep [2, 3, 4, 5, 680011, 710012, 13] [4, 5] b_ref12_stands_l0
def c_ref12_stands : ACode :=
  .seq (.reg 0 [oo 4 (.box (.t 0)),
 oo 5 (.box (.t 1)),
 oo 8 (.mv (.c (.sl [] .nil))),
 oo 9 (.mv (.c (.sl [] .nil))),
 oo 10 (.mv (ci 0))])
 (.seq (.reg 0 [oo 11 (.mv (.c (.sl [] .nil))),
 oo 12 (.mv (.c (.sl [] .nil)))])
 (.seq (.seq (.reg 0 [oo 22 (.mv (.t 2)),
 oo 23 (.len .sl (.t 22)),
 oo 24 (.bin .gtr (.t 23) (ci 0)),
 oo 25 (.mv (.t 24)),
 og 26 25 true (.mv (.t 3)),
 og 27 25 true (.bin .gtr (.t 26) (ci 64)),
 oo 28 (.pick (.t 25) (.t 27) (.c (.bool false)))])
 (.cond (.t 28) (.seq (.reg 0 [oo 8 (.mv (.c (.sl [] .nil))),
 oo 9 (.mv (.c (.sl [] .nil))),
 oo 10 (.mv (ci 4))])
 (.ret)) (.skip)))
 (.keep [2, 3, 4, 5, 680011, 710012] [4, 5] (.seq (.seq (.reg 0 [oo 13 (.mv (ci 0))])
 (.block 0 (.loop c_ref12_stands_l0)))
 (.keep [11, 12] [] (.seq (.reg 0 [oo 194 (.mv (.t 11)),
 oo 195 (.mv (.t 12)),
 oo 8 (.mv (.t 194)),
 oo 9 (.mv (.t 195)),
 oo 10 (.mv (ci 0))])
 (.ret)))))))
def n_ref12_stands : Fn := ⟨c_ref12_stands, [.t 8, .t 9, .t 10], false, false⟩
theorem ok_ref12_stands : fnOf Tryd.prog eff keep f_ref12_stands = some n_ref12_stands.bare := by kernel_rfl
@[simp] theorem c_ref12_stands_l0_norm (st : St) : norm c_ref12_stands_l0 st = st.keep [2, 3, 4, 5, 680011, 710012, 13] [4, 5] := rfl
def b_law08_NullableTells_l0 : ACode :=
  (.seq (.reg 0 [oo 47 (.bin .lss (.t 46) (.t 45))])
 (.seq (.cond (.t 47) (.skip) (.keep [] [] (.exit 0)))
 (.keep [3, 4, 5, 45, 46] [] (.seq (.block 1 (.seq (.reg 0 [oo 48 (.mv (.t 46)),
 oo 6 (.mv (.t 48))])
 (.seq (.reg 19 [oo 49 (.mv (.t 3)),
 oo 50 (.mv (.t 6)),
 oo 51 (.ixa 1 (.t 49) (.t 50)),
 oo 52 (.load false 1 (.t 51)),
 oo 53 (.mv (.t 5)),
 oo 54 (.mv (.t 6)),
 oo 55 (.ixa 1 (.t 53) (.t 54)),
 oo 56 (.load false 1 (.t 55)),
 oo 57 (.bin .neq (.t 52) (.t 56)),
 oo 58 (.mv (.t 57)),
 og 59 58 false (.mv (.t 4)),
 og 60 58 false (.mv (.t 6)),
 og 61 58 false (.ixa 1 (.t 59) (.t 60)),
 og 62 58 false (.load false 1 (.t 61)),
 og 63 58 false (.mv (.t 5)),
 og 64 58 false (.mv (.t 6)),
 og 65 58 false (.ixa 1 (.t 63) (.t 64)),
 og 66 58 false (.load false 1 (.t 65)),
 og 67 58 false (.bin .geq (.t 66) (ci 0)),
 og 68 58 false (.eqv true .b (.t 62) (.t 67)),
 oo 69 (.pick (.t 58) (.c (.bool true)) (.t 68))])
 (.cond (.t 69) (.seq (.reg 0 [oo 2 (.mv (.c (.bool false)))])
 (.keep [2] [] (.ret))) (.skip)))))
 (.keep [3, 4, 5, 45, 46] [] (.reg 0 [oo 70 (.bin .add (.t 46) (ci 1)),
 oo 46 (.mv (.t 70))]))))))
def c_law08_NullableTells_l0 : ACode := .keep [3, 4, 5, 45, 46] [] b_law08_NullableTells_l0
def c_law08_NullableTells : ACode :=
  .seq (.reg 0 [oo 1 (.box (.t 0)),
 oo 2 (.mv (.c (.bool false)))])
 (.seq (.seq (.reg 0 [oo 7 (.load true 4 (.t 1)),
 oo 8 (.call true (cf f_law02_Small) [(.t 7)]),
 oo 9 (.un .not (.t 8))])
 (.cond (.t 9) (.seq (.reg 0 [oo 10 (.call true (cf f_law08_Awake) []),
 oo 2 (.mv (.t 10))])
 (.ret)) (.skip)))
 (.keep [1] [1] (.seq (.reg 3 [oo 11 (.load true 4 (.t 1)),
 oo 12 (.call true (cf f_none_56) [(.t 11)]),
 oo 13 (.load true 4 (.t 1)),
 oo 14 (.call true (cf f_nullable_Of) [(.t 13)]),
 oo 3 (.mv (.t 12)),
 oo 4 (.mv (.t 14))])
 (.seq (.seq (.reg 0 [oo 15 (.load true 4 (.t 1)),
 oo 16 (.call true (cf f_law02_May) [(.t 15)]),
 oo 17 (.un .not (.t 16))])
 (.cond (.t 17) (.seq (.reg 0 [oo 18 (.call true (cf f_law08_Awake) []),
 oo 19 (.mv (.t 18)),
 og 20 19 true (.mv (.t 3)),
 og 21 19 true (.len .sl (.t 20)),
 og 22 19 true (.bin .eql (.t 21) (ci 0)),
 oo 23 (.pick (.t 19) (.t 22) (.c (.bool false))),
 oo 24 (.mv (.t 23)),
 og 25 24 true (.mv (.t 4)),
 og 26 24 true (.len .sl (.t 25)),
 og 27 24 true (.bin .eql (.t 26) (ci 0)),
 oo 28 (.pick (.t 24) (.t 27) (.c (.bool false))),
 oo 2 (.mv (.t 28))])
 (.ret)) (.skip)))
 (.keep [1, 3, 4] [1] (.seq (.reg 0 [oo 29 (.load true 4 (.t 1)),
 oo 30 (.call true (cf f_law02_Of) [(.t 29)]),
 oo 31 (.call true (cf f_ref08_Steps) [(.t 30)]),
 oo 5 (.mv (.t 31))])
 (.seq (.seq (.reg 0 [oo 32 (.mv (.t 3)),
 oo 33 (.len .sl (.t 32)),
 oo 34 (.mv (.t 5)),
 oo 35 (.len .sl (.t 34)),
 oo 36 (.bin .neq (.t 33) (.t 35)),
 oo 37 (.mv (.t 36)),
 og 38 37 false (.mv (.t 4)),
 og 39 37 false (.len .sl (.t 38)),
 og 40 37 false (.mv (.t 5)),
 og 41 37 false (.len .sl (.t 40)),
 og 42 37 false (.bin .neq (.t 39) (.t 41)),
 oo 43 (.pick (.t 37) (.c (.bool true)) (.t 42))])
 (.cond (.t 43) (.seq (.reg 0 [oo 2 (.mv (.c (.bool false)))])
 (.ret)) (.skip)))
 (.keep [3, 4, 5] [] (.seq (.seq (.reg 0 [oo 44 (.mv (.t 5)),
 oo 45 (.len .sl (.t 44)),
 oo 46 (.mv (ci 0))])
 (.block 0 (.loop c_law08_NullableTells_l0)))
 (.keep [] [] (.seq (.reg 0 [oo 71 (.call true (cf f_law08_Awake) []),
 oo 2 (.mv (.t 71))])
 (.ret))))))))))))
def n_law08_NullableTells : Fn := ⟨c_law08_NullableTells, [.t 2], false, false⟩
theorem ok_law08_NullableTells : fnOf Tryd.prog eff keep f_law08_NullableTells = some n_law08_NullableTells.bare := by kernel_rfl
@[simp] theorem c_law08_NullableTells_l0_norm (st : St) : norm c_law08_NullableTells_l0 st = st.keep [3, 4, 5, 45, 46] [] := rfl
def c_law08_Awake : ACode :=
  .seq (.reg 0 [oo 0 (.mv (.c (.bool false)))])
 (.seq (.reg 0 [oo 3 (.bslice [(.str ⟨#[]⟩)] 2 [(0, (.c (.str ⟨#[83]⟩))), (1, (.c (.str ⟨#[65]⟩)))]),
 oo 4 (.bslice [(.int .i64 0)] 2 [(0, (ci 1)), (1, (ci 1))]),
 oo 5 (.build [(.int .i64 0), (.sl [] .nil)] [(1, 1, (.t 4))]),
 oo 6 (.build [(.int .i64 0), (.sl [] .nil)] [(0, 1, (ci 1))]),
 oo 7 (.bslice [(.int .i64 0), (.sl [] .nil)] 2 [(0, (.t 5)), (1, (.t 6))]),
 oo 8 (.build [(.sl [] .nil), (.sl [] .nil), (.int .i64 0), (.sl [] .nil)] [(0, 1, (.t 3)), (3, 1, (.t 7))]),
 oo 1 (.alloc [(.sl [] .nil), (.sl [] .nil), (.int .i64 0), (.sl [] .nil)]),
 ox (.store 4 (.t 1) (.t 8))])
 (.seq (.reg 0 [oo 9 (.load true 4 (.t 1)),
 oo 10 (.call true (cf f_none_56) [(.t 9)]),
 oo 2 (.mv (.t 10))])
 (.seq (.reg 0 [oo 11 (.call true (cf f_law03_Awake) []),
 oo 12 (.mv (.t 11)),
 og 13 12 true (.mv (.t 2)),
 og 14 12 true (.len .sl (.t 13)),
 og 15 12 true (.bin .eql (.t 14) (ci 2)),
 oo 16 (.pick (.t 12) (.t 15) (.c (.bool false))),
 oo 17 (.mv (.t 16)),
 og 18 17 true (.mv (.t 2)),
 og 19 17 true (.ixa 1 (.t 18) (ci 0)),
 og 20 17 true (.load false 1 (.t 19)),
 og 21 17 true (.bin .eql (.t 20) (ci 1)),
 oo 22 (.pick (.t 17) (.t 21) (.c (.bool false))),
 oo 23 (.mv (.t 22)),
 og 24 23 true (.mv (.t 2)),
 og 25 23 true (.ixa 1 (.t 24) (ci 1)),
 og 26 23 true (.load false 1 (.t 25)),
 og 27 23 true (.bin .eql (.t 26) (ci 0)),
 oo 28 (.pick (.t 23) (.t 27) (.c (.bool false))),
 oo 0 (.mv (.t 28))])
 (.ret))))
def n_law08_Awake : Fn := ⟨c_law08_Awake, [.t 0], false, false⟩
theorem ok_law08_Awake : fnOf Tryd.prog eff keep f_law08_Awake = some n_law08_Awake.bare := by kernel_rfl
def c_law03_Awake : ACode :=
  .seq (.reg 0 [oo 0 (.mv (.c (.bool false)))])
 (.seq (.reg 0 [oo 3 (.call true (cf f_law02_Example) []),
 oo 1 (.alloc [(.sl [] .nil), (.sl [] .nil), (.int .i64 0), (.sl [] .nil)]),
 ox (.store 4 (.t 1) (.t 3))])
 (.seq (.reg 0 [oo 4 (.call true (cf f_tree_Leaf) [(ci (-1))]),
 oo 5 (.call true (cf f_tree_Node) [(ci 1), (.c (.sl [] .nil))]),
 oo 6 (.bslice [(.int .i64 0), (.int .i64 0), (.sl [] .nil)] 2 [(0, (.t 4)), (1, (.t 5))]),
 oo 7 (.call true (cf f_tree_Node) [(ci 0), (.t 6)]),
 oo 2 (.alloc [(.int .i64 0), (.int .i64 0), (.sl [] .nil)]),
 ox (.store 3 (.t 2) (.t 7))])
 (.seq (.reg 0 [oo 8 (.call true (cf f_law02_Awake) []),
 oo 9 (.mv (.t 8)),
 og 10 9 true (.load true 4 (.t 1)),
 og 11 9 true (.load true 3 (.t 2)),
 og 12 9 true (.call true (cf f_tree_Root) [(.t 10), (.t 11)]),
 og 13 9 true (.bin .eql (.t 12) (ci 0)),
 oo 14 (.pick (.t 9) (.t 13) (.c (.bool false))),
 oo 15 (.mv (.t 14)),
 og 16 15 true (.load true 4 (.t 1)),
 og 17 15 true (.load true 3 (.t 2)),
 og 18 15 true (.call true (cf f_tree_Text) [(.t 16), (.t 17)]),
 og 19 15 true (.bin .eql (.t 18) (.c (.str ⟨#[40, 83, 32, 34, 97, 34, 32, 40, 83, 41, 41]⟩))),
 oo 20 (.pick (.t 15) (.t 19) (.c (.bool false))),
 oo 21 (.mv (.t 20)),
 og 22 21 true (.load true 3 (.t 2)),
 og 23 21 true (.call true (cf f_tree_Yield) [(.t 22)]),
 og 24 21 true (.len .sl (.t 23)),
 og 25 21 true (.bin .eql (.t 24) (ci 1)),
 oo 26 (.pick (.t 21) (.t 25) (.c (.bool false))),
 oo 0 (.mv (.t 26))])
 (.ret))))
def n_law03_Awake : Fn := ⟨c_law03_Awake, [.t 0], false, false⟩
theorem ok_law03_Awake : fnOf Tryd.prog eff keep f_law03_Awake = some n_law03_Awake.bare := by kernel_rfl
def c_tree_Leaf : ACode :=
  .seq (.reg 0 [oo 2 (.alloc [(.int .i64 0), (.int .i64 0), (.sl [] .nil)])])
 (.seq (.reg 0 [oo 3 (.mv (.t 0)),
 oo 4 (.build [(.int .i64 0), (.int .i64 0), (.sl [] .nil)] [(0, 1, (ci (-1))), (1, 1, (.t 3))]),
 ox (.store 3 (.t 2) (.t 4))])
 (.ret))
def n_tree_Leaf : Fn := ⟨c_tree_Leaf, [.c 2 3 true], false, false⟩
theorem ok_tree_Leaf : fnOf Tryd.prog eff keep f_tree_Leaf = some n_tree_Leaf.bare := by kernel_rfl
def c_tree_Node : ACode :=
  .seq (.reg 0 [oo 4 (.alloc [(.int .i64 0), (.int .i64 0), (.sl [] .nil)])])
 (.seq (.reg 0 [oo 5 (.mv (.t 0)),
 oo 6 (.mv (.t 1)),
 oo 7 (.call true (cf f_slices_Clone_tree_Tree_tree_Tree) [(.t 6)]),
 oo 8 (.build [(.int .i64 0), (.int .i64 0), (.sl [] .nil)] [(0, 1, (.t 5)), (2, 1, (.t 7))]),
 ox (.store 3 (.t 4) (.t 8))])
 (.ret))
def n_tree_Node : Fn := ⟨c_tree_Node, [.c 4 3 true], false, false⟩
theorem ok_tree_Node : fnOf Tryd.prog eff keep f_tree_Node = some n_tree_Node.bare := by kernel_rfl
def c_slices_Clone_tree_Tree_tree_Tree : ACode :=
  .seq (.reg 0 [oo 2 (.mv (.c (.sl [] .nil)))])
 (.seq (.seq (.reg 0 [oo 3 (.mv (.t 0)),
 oo 4 (.eqv false .sl (.t 3) (.c (.sl [] .nil)))])
 (.cond (.t 4) (.seq (.reg 0 [oo 2 (.mv (.c (.sl [] .nil)))])
 (.ret)) (.skip)))
 (.keep [0] [] (.seq (.reg 0 [oo 5 (.bslice [(.int .i64 0), (.int .i64 0), (.sl [] .nil)] 0 []),
 oo 6 (.mv (.t 0)),
 oo 7 (.app 3 (.t 5) (.t 6)),
 oo 2 (.mv (.t 7))])
 (.ret))))
def n_slices_Clone_tree_Tree_tree_Tree : Fn := ⟨c_slices_Clone_tree_Tree_tree_Tree, [.t 2], false, true⟩
theorem ok_slices_Clone_tree_Tree_tree_Tree : fnOf Tryd.prog eff keep f_slices_Clone_tree_Tree_tree_Tree = some n_slices_Clone_tree_Tree_tree_Tree.bare := by kernel_rfl
def c_tree_Root : ACode :=
  .seq (.reg 0 [oo 2 (.box (.t 0)),
 oo 3 (.box (.t 1)),
 oo 4 (.mv (ci 0))])
 (.seq (.seq (.reg 0 [oo 6 (.load true 4 (.t 2)),
 oo 7 (.load true 3 (.t 3)),
 oo 8 (.call true (cf f_tree_Check) [(.t 6), (.t 7)]),
 oo 5 (.mv (.t 8))])
 (.seq (.reg 0 [oo 9 (.mv (.t 5)),
 oo 10 (.bin .neq (.t 9) (ci 0))])
 (.cond (.t 10) (.seq (.reg 0 [oo 11 (.mv (.t 5)),
 oo 4 (.mv (.t 11))])
 (.ret)) (.skip))))
 (.keep [2, 3] [2, 3] (.seq (.seq (.reg 12 [oo 12 (.load true 3 (.t 3)),
 oo 13 (.call true (cf f_tree_Tree_leaf) [(.t 12)]),
 oo 14 (.mv (.t 13)),
 og 15 14 false (.fld 3 (.t 2)),
 og 16 14 false (.load false 1 (.t 15)),
 og 17 14 false (.fld 0 (.t 3)),
 og 18 14 false (.load false 1 (.t 17)),
 og 19 14 false (.ixa 2 (.t 16) (.t 18)),
 og 20 14 false (.fld 0 (.t 19)),
 og 21 14 false (.load false 1 (.t 20)),
 og 22 14 false (.fld 2 (.t 2)),
 og 23 14 false (.load false 1 (.t 22)),
 og 24 14 false (.bin .neq (.t 21) (.t 23)),
 oo 25 (.pick (.t 14) (.c (.bool true)) (.t 24))])
 (.cond (.t 25) (.seq (.reg 0 [oo 4 (.mv (ci 10))])
 (.ret)) (.skip)))
 (.keep [] [] (.seq (.reg 0 [oo 4 (.mv (ci 0))])
 (.ret))))))
def n_tree_Root : Fn := ⟨c_tree_Root, [.t 4], false, false⟩
theorem ok_tree_Root : fnOf Tryd.prog eff keep f_tree_Root = some n_tree_Root.bare := by kernel_rfl
def c_tree_Check : ACode :=
  .seq (.reg 0 [oo 2 (.box (.t 0)),
 oo 3 (.box (.t 1)),
 oo 4 (.mv (ci 0))])
 (.seq (.seq (.reg 0 [oo 6 (.load true 4 (.t 2)),
 oo 7 (.call true (cf f_gram_Grammar_Check) [(.t 6)]),
 oo 5 (.mv (.t 7))])
 (.seq (.reg 0 [oo 8 (.mv (.t 5)),
 oo 9 (.bin .neq (.t 8) (ci 0))])
 (.cond (.t 9) (.seq (.reg 0 [oo 10 (.mv (.t 5)),
 oo 4 (.mv (.t 10))])
 (.ret)) (.skip))))
 (.keep [2, 3] [2, 3] (.seq (.seq (.reg 0 [oo 11 (.load true 3 (.t 3)),
 oo 12 (.call true (cf f_tree_Count) [(.t 11)]),
 oo 13 (.bin .gtr (.t 12) (ci 65536))])
 (.cond (.t 13) (.seq (.reg 0 [oo 4 (.mv (ci 11))])
 (.ret)) (.skip)))
 (.keep [2, 3] [2, 3] (.seq (.seq (.reg 0 [oo 14 (.load true 3 (.t 3)),
 oo 15 (.call true (cf f_tree_Tree_leaf) [(.t 14)]),
 oo 16 (.un .not (.t 15))])
 (.cond (.t 16) (.seq (.reg 0 [oo 17 (.load true 4 (.t 2)),
 oo 18 (.load true 3 (.t 3)),
 oo 19 (.call true (cf f_tree_nodeWrong) [(.t 17), (.t 18)]),
 oo 4 (.mv (.t 19))])
 (.ret)) (.skip)))
 (.keep [2, 3] [2, 3] (.seq (.seq (.reg 11 [oo 20 (.fld 1 (.t 3)),
 oo 21 (.load false 1 (.t 20)),
 oo 22 (.call true (cf f_gram_Sym_IsTerm) [(.t 21)]),
 oo 23 (.un .not (.t 22)),
 oo 24 (.mv (.t 23)),
 og 25 24 false (.fld 1 (.t 3)),
 og 26 24 false (.load false 1 (.t 25)),
 og 27 24 false (.call true (cf f_gram_Sym_Place) [(.t 26)]),
 og 28 24 false (.fld 1 (.t 2)),
 og 29 24 false (.load false 1 (.t 28)),
 og 30 24 false (.len .sl (.t 29)),
 og 31 24 false (.bin .geq (.t 27) (.t 30)),
 oo 32 (.pick (.t 24) (.c (.bool true)) (.t 31))])
 (.cond (.t 32) (.seq (.reg 0 [oo 4 (.mv (ci 9))])
 (.ret)) (.skip)))
 (.keep [3] [3] (.seq (.reg 0 [oo 33 (.load true 3 (.t 3)),
 oo 34 (.call true (cf f_tree_leafWrong) [(.t 33)]),
 oo 4 (.mv (.t 34))])
 (.ret))))))))))
def n_tree_Check : Fn := ⟨c_tree_Check, [.t 4], false, false⟩
theorem ok_tree_Check : fnOf Tryd.prog eff keep f_tree_Check = some n_tree_Check.bare := by kernel_rfl
def b_tree_Count_l0 : ACode :=
  (.seq (.reg 0 [oo 10 (.bin .lss (.t 9) (.t 8))])
 (.seq (.cond (.t 10) (.skip) (.keep [3] [] (.exit 0)))
 (.keep [3, 7, 8, 9] [] (.seq (.block 1 (.seq (.reg 0 [oo 11 (.ixa 3 (.t 7) (.t 9)),
 oo 12 (.load true 3 (.t 11)),
 oo 5 (.alloc [(.int .i64 0), (.int .i64 0), (.sl [] .nil)]),
 ox (.store 3 (.t 5) (.t 12))])
 (.reg 0 [oo 13 (.mv (.t 3)),
 oo 14 (.load true 3 (.t 5)),
 oo 15 (.call true (cf f_tree_Count) [(.t 14)]),
 oo 16 (.bin .add (.t 13) (.t 15)),
 oo 3 (.mv (.t 16))])))
 (.keep [3, 7, 8, 9] [] (.reg 0 [oo 17 (.bin .add (.t 9) (ci 1)),
 oo 9 (.mv (.t 17))]))))))
def c_tree_Count_l0 : ACode := .keep [3, 7, 8, 9] [] b_tree_Count_l0
def c_tree_Count : ACode :=
  .seq (.reg 0 [oo 1 (.box (.t 0)),
 oo 2 (.mv (ci 0))])
 (.seq (.reg 0 [oo 3 (.mv (ci 1))])
 (.seq (.seq (.reg 0 [oo 6 (.fld 2 (.t 1)),
 oo 7 (.load false 1 (.t 6)),
 oo 8 (.len .sl (.t 7)),
 oo 9 (.mv (ci 0))])
 (.block 0 (.loop c_tree_Count_l0)))
 (.keep [3] [] (.seq (.reg 0 [oo 18 (.mv (.t 3)),
 oo 2 (.mv (.t 18))])
 (.ret)))))
def n_tree_Count : Fn := ⟨c_tree_Count, [.t 2], false, false⟩
theorem ok_tree_Count : fnOf Tryd.prog eff keep f_tree_Count = some n_tree_Count.bare := by kernel_rfl
@[simp] theorem c_tree_Count_l0_norm (st : St) : norm c_tree_Count_l0 st = st.keep [3, 7, 8, 9] [] := rfl
def c_tree_Tree_leaf : ACode :=
  .seq (.reg 0 [oo 1 (.box (.t 0)),
 oo 2 (.mv (.c (.bool false)))])
 (.seq (.reg 0 [oo 3 (.fld 0 (.t 1)),
 oo 4 (.load false 1 (.t 3)),
 oo 5 (.bin .lss (.t 4) (ci 0)),
 oo 2 (.mv (.t 5))])
 (.ret))
def n_tree_Tree_leaf : Fn := ⟨c_tree_Tree_leaf, [.t 2], false, false⟩
theorem ok_tree_Tree_leaf : fnOf Tryd.prog eff keep f_tree_Tree_leaf = some n_tree_Tree_leaf.bare := by kernel_rfl
def b_tree_nodeWrong_l0 : ACode :=
  (.seq (.reg 0 [oo 42 (.bin .lss (.t 41) (.t 40))])
 (.seq (.cond (.t 42) (.skip) (.keep [] [] (.exit 0)))
 (.keep [2, 3, 39, 40, 41] [2, 3] (.seq (.block 1 (.seq (.reg 0 [oo 43 (.mv (.t 41)),
 oo 44 (.ixa 1 (.t 39) (.t 41)),
 oo 45 (.load false 1 (.t 44)),
 oo 6 (.mv (.t 43)),
 oo 7 (.mv (.t 45))])
 (.seq (.reg 0 [oo 46 (.fld 2 (.t 3)),
 oo 47 (.load false 1 (.t 46)),
 oo 48 (.mv (.t 6)),
 oo 49 (.ixa 3 (.t 47) (.t 48)),
 oo 50 (.load true 3 (.t 49)),
 oo 8 (.alloc [(.int .i64 0), (.int .i64 0), (.sl [] .nil)]),
 ox (.store 3 (.t 8) (.t 50))])
 (.seq (.seq (.reg 0 [oo 51 (.load true 3 (.t 8)),
 oo 52 (.call true (cf f_tree_Tree_leaf) [(.t 51)]),
 oo 53 (.mv (.t 7)),
 oo 54 (.call true (cf f_gram_Sym_IsTerm) [(.t 53)]),
 oo 55 (.eqv true .b (.t 52) (.t 54))])
 (.cond (.t 55) (.seq (.reg 0 [oo 4 (.mv (ci 9))])
 (.keep [4] [] (.ret))) (.skip)))
 (.keep [2, 3, 7, 8, 39, 40, 41] [2, 3, 8] (.seq (.seq (.reg 0 [oo 56 (.mv (.t 7)),
 oo 57 (.call true (cf f_gram_Sym_IsTerm) [(.t 56)])])
 (.cond (.t 57) (.seq (.seq (.reg 0 [oo 58 (.fld 1 (.t 8)),
 oo 59 (.load false 1 (.t 58)),
 oo 60 (.mv (.t 7)),
 oo 61 (.bin .neq (.t 59) (.t 60)),
 oo 62 (.mv (.t 61)),
 og 63 62 false (.load true 3 (.t 8)),
 og 64 62 false (.call true (cf f_tree_leafWrong) [(.t 63)]),
 og 65 62 false (.bin .neq (.t 64) (ci 0)),
 oo 66 (.pick (.t 62) (.c (.bool true)) (.t 65))])
 (.cond (.t 66) (.seq (.reg 0 [oo 4 (.mv (ci 9))])
 (.keep [4] [] (.ret))) (.skip)))
 (.keep [2, 3, 39, 40, 41] [2, 3] (.exit 1))) (.skip)))
 (.keep [2, 3, 7, 8, 39, 40, 41] [2, 3, 8] (.seq (.seq (.reg 0 [oo 67 (.load true 4 (.t 2)),
 oo 68 (.load true 3 (.t 8)),
 oo 69 (.call true (cf f_tree_nodeWrong) [(.t 67), (.t 68)]),
 oo 9 (.mv (.t 69))])
 (.seq (.reg 0 [oo 70 (.mv (.t 9)),
 oo 71 (.bin .neq (.t 70) (ci 0))])
 (.cond (.t 71) (.seq (.reg 0 [oo 72 (.mv (.t 9)),
 oo 4 (.mv (.t 72))])
 (.keep [4] [] (.ret))) (.skip))))
 (.keep [2, 3, 7, 8, 39, 40, 41] [2, 3, 8] (.seq (.reg 9 [oo 73 (.fld 3 (.t 2)),
 oo 74 (.load false 1 (.t 73)),
 oo 75 (.fld 0 (.t 8)),
 oo 76 (.load false 1 (.t 75)),
 oo 77 (.ixa 2 (.t 74) (.t 76)),
 oo 78 (.fld 0 (.t 77)),
 oo 79 (.load false 1 (.t 78)),
 oo 80 (.mv (.t 7)),
 oo 81 (.call true (cf f_gram_Sym_Place) [(.t 80)]),
 oo 82 (.bin .neq (.t 79) (.t 81))])
 (.cond (.t 82) (.seq (.reg 0 [oo 4 (.mv (ci 9))])
 (.keep [4] [] (.ret))) (.skip))))))))))))
 (.keep [2, 3, 39, 40, 41] [2, 3] (.reg 0 [oo 83 (.bin .add (.t 41) (ci 1)),
 oo 41 (.mv (.t 83))]))))))
def c_tree_nodeWrong_l0 : ACode := .keep [2, 3, 39, 40, 41] [2, 3] b_tree_nodeWrong_l0
def c_tree_nodeWrong : ACode :=
  .seq (.reg 0 [oo 2 (.box (.t 0)),
 oo 3 (.box (.t 1)),
 oo 4 (.mv (ci 0))])
 (.seq (.seq (.reg 0 [oo 10 (.fld 0 (.t 3)),
 oo 11 (.load false 1 (.t 10)),
 oo 12 (.bin .lss (.t 11) (ci 0)),
 oo 13 (.mv (.t 12)),
 og 14 13 false (.fld 0 (.t 3)),
 og 15 13 false (.load false 1 (.t 14)),
 og 16 13 false (.fld 3 (.t 2)),
 og 17 13 false (.load false 1 (.t 16)),
 og 18 13 false (.len .sl (.t 17)),
 og 19 13 false (.bin .geq (.t 15) (.t 18)),
 oo 20 (.pick (.t 13) (.c (.bool true)) (.t 19)),
 oo 21 (.mv (.t 20)),
 og 22 21 false (.fld 1 (.t 3)),
 og 23 21 false (.load false 1 (.t 22)),
 og 24 21 false (.bin .neq (.t 23) (ci 0)),
 oo 25 (.pick (.t 21) (.c (.bool true)) (.t 24))])
 (.cond (.t 25) (.seq (.reg 0 [oo 4 (.mv (ci 8))])
 (.ret)) (.skip)))
 (.keep [2, 3] [2, 3] (.seq (.reg 0 [oo 26 (.fld 3 (.t 2)),
 oo 27 (.load false 1 (.t 26)),
 oo 28 (.fld 0 (.t 3)),
 oo 29 (.load false 1 (.t 28)),
 oo 30 (.ixa 2 (.t 27) (.t 29)),
 oo 31 (.fld 1 (.t 30)),
 oo 32 (.load false 1 (.t 31)),
 oo 5 (.mv (.t 32))])
 (.seq (.seq (.reg 0 [oo 33 (.fld 2 (.t 3)),
 oo 34 (.load false 1 (.t 33)),
 oo 35 (.len .sl (.t 34)),
 oo 36 (.mv (.t 5)),
 oo 37 (.len .sl (.t 36)),
 oo 38 (.bin .neq (.t 35) (.t 37))])
 (.cond (.t 38) (.seq (.reg 0 [oo 4 (.mv (ci 9))])
 (.ret)) (.skip)))
 (.keep [2, 3, 5] [2, 3] (.seq (.seq (.reg 0 [oo 39 (.mv (.t 5)),
 oo 40 (.len .sl (.t 39)),
 oo 41 (.mv (ci 0))])
 (.block 0 (.loop c_tree_nodeWrong_l0)))
 (.keep [] [] (.seq (.reg 0 [oo 4 (.mv (ci 0))])
 (.ret)))))))))
def n_tree_nodeWrong : Fn := ⟨c_tree_nodeWrong, [.t 4], false, false⟩
theorem ok_tree_nodeWrong : fnOf Tryd.prog eff keep f_tree_nodeWrong = some n_tree_nodeWrong.bare := by kernel_rfl
@[simp] theorem c_tree_nodeWrong_l0_norm (st : St) : norm c_tree_nodeWrong_l0 st = st.keep [2, 3, 39, 40, 41] [2, 3] := rfl
def c_tree_leafWrong : ACode :=
  .seq (.reg 0 [oo 1 (.box (.t 0)),
 oo 2 (.mv (ci 0))])
 (.seq (.seq (.reg 0 [oo 3 (.fld 0 (.t 1)),
 oo 4 (.load false 1 (.t 3)),
 oo 5 (.bin .neq (.t 4) (ci (-1))),
 oo 6 (.mv (.t 5)),
 og 7 6 false (.fld 2 (.t 1)),
 og 8 6 false (.load false 1 (.t 7)),
 og 9 6 false (.len .sl (.t 8)),
 og 10 6 false (.bin .gtr (.t 9) (ci 0)),
 oo 11 (.pick (.t 6) (.c (.bool true)) (.t 10))])
 (.cond (.t 11) (.seq (.reg 0 [oo 2 (.mv (ci 9))])
 (.ret)) (.skip)))
 (.keep [] [] (.seq (.reg 0 [oo 2 (.mv (ci 0))])
 (.ret))))
def n_tree_leafWrong : Fn := ⟨c_tree_leafWrong, [.t 2], false, false⟩
theorem ok_tree_leafWrong : fnOf Tryd.prog eff keep f_tree_leafWrong = some n_tree_leafWrong.bare := by kernel_rfl
def c_tree_Text : ACode :=
  .seq (.reg 0 [oo 2 (.box (.t 0)),
 oo 3 (.box (.t 1)),
 oo 4 (.mv (.c (.str ⟨#[]⟩)))])
 (.seq (.seq (.reg 0 [oo 7 (.load true 4 (.t 2)),
 oo 8 (.load true 3 (.t 3)),
 oo 9 (.call true (cf f_tree_Check) [(.t 7), (.t 8)]),
 oo 10 (.bin .neq (.t 9) (ci 0))])
 (.cond (.t 10) (.seq (.reg 0 [oo 4 (.mv (.c (.str ⟨#[]⟩)))])
 (.ret)) (.skip)))
 (.keep [2, 3] [2, 3, 5, 6] (.seq (.reg 0 [oo 5 (.alloc [.nilp, (.sl [] .nil)])])
 (.seq (.reg 0 [oo 6 (.alloc [.nilf])])
 (.seq (.reg 0 [oo 11 (.mkf f_tree_Text_1 [(.t 5), (.t 2), (.t 6)]),
 ox (.store 1 (.t 6) (.t 11))])
 (.keep [3, 5, 6] [2, 3, 5, 6] (.seq (.reg 0 [oo 12 (.load false 1 (.t 6)),
 oo 13 (.load true 3 (.t 3)),
 oo 14 (.call false (.t 12) [(.t 13)])])
 (.seq (.reg 0 [oo 15 (.call true (cf f_none_142) [(.t 5)]),
 oo 4 (.mv (.t 15))])
 (.ret)))))))))
def n_tree_Text : Fn := ⟨c_tree_Text, [.t 4], false, false⟩
theorem ok_tree_Text : fnOf Tryd.prog eff keep f_tree_Text = some n_tree_Text.bare := by kernel_rfl
def b_tree_Text_1_l0 : ACode :=
  (.seq (.reg 0 [oo 31 (.bin .lss (.t 30) (.t 29))])
 (.seq (.cond (.t 31) (.skip) (.keep [1] [] (.exit 0)))
 (.keep [1, 3, 28, 29, 30] [] (.seq (.block 1 (.seq (.reg 0 [oo 32 (.ixa 3 (.t 28) (.t 30)),
 oo 33 (.load true 3 (.t 32)),
 oo 6 (.alloc [(.int .i64 0), (.int .i64 0), (.sl [] .nil)]),
 ox (.store 3 (.t 6) (.t 33))])
 (.seq (.reg 0 [oo 34 (.call true (cf f_none_140) [(.t 1), (.c (.str ⟨#[32]⟩))])])
 (.keep [1, 3, 6, 28, 29, 30] [6] (.reg 0 [oo 35 (.load false 1 (.t 3)),
 oo 36 (.load true 3 (.t 6)),
 oo 37 (.call false (.t 35) [(.t 36)])])))))
 (.keep [1, 3, 28, 29, 30] [] (.reg 0 [oo 38 (.bin .add (.t 30) (ci 1)),
 oo 30 (.mv (.t 38))]))))))
def c_tree_Text_1_l0 : ACode := .keep [1, 3, 28, 29, 30] [] b_tree_Text_1_l0
def c_tree_Text_1 : ACode :=
  .seq (.reg 0 [oo 4 (.box (.t 0))])
 (.seq (.seq (.reg 0 [oo 7 (.load true 3 (.t 4)),
 oo 8 (.call true (cf f_tree_Tree_leaf) [(.t 7)])])
 (.cond (.t 8) (.seq (.reg 0 [oo 9 (.load true 4 (.t 2)),
 oo 10 (.fld 1 (.t 4)),
 oo 11 (.load false 1 (.t 10)),
 oo 12 (.call true (cf f_gram_Grammar_Text) [(.t 9), (.t 11)]),
 oo 13 (.call true (cf f_none_140) [(.t 1), (.t 12)])])
 (.ret)) (.skip)))
 (.keep [1, 2, 3, 4] [4] (.seq (.reg 9 [oo 14 (.fld 0 (.t 2)),
 oo 15 (.load false 1 (.t 14)),
 oo 16 (.fld 3 (.t 2)),
 oo 17 (.load false 1 (.t 16)),
 oo 18 (.fld 0 (.t 4)),
 oo 19 (.load false 1 (.t 18)),
 oo 20 (.ixa 2 (.t 17) (.t 19)),
 oo 21 (.fld 0 (.t 20)),
 oo 22 (.load false 1 (.t 21)),
 oo 23 (.ixa 1 (.t 15) (.t 22)),
 oo 24 (.load false 1 (.t 23)),
 oo 25 (.bin .add (.c (.str ⟨#[40]⟩)) (.t 24)),
 oo 26 (.call true (cf f_none_140) [(.t 1), (.t 25)])])
 (.seq (.seq (.reg 0 [oo 27 (.fld 2 (.t 4)),
 oo 28 (.load false 1 (.t 27)),
 oo 29 (.len .sl (.t 28)),
 oo 30 (.mv (ci 0))])
 (.block 0 (.loop c_tree_Text_1_l0)))
 (.keep [1] [] (.reg 0 [oo 39 (.call true (cf f_none_140) [(.t 1), (.c (.str ⟨#[41]⟩))])]))))))
def n_tree_Text_1 : Fn := ⟨c_tree_Text_1, [], false, false⟩
theorem ok_tree_Text_1 : fnOf Tryd.prog eff keep f_tree_Text_1 = some n_tree_Text_1.bare := by kernel_rfl
@[simp] theorem c_tree_Text_1_l0_norm (st : St) : norm c_tree_Text_1_l0 st = st.keep [1, 3, 28, 29, 30] [] := rfl
def c_tree_Yield : ACode :=
  .seq (.reg 0 [oo 1 (.box (.t 0)),
 oo 2 (.mv (.c (.sl [] .nil)))])
 (.seq (.reg 0 [oo 3 (.alloc [(.sl [] .nil)])])
 (.seq (.reg 0 [oo 4 (.alloc [.nilf])])
 (.seq (.reg 0 [oo 5 (.mkf f_tree_Yield_1 [(.t 3), (.t 4)]),
 ox (.store 1 (.t 4) (.t 5))])
 (.keep [1, 3, 4] [1, 3, 4] (.seq (.reg 0 [oo 6 (.load false 1 (.t 4)),
 oo 7 (.load true 3 (.t 1)),
 oo 8 (.call false (.t 6) [(.t 7)])])
 (.seq (.reg 0 [oo 9 (.load false 1 (.t 3)),
 oo 2 (.mv (.t 9))])
 (.ret)))))))
def n_tree_Yield : Fn := ⟨c_tree_Yield, [.t 2], false, false⟩
theorem ok_tree_Yield : fnOf Tryd.prog eff keep f_tree_Yield = some n_tree_Yield.bare := by kernel_rfl
def b_tree_Yield_1_l0 : ACode :=
  (.seq (.reg 0 [oo 17 (.bin .lss (.t 16) (.t 15))])
 (.seq (.cond (.t 17) (.skip) (.keep [] [] (.exit 0)))
 (.keep [2, 14, 15, 16] [] (.seq (.block 1 (.seq (.reg 0 [oo 18 (.ixa 3 (.t 14) (.t 16)),
 oo 19 (.load true 3 (.t 18)),
 oo 5 (.alloc [(.int .i64 0), (.int .i64 0), (.sl [] .nil)]),
 ox (.store 3 (.t 5) (.t 19))])
 (.keep [2, 5, 14, 15, 16] [5] (.reg 0 [oo 20 (.load false 1 (.t 2)),
 oo 21 (.load true 3 (.t 5)),
 oo 22 (.call false (.t 20) [(.t 21)])]))))
 (.keep [2, 14, 15, 16] [] (.reg 0 [oo 23 (.bin .add (.t 16) (ci 1)),
 oo 16 (.mv (.t 23))]))))))
def c_tree_Yield_1_l0 : ACode := .keep [2, 14, 15, 16] [] b_tree_Yield_1_l0
def c_tree_Yield_1 : ACode :=
  .seq (.reg 0 [oo 3 (.box (.t 0))])
 (.seq (.seq (.reg 0 [oo 6 (.load true 3 (.t 3)),
 oo 7 (.call true (cf f_tree_Tree_leaf) [(.t 6)])])
 (.cond (.t 7) (.seq (.reg 0 [oo 8 (.load false 1 (.t 1)),
 oo 9 (.fld 1 (.t 3)),
 oo 10 (.load false 1 (.t 9)),
 oo 11 (.bslice [(.int .i64 0)] 1 [(0, (.t 10))]),
 oo 12 (.app 1 (.t 8) (.t 11)),
 ox (.store 1 (.t 1) (.t 12))])
 (.ret)) (.skip)))
 (.keep [2, 3] [3] (.seq (.reg 0 [oo 13 (.fld 2 (.t 3)),
 oo 14 (.load false 1 (.t 13)),
 oo 15 (.len .sl (.t 14)),
 oo 16 (.mv (ci 0))])
 (.block 0 (.loop c_tree_Yield_1_l0)))))
def n_tree_Yield_1 : Fn := ⟨c_tree_Yield_1, [], false, false⟩
theorem ok_tree_Yield_1 : fnOf Tryd.prog eff keep f_tree_Yield_1 = some n_tree_Yield_1.bare := by kernel_rfl
@[simp] theorem c_tree_Yield_1_l0_norm (st : St) : norm c_tree_Yield_1_l0 st = st.keep [2, 14, 15, 16] [] := rfl
def b_nullable_Of_l0 : ACode :=
  (.seq (.reg 0 [oo 10 (.bin .lss (.t 9) (.t 8))])
 (.seq (.cond (.t 10) (.skip) (.keep [3] [] (.exit 0)))
 (.keep [190003, 7, 8, 9] [] (.seq (.block 1 (.seq (.reg 0 [oo 11 (.ixa 1 (.t 7) (.t 9)),
 oo 12 (.load false 1 (.t 11)),
 oo 5 (.mv (.t 12))])
 (.reg 0 [oo 13 (.mv (.t 3)),
 oo 14 (.mv (.t 5)),
 oo 15 (.bin .geq (.t 14) (ci 0)),
 oo 16 (.bslice [(.bool false)] 1 [(0, (.t 15))]),
 oo 17 (.app 1 (.t 13) (.t 16)),
 oo 3 (.mv (.t 17))])))
 (.keep [190003, 7, 8, 9] [] (.reg 0 [oo 18 (.bin .add (.t 9) (ci 1)),
 oo 9 (.mv (.t 18))]))))))
def c_nullable_Of_l0 : ACode := .keep [190003, 7, 8, 9] [] b_nullable_Of_l0
def c_nullable_Of : ACode :=
  .seq (.reg 0 [oo 1 (.box (.t 0)),
 oo 2 (.mv (.c (.sl [] .nil)))])
 (.seq (.reg 0 [oo 3 (.mv (.c (.sl [] .nil)))])
 (.seq (.seq (.reg 0 [oo 6 (.load true 4 (.t 1)),
 oo 7 (.call true (cf f_none_56) [(.t 6)]),
 oo 8 (.len .sl (.t 7)),
 oo 9 (.mv (ci 0))])
 (.block 0 (.loop c_nullable_Of_l0)))
 (.keep [3] [] (.seq (.reg 0 [oo 19 (.mv (.t 3)),
 oo 2 (.mv (.t 19))])
 (.ret)))))
def n_nullable_Of : Fn := ⟨c_nullable_Of, [.t 2], false, false⟩
theorem ok_nullable_Of : fnOf Tryd.prog eff keep f_nullable_Of = some n_nullable_Of.bare := by kernel_rfl
@[simp] theorem c_nullable_Of_l0_norm (st : St) : norm c_nullable_Of_l0 st = st.keep [190003, 7, 8, 9] [] := rfl
def b_ref08_Steps_l0 : ACode :=
  (.seq (.seq (.reg 0 [oo 16 (.mv (.t 4)),
 oo 17 (.mv (.t 3)),
 oo 18 (.len .sl (.t 17)),
 oo 19 (.bin .lss (.t 16) (.t 18))])
 (.cond (.t 19) (.skip) (.keep [1, 3] [1, 15] (.exit 0))))
 (.keep [1, 3, 4] [1, 15] (.seq (.block 1 (.reg 0 [oo 22 (.mv (.t 3)),
 oo 23 (.mv (.t 4)),
 oo 24 (.ixa 1 (.t 22) (.t 23)),
 ox (.store 1 (.t 24) (ci (-1)))]))
 (.keep [1, 3, 4] [1, 15] (.reg 0 [oo 20 (.mv (.t 4)),
 oo 21 (.bin .add (.t 20) (ci 1)),
 oo 4 (.mv (.t 21))])))))
def c_ref08_Steps_l0 : ACode := .keep [1, 3, 4] [1, 15] b_ref08_Steps_l0
def b_ref08_Steps_l1 : ACode :=
  (.seq (.seq (.reg 0 [oo 44 (.mv (.t 10)),
 oo 45 (.fld 1 (.t 7)),
 oo 46 (.load false 1 (.t 45)),
 oo 47 (.len .sl (.t 46)),
 oo 48 (.bin .lss (.t 44) (.t 47))])
 (.cond (.t 48) (.skip) (.keep [1, 3, 5, 6, 7, 8, 9] [1, 7, 15] (.exit 6))))
 (.keep [1, 3, 5, 6, 7, 8, 9, 10] [1, 7, 15] (.seq (.block 7 (.seq (.reg 0 [oo 51 (.fld 1 (.t 7)),
 oo 52 (.load false 1 (.t 51)),
 oo 53 (.mv (.t 10)),
 oo 54 (.ixa 1 (.t 52) (.t 53)),
 oo 55 (.load false 1 (.t 54)),
 oo 11 (.mv (.t 55))])
 (.seq (.seq (.reg 0 [oo 56 (.mv (.t 11)),
 oo 57 (.bin .lss (.t 56) (ci 0)),
 oo 58 (.mv (.t 57)),
 og 59 58 false (.mv (.t 3)),
 og 60 58 false (.mv (.t 11)),
 og 61 58 false (.ixa 1 (.t 59) (.t 60)),
 og 62 58 false (.load false 1 (.t 61)),
 og 63 58 false (.bin .lss (.t 62) (ci 0)),
 oo 64 (.pick (.t 58) (.c (.bool true)) (.t 63))])
 (.cond (.t 64) (.seq (.reg 0 [oo 9 (.mv (.c (.bool false)))])
 (.keep [1, 3, 5, 6, 7, 8, 9] [1, 7, 15] (.exit 6))) (.skip)))
 (.keep [1, 3, 5, 6, 7, 8, 9, 10, 11] [1, 7, 15] (.seq (.reg 0 [oo 65 (.mv (.t 3)),
 oo 66 (.mv (.t 11)),
 oo 67 (.ixa 1 (.t 65) (.t 66)),
 oo 68 (.load false 1 (.t 67)),
 oo 69 (.mv (.t 8)),
 oo 70 (.bin .gtr (.t 68) (.t 69))])
 (.cond (.t 70) (.reg 0 [oo 71 (.mv (.t 3)),
 oo 72 (.mv (.t 11)),
 oo 73 (.ixa 1 (.t 71) (.t 72)),
 oo 74 (.load false 1 (.t 73)),
 oo 8 (.mv (.t 74))]) (.skip)))))))
 (.keep [1, 3, 5, 6, 7, 8, 9, 10] [1, 7, 15] (.reg 0 [oo 49 (.mv (.t 10)),
 oo 50 (.bin .add (.t 49) (ci 1)),
 oo 10 (.mv (.t 50))])))))
def c_ref08_Steps_l1 : ACode := .keep [1, 3, 5, 6, 7, 8, 9, 10] [1, 7, 15] b_ref08_Steps_l1
def b_ref08_Steps_l2 : ACode :=
  (.seq (.seq (.reg 0 [oo 32 (.mv (.t 6)),
 oo 33 (.fld 3 (.t 1)),
 oo 34 (.load false 1 (.t 33)),
 oo 35 (.len .sl (.t 34)),
 oo 36 (.bin .lss (.t 32) (.t 35))])
 (.cond (.t 36) (.skip) (.keep [1, 3, 5] [1, 15] (.exit 4))))
 (.keep [1, 3, 5, 6] [1, 15] (.seq (.block 5 (.seq (.reg 0 [oo 39 (.fld 3 (.t 1)),
 oo 40 (.load false 1 (.t 39)),
 oo 41 (.mv (.t 6)),
 oo 42 (.ixa 2 (.t 40) (.t 41)),
 oo 43 (.load true 2 (.t 42)),
 oo 7 (.alloc [(.int .i64 0), (.sl [] .nil)]),
 ox (.store 2 (.t 7) (.t 43))])
 (.seq (.reg 0 [oo 8 (.mv (ci (-1)))])
 (.seq (.reg 0 [oo 9 (.mv (.c (.bool true)))])
 (.seq (.seq (.reg 0 [oo 10 (.mv (ci 0))])
 (.block 6 (.loop c_ref08_Steps_l1)))
 (.keep [1, 3, 5, 6, 7, 8, 9] [1, 7, 15] (.seq (.reg 0 [oo 75 (.mv (.t 9)),
 oo 76 (.mv (.t 75)),
 og 77 76 true (.mv (.t 3)),
 og 78 76 true (.fld 0 (.t 7)),
 og 79 76 true (.load false 1 (.t 78)),
 og 80 76 true (.ixa 1 (.t 77) (.t 79)),
 og 81 76 true (.load false 1 (.t 80)),
 og 82 76 true (.bin .lss (.t 81) (ci 0)),
 og 83 76 true (.mv (.t 82)),
 og 84 83 false (.mv (.t 8)),
 og 85 83 false (.bin .add (.t 84) (ci 1)),
 og 86 83 false (.mv (.t 3)),
 og 87 83 false (.fld 0 (.t 7)),
 og 88 83 false (.load false 1 (.t 87)),
 og 89 83 false (.ixa 1 (.t 86) (.t 88)),
 og 90 83 false (.load false 1 (.t 89)),
 og 91 83 false (.bin .lss (.t 85) (.t 90)),
 og 92 76 true (.pick (.t 83) (.c (.bool true)) (.t 91)),
 oo 93 (.pick (.t 76) (.t 92) (.c (.bool false)))])
 (.cond (.t 93) (.reg 0 [oo 94 (.mv (.t 3)),
 oo 95 (.fld 0 (.t 7)),
 oo 96 (.load false 1 (.t 95)),
 oo 97 (.mv (.t 8)),
 oo 98 (.bin .add (.t 97) (ci 1)),
 oo 99 (.ixa 1 (.t 94) (.t 96)),
 ox (.store 1 (.t 99) (.t 98))]) (.skip)))))))))
 (.keep [1, 3, 5, 6] [1, 15] (.reg 0 [oo 37 (.mv (.t 6)),
 oo 38 (.bin .add (.t 37) (ci 1)),
 oo 6 (.mv (.t 38))])))))
def c_ref08_Steps_l2 : ACode := .keep [1, 3, 5, 6] [1, 15] b_ref08_Steps_l2
def b_ref08_Steps_l3 : ACode :=
  (.seq (.seq (.reg 0 [oo 25 (.mv (.t 5)),
 oo 26 (.fld 0 (.t 1)),
 oo 27 (.load false 1 (.t 26)),
 oo 28 (.len .sl (.t 27)),
 oo 29 (.bin .leq (.t 25) (.t 28))])
 (.cond (.t 29) (.skip) (.keep [3] [15] (.exit 2))))
 (.keep [1, 3, 5] [1, 15] (.seq (.block 3 (.seq (.reg 0 [oo 6 (.mv (ci 0))])
 (.block 4 (.loop c_ref08_Steps_l2))))
 (.keep [1, 3, 5] [1, 15] (.reg 0 [oo 30 (.mv (.t 5)),
 oo 31 (.bin .add (.t 30) (ci 1)),
 oo 5 (.mv (.t 31))])))))
def c_ref08_Steps_l3 : ACode := .keep [1, 3, 5] [1, 15] b_ref08_Steps_l3
def c_ref08_Steps : ACode :=
  .seq (.reg 0 [oo 1 (.box (.t 0)),
 oo 2 (.mv (.c (.sl [] .nil)))])
 (.seq (.reg 0 [oo 12 (.fld 0 (.t 1)),
 oo 13 (.load false 1 (.t 12)),
 oo 14 (.len .sl (.t 13)),
 oo 15 (.mksl (.int .i64 0) (.t 14)),
 oo 3 (.mv (.t 15))])
 (.seq (.seq (.reg 0 [oo 4 (.mv (ci 0))])
 (.block 0 (.loop c_ref08_Steps_l0)))
 (.keep [1, 3] [1, 15] (.seq (.seq (.reg 0 [oo 5 (.mv (ci 0))])
 (.block 2 (.loop c_ref08_Steps_l3)))
 (.keep [3] [15] (.seq (.reg 0 [oo 100 (.mv (.t 3)),
 oo 2 (.mv (.t 100))])
 (.ret)))))))
def n_ref08_Steps : Fn := ⟨c_ref08_Steps, [.t 2], false, false⟩
theorem ok_ref08_Steps : fnOf Tryd.prog eff keep f_ref08_Steps = some n_ref08_Steps.bare := by kernel_rfl
@[simp] theorem c_ref08_Steps_l0_norm (st : St) : norm c_ref08_Steps_l0 st = st.keep [1, 3, 4] [1, 15] := rfl
@[simp] theorem c_ref08_Steps_l1_norm (st : St) : norm c_ref08_Steps_l1 st = st.keep [1, 3, 5, 6, 7, 8, 9, 10] [1, 7, 15] := rfl
@[simp] theorem c_ref08_Steps_l2_norm (st : St) : norm c_ref08_Steps_l2 st = st.keep [1, 3, 5, 6] [1, 15] := rfl
@[simp] theorem c_ref08_Steps_l3_norm (st : St) : norm c_ref08_Steps_l3 st = st.keep [1, 3, 5] [1, 15] := rfl
def c_law08_NullableTrees : ACode :=
  .seq (.reg 0 [oo 2 (.box (.t 0)),
 oo 4 (.mv (.c (.bool false)))])
 (.seq (.reg 0 [oo 9 (.mv (.t 1)),
 oo 10 (.call true (cf f_law03_Build) [(.t 9)]),
 oo 8 (.mv (.t 10)),
 oo 11 (.ext (.t 8) 0),
 oo 12 (.ext (.t 8) 1),
 oo 5 (.alloc [(.int .i64 0), (.int .i64 0), (.sl [] .nil)]),
 oo 6 (.alloc [(.int .i64 0), (.int .i64 0), (.sl [] .nil)]),
 ox (.store 3 (.t 5) (.t 11)),
 ox (.store 3 (.t 6) (.t 12))])
 (.seq (.seq (.reg 0 [oo 13 (.load true 4 (.t 2)),
 oo 14 (.call true (cf f_law02_Small) [(.t 13)]),
 oo 15 (.un .not (.t 14)),
 oo 16 (.mv (.t 15)),
 og 17 16 false (.mv (.t 1)),
 og 18 16 false (.len .sl (.t 17)),
 og 19 16 false (.bin .gtr (.t 18) (ci 80)),
 oo 20 (.pick (.t 16) (.c (.bool true)) (.t 19)),
 oo 21 (.mv (.t 20)),
 og 22 21 false (.fld 0 (.t 5)),
 og 23 21 false (.load false 1 (.t 22)),
 og 24 21 false (.bin .lss (.t 23) (ci 0)),
 oo 25 (.pick (.t 21) (.c (.bool true)) (.t 24)),
 oo 26 (.mv (.t 25)),
 og 27 26 false (.load true 4 (.t 2)),
 og 28 26 false (.load true 3 (.t 5)),
 og 29 26 false (.call true (cf f_law03_Fits) [(.t 27), (.t 28)]),
 og 30 26 false (.un .not (.t 29)),
 oo 31 (.pick (.t 26) (.c (.bool true)) (.t 30))])
 (.cond (.t 31) (.seq (.reg 0 [oo 32 (.call true (cf f_law08_Awake) []),
 oo 4 (.mv (.t 32))])
 (.ret)) (.skip)))
 (.keep [2, 5] [2, 5] (.seq (.reg 0 [oo 33 (.load true 4 (.t 2)),
 oo 34 (.call true (cf f_nullable_Of) [(.t 33)]),
 oo 7 (.mv (.t 34))])
 (.seq (.reg 0 [oo 35 (.call true (cf f_law08_Awake) []),
 oo 36 (.mv (.t 35)),
 og 37 36 true (.mv (.t 7)),
 og 38 36 true (.len .sl (.t 37)),
 og 39 36 true (.fld 0 (.t 2)),
 og 40 36 true (.load false 1 (.t 39)),
 og 41 36 true (.len .sl (.t 40)),
 og 42 36 true (.bin .eql (.t 38) (.t 41)),
 oo 43 (.pick (.t 36) (.t 42) (.c (.bool false))),
 oo 44 (.mv (.t 43)),
 og 45 44 true (.load true 3 (.t 5)),
 og 46 44 true (.call true (cf f_tree_Yield) [(.t 45)]),
 og 47 44 true (.len .sl (.t 46)),
 og 48 44 true (.bin .gtr (.t 47) (ci 0)),
 og 49 44 true (.mv (.t 48)),
 og 50 49 false (.mv (.t 7)),
 og 51 49 false (.fld 3 (.t 2)),
 og 52 49 false (.load false 1 (.t 51)),
 og 53 49 false (.fld 0 (.t 5)),
 og 54 49 false (.load false 1 (.t 53)),
 og 55 49 false (.ixa 2 (.t 52) (.t 54)),
 og 56 49 false (.fld 0 (.t 55)),
 og 57 49 false (.load false 1 (.t 56)),
 og 58 49 false (.ixa 1 (.t 50) (.t 57)),
 og 59 49 false (.load false 1 (.t 58)),
 og 60 44 true (.pick (.t 49) (.c (.bool true)) (.t 59)),
 oo 61 (.pick (.t 44) (.t 60) (.c (.bool false))),
 oo 4 (.mv (.t 61))])
 (.ret))))))
def n_law08_NullableTrees : Fn := ⟨c_law08_NullableTrees, [.t 4], false, false⟩
theorem ok_law08_NullableTrees : fnOf Tryd.prog eff keep f_law08_NullableTrees = some n_law08_NullableTrees.bare := by kernel_rfl
def b_law03_Build_l0 : ACode :=
  (.seq (.reg 0 [oo 14 (.bin .lss (.t 13) (.t 12))])
 (.seq (.cond (.t 14) (.skip) (.keep [2, 3, 4, 5] [2, 3] (.exit 0)))
 (.keep [2, 3, 4, 5, 11, 12, 13] [2, 3] (.seq (.block 1 (.seq (.reg 0 [oo 15 (.ixa 3 (.t 11) (.t 13)),
 oo 16 (.load true 3 (.t 15)),
 oo 7 (.alloc [(.int .i64 0), (.int .i64 0), (.int .i64 0)]),
 ox (.store 3 (.t 7) (.t 16))])
 (.seq (.reg 0 [oo 8 (.mv (ci 0))])
 (.seq (.seq (.reg 0 [oo 17 (.fld 2 (.t 7)),
 oo 18 (.load false 1 (.t 17)),
 oo 19 (.bin .gtr (.t 18) (ci 0))])
 (.cond (.t 19) (.reg 0 [oo 20 (.fld 2 (.t 7)),
 oo 21 (.load false 1 (.t 20)),
 oo 22 (.mv (.t 4)),
 oo 23 (.len .sl (.t 22)),
 oo 24 (.min [(.t 21), (.t 23)]),
 oo 8 (.mv (.t 24))]) (.skip)))
 (.keep [2, 3, 4, 5, 7, 8, 11, 12, 13] [2, 3, 7] (.seq (.reg 14 [oo 25 (.fld 0 (.t 7)),
 oo 26 (.load false 1 (.t 25)),
 oo 27 (.fld 1 (.t 7)),
 oo 28 (.load false 1 (.t 27)),
 oo 29 (.bslice [(.int .i64 0), (.int .i64 0), (.sl [] .nil)] 0 []),
 oo 30 (.mv (.t 4)),
 oo 31 (.mv (.t 4)),
 oo 32 (.len .sl (.t 31)),
 oo 33 (.mv (.t 8)),
 oo 34 (.bin .sub (.t 32) (.t 33)),
 oo 35 (.sl 3 (.t 30) (some (.t 34)) none none),
 oo 36 (.app 3 (.t 29) (.t 35)),
 oo 37 (.build [(.int .i64 0), (.int .i64 0), (.sl [] .nil)] [(0, 1, (.t 26)), (1, 1, (.t 28)), (2, 1, (.t 36))]),
 oo 9 (.alloc [(.int .i64 0), (.int .i64 0), (.sl [] .nil)]),
 ox (.store 3 (.t 9) (.t 37))])
 (.seq (.reg 14 [oo 38 (.fld 0 (.t 7)),
 oo 39 (.load false 1 (.t 38)),
 oo 40 (.fld 1 (.t 7)),
 oo 41 (.load false 1 (.t 40)),
 oo 42 (.bslice [(.int .i64 0), (.int .i64 0), (.sl [] .nil)] 0 []),
 oo 43 (.mv (.t 5)),
 oo 44 (.mv (.t 5)),
 oo 45 (.len .sl (.t 44)),
 oo 46 (.mv (.t 8)),
 oo 47 (.bin .sub (.t 45) (.t 46)),
 oo 48 (.sl 3 (.t 43) (some (.t 47)) none none),
 oo 49 (.app 3 (.t 42) (.t 48)),
 oo 50 (.build [(.int .i64 0), (.int .i64 0), (.sl [] .nil)] [(0, 1, (.t 39)), (1, 1, (.t 41)), (2, 1, (.t 49))]),
 oo 10 (.alloc [(.int .i64 0), (.int .i64 0), (.sl [] .nil)]),
 ox (.store 3 (.t 10) (.t 50))])
 (.reg 25 [oo 51 (.mv (.t 4)),
 oo 52 (.mv (.t 4)),
 oo 53 (.len .sl (.t 52)),
 oo 54 (.mv (.t 8)),
 oo 55 (.bin .sub (.t 53) (.t 54)),
 oo 56 (.mv (.t 4)),
 oo 57 (.len .sl (.t 56)),
 oo 58 (.mv (.t 8)),
 oo 59 (.bin .sub (.t 57) (.t 58)),
 oo 60 (.sl 3 (.t 51) none (some (.t 55)) (some (.t 59))),
 oo 61 (.load true 3 (.t 9)),
 oo 62 (.bslice [(.int .i64 0), (.int .i64 0), (.sl [] .nil)] 1 [(0, (.t 61))]),
 oo 63 (.app 3 (.t 60) (.t 62)),
 oo 64 (.mv (.t 5)),
 oo 65 (.mv (.t 5)),
 oo 66 (.len .sl (.t 65)),
 oo 67 (.mv (.t 8)),
 oo 68 (.bin .sub (.t 66) (.t 67)),
 oo 69 (.mv (.t 5)),
 oo 70 (.len .sl (.t 69)),
 oo 71 (.mv (.t 8)),
 oo 72 (.bin .sub (.t 70) (.t 71)),
 oo 73 (.sl 3 (.t 64) none (some (.t 68)) (some (.t 72))),
 oo 74 (.load true 3 (.t 10)),
 oo 75 (.bslice [(.int .i64 0), (.int .i64 0), (.sl [] .nil)] 1 [(0, (.t 74))]),
 oo 76 (.app 3 (.t 73) (.t 75)),
 oo 4 (.mv (.t 63)),
 oo 5 (.mv (.t 76))]))))))))
 (.keep [2, 3, 4, 5, 11, 12, 13] [2, 3] (.reg 0 [oo 77 (.bin .add (.t 13) (ci 1)),
 oo 13 (.mv (.t 77))]))))))
def c_law03_Build_l0 : ACode := .keep [2, 3, 4, 5, 11, 12, 13] [2, 3] b_law03_Build_l0
def c_law03_Build : ACode :=
  .seq (.reg 0 [oo 2 (.alloc [(.int .i64 0), (.int .i64 0), (.sl [] .nil)]),
 oo 3 (.alloc [(.int .i64 0), (.int .i64 0), (.sl [] .nil)])])
 (.seq (.reg 0 [oo 4 (.mv (.c (.sl [] .nil)))])
 (.seq (.reg 0 [oo 5 (.mv (.c (.sl [] .nil)))])
 (.seq (.seq (.reg 0 [oo 11 (.mv (.t 0)),
 oo 12 (.len .sl (.t 11)),
 oo 13 (.mv (ci 0))])
 (.block 0 (.loop c_law03_Build_l0)))
 (.keep [2, 3, 4, 5] [2, 3] (.seq (.seq (.reg 0 [oo 78 (.mv (.t 4)),
 oo 79 (.len .sl (.t 78)),
 oo 80 (.bin .eql (.t 79) (ci 0))])
 (.cond (.t 80) (.seq (.reg 0 [oo 81 (.call true (cf f_tree_Leaf) [(ci (-1))]),
 oo 82 (.build [(.int .i64 0), (.int .i64 0), (.sl [] .nil)] [(0, 1, (ci (-1))), (1, 1, (ci (-1)))]),
 ox (.store 3 (.t 2) (.t 81)),
 ox (.store 3 (.t 3) (.t 82))])
 (.ret)) (.skip)))
 (.keep [2, 3, 4, 5] [2, 3] (.seq (.reg 13 [oo 83 (.mv (.t 4)),
 oo 84 (.mv (.t 4)),
 oo 85 (.len .sl (.t 84)),
 oo 86 (.bin .sub (.t 85) (ci 1)),
 oo 87 (.ixa 3 (.t 83) (.t 86)),
 oo 88 (.load true 3 (.t 87)),
 oo 89 (.mv (.t 5)),
 oo 90 (.mv (.t 5)),
 oo 91 (.len .sl (.t 90)),
 oo 92 (.bin .sub (.t 91) (ci 1)),
 oo 93 (.ixa 3 (.t 89) (.t 92)),
 oo 94 (.load true 3 (.t 93)),
 ox (.store 3 (.t 2) (.t 88)),
 ox (.store 3 (.t 3) (.t 94))])
 (.ret))))))))
def n_law03_Build : Fn := ⟨c_law03_Build, [.c 2 3 true, .c 3 3 true], false, false⟩
theorem ok_law03_Build : fnOf Tryd.prog eff keep f_law03_Build = some n_law03_Build.bare := by kernel_rfl
@[simp] theorem c_law03_Build_l0_norm (st : St) : norm c_law03_Build_l0 st = st.keep [2, 3, 4, 5, 11, 12, 13] [2, 3] := rfl
def c_law03_Fits : ACode :=
  .seq (.reg 0 [oo 2 (.box (.t 0)),
 oo 3 (.box (.t 1)),
 oo 4 (.mv (.c (.bool false)))])
 (.seq (.reg 3 [oo 5 (.load true 4 (.t 2)),
 oo 6 (.call true (cf f_law02_Of) [(.t 5)]),
 oo 7 (.load true 3 (.t 3)),
 oo 8 (.call true (cf f_law03_Of) [(.t 7)]),
 oo 9 (.call true (cf f_ref03_Check) [(.t 6), (.t 8)]),
 oo 10 (.bin .eql (.t 9) (ci 0)),
 oo 4 (.mv (.t 10))])
 (.ret))
def n_law03_Fits : Fn := ⟨c_law03_Fits, [.t 4], false, false⟩
theorem ok_law03_Fits : fnOf Tryd.prog eff keep f_law03_Fits = some n_law03_Fits.bare := by kernel_rfl
def b_law03_Of_l0 : ACode :=
  (.seq (.reg 0 [oo 15 (.bin .lss (.t 14) (.t 13))])
 (.seq (.cond (.t 15) (.skip) (.keep [2, 3] [2, 3] (.exit 0)))
 (.keep [2, 3, 12, 13, 14] [2, 3] (.seq (.block 1 (.seq (.reg 0 [oo 16 (.ixa 3 (.t 12) (.t 14)),
 oo 17 (.load true 3 (.t 16)),
 oo 5 (.alloc [(.int .i64 0), (.int .i64 0), (.sl [] .nil)]),
 ox (.store 3 (.t 5) (.t 17))])
 (.reg 5 [oo 18 (.fld 2 (.t 3)),
 oo 19 (.load false 1 (.t 18)),
 oo 20 (.load true 3 (.t 5)),
 oo 21 (.call true (cf f_law03_Of) [(.t 20)]),
 oo 22 (.bslice [(.int .i64 0), (.int .i64 0), (.sl [] .nil)] 1 [(0, (.t 21))]),
 oo 23 (.app 3 (.t 19) (.t 22)),
 oo 24 (.fld 2 (.t 3)),
 ox (.store 1 (.t 24) (.t 23))])))
 (.keep [2, 3, 12, 13, 14] [2, 3] (.reg 0 [oo 25 (.bin .add (.t 14) (ci 1)),
 oo 14 (.mv (.t 25))]))))))
def c_law03_Of_l0 : ACode := .keep [2, 3, 12, 13, 14] [2, 3] b_law03_Of_l0
def c_law03_Of : ACode :=
  .seq (.reg 0 [oo 1 (.box (.t 0)),
 oo 2 (.alloc [(.int .i64 0), (.int .i64 0), (.sl [] .nil)])])
 (.seq (.reg 0 [oo 6 (.fld 0 (.t 1)),
 oo 7 (.load false 1 (.t 6)),
 oo 8 (.fld 1 (.t 1)),
 oo 9 (.load false 1 (.t 8)),
 oo 10 (.build [(.int .i64 0), (.int .i64 0), (.sl [] .nil)] [(0, 1, (.t 7)), (1, 1, (.t 9))]),
 oo 3 (.alloc [(.int .i64 0), (.int .i64 0), (.sl [] .nil)]),
 ox (.store 3 (.t 3) (.t 10))])
 (.seq (.seq (.reg 0 [oo 11 (.fld 2 (.t 1)),
 oo 12 (.load false 1 (.t 11)),
 oo 13 (.len .sl (.t 12)),
 oo 14 (.mv (ci 0))])
 (.block 0 (.loop c_law03_Of_l0)))
 (.keep [2, 3] [2, 3] (.seq (.reg 0 [oo 26 (.load true 3 (.t 3)),
 ox (.store 3 (.t 2) (.t 26))])
 (.ret)))))
def n_law03_Of : Fn := ⟨c_law03_Of, [.c 2 3 true], false, false⟩
theorem ok_law03_Of : fnOf Tryd.prog eff keep f_law03_Of = some n_law03_Of.bare := by kernel_rfl
@[simp] theorem c_law03_Of_l0_norm (st : St) : norm c_law03_Of_l0 st = st.keep [2, 3, 12, 13, 14] [2, 3] := rfl
def c_ref03_Check : ACode :=
  .seq (.reg 0 [oo 2 (.box (.t 0)),
 oo 3 (.box (.t 1)),
 oo 4 (.mv (ci 0))])
 (.seq (.seq (.reg 0 [oo 6 (.load true 4 (.t 2)),
 oo 7 (.call true (cf f_ref02_Check) [(.t 6)]),
 oo 5 (.mv (.t 7))])
 (.seq (.reg 0 [oo 8 (.mv (.t 5)),
 oo 9 (.bin .neq (.t 8) (ci 0))])
 (.cond (.t 9) (.seq (.reg 0 [oo 10 (.mv (.t 5)),
 oo 4 (.mv (.t 10))])
 (.ret)) (.skip))))
 (.keep [2, 3] [2, 3] (.seq (.seq (.reg 0 [oo 11 (.load true 3 (.t 3)),
 oo 12 (.call true (cf f_ref03_Count) [(.t 11)]),
 oo 13 (.bin .gtr (.t 12) (ci 65536))])
 (.cond (.t 13) (.seq (.reg 0 [oo 4 (.mv (ci 11))])
 (.ret)) (.skip)))
 (.keep [2, 3] [2, 3] (.seq (.seq (.reg 0 [oo 14 (.fld 0 (.t 3)),
 oo 15 (.load false 1 (.t 14)),
 oo 16 (.bin .geq (.t 15) (ci 0))])
 (.cond (.t 16) (.seq (.reg 0 [oo 17 (.load true 4 (.t 2)),
 oo 18 (.load true 3 (.t 3)),
 oo 19 (.call true (cf f_ref03_Fits) [(.t 17), (.t 18)]),
 oo 4 (.mv (.t 19))])
 (.ret)) (.skip)))
 (.keep [2, 3] [2, 3] (.seq (.seq (.reg 0 [oo 20 (.fld 0 (.t 3)),
 oo 21 (.load false 1 (.t 20)),
 oo 22 (.bin .neq (.t 21) (ci (-1))),
 oo 23 (.mv (.t 22)),
 og 24 23 false (.fld 1 (.t 3)),
 og 25 23 false (.load false 1 (.t 24)),
 og 26 23 false (.bin .geq (.t 25) (ci 0)),
 oo 27 (.pick (.t 23) (.c (.bool true)) (.t 26)),
 oo 28 (.mv (.t 27)),
 og 29 28 false (.load true 4 (.t 2)),
 og 30 28 false (.fld 1 (.t 3)),
 og 31 28 false (.load false 1 (.t 30)),
 og 32 28 false (.call true (cf f_ref02_Has) [(.t 29), (.t 31)]),
 og 33 28 false (.un .not (.t 32)),
 oo 34 (.pick (.t 28) (.c (.bool true)) (.t 33)),
 oo 35 (.mv (.t 34)),
 og 36 35 false (.fld 2 (.t 3)),
 og 37 35 false (.load false 1 (.t 36)),
 og 38 35 false (.len .sl (.t 37)),
 og 39 35 false (.bin .gtr (.t 38) (ci 0)),
 oo 40 (.pick (.t 35) (.c (.bool true)) (.t 39))])
 (.cond (.t 40) (.seq (.reg 0 [oo 4 (.mv (ci 9))])
 (.ret)) (.skip)))
 (.keep [] [] (.seq (.reg 0 [oo 4 (.mv (ci 0))])
 (.ret))))))))))
def n_ref03_Check : Fn := ⟨c_ref03_Check, [.t 4], false, false⟩
theorem ok_ref03_Check : fnOf Tryd.prog eff keep f_ref03_Check = some n_ref03_Check.bare := by kernel_rfl
def b_ref03_Count_l0 : ACode :=
  (.seq (.seq (.reg 0 [oo 5 (.mv (.t 4)),
 oo 6 (.fld 2 (.t 1)),
 oo 7 (.load false 1 (.t 6)),
 oo 8 (.len .sl (.t 7)),
 oo 9 (.bin .lss (.t 5) (.t 8))])
 (.cond (.t 9) (.skip) (.keep [3] [] (.exit 0))))
 (.keep [1, 3, 4] [1] (.seq (.block 1 (.reg 0 [oo 12 (.mv (.t 3)),
 oo 13 (.fld 2 (.t 1)),
 oo 14 (.load false 1 (.t 13)),
 oo 15 (.mv (.t 4)),
 oo 16 (.ixa 3 (.t 14) (.t 15)),
 oo 17 (.load true 3 (.t 16)),
 oo 18 (.call true (cf f_ref03_Count) [(.t 17)]),
 oo 19 (.bin .add (.t 12) (.t 18)),
 oo 3 (.mv (.t 19))]))
 (.keep [1, 3, 4] [1] (.reg 0 [oo 10 (.mv (.t 4)),
 oo 11 (.bin .add (.t 10) (ci 1)),
 oo 4 (.mv (.t 11))])))))
def c_ref03_Count_l0 : ACode := .keep [1, 3, 4] [1] b_ref03_Count_l0
def c_ref03_Count : ACode :=
  .seq (.reg 0 [oo 1 (.box (.t 0)),
 oo 2 (.mv (ci 0))])
 (.seq (.reg 0 [oo 3 (.mv (ci 1))])
 (.seq (.seq (.reg 0 [oo 4 (.mv (ci 0))])
 (.block 0 (.loop c_ref03_Count_l0)))
 (.keep [3] [] (.seq (.reg 0 [oo 20 (.mv (.t 3)),
 oo 2 (.mv (.t 20))])
 (.ret)))))
def n_ref03_Count : Fn := ⟨c_ref03_Count, [.t 2], false, false⟩
theorem ok_ref03_Count : fnOf Tryd.prog eff keep f_ref03_Count = some n_ref03_Count.bare := by kernel_rfl
@[simp] theorem c_ref03_Count_l0_norm (st : St) : norm c_ref03_Count_l0 st = st.keep [1, 3, 4] [1] := rfl
end Go.Proofs.YtlacnkjkcikodaaDoor.Am
end
section
set_option linter.unusedVariables false
set_option maxRecDepth 1000000
namespace Go.Proofs.YtlacnkjkcikodaaDoor.Am
open Go
def b_ref03_Fits_l0 : ACode :=
  (.seq (.seq (.reg 0 [oo 38 (.mv (.t 6)),
 oo 39 (.fld 1 (.t 5)),
 oo 40 (.load false 1 (.t 39)),
 oo 41 (.len .sl (.t 40)),
 oo 42 (.bin .lss (.t 38) (.t 41))])
 (.cond (.t 42) (.skip) (.keep [] [] (.exit 0))))
 (.keep [2, 3, 5, 6] [2, 3, 5] (.seq (.block 1 (.seq (.reg 0 [oo 45 (.fld 2 (.t 3)),
 oo 46 (.load false 1 (.t 45)),
 oo 47 (.mv (.t 6)),
 oo 48 (.ixa 3 (.t 46) (.t 47)),
 oo 49 (.load true 3 (.t 48)),
 oo 7 (.alloc [(.int .i64 0), (.int .i64 0), (.sl [] .nil)]),
 ox (.store 3 (.t 7) (.t 49))])
 (.seq (.seq (.reg 0 [oo 50 (.fld 1 (.t 5)),
 oo 51 (.load false 1 (.t 50)),
 oo 52 (.mv (.t 6)),
 oo 53 (.ixa 1 (.t 51) (.t 52)),
 oo 54 (.load false 1 (.t 53)),
 oo 55 (.bin .lss (.t 54) (ci 0))])
 (.cond (.t 55) (.seq (.seq (.reg 11 [oo 56 (.fld 0 (.t 7)),
 oo 57 (.load false 1 (.t 56)),
 oo 58 (.bin .neq (.t 57) (ci (-1))),
 oo 59 (.mv (.t 58)),
 og 60 59 false (.fld 1 (.t 7)),
 og 61 59 false (.load false 1 (.t 60)),
 og 62 59 false (.fld 1 (.t 5)),
 og 63 59 false (.load false 1 (.t 62)),
 og 64 59 false (.mv (.t 6)),
 og 65 59 false (.ixa 1 (.t 63) (.t 64)),
 og 66 59 false (.load false 1 (.t 65)),
 og 67 59 false (.bin .neq (.t 61) (.t 66)),
 oo 68 (.pick (.t 59) (.c (.bool true)) (.t 67)),
 oo 69 (.mv (.t 68)),
 og 70 69 false (.fld 2 (.t 7)),
 og 71 69 false (.load false 1 (.t 70)),
 og 72 69 false (.len .sl (.t 71)),
 og 73 69 false (.bin .gtr (.t 72) (ci 0)),
 oo 74 (.pick (.t 69) (.c (.bool true)) (.t 73))])
 (.cond (.t 74) (.seq (.reg 0 [oo 4 (.mv (ci 9))])
 (.keep [4] [] (.ret))) (.skip)))
 (.keep [2, 3, 5, 6] [2, 3, 5] (.exit 1))) (.skip)))
 (.keep [2, 3, 5, 6, 7] [2, 3, 5, 7] (.seq (.seq (.reg 0 [oo 75 (.fld 0 (.t 7)),
 oo 76 (.load false 1 (.t 75)),
 oo 77 (.bin .lss (.t 76) (ci 0))])
 (.cond (.t 77) (.seq (.reg 0 [oo 4 (.mv (ci 9))])
 (.keep [4] [] (.ret))) (.skip)))
 (.keep [2, 3, 5, 6, 7] [2, 3, 5, 7] (.seq (.seq (.reg 0 [oo 78 (.load true 4 (.t 2)),
 oo 79 (.load true 3 (.t 7)),
 oo 80 (.call true (cf f_ref03_Fits) [(.t 78), (.t 79)]),
 oo 8 (.mv (.t 80))])
 (.seq (.reg 0 [oo 81 (.mv (.t 8)),
 oo 82 (.bin .neq (.t 81) (ci 0))])
 (.cond (.t 82) (.seq (.reg 0 [oo 83 (.mv (.t 8)),
 oo 4 (.mv (.t 83))])
 (.keep [4] [] (.ret))) (.skip))))
 (.keep [2, 3, 5, 6, 7] [2, 3, 5, 7] (.seq (.reg 12 [oo 84 (.fld 3 (.t 2)),
 oo 85 (.load false 1 (.t 84)),
 oo 86 (.fld 0 (.t 7)),
 oo 87 (.load false 1 (.t 86)),
 oo 88 (.ixa 2 (.t 85) (.t 87)),
 oo 89 (.fld 0 (.t 88)),
 oo 90 (.load false 1 (.t 89)),
 oo 91 (.fld 1 (.t 5)),
 oo 92 (.load false 1 (.t 91)),
 oo 93 (.mv (.t 6)),
 oo 94 (.ixa 1 (.t 92) (.t 93)),
 oo 95 (.load false 1 (.t 94)),
 oo 96 (.bin .neq (.t 90) (.t 95))])
 (.cond (.t 96) (.seq (.reg 0 [oo 4 (.mv (ci 9))])
 (.keep [4] [] (.ret))) (.skip)))))))))))
 (.keep [2, 3, 5, 6] [2, 3, 5] (.reg 0 [oo 43 (.mv (.t 6)),
 oo 44 (.bin .add (.t 43) (ci 1)),
 oo 6 (.mv (.t 44))])))))
def c_ref03_Fits_l0 : ACode := .keep [2, 3, 5, 6] [2, 3, 5] b_ref03_Fits_l0
def c_ref03_Fits : ACode :=
  .seq (.reg 0 [oo 2 (.box (.t 0)),
 oo 3 (.box (.t 1)),
 oo 4 (.mv (ci 0))])
 (.seq (.seq (.reg 0 [oo 9 (.fld 0 (.t 3)),
 oo 10 (.load false 1 (.t 9)),
 oo 11 (.bin .lss (.t 10) (ci 0)),
 oo 12 (.mv (.t 11)),
 og 13 12 false (.fld 0 (.t 3)),
 og 14 12 false (.load false 1 (.t 13)),
 og 15 12 false (.fld 3 (.t 2)),
 og 16 12 false (.load false 1 (.t 15)),
 og 17 12 false (.len .sl (.t 16)),
 og 18 12 false (.bin .geq (.t 14) (.t 17)),
 oo 19 (.pick (.t 12) (.c (.bool true)) (.t 18)),
 oo 20 (.mv (.t 19)),
 og 21 20 false (.fld 1 (.t 3)),
 og 22 20 false (.load false 1 (.t 21)),
 og 23 20 false (.bin .neq (.t 22) (ci 0)),
 oo 24 (.pick (.t 20) (.c (.bool true)) (.t 23))])
 (.cond (.t 24) (.seq (.reg 0 [oo 4 (.mv (ci 8))])
 (.ret)) (.skip)))
 (.keep [2, 3] [2, 3] (.seq (.reg 0 [oo 25 (.fld 3 (.t 2)),
 oo 26 (.load false 1 (.t 25)),
 oo 27 (.fld 0 (.t 3)),
 oo 28 (.load false 1 (.t 27)),
 oo 29 (.ixa 2 (.t 26) (.t 28)),
 oo 30 (.load true 2 (.t 29)),
 oo 5 (.alloc [(.int .i64 0), (.sl [] .nil)]),
 ox (.store 2 (.t 5) (.t 30))])
 (.seq (.seq (.reg 0 [oo 31 (.fld 2 (.t 3)),
 oo 32 (.load false 1 (.t 31)),
 oo 33 (.len .sl (.t 32)),
 oo 34 (.fld 1 (.t 5)),
 oo 35 (.load false 1 (.t 34)),
 oo 36 (.len .sl (.t 35)),
 oo 37 (.bin .neq (.t 33) (.t 36))])
 (.cond (.t 37) (.seq (.reg 0 [oo 4 (.mv (ci 9))])
 (.ret)) (.skip)))
 (.keep [2, 3, 5] [2, 3, 5] (.seq (.seq (.reg 0 [oo 6 (.mv (ci 0))])
 (.block 0 (.loop c_ref03_Fits_l0)))
 (.keep [] [] (.seq (.reg 0 [oo 4 (.mv (ci 0))])
 (.ret)))))))))
def n_ref03_Fits : Fn := ⟨c_ref03_Fits, [.t 4], false, false⟩
theorem ok_ref03_Fits : fnOf Tryd.prog eff keep f_ref03_Fits = some n_ref03_Fits.bare := by kernel_rfl
@[simp] theorem c_ref03_Fits_l0_norm (st : St) : norm c_ref03_Fits_l0 st = st.keep [2, 3, 5, 6] [2, 3, 5] := rfl
def c_law06_BnfReads : ACode :=
  .seq (.reg 0 [oo 2 (.mv (.c (.bool false)))])
 (.seq (.seq (.reg 0 [oo 9 (.mv (.t 0)),
 oo 10 (.len .s (.t 9)),
 oo 11 (.bin .gtr (.t 10) (ci 3000))])
 (.cond (.t 11) (.seq (.reg 0 [oo 12 (.call true (cf f_none_54) []),
 oo 2 (.mv (.t 12))])
 (.ret)) (.skip)))
 (.keep [0] [] (.seq (.reg 0 [oo 14 (.mv (.t 0)),
 oo 15 (.call true (cf f_bnf_Read) [(.t 14)]),
 oo 13 (.mv (.t 15)),
 oo 16 (.ext (.t 13) 0),
 oo 17 (.ext (.t 13) 1),
 oo 3 (.alloc [(.sl [] .nil), (.sl [] .nil), (.int .i64 0), (.sl [] .nil)]),
 oo 4 (.alloc [(.int .i64 0), (.int .i64 0)]),
 ox (.store 4 (.t 3) (.t 16)),
 ox (.store 2 (.t 4) (.t 17))])
 (.seq (.reg 0 [oo 19 (.mv (.t 0)),
 oo 20 (.call true (cf f_ref06_Read) [(.t 19)]),
 oo 18 (.mv (.t 20)),
 oo 21 (.ext (.t 18) 0),
 oo 22 (.ext (.t 18) 1),
 oo 23 (.ext (.t 18) 2),
 oo 5 (.alloc [(.sl [] .nil), (.sl [] .nil), (.int .i64 0), (.sl [] .nil)]),
 ox (.store 4 (.t 5) (.t 21)),
 oo 6 (.mv (.t 22)),
 oo 7 (.mv (.t 23))])
 (.seq (.seq (.reg 14 [oo 24 (.fld 1 (.t 4)),
 oo 25 (.load false 1 (.t 24)),
 oo 26 (.mv (.t 7)),
 oo 27 (.bin .neq (.t 25) (.t 26)),
 oo 28 (.mv (.t 27)),
 og 29 28 false (.fld 0 (.t 4)),
 og 30 28 false (.load false 1 (.t 29)),
 og 31 28 false (.mv (.t 6)),
 og 32 28 false (.bin .neq (.t 30) (.t 31)),
 oo 33 (.pick (.t 28) (.c (.bool true)) (.t 32)),
 oo 34 (.mv (.t 33)),
 og 35 34 false (.load true 4 (.t 3)),
 og 36 34 false (.call true (cf f_law02_Of) [(.t 35)]),
 og 37 34 false (.load true 4 (.t 5)),
 og 38 34 false (.call true (cf f_ref02_Alike) [(.t 36), (.t 37)]),
 og 39 34 false (.un .not (.t 38)),
 oo 40 (.pick (.t 34) (.c (.bool true)) (.t 39))])
 (.cond (.t 40) (.seq (.reg 0 [oo 2 (.mv (.c (.bool false)))])
 (.ret)) (.skip)))
 (.keep [0, 3, 7] [3] (.seq (.reg 0 [oo 41 (.mv (.t 0)),
 oo 42 (.call true (cf f_none_64) [(.t 41)]),
 oo 8 (.alloc [(.sl [] .nil), (.sl [] .nil), (.int .i64 0), (.sl [] .nil)]),
 ox (.store 4 (.t 8) (.t 42))])
 (.seq (.seq (.reg 0 [oo 43 (.mv (.t 7)),
 oo 44 (.bin .neq (.t 43) (ci 0))])
 (.cond (.t 44) (.seq (.reg 0 [oo 45 (.call true (cf f_none_54) []),
 oo 46 (.mv (.t 45)),
 og 47 46 true (.fld 0 (.t 8)),
 og 48 46 true (.load false 1 (.t 47)),
 og 49 46 true (.len .sl (.t 48)),
 og 50 46 true (.bin .eql (.t 49) (ci 1)),
 oo 51 (.pick (.t 46) (.t 50) (.c (.bool false))),
 oo 52 (.mv (.t 51)),
 og 53 52 true (.fld 0 (.t 8)),
 og 54 52 true (.load false 1 (.t 53)),
 og 55 52 true (.ixa 1 (.t 54) (ci 0)),
 og 56 52 true (.load false 1 (.t 55)),
 og 57 52 true (.bin .eql (.t 56) (.c (.str ⟨#[83]⟩))),
 oo 58 (.pick (.t 52) (.t 57) (.c (.bool false))),
 oo 59 (.mv (.t 58)),
 og 60 59 true (.fld 1 (.t 8)),
 og 61 59 true (.load false 1 (.t 60)),
 og 62 59 true (.len .sl (.t 61)),
 og 63 59 true (.bin .eql (.t 62) (ci 0)),
 oo 64 (.pick (.t 59) (.t 63) (.c (.bool false))),
 oo 65 (.mv (.t 64)),
 og 66 65 true (.fld 3 (.t 8)),
 og 67 65 true (.load false 1 (.t 66)),
 og 68 65 true (.len .sl (.t 67)),
 og 69 65 true (.bin .eql (.t 68) (ci 0)),
 oo 70 (.pick (.t 65) (.t 69) (.c (.bool false))),
 oo 71 (.mv (.t 70)),
 og 72 71 true (.fld 2 (.t 8)),
 og 73 71 true (.load false 1 (.t 72)),
 og 74 71 true (.bin .eql (.t 73) (ci 0)),
 oo 75 (.pick (.t 71) (.t 74) (.c (.bool false))),
 oo 2 (.mv (.t 75))])
 (.ret)) (.skip)))
 (.keep [3, 8] [3, 8] (.seq (.reg 0 [oo 76 (.call true (cf f_none_54) []),
 oo 77 (.mv (.t 76)),
 og 78 77 true (.load true 4 (.t 8)),
 og 79 77 true (.load true 4 (.t 3)),
 og 80 77 true (.call true (cf f_gram_Grammar_Same) [(.t 78), (.t 79)]),
 oo 81 (.pick (.t 77) (.t 80) (.c (.bool false))),
 oo 2 (.mv (.t 81))])
 (.ret)))))))))))
def n_law06_BnfReads : Fn := ⟨c_law06_BnfReads, [.t 2], false, false⟩
theorem ok_law06_BnfReads : fnOf Tryd.prog eff keep f_law06_BnfReads = some n_law06_BnfReads.bare := by kernel_rfl
def c_bnf_Read : ACode :=
  .seq (.reg 0 [oo 2 (.alloc [(.sl [] .nil), (.sl [] .nil), (.int .i64 0), (.sl [] .nil)]),
 oo 3 (.alloc [(.int .i64 0), (.int .i64 0)])])
 (.seq (.reg 0 [oo 4 (.mv (.t 0)),
 oo 5 (.call true (cf f_none_113) [(.t 4)]),
 oo 6 (.ext (.t 5) 0),
 oo 7 (.ext (.t 5) 1),
 ox (.store 4 (.t 2) (.t 6)),
 ox (.store 2 (.t 3) (.t 7))])
 (.ret))
def n_bnf_Read : Fn := ⟨c_bnf_Read, [.c 2 4 true, .c 3 2 true], false, false⟩
theorem ok_bnf_Read : fnOf Tryd.prog eff keep f_bnf_Read = some n_bnf_Read.bare := by kernel_rfl
def b_ref06_Read_l0 : ACode :=
  (.seq (.seq (.reg 0 [oo 27 (.mv (.t 11)),
 oo 28 (.mv (.t 5)),
 oo 29 (.len .sl (.t 28)),
 oo 30 (.bin .lss (.t 27) (.t 29))])
 (.cond (.t 30) (.skip) (.keep [2] [2] (.exit 0))))
 (.keep [2, 5, 8, 9, 10, 11] [2, 8, 10] (.seq (.block 1 (.seq (.reg 0 [oo 33 (.mv (.t 5)),
 oo 34 (.mv (.t 11)),
 oo 35 (.ixa 3 (.t 33) (.t 34)),
 oo 36 (.load true 3 (.t 35)),
 oo 12 (.alloc [(.int .i64 0), (.str ⟨#[]⟩), (.int .i64 0)]),
 ox (.store 3 (.t 12) (.t 36))])
 (.seq (.reg 0 [oo 13 (.mv (ci 0))])
 (.seq (.seq (.reg 0 [oo 37 (.mv (.t 9)),
 oo 38 (.bin .eql (.t 37) (ci 0)),
 oo 39 (.mv (.t 38)),
 og 40 39 false (.mv (.t 9)),
 og 41 39 false (.bin .eql (.t 40) (ci 2)),
 oo 42 (.pick (.t 39) (.c (.bool true)) (.t 41)),
 oo 43 (.mv (.t 42)),
 og 44 43 true (.fld 0 (.t 12)),
 og 45 43 true (.load false 1 (.t 44)),
 og 46 43 true (.bin .eql (.t 45) (ci 0)),
 oo 47 (.pick (.t 43) (.t 46) (.c (.bool false)))])
 (.cond (.t 47) (.seq (.seq (.reg 0 [oo 48 (.mv (.t 9)),
 oo 49 (.bin .eql (.t 48) (ci 2)),
 oo 50 (.mv (.t 49)),
 og 51 50 true (.fld 1 (.t 10)),
 og 52 50 true (.load false 1 (.t 51)),
 og 53 50 true (.len .sl (.t 52)),
 og 54 50 true (.bin .eql (.t 53) (ci 64)),
 oo 55 (.pick (.t 50) (.t 54) (.c (.bool false)))])
 (.cond (.t 55) (.seq (.reg 4 [oo 56 (.build [(.sl [] .nil), (.sl [] .nil), (.int .i64 0), (.sl [] .nil)] []),
 oo 57 (.fld 2 (.t 12)),
 oo 58 (.load false 1 (.t 57)),
 ox (.store 4 (.t 2) (.t 56)),
 oo 3 (.mv (.t 58)),
 oo 4 (.mv (ci 5))])
 (.keep [2, 3, 4] [2] (.ret))) (.skip)))
 (.keep [2, 5, 8, 9, 10, 11, 12] [2, 8, 10, 12] (.seq (.seq (.reg 0 [oo 59 (.fld 0 (.t 8)),
 oo 60 (.load false 1 (.t 59)),
 oo 61 (.fld 1 (.t 12)),
 oo 62 (.load false 1 (.t 61)),
 oo 63 (.call true (cf f_ref06_place) [(.t 60), (.t 62)]),
 oo 64 (.bin .lss (.t 63) (ci 0))])
 (.cond (.t 64) (.seq (.seq (.reg 0 [oo 65 (.fld 0 (.t 8)),
 oo 66 (.load false 1 (.t 65)),
 oo 67 (.len .sl (.t 66)),
 oo 68 (.bin .eql (.t 67) (ci 2048))])
 (.cond (.t 68) (.seq (.reg 4 [oo 69 (.build [(.sl [] .nil), (.sl [] .nil), (.int .i64 0), (.sl [] .nil)] []),
 oo 70 (.fld 2 (.t 12)),
 oo 71 (.load false 1 (.t 70)),
 ox (.store 4 (.t 2) (.t 69)),
 oo 3 (.mv (.t 71)),
 oo 4 (.mv (ci 11))])
 (.keep [2, 3, 4] [2] (.ret))) (.skip)))
 (.keep [2, 5, 8, 9, 10, 11, 12] [2, 8, 10, 12] (.reg 7 [oo 72 (.bslice [(.str ⟨#[]⟩)] 0 []),
 oo 73 (.fld 0 (.t 8)),
 oo 74 (.load false 1 (.t 73)),
 oo 75 (.app 1 (.t 72) (.t 74)),
 oo 76 (.fld 1 (.t 12)),
 oo 77 (.load false 1 (.t 76)),
 oo 78 (.bslice [(.str ⟨#[]⟩)] 1 [(0, (.t 77))]),
 oo 79 (.app 1 (.t 75) (.t 78)),
 oo 80 (.fld 0 (.t 8)),
 ox (.store 1 (.t 80) (.t 79))]))) (.skip)))
 (.keep [2, 5, 8, 9, 10, 11, 12] [2, 8, 10, 12] (.reg 0 [oo 81 (.fld 0 (.t 8)),
 oo 82 (.load false 1 (.t 81)),
 oo 83 (.fld 1 (.t 12)),
 oo 84 (.load false 1 (.t 83)),
 oo 85 (.call true (cf f_ref06_place) [(.t 82), (.t 84)]),
 oo 13 (.mv (.t 85))]))))) (.skip)))
 (.keep [2, 5, 8, 9, 10, 11, 12, 13] [2, 8, 10, 12] (.seq (.seq (.reg 0 [oo 86 (.mv (.t 9)),
 oo 87 (.bin .eql (.t 86) (ci 2)),
 oo 88 (.mv (.t 87)),
 og 89 88 true (.fld 0 (.t 12)),
 og 90 88 true (.load false 1 (.t 89)),
 og 91 88 true (.bin .eql (.t 90) (ci 1)),
 oo 92 (.pick (.t 88) (.t 91) (.c (.bool false)))])
 (.cond (.t 92) (.seq (.seq (.reg 0 [oo 93 (.fld 1 (.t 10)),
 oo 94 (.load false 1 (.t 93)),
 oo 95 (.len .sl (.t 94)),
 oo 96 (.bin .eql (.t 95) (ci 64))])
 (.cond (.t 96) (.seq (.reg 4 [oo 97 (.build [(.sl [] .nil), (.sl [] .nil), (.int .i64 0), (.sl [] .nil)] []),
 oo 98 (.fld 2 (.t 12)),
 oo 99 (.load false 1 (.t 98)),
 ox (.store 4 (.t 2) (.t 97)),
 oo 3 (.mv (.t 99)),
 oo 4 (.mv (ci 5))])
 (.keep [2, 3, 4] [2] (.ret))) (.skip)))
 (.keep [2, 5, 8, 9, 10, 11, 12] [2, 8, 10, 12] (.seq (.seq (.reg 0 [oo 100 (.fld 1 (.t 8)),
 oo 101 (.load false 1 (.t 100)),
 oo 102 (.fld 1 (.t 12)),
 oo 103 (.load false 1 (.t 102)),
 oo 104 (.call true (cf f_ref06_place) [(.t 101), (.t 103)]),
 oo 105 (.bin .lss (.t 104) (ci 0))])
 (.cond (.t 105) (.seq (.seq (.reg 0 [oo 106 (.fld 1 (.t 8)),
 oo 107 (.load false 1 (.t 106)),
 oo 108 (.len .sl (.t 107)),
 oo 109 (.bin .eql (.t 108) (ci 2048))])
 (.cond (.t 109) (.seq (.reg 4 [oo 110 (.build [(.sl [] .nil), (.sl [] .nil), (.int .i64 0), (.sl [] .nil)] []),
 oo 111 (.fld 2 (.t 12)),
 oo 112 (.load false 1 (.t 111)),
 ox (.store 4 (.t 2) (.t 110)),
 oo 3 (.mv (.t 112)),
 oo 4 (.mv (ci 11))])
 (.keep [2, 3, 4] [2] (.ret))) (.skip)))
 (.keep [2, 5, 8, 9, 10, 11, 12] [2, 8, 10, 12] (.reg 7 [oo 113 (.bslice [(.str ⟨#[]⟩)] 0 []),
 oo 114 (.fld 1 (.t 8)),
 oo 115 (.load false 1 (.t 114)),
 oo 116 (.app 1 (.t 113) (.t 115)),
 oo 117 (.fld 1 (.t 12)),
 oo 118 (.load false 1 (.t 117)),
 oo 119 (.bslice [(.str ⟨#[]⟩)] 1 [(0, (.t 118))]),
 oo 120 (.app 1 (.t 116) (.t 119)),
 oo 121 (.fld 1 (.t 8)),
 ox (.store 1 (.t 121) (.t 120))]))) (.skip)))
 (.keep [2, 5, 8, 9, 10, 11, 12] [2, 8, 10, 12] (.reg 0 [oo 122 (.fld 1 (.t 8)),
 oo 123 (.load false 1 (.t 122)),
 oo 124 (.fld 1 (.t 12)),
 oo 125 (.load false 1 (.t 124)),
 oo 126 (.call true (cf f_ref06_place) [(.t 123), (.t 125)]),
 oo 127 (.bin .sub (ci (-1)) (.t 126)),
 oo 13 (.mv (.t 127))]))))) (.skip)))
 (.keep [2, 5, 8, 9, 10, 11, 12, 13] [2, 8, 10, 12] (.block 2 (.seq (.reg 0 [oo 132 (.mv (.t 9)),
 oo 133 (.bin .eql (.t 132) (ci 0)),
 oo 134 (.mv (.t 133)),
 og 135 134 true (.fld 0 (.t 12)),
 og 136 134 true (.load false 1 (.t 135)),
 og 137 134 true (.bin .eql (.t 136) (ci 0)),
 oo 138 (.pick (.t 134) (.t 137) (.c (.bool false))),
 oo 131 (.mv (.t 138))])
 (.cond (.t 131) (.seq (.reg 0 [oo 139 (.mv (.t 13)),
 oo 140 (.build [(.int .i64 0), (.sl [] .nil)] [(0, 1, (.t 139))]),
 ox (.store 2 (.t 10) (.t 140))])
 (.reg 0 [oo 9 (.mv (ci 1))])) (.seq (.reg 0 [oo 142 (.mv (.t 9)),
 oo 143 (.bin .eql (.t 142) (ci 0)),
 oo 144 (.mv (.t 143)),
 og 145 144 true (.fld 0 (.t 12)),
 og 146 144 true (.load false 1 (.t 145)),
 og 147 144 true (.bin .eql (.t 146) (ci 5)),
 oo 148 (.pick (.t 144) (.t 147) (.c (.bool false))),
 oo 149 (.mv (.t 148)),
 og 150 149 true (.mv (.t 11)),
 og 151 149 true (.bin .gtr (.t 150) (ci 0)),
 oo 152 (.pick (.t 149) (.t 151) (.c (.bool false))),
 oo 141 (.mv (.t 152))])
 (.cond (.t 141) (.seq (.reg 0 [oo 153 (.load true 4 (.t 8)),
 ox (.store 4 (.t 2) (.t 153)),
 oo 3 (.mv (ci 0)),
 oo 4 (.mv (ci 0))])
 (.keep [2, 3, 4] [2] (.ret))) (.seq (.reg 0 [oo 155 (.mv (.t 9)),
 oo 156 (.bin .eql (.t 155) (ci 1)),
 oo 157 (.mv (.t 156)),
 og 158 157 true (.fld 0 (.t 12)),
 og 159 157 true (.load false 1 (.t 158)),
 og 160 157 true (.bin .eql (.t 159) (ci 2)),
 oo 161 (.pick (.t 157) (.t 160) (.c (.bool false))),
 oo 154 (.mv (.t 161))])
 (.cond (.t 154) (.reg 0 [oo 9 (.mv (ci 2))]) (.seq (.reg 0 [oo 163 (.mv (.t 9)),
 oo 164 (.bin .eql (.t 163) (ci 2)),
 oo 165 (.mv (.t 164)),
 og 166 165 true (.fld 0 (.t 12)),
 og 167 165 true (.load false 1 (.t 166)),
 og 168 165 true (.bin .lss (.t 167) (ci 2)),
 oo 169 (.pick (.t 165) (.t 168) (.c (.bool false))),
 oo 162 (.mv (.t 169))])
 (.cond (.t 162) (.reg 0 [oo 170 (.bslice [(.int .i64 0)] 0 []),
 oo 171 (.fld 1 (.t 10)),
 oo 172 (.load false 1 (.t 171)),
 oo 173 (.app 1 (.t 170) (.t 172)),
 oo 174 (.mv (.t 13)),
 oo 175 (.bslice [(.int .i64 0)] 1 [(0, (.t 174))]),
 oo 176 (.app 1 (.t 173) (.t 175)),
 oo 177 (.fld 1 (.t 10)),
 ox (.store 1 (.t 177) (.t 176))]) (.seq (.reg 0 [oo 179 (.mv (.t 9)),
 oo 180 (.bin .eql (.t 179) (ci 2)),
 oo 181 (.mv (.t 180)),
 og 182 181 true (.fld 0 (.t 12)),
 og 183 181 true (.load false 1 (.t 182)),
 og 184 181 true (.bin .eql (.t 183) (ci 3)),
 og 185 181 true (.mv (.t 184)),
 og 186 185 false (.fld 0 (.t 12)),
 og 187 185 false (.load false 1 (.t 186)),
 og 188 185 false (.bin .eql (.t 187) (ci 4)),
 og 189 181 true (.pick (.t 185) (.c (.bool true)) (.t 188)),
 oo 190 (.pick (.t 181) (.t 189) (.c (.bool false))),
 oo 178 (.mv (.t 190))])
 (.cond (.t 178) (.seq (.seq (.reg 0 [oo 191 (.fld 3 (.t 8)),
 oo 192 (.load false 1 (.t 191)),
 oo 193 (.load true 2 (.t 10)),
 oo 194 (.call true (cf f_ref02_Find) [(.t 192), (.t 193)]),
 oo 195 (.bin .lss (.t 194) (ci 0))])
 (.cond (.t 195) (.seq (.seq (.reg 0 [oo 196 (.fld 3 (.t 8)),
 oo 197 (.load false 1 (.t 196)),
 oo 198 (.len .sl (.t 197)),
 oo 199 (.bin .eql (.t 198) (ci 8192))])
 (.cond (.t 199) (.seq (.reg 4 [oo 200 (.build [(.sl [] .nil), (.sl [] .nil), (.int .i64 0), (.sl [] .nil)] []),
 oo 201 (.fld 2 (.t 12)),
 oo 202 (.load false 1 (.t 201)),
 ox (.store 4 (.t 2) (.t 200)),
 oo 3 (.mv (.t 202)),
 oo 4 (.mv (ci 11))])
 (.keep [2, 3, 4] [2] (.ret))) (.skip)))
 (.keep [2, 5, 8, 9, 10, 11, 12] [2, 8, 10, 12] (.reg 6 [oo 203 (.bslice [(.int .i64 0), (.sl [] .nil)] 0 []),
 oo 204 (.fld 3 (.t 8)),
 oo 205 (.load false 1 (.t 204)),
 oo 206 (.app 2 (.t 203) (.t 205)),
 oo 207 (.load true 2 (.t 10)),
 oo 208 (.bslice [(.int .i64 0), (.sl [] .nil)] 1 [(0, (.t 207))]),
 oo 209 (.app 2 (.t 206) (.t 208)),
 oo 210 (.fld 3 (.t 8)),
 ox (.store 1 (.t 210) (.t 209))]))) (.skip)))
 (.keep [2, 5, 8, 9, 10, 11, 12] [2, 8, 10, 12] (.seq (.reg 0 [oo 211 (.fld 0 (.t 10)),
 oo 212 (.load false 1 (.t 211)),
 oo 213 (.build [(.int .i64 0), (.sl [] .nil)] [(0, 1, (.t 212))]),
 ox (.store 2 (.t 10) (.t 213))])
 (.seq (.reg 0 [oo 214 (.fld 0 (.t 12)),
 oo 215 (.load false 1 (.t 214)),
 oo 216 (.bin .eql (.t 215) (ci 4))])
 (.cond (.t 216) (.reg 0 [oo 9 (.mv (ci 0))]) (.skip)))))) (.seq (.reg 4 [oo 128 (.build [(.sl [] .nil), (.sl [] .nil), (.int .i64 0), (.sl [] .nil)] []),
 oo 129 (.fld 2 (.t 12)),
 oo 130 (.load false 1 (.t 129)),
 ox (.store 4 (.t 2) (.t 128)),
 oo 3 (.mv (.t 130)),
 oo 4 (.mv (ci 4))])
 (.keep [2, 3, 4] [2] (.ret)))))))))))))))))))))
 (.keep [2, 5, 8, 9, 10, 11] [2, 8, 10] (.reg 0 [oo 31 (.mv (.t 11)),
 oo 32 (.bin .add (.t 31) (ci 1)),
 oo 11 (.mv (.t 32))])))))
def c_ref06_Read_l0 : ACode := .keep [2, 5, 8, 9, 10, 11] [2, 8, 10] b_ref06_Read_l0
def c_ref06_Read : ACode :=
  .seq (.reg 0 [oo 2 (.alloc [(.sl [] .nil), (.sl [] .nil), (.int .i64 0), (.sl [] .nil)]),
 oo 3 (.mv (ci 0)),
 oo 4 (.mv (ci 0))])
 (.seq (.reg 0 [oo 15 (.mv (.t 0)),
 oo 16 (.call true (cf f_ref05_Lex) [(.t 15)]),
 oo 14 (.mv (.t 16)),
 oo 17 (.ext (.t 14) 0),
 oo 18 (.ext (.t 14) 1),
 oo 19 (.ext (.t 14) 2),
 oo 5 (.mv (.t 17)),
 oo 6 (.mv (.t 18)),
 oo 7 (.mv (.t 19))])
 (.seq (.seq (.reg 0 [oo 20 (.mv (.t 7)),
 oo 21 (.bin .neq (.t 20) (ci 0))])
 (.cond (.t 21) (.seq (.reg 0 [oo 22 (.build [(.sl [] .nil), (.sl [] .nil), (.int .i64 0), (.sl [] .nil)] []),
 oo 23 (.mv (.t 6)),
 oo 24 (.mv (.t 7)),
 ox (.store 4 (.t 2) (.t 22)),
 oo 3 (.mv (.t 23)),
 oo 4 (.mv (.t 24))])
 (.ret)) (.skip)))
 (.keep [2, 5] [2] (.seq (.reg 0 [oo 25 (.build [(.sl [] .nil), (.sl [] .nil), (.int .i64 0), (.sl [] .nil)] []),
 oo 8 (.alloc [(.sl [] .nil), (.sl [] .nil), (.int .i64 0), (.sl [] .nil)]),
 ox (.store 4 (.t 8) (.t 25))])
 (.seq (.reg 0 [oo 9 (.mv (ci 0))])
 (.seq (.reg 0 [oo 26 (.build [(.int .i64 0), (.sl [] .nil)] []),
 oo 10 (.alloc [(.int .i64 0), (.sl [] .nil)]),
 ox (.store 2 (.t 10) (.t 26))])
 (.seq (.seq (.reg 0 [oo 11 (.mv (ci 0))])
 (.block 0 (.loop c_ref06_Read_l0)))
 (.keep [2] [2] (.seq (.reg 0 [oo 217 (.build [(.sl [] .nil), (.sl [] .nil), (.int .i64 0), (.sl [] .nil)] []),
 ox (.store 4 (.t 2) (.t 217)),
 oo 3 (.mv (ci 0)),
 oo 4 (.mv (ci 4))])
 (.ret))))))))))
def n_ref06_Read : Fn := ⟨c_ref06_Read, [.c 2 4 true, .t 3, .t 4], false, false⟩
theorem ok_ref06_Read : fnOf Tryd.prog eff keep f_ref06_Read = some n_ref06_Read.bare := by kernel_rfl
@[simp] theorem c_ref06_Read_l0_norm (st : St) : norm c_ref06_Read_l0 st = st.keep [2, 5, 8, 9, 10, 11] [2, 8, 10] := rfl
def b_ref05_Lex_l0 : ACode :=
  (.seq (.seq (.reg 0 [oo 37 (.mv (.t 6)),
 oo 38 (.mv (.t 0)),
 oo 39 (.len .s (.t 38)),
 oo 40 (.bin .lss (.t 37) (.t 39)),
 oo 41 (.mv (.t 40)),
 og 42 41 true (.mv (.t 0)),
 og 43 41 true (.mv (.t 6)),
 og 44 41 true (.ixs (.t 42) (.t 43)),
 og 45 41 true (.bin .neq (.t 44) (.c (.int .u8 10))),
 oo 46 (.pick (.t 41) (.t 45) (.c (.bool false)))])
 (.cond (.t 46) (.skip) (.keep [0, 1470005, 6] [] (.exit 2))))
 (.keep [0, 1470005, 6] [] (.block 3 (.reg 0 [oo 47 (.mv (.t 6)),
 oo 48 (.bin .add (.t 47) (ci 1)),
 oo 6 (.mv (.t 48))]))))
def c_ref05_Lex_l0 : ACode := .keep [0, 1470005, 6] [] b_ref05_Lex_l0
def b_ref05_Lex_l1 : ACode :=
  (.seq (.seq (.reg 0 [oo 57 (.mv (.t 9)),
 oo 58 (.mv (.t 0)),
 oo 59 (.len .s (.t 58)),
 oo 60 (.bin .lss (.t 57) (.t 59)),
 oo 61 (.mv (.t 60)),
 og 62 61 true (.mv (.t 0)),
 og 63 61 true (.mv (.t 9)),
 og 64 61 true (.ixs (.t 62) (.t 63)),
 og 65 61 true (.bin .neq (.t 64) (.c (.int .u8 62))),
 oo 66 (.pick (.t 61) (.t 65) (.c (.bool false)))])
 (.cond (.t 66) (.skip) (.keep [0, 1470005, 6, 8, 9] [8] (.exit 5))))
 (.keep [0, 1470005, 6, 8, 9] [8] (.block 6 (.reg 0 [oo 67 (.mv (.t 9)),
 oo 68 (.bin .add (.t 67) (ci 1)),
 oo 9 (.mv (.t 68))]))))
def c_ref05_Lex_l1 : ACode := .keep [0, 1470005, 6, 8, 9] [8] b_ref05_Lex_l1
def b_ref05_Lex_l2 : ACode :=
  (.seq (.seq (.reg 0 [oo 16 (.mv (.t 6)),
 oo 17 (.mv (.t 0)),
 oo 18 (.len .s (.t 17)),
 oo 19 (.bin .lss (.t 16) (.t 18))])
 (.cond (.t 19) (.skip) (.keep [0, 1470005] [] (.exit 0))))
 (.keep [0, 1470005, 6] [] (.block 1 (.seq (.reg 0 [oo 20 (.mv (.t 0)),
 oo 21 (.mv (.t 6)),
 oo 22 (.ixs (.t 20) (.t 21)),
 oo 7 (.mv (.t 22))])
 (.seq (.seq (.reg 0 [oo 23 (.mv (.t 7)),
 oo 24 (.bin .eql (.t 23) (.c (.int .u8 32))),
 oo 25 (.mv (.t 24)),
 og 26 25 false (.mv (.t 7)),
 og 27 25 false (.bin .eql (.t 26) (.c (.int .u8 9))),
 oo 28 (.pick (.t 25) (.c (.bool true)) (.t 27)),
 oo 29 (.mv (.t 28)),
 og 30 29 false (.mv (.t 7)),
 og 31 29 false (.bin .eql (.t 30) (.c (.int .u8 10))),
 oo 32 (.pick (.t 29) (.c (.bool true)) (.t 31))])
 (.cond (.t 32) (.seq (.reg 0 [oo 33 (.mv (.t 6)),
 oo 34 (.bin .add (.t 33) (ci 1)),
 oo 6 (.mv (.t 34))])
 (.exit 1)) (.skip)))
 (.keep [0, 1470005, 6, 7] [] (.seq (.seq (.reg 0 [oo 35 (.mv (.t 7)),
 oo 36 (.bin .eql (.t 35) (.c (.int .u8 35)))])
 (.cond (.t 36) (.seq (.block 2 (.loop c_ref05_Lex_l0))
 (.keep [0, 1470005, 6] [] (.exit 1))) (.skip)))
 (.keep [0, 1470005, 6, 7] [] (.seq (.reg 0 [oo 49 (.mv (.t 6)),
 oo 50 (.build [(.int .i64 0), (.str ⟨#[]⟩), (.int .i64 0)] [(2, 1, (.t 49))]),
 oo 8 (.alloc [(.int .i64 0), (.str ⟨#[]⟩), (.int .i64 0)]),
 ox (.store 3 (.t 8) (.t 50))])
 (.seq (.seq (.reg 0 [oo 51 (.mv (.t 7))])
 (.block 4 (.seq (.reg 0 [oo 54 (.bin .eql (.t 51) (.c (.int .u8 60))),
 oo 53 (.mv (.t 54))])
 (.cond (.t 53) (.seq (.reg 0 [oo 55 (.mv (.t 6)),
 oo 56 (.bin .add (.t 55) (ci 1)),
 oo 9 (.mv (.t 56))])
 (.seq (.block 5 (.loop c_ref05_Lex_l1))
 (.keep [0, 1470005, 6, 8, 9] [8] (.seq (.seq (.reg 0 [oo 69 (.mv (.t 9)),
 oo 70 (.mv (.t 0)),
 oo 71 (.len .s (.t 70)),
 oo 72 (.bin .eql (.t 69) (.t 71))])
 (.cond (.t 72) (.seq (.reg 0 [oo 73 (.mv (.t 6)),
 oo 2 (.mv (.c (.sl [] .nil))),
 oo 3 (.mv (.t 73)),
 oo 4 (.mv (ci 7))])
 (.keep [2, 3, 4] [] (.ret))) (.skip)))
 (.keep [0, 1470005, 6, 8, 9] [8] (.seq (.reg 0 [oo 74 (.mv (.t 0)),
 oo 75 (.mv (.t 6)),
 oo 76 (.bin .add (.t 75) (ci 1)),
 oo 77 (.mv (.t 9)),
 oo 78 (.slS (.t 74) (some (.t 76)) (some (.t 77))),
 oo 79 (.fld 1 (.t 8)),
 ox (.store 1 (.t 79) (.t 78))])
 (.seq (.seq (.reg 0 [oo 80 (.fld 1 (.t 8)),
 oo 81 (.load false 1 (.t 80)),
 oo 82 (.call true (cf f_ref01_Name) [(.t 81)]),
 oo 83 (.un .not (.t 82))])
 (.cond (.t 83) (.seq (.reg 0 [oo 84 (.mv (.t 6)),
 oo 2 (.mv (.c (.sl [] .nil))),
 oo 3 (.mv (.t 84)),
 oo 4 (.mv (ci 1))])
 (.keep [2, 3, 4] [] (.ret))) (.skip)))
 (.keep [0, 1470005, 8, 9] [8] (.reg 0 [oo 85 (.mv (.t 9)),
 oo 86 (.bin .add (.t 85) (ci 1)),
 oo 6 (.mv (.t 86))]))))))))) (.seq (.reg 0 [oo 88 (.bin .eql (.t 51) (.c (.int .u8 34))),
 oo 87 (.mv (.t 88))])
 (.cond (.t 87) (.seq (.reg 0 [oo 90 (.mv (.t 0)),
 oo 91 (.mv (.t 6)),
 oo 92 (.slS (.t 90) (some (.t 91)) none),
 oo 93 (.call true (cf f_ref01_Unquote) [(.t 92)]),
 oo 89 (.mv (.t 93)),
 oo 94 (.ext (.t 89) 0),
 oo 95 (.ext (.t 89) 1),
 oo 96 (.ext (.t 89) 2),
 oo 10 (.mv (.t 94)),
 oo 11 (.mv (.t 95)),
 oo 12 (.mv (.t 96))])
 (.seq (.seq (.reg 0 [oo 97 (.mv (.t 12)),
 oo 98 (.bin .neq (.t 97) (ci 0))])
 (.cond (.t 98) (.seq (.reg 0 [oo 99 (.mv (.t 6)),
 oo 100 (.mv (.t 12)),
 oo 2 (.mv (.c (.sl [] .nil))),
 oo 3 (.mv (.t 99)),
 oo 4 (.mv (.t 100))])
 (.keep [2, 3, 4] [] (.ret))) (.skip)))
 (.keep [0, 1470005, 6, 8, 10010, 11] [8] (.seq (.reg 0 [oo 101 (.mv (.t 10)),
 oo 102 (.fld 0 (.t 8)),
 ox (.store 1 (.t 102) (ci 1)),
 oo 103 (.fld 1 (.t 8)),
 ox (.store 1 (.t 103) (.t 101))])
 (.reg 0 [oo 104 (.mv (.t 6)),
 oo 105 (.mv (.t 11)),
 oo 106 (.bin .add (.t 104) (.t 105)),
 oo 6 (.mv (.t 106))]))))) (.seq (.reg 0 [oo 108 (.bin .eql (.t 51) (.c (.int .u8 58))),
 oo 107 (.mv (.t 108))])
 (.cond (.t 107) (.seq (.seq (.reg 0 [oo 109 (.mv (.t 6)),
 oo 110 (.bin .add (.t 109) (ci 2)),
 oo 111 (.mv (.t 0)),
 oo 112 (.len .s (.t 111)),
 oo 113 (.bin .geq (.t 110) (.t 112)),
 oo 114 (.mv (.t 113)),
 og 115 114 false (.mv (.t 0)),
 og 116 114 false (.mv (.t 6)),
 og 117 114 false (.bin .add (.t 116) (ci 1)),
 og 118 114 false (.ixs (.t 115) (.t 117)),
 og 119 114 false (.bin .neq (.t 118) (.c (.int .u8 58))),
 oo 120 (.pick (.t 114) (.c (.bool true)) (.t 119)),
 oo 121 (.mv (.t 120)),
 og 122 121 false (.mv (.t 0)),
 og 123 121 false (.mv (.t 6)),
 og 124 121 false (.bin .add (.t 123) (ci 2)),
 og 125 121 false (.ixs (.t 122) (.t 124)),
 og 126 121 false (.bin .neq (.t 125) (.c (.int .u8 61))),
 oo 127 (.pick (.t 121) (.c (.bool true)) (.t 126))])
 (.cond (.t 127) (.seq (.reg 0 [oo 128 (.mv (.t 6)),
 oo 2 (.mv (.c (.sl [] .nil))),
 oo 3 (.mv (.t 128)),
 oo 4 (.mv (ci 6))])
 (.keep [2, 3, 4] [] (.ret))) (.skip)))
 (.keep [0, 1470005, 6, 8] [8] (.seq (.reg 0 [oo 129 (.fld 0 (.t 8)),
 ox (.store 1 (.t 129) (ci 2))])
 (.reg 0 [oo 130 (.mv (.t 6)),
 oo 131 (.bin .add (.t 130) (ci 3)),
 oo 6 (.mv (.t 131))])))) (.seq (.reg 0 [oo 133 (.bin .eql (.t 51) (.c (.int .u8 124))),
 oo 132 (.mv (.t 133))])
 (.cond (.t 132) (.seq (.reg 0 [oo 134 (.fld 0 (.t 8)),
 ox (.store 1 (.t 134) (ci 3))])
 (.reg 0 [oo 135 (.mv (.t 6)),
 oo 136 (.bin .add (.t 135) (ci 1)),
 oo 6 (.mv (.t 136))])) (.seq (.reg 0 [oo 138 (.bin .eql (.t 51) (.c (.int .u8 59))),
 oo 137 (.mv (.t 138))])
 (.cond (.t 137) (.seq (.reg 0 [oo 139 (.fld 0 (.t 8)),
 ox (.store 1 (.t 139) (ci 4))])
 (.reg 0 [oo 140 (.mv (.t 6)),
 oo 141 (.bin .add (.t 140) (ci 1)),
 oo 6 (.mv (.t 141))])) (.seq (.reg 0 [oo 52 (.mv (.t 6)),
 oo 2 (.mv (.c (.sl [] .nil))),
 oo 3 (.mv (.t 52)),
 oo 4 (.mv (ci 6))])
 (.keep [2, 3, 4] [] (.ret)))))))))))))))
 (.keep [0, 1470005, 6, 8] [8] (.reg 0 [oo 142 (.mv (.t 5)),
 oo 143 (.load true 3 (.t 8)),
 oo 144 (.bslice [(.int .i64 0), (.str ⟨#[]⟩), (.int .i64 0)] 1 [(0, (.t 143))]),
 oo 145 (.app 3 (.t 142) (.t 144)),
 oo 5 (.mv (.t 145))]))))))))))))
def c_ref05_Lex_l2 : ACode := .keep [0, 1470005, 6] [] b_ref05_Lex_l2
def c_ref05_Lex : ACode :=
  .seq (.reg 0 [oo 2 (.mv (.c (.sl [] .nil))),
 oo 3 (.mv (ci 0)),
 oo 4 (.mv (ci 0))])
 (.seq (.seq (.reg 0 [oo 13 (.mv (.t 0)),
 oo 14 (.len .s (.t 13)),
 oo 15 (.bin .gtr (.t 14) (ci 65536))])
 (.cond (.t 15) (.seq (.reg 0 [oo 2 (.mv (.c (.sl [] .nil))),
 oo 3 (.mv (ci 0)),
 oo 4 (.mv (ci 5))])
 (.ret)) (.skip)))
 (.keep [0] [] (.seq (.reg 0 [oo 5 (.mv (.c (.sl [] .nil)))])
 (.seq (.reg 0 [oo 6 (.mv (ci 0))])
 (.seq (.block 0 (.loop c_ref05_Lex_l2))
 (.keep [0, 1470005] [] (.seq (.reg 0 [oo 146 (.mv (.t 5)),
 oo 147 (.mv (.t 0)),
 oo 148 (.len .s (.t 147)),
 oo 149 (.build [(.int .i64 0), (.str ⟨#[]⟩), (.int .i64 0)] [(0, 1, (ci 5)), (1, 1, (.c (.str ⟨#[]⟩))), (2, 1, (.t 148))]),
 oo 150 (.bslice [(.int .i64 0), (.str ⟨#[]⟩), (.int .i64 0)] 1 [(0, (.t 149))]),
 oo 151 (.app 3 (.t 146) (.t 150)),
 oo 2 (.mv (.t 151)),
 oo 3 (.mv (ci 0)),
 oo 4 (.mv (ci 0))])
 (.ret))))))))
def n_ref05_Lex : Fn := ⟨c_ref05_Lex, [.t 2, .t 3, .t 4], false, false⟩
theorem ok_ref05_Lex : fnOf Tryd.prog eff keep f_ref05_Lex = some n_ref05_Lex.bare := by kernel_rfl
@[simp] theorem c_ref05_Lex_l0_norm (st : St) : norm c_ref05_Lex_l0 st = st.keep [0, 1470005, 6] [] := rfl
@[simp] theorem c_ref05_Lex_l1_norm (st : St) : norm c_ref05_Lex_l1 st = st.keep [0, 1470005, 6, 8, 9] [8] := rfl
@[simp] theorem c_ref05_Lex_l2_norm (st : St) : norm c_ref05_Lex_l2 st = st.keep [0, 1470005, 6] [] := rfl
def b_ref01_Unquote_l0 : ACode :=
  (.seq (.seq (.reg 0 [oo 79 (.mv (.t 10)),
 oo 80 (.bin .lss (.t 79) (ci 2))])
 (.cond (.t 80) (.skip) (.keep [0, 510005, 6, 9] [] (.exit 3))))
 (.keep [0, 510005, 6, 9, 10] [] (.seq (.block 4 (.seq (.seq (.reg 0 [oo 83 (.mv (.t 6)),
 oo 84 (.mv (.t 0)),
 oo 85 (.len .s (.t 84)),
 oo 86 (.bin .eql (.t 83) (.t 85))])
 (.cond (.t 86) (.seq (.reg 0 [oo 2 (.mv (.c (.str ⟨#[]⟩))),
 oo 3 (.mv (ci 0)),
 oo 4 (.mv (ci 7))])
 (.keep [2, 3, 4] [] (.ret))) (.skip)))
 (.keep [0, 510005, 6, 9, 10] [] (.seq (.reg 0 [oo 87 (.mv (.t 0)),
 oo 88 (.mv (.t 6)),
 oo 89 (.ixs (.t 87) (.t 88)),
 oo 90 (.call true (cf f_ref01_digit) [(.t 89)]),
 oo 11 (.mv (.t 90))])
 (.seq (.seq (.reg 0 [oo 91 (.mv (.t 11)),
 oo 92 (.bin .lss (.t 91) (ci 0))])
 (.cond (.t 92) (.seq (.reg 0 [oo 2 (.mv (.c (.str ⟨#[]⟩))),
 oo 3 (.mv (ci 0)),
 oo 4 (.mv (ci 4))])
 (.keep [2, 3, 4] [] (.ret))) (.skip)))
 (.keep [0, 510005, 6, 9, 10, 11] [] (.seq (.reg 0 [oo 93 (.mv (.t 9)),
 oo 94 (.bin .mul (.t 93) (ci 16)),
 oo 95 (.mv (.t 11)),
 oo 96 (.bin .add (.t 94) (.t 95)),
 oo 9 (.mv (.t 96))])
 (.reg 0 [oo 97 (.mv (.t 6)),
 oo 98 (.bin .add (.t 97) (ci 1)),
 oo 6 (.mv (.t 98))]))))))))
 (.keep [0, 510005, 6, 9, 10] [] (.reg 0 [oo 81 (.mv (.t 10)),
 oo 82 (.bin .add (.t 81) (ci 1)),
 oo 10 (.mv (.t 82))])))))
def c_ref01_Unquote_l0 : ACode := .keep [0, 510005, 6, 9, 10] [] b_ref01_Unquote_l0
def b_ref01_Unquote_l1 : ACode :=
  (.seq (.seq (.reg 0 [oo 20 (.mv (.t 6)),
 oo 21 (.mv (.t 0)),
 oo 22 (.len .s (.t 21)),
 oo 23 (.bin .lss (.t 20) (.t 22))])
 (.cond (.t 23) (.skip) (.keep [] [] (.exit 0))))
 (.keep [0, 510005, 6] [] (.block 1 (.seq (.reg 0 [oo 24 (.mv (.t 0)),
 oo 25 (.mv (.t 6)),
 oo 26 (.ixs (.t 24) (.t 25)),
 oo 7 (.mv (.t 26))])
 (.seq (.reg 0 [oo 27 (.mv (.t 6)),
 oo 28 (.bin .add (.t 27) (ci 1)),
 oo 6 (.mv (.t 28))])
 (.seq (.seq (.reg 0 [oo 29 (.mv (.t 7)),
 oo 30 (.bin .eql (.t 29) (.c (.int .u8 34)))])
 (.cond (.t 30) (.seq (.seq (.reg 0 [oo 31 (.mv (.t 5)),
 oo 32 (.tostr (.t 31)),
 oo 33 (.call true (cf f_ref01_Mark) [(.t 32)]),
 oo 34 (.un .not (.t 33))])
 (.cond (.t 34) (.seq (.reg 0 [oo 2 (.mv (.c (.str ⟨#[]⟩))),
 oo 3 (.mv (ci 0)),
 oo 4 (.mv (ci 5))])
 (.keep [2, 3, 4] [] (.ret))) (.skip)))
 (.keep [5, 6] [] (.seq (.reg 0 [oo 35 (.mv (.t 5)),
 oo 36 (.tostr (.t 35)),
 oo 37 (.mv (.t 6)),
 oo 2 (.mv (.t 36)),
 oo 3 (.mv (.t 37)),
 oo 4 (.mv (ci 0))])
 (.keep [2, 3, 4] [] (.ret))))) (.skip)))
 (.keep [0, 510005, 6, 7] [] (.seq (.seq (.reg 0 [oo 38 (.mv (.t 7)),
 oo 39 (.bin .neq (.t 38) (.c (.int .u8 92)))])
 (.cond (.t 39) (.seq (.seq (.reg 0 [oo 40 (.mv (.t 7)),
 oo 41 (.bin .lss (.t 40) (.c (.int .u8 32))),
 oo 42 (.mv (.t 41)),
 og 43 42 false (.mv (.t 7)),
 og 44 42 false (.bin .gtr (.t 43) (.c (.int .u8 126))),
 oo 45 (.pick (.t 42) (.c (.bool true)) (.t 44))])
 (.cond (.t 45) (.seq (.reg 0 [oo 2 (.mv (.c (.str ⟨#[]⟩))),
 oo 3 (.mv (ci 0)),
 oo 4 (.mv (ci 4))])
 (.keep [2, 3, 4] [] (.ret))) (.skip)))
 (.keep [0, 510005, 6, 7] [] (.seq (.reg 0 [oo 46 (.mv (.t 5)),
 oo 47 (.mv (.t 7)),
 oo 48 (.bslice [(.int .u8 0)] 1 [(0, (.t 47))]),
 oo 49 (.app 1 (.t 46) (.t 48)),
 oo 5 (.mv (.t 49))])
 (.exit 1)))) (.skip)))
 (.keep [0, 510005, 6] [] (.seq (.seq (.reg 0 [oo 50 (.mv (.t 6)),
 oo 51 (.mv (.t 0)),
 oo 52 (.len .s (.t 51)),
 oo 53 (.bin .eql (.t 50) (.t 52))])
 (.cond (.t 53) (.seq (.reg 0 [oo 2 (.mv (.c (.str ⟨#[]⟩))),
 oo 3 (.mv (ci 0)),
 oo 4 (.mv (ci 7))])
 (.keep [2, 3, 4] [] (.ret))) (.skip)))
 (.keep [0, 510005, 6] [] (.seq (.reg 0 [oo 54 (.mv (.t 0)),
 oo 55 (.mv (.t 6)),
 oo 56 (.ixs (.t 54) (.t 55)),
 oo 8 (.mv (.t 56))])
 (.seq (.reg 0 [oo 57 (.mv (.t 6)),
 oo 58 (.bin .add (.t 57) (ci 1)),
 oo 6 (.mv (.t 58))])
 (.seq (.reg 0 [oo 59 (.mv (.t 8))])
 (.block 2 (.seq (.seq (.reg 0 [oo 61 (.bin .eql (.t 59) (.c (.int .u8 34))),
 oo 60 (.mv (.t 61))])
 (.cond (.t 60) (.skip) (.reg 0 [oo 62 (.bin .eql (.t 59) (.c (.int .u8 92))),
 oo 60 (.mv (.t 62))])))
 (.keep [0, 510005, 6, 8, 59, 60] [] (.cond (.t 60) (.reg 0 [oo 63 (.mv (.t 5)),
 oo 64 (.mv (.t 8)),
 oo 65 (.bslice [(.int .u8 0)] 1 [(0, (.t 64))]),
 oo 66 (.app 1 (.t 63) (.t 65)),
 oo 5 (.mv (.t 66))]) (.seq (.reg 0 [oo 68 (.bin .eql (.t 59) (.c (.int .u8 110))),
 oo 67 (.mv (.t 68))])
 (.cond (.t 67) (.reg 0 [oo 69 (.mv (.t 5)),
 oo 70 (.bslice [(.int .u8 0)] 1 [(0, (.c (.int .u8 10)))]),
 oo 71 (.app 1 (.t 69) (.t 70)),
 oo 5 (.mv (.t 71))]) (.seq (.reg 0 [oo 73 (.bin .eql (.t 59) (.c (.int .u8 116))),
 oo 72 (.mv (.t 73))])
 (.cond (.t 72) (.reg 0 [oo 74 (.mv (.t 5)),
 oo 75 (.bslice [(.int .u8 0)] 1 [(0, (.c (.int .u8 9)))]),
 oo 76 (.app 1 (.t 74) (.t 75)),
 oo 5 (.mv (.t 76))]) (.seq (.reg 0 [oo 78 (.bin .eql (.t 59) (.c (.int .u8 120))),
 oo 77 (.mv (.t 78))])
 (.cond (.t 77) (.seq (.reg 0 [oo 9 (.mv (ci 0))])
 (.seq (.seq (.reg 0 [oo 10 (.mv (ci 0))])
 (.block 3 (.loop c_ref01_Unquote_l0)))
 (.keep [0, 510005, 6, 9] [] (.reg 0 [oo 99 (.mv (.t 5)),
 oo 100 (.mv (.t 9)),
 oo 101 (.conv .u8 (.t 100)),
 oo 102 (.bslice [(.int .u8 0)] 1 [(0, (.t 101))]),
 oo 103 (.app 1 (.t 99) (.t 102)),
 oo 5 (.mv (.t 103))])))) (.seq (.reg 0 [oo 2 (.mv (.c (.str ⟨#[]⟩))),
 oo 3 (.mv (ci 0)),
 oo 4 (.mv (ci 4))])
 (.keep [2, 3, 4] [] (.ret)))))))))))))))))))))))))))
def c_ref01_Unquote_l1 : ACode := .keep [0, 510005, 6] [] b_ref01_Unquote_l1
def c_ref01_Unquote : ACode :=
  .seq (.reg 0 [oo 2 (.mv (.c (.str ⟨#[]⟩))),
 oo 3 (.mv (ci 0)),
 oo 4 (.mv (ci 0))])
 (.seq (.seq (.reg 0 [oo 12 (.mv (.t 0)),
 oo 13 (.len .s (.t 12)),
 oo 14 (.bin .eql (.t 13) (ci 0)),
 oo 15 (.mv (.t 14)),
 og 16 15 false (.mv (.t 0)),
 og 17 15 false (.ixs (.t 16) (ci 0)),
 og 18 15 false (.bin .neq (.t 17) (.c (.int .u8 34))),
 oo 19 (.pick (.t 15) (.c (.bool true)) (.t 18))])
 (.cond (.t 19) (.seq (.reg 0 [oo 2 (.mv (.c (.str ⟨#[]⟩))),
 oo 3 (.mv (ci 0)),
 oo 4 (.mv (ci 6))])
 (.ret)) (.skip)))
 (.keep [0] [] (.seq (.reg 0 [oo 5 (.mv (.c (.sl [] .nil)))])
 (.seq (.reg 0 [oo 6 (.mv (ci 1))])
 (.seq (.block 0 (.loop c_ref01_Unquote_l1))
 (.keep [] [] (.seq (.reg 0 [oo 2 (.mv (.c (.str ⟨#[]⟩))),
 oo 3 (.mv (ci 0)),
 oo 4 (.mv (ci 7))])
 (.ret))))))))
def n_ref01_Unquote : Fn := ⟨c_ref01_Unquote, [.t 2, .t 3, .t 4], false, false⟩
theorem ok_ref01_Unquote : fnOf Tryd.prog eff keep f_ref01_Unquote = some n_ref01_Unquote.bare := by kernel_rfl
@[simp] theorem c_ref01_Unquote_l0_norm (st : St) : norm c_ref01_Unquote_l0 st = st.keep [0, 510005, 6, 9, 10] [] := rfl
@[simp] theorem c_ref01_Unquote_l1_norm (st : St) : norm c_ref01_Unquote_l1 st = st.keep [0, 510005, 6] [] := rfl
def c_ref01_digit : ACode :=
  .seq (.reg 0 [oo 2 (.mv (ci 0))])
 (.seq (.seq (.reg 0 [oo 3 (.mv (.t 0)),
 oo 4 (.bin .geq (.t 3) (.c (.int .u8 48))),
 oo 5 (.mv (.t 4)),
 og 6 5 true (.mv (.t 0)),
 og 7 5 true (.bin .leq (.t 6) (.c (.int .u8 57))),
 oo 8 (.pick (.t 5) (.t 7) (.c (.bool false)))])
 (.cond (.t 8) (.seq (.reg 0 [oo 9 (.mv (.t 0)),
 oo 10 (.conv .i64 (.t 9)),
 oo 11 (.bin .sub (.t 10) (ci 48)),
 oo 2 (.mv (.t 11))])
 (.ret)) (.skip)))
 (.keep [0] [] (.seq (.seq (.reg 0 [oo 12 (.mv (.t 0)),
 oo 13 (.bin .geq (.t 12) (.c (.int .u8 97))),
 oo 14 (.mv (.t 13)),
 og 15 14 true (.mv (.t 0)),
 og 16 14 true (.bin .leq (.t 15) (.c (.int .u8 102))),
 oo 17 (.pick (.t 14) (.t 16) (.c (.bool false)))])
 (.cond (.t 17) (.seq (.reg 0 [oo 18 (.mv (.t 0)),
 oo 19 (.conv .i64 (.t 18)),
 oo 20 (.bin .sub (.t 19) (ci 87)),
 oo 2 (.mv (.t 20))])
 (.ret)) (.skip)))
 (.keep [] [] (.seq (.reg 0 [oo 2 (.mv (ci (-1)))])
 (.ret))))))
def n_ref01_digit : Fn := ⟨c_ref01_digit, [.t 2], false, false⟩
theorem ok_ref01_digit : fnOf Tryd.prog eff keep f_ref01_digit = some n_ref01_digit.bare := by kernel_rfl
def b_ref06_place_l0 : ACode :=
  (.seq (.seq (.reg 0 [oo 6 (.mv (.t 5)),
 oo 7 (.mv (.t 0)),
 oo 8 (.len .sl (.t 7)),
 oo 9 (.bin .lss (.t 6) (.t 8))])
 (.cond (.t 9) (.skip) (.keep [] [] (.exit 0))))
 (.keep [0, 1, 5] [] (.seq (.block 1 (.seq (.reg 0 [oo 12 (.mv (.t 0)),
 oo 13 (.mv (.t 5)),
 oo 14 (.ixa 1 (.t 12) (.t 13)),
 oo 15 (.load false 1 (.t 14)),
 oo 16 (.mv (.t 1)),
 oo 17 (.bin .eql (.t 15) (.t 16))])
 (.cond (.t 17) (.seq (.reg 0 [oo 18 (.mv (.t 5)),
 oo 4 (.mv (.t 18))])
 (.keep [4] [] (.ret))) (.skip))))
 (.keep [0, 1, 5] [] (.reg 0 [oo 10 (.mv (.t 5)),
 oo 11 (.bin .add (.t 10) (ci 1)),
 oo 5 (.mv (.t 11))])))))
def c_ref06_place_l0 : ACode := .keep [0, 1, 5] [] b_ref06_place_l0
def c_ref06_place : ACode :=
  .seq (.reg 0 [oo 4 (.mv (ci 0))])
 (.seq (.seq (.reg 0 [oo 5 (.mv (ci 0))])
 (.block 0 (.loop c_ref06_place_l0)))
 (.keep [] [] (.seq (.reg 0 [oo 4 (.mv (ci (-1)))])
 (.ret))))
def n_ref06_place : Fn := ⟨c_ref06_place, [.t 4], false, false⟩
theorem ok_ref06_place : fnOf Tryd.prog eff keep f_ref06_place = some n_ref06_place.bare := by kernel_rfl
@[simp] theorem c_ref06_place_l0_norm (st : St) : norm c_ref06_place_l0 st = st.keep [0, 1, 5] [] := rfl
def c_gram_Grammar_Same : ACode :=
  .seq (.reg 0 [oo 2 (.box (.t 0)),
 oo 3 (.box (.t 1)),
 oo 4 (.mv (.c (.bool false)))])
 (.seq (.reg 0 [oo 5 (.fld 2 (.t 2)),
 oo 6 (.load false 1 (.t 5)),
 oo 7 (.fld 2 (.t 3)),
 oo 8 (.load false 1 (.t 7)),
 oo 9 (.bin .eql (.t 6) (.t 8)),
 oo 10 (.mv (.t 9)),
 og 11 10 true (.fld 0 (.t 2)),
 og 12 10 true (.load false 1 (.t 11)),
 og 13 10 true (.fld 0 (.t 3)),
 og 14 10 true (.load false 1 (.t 13)),
 og 15 10 true (.call true (cf f_slices_Equal_string_string) [(.t 12), (.t 14)]),
 oo 16 (.pick (.t 10) (.t 15) (.c (.bool false))),
 oo 17 (.mv (.t 16)),
 og 18 17 true (.fld 1 (.t 2)),
 og 19 17 true (.load false 1 (.t 18)),
 og 20 17 true (.fld 1 (.t 3)),
 og 21 17 true (.load false 1 (.t 20)),
 og 22 17 true (.call true (cf f_slices_Equal_string_string) [(.t 19), (.t 21)]),
 oo 23 (.pick (.t 17) (.t 22) (.c (.bool false))),
 oo 24 (.mv (.t 23)),
 og 25 24 true (.fld 3 (.t 2)),
 og 26 24 true (.load false 1 (.t 25)),
 og 27 24 true (.fld 3 (.t 3)),
 og 28 24 true (.load false 1 (.t 27)),
 og 29 24 true (.call true (cf f_slices_EqualFunc_gram_Rule_gram_Rule_gram_Rule_gram_Rule) [(.t 26), (.t 28), (cf f_gram_Rule_Same)]),
 oo 30 (.pick (.t 24) (.t 29) (.c (.bool false))),
 oo 4 (.mv (.t 30))])
 (.ret))
def n_gram_Grammar_Same : Fn := ⟨c_gram_Grammar_Same, [.t 4], false, false⟩
theorem ok_gram_Grammar_Same : fnOf Tryd.prog eff keep f_gram_Grammar_Same = some n_gram_Grammar_Same.bare := by kernel_rfl
def b_slices_EqualFunc_gram_Rule_gram_Rule_gram_Rule_gram_Rule_l0 : ACode :=
  (.seq (.reg 0 [oo 18 (.bin .lss (.t 17) (.t 16))])
 (.seq (.cond (.t 18) (.skip) (.keep [] [] (.exit 0)))
 (.keep [1, 2, 15, 16, 17] [] (.seq (.block 1 (.seq (.reg 0 [oo 19 (.mv (.t 17)),
 oo 20 (.ixa 2 (.t 15) (.t 17)),
 oo 21 (.load true 2 (.t 20)),
 oo 8 (.alloc [(.int .i64 0), (.sl [] .nil)]),
 oo 7 (.mv (.t 19)),
 ox (.store 2 (.t 8) (.t 21))])
 (.seq (.reg 0 [oo 22 (.mv (.t 1)),
 oo 23 (.mv (.t 7)),
 oo 24 (.ixa 2 (.t 22) (.t 23)),
 oo 25 (.load true 2 (.t 24)),
 oo 9 (.alloc [(.int .i64 0), (.sl [] .nil)]),
 ox (.store 2 (.t 9) (.t 25))])
 (.keep [1, 2, 8, 9, 15, 16, 17] [8, 9] (.seq (.reg 0 [oo 26 (.mv (.t 2)),
 oo 27 (.load true 2 (.t 8)),
 oo 28 (.load true 2 (.t 9)),
 oo 29 (.call false (.t 26) [(.t 27), (.t 28)]),
 oo 30 (.un .not (.t 29))])
 (.cond (.t 30) (.seq (.reg 0 [oo 6 (.mv (.c (.bool false)))])
 (.keep [6] [] (.ret))) (.skip)))))))
 (.keep [1, 2, 15, 16, 17] [] (.reg 0 [oo 31 (.bin .add (.t 17) (ci 1)),
 oo 17 (.mv (.t 31))]))))))
def c_slices_EqualFunc_gram_Rule_gram_Rule_gram_Rule_gram_Rule_l0 : ACode := .keep [1, 2, 15, 16, 17] [] b_slices_EqualFunc_gram_Rule_gram_Rule_gram_Rule_gram_Rule_l0
def c_slices_EqualFunc_gram_Rule_gram_Rule_gram_Rule_gram_Rule : ACode :=
  .seq (.reg 0 [oo 6 (.mv (.c (.bool false)))])
 (.seq (.seq (.reg 0 [oo 10 (.mv (.t 0)),
 oo 11 (.len .sl (.t 10)),
 oo 12 (.mv (.t 1)),
 oo 13 (.len .sl (.t 12)),
 oo 14 (.bin .neq (.t 11) (.t 13))])
 (.cond (.t 14) (.seq (.reg 0 [oo 6 (.mv (.c (.bool false)))])
 (.ret)) (.skip)))
 (.keep [0, 1, 2] [] (.seq (.seq (.reg 0 [oo 15 (.mv (.t 0)),
 oo 16 (.len .sl (.t 15)),
 oo 17 (.mv (ci 0))])
 (.block 0 (.loop c_slices_EqualFunc_gram_Rule_gram_Rule_gram_Rule_gram_Rule_l0)))
 (.keep [] [] (.seq (.reg 0 [oo 6 (.mv (.c (.bool true)))])
 (.ret))))))
def n_slices_EqualFunc_gram_Rule_gram_Rule_gram_Rule_gram_Rule : Fn := ⟨c_slices_EqualFunc_gram_Rule_gram_Rule_gram_Rule_gram_Rule, [.t 6], false, false⟩
theorem ok_slices_EqualFunc_gram_Rule_gram_Rule_gram_Rule_gram_Rule : fnOf Tryd.prog eff keep f_slices_EqualFunc_gram_Rule_gram_Rule_gram_Rule_gram_Rule = some n_slices_EqualFunc_gram_Rule_gram_Rule_gram_Rule_gram_Rule.bare := by kernel_rfl
@[simp] theorem c_slices_EqualFunc_gram_Rule_gram_Rule_gram_Rule_gram_Rule_l0_norm (st : St) : norm c_slices_EqualFunc_gram_Rule_gram_Rule_gram_Rule_gram_Rule_l0 st = st.keep [1, 2, 15, 16, 17] [] := rfl
def b_law08_NullableClosed_l0 : ACode :=
  (.seq (.reg 0 [oo 44 (.bin .lss (.t 43) (.t 42))])
 (.seq (.cond (.t 44) (.skip) (.keep [1, 3, 4] [1] (.exit 0)))
 (.keep [1, 3, 4, 41, 42, 43] [1] (.seq (.block 1 (.seq (.reg 0 [oo 45 (.ixa 2 (.t 41) (.t 43)),
 oo 46 (.load true 2 (.t 45)),
 oo 6 (.alloc [(.int .i64 0), (.sl [] .nil)]),
 ox (.store 2 (.t 6) (.t 46))])
 (.seq (.reg 0 [oo 47 (.mv (.t 3)),
 oo 48 (.fld 1 (.t 6)),
 oo 49 (.load false 1 (.t 48)),
 oo 50 (.call true (cf f_nullable_All) [(.t 47), (.t 49)]),
 oo 51 (.mv (.t 50)),
 og 52 51 true (.mv (.t 3)),
 og 53 51 true (.fld 0 (.t 6)),
 og 54 51 true (.load false 1 (.t 53)),
 og 55 51 true (.ixa 1 (.t 52) (.t 54)),
 og 56 51 true (.load false 1 (.t 55)),
 og 57 51 true (.un .not (.t 56)),
 oo 58 (.pick (.t 51) (.t 57) (.c (.bool false)))])
 (.cond (.t 58) (.seq (.reg 0 [oo 2 (.mv (.c (.bool false)))])
 (.keep [2] [] (.ret))) (.skip)))))
 (.keep [1, 3, 4, 41, 42, 43] [1] (.reg 0 [oo 59 (.bin .add (.t 43) (ci 1)),
 oo 43 (.mv (.t 59))]))))))
def c_law08_NullableClosed_l0 : ACode := .keep [1, 3, 4, 41, 42, 43] [1] b_law08_NullableClosed_l0
def b_law08_NullableClosed_l1 : ACode :=
  (.seq (.reg 0 [oo 81 (.bin .lss (.t 80) (.t 79))])
 (.seq (.cond (.t 81) (.skip) (.keep [1, 3, 4, 7, 8, 11, 61, 62, 67, 68, 69] [1] (.exit 6)))
 (.keep [1, 3, 4, 7, 8, 11, 61, 62, 67, 68, 69, 78, 79, 80] [1] (.seq (.block 7 (.seq (.reg 0 [oo 82 (.ixa 1 (.t 78) (.t 80)),
 oo 83 (.load false 1 (.t 82)),
 oo 13 (.mv (.t 83))])
 (.reg 23 [oo 84 (.mv (.t 11)),
 oo 85 (.mv (.t 84)),
 og 86 85 true (.mv (.t 13)),
 og 87 85 true (.call true (cf f_gram_Sym_IsTerm) [(.t 86)]),
 og 88 85 true (.un .not (.t 87)),
 oo 89 (.pick (.t 85) (.t 88) (.c (.bool false))),
 oo 90 (.mv (.t 89)),
 og 91 90 true (.mv (.t 3)),
 og 92 90 true (.mv (.t 13)),
 og 93 90 true (.call true (cf f_gram_Sym_Place) [(.t 92)]),
 og 94 90 true (.ixa 1 (.t 91) (.t 93)),
 og 95 90 true (.load false 1 (.t 94)),
 oo 96 (.pick (.t 90) (.t 95) (.c (.bool false))),
 oo 97 (.mv (.t 96)),
 og 98 97 true (.mv (.t 4)),
 og 99 97 true (.mv (.t 13)),
 og 100 97 true (.call true (cf f_gram_Sym_Place) [(.t 99)]),
 og 101 97 true (.ixa 1 (.t 98) (.t 100)),
 og 102 97 true (.load false 1 (.t 101)),
 og 103 97 true (.mv (.t 4)),
 og 104 97 true (.mv (.t 7)),
 og 105 97 true (.ixa 1 (.t 103) (.t 104)),
 og 106 97 true (.load false 1 (.t 105)),
 og 107 97 true (.bin .lss (.t 102) (.t 106)),
 oo 108 (.pick (.t 97) (.t 107) (.c (.bool false))),
 oo 11 (.mv (.t 108))])))
 (.keep [1, 3, 4, 7, 8, 11, 61, 62, 67, 68, 69, 78, 79, 80] [1] (.reg 0 [oo 109 (.bin .add (.t 80) (ci 1)),
 oo 80 (.mv (.t 109))]))))))
def c_law08_NullableClosed_l1 : ACode := .keep [1, 3, 4, 7, 8, 11, 61, 62, 67, 68, 69, 78, 79, 80] [1] b_law08_NullableClosed_l1
def b_law08_NullableClosed_l2 : ACode :=
  (.seq (.reg 0 [oo 70 (.bin .lss (.t 69) (.t 68))])
 (.seq (.cond (.t 70) (.skip) (.keep [1, 3, 4, 7, 8, 61, 62] [1] (.exit 4)))
 (.keep [1, 3, 4, 7, 8, 61, 62, 67, 68, 69] [1] (.seq (.block 5 (.seq (.reg 0 [oo 71 (.ixa 1 (.t 67) (.t 69)),
 oo 72 (.load false 1 (.t 71)),
 oo 10 (.mv (.t 72))])
 (.seq (.reg 0 [oo 11 (.mv (.c (.bool true)))])
 (.seq (.seq (.reg 0 [oo 73 (.fld 3 (.t 1)),
 oo 74 (.load false 1 (.t 73)),
 oo 75 (.mv (.t 10)),
 oo 76 (.ixa 2 (.t 74) (.t 75)),
 oo 77 (.fld 1 (.t 76)),
 oo 78 (.load false 1 (.t 77)),
 oo 79 (.len .sl (.t 78)),
 oo 80 (.mv (ci 0))])
 (.block 6 (.loop c_law08_NullableClosed_l1)))
 (.keep [1, 3, 4, 7, 8, 11, 61, 62, 67, 68, 69] [1] (.reg 0 [oo 110 (.mv (.t 8)),
 oo 111 (.mv (.t 110)),
 og 112 111 false (.mv (.t 11)),
 oo 113 (.pick (.t 111) (.c (.bool true)) (.t 112)),
 oo 8 (.mv (.t 113))]))))))
 (.keep [1, 3, 4, 7, 8, 61, 62, 67, 68, 69] [1] (.reg 0 [oo 114 (.bin .add (.t 69) (ci 1)),
 oo 69 (.mv (.t 114))]))))))
def c_law08_NullableClosed_l2 : ACode := .keep [1, 3, 4, 7, 8, 61, 62, 67, 68, 69] [1] b_law08_NullableClosed_l2
def b_law08_NullableClosed_l3 : ACode :=
  (.seq (.reg 0 [oo 63 (.bin .lss (.t 62) (.t 61))])
 (.seq (.cond (.t 63) (.skip) (.keep [] [] (.exit 2)))
 (.keep [1, 3, 4, 61, 62] [1] (.seq (.block 3 (.seq (.reg 0 [oo 64 (.mv (.t 62)),
 oo 7 (.mv (.t 64))])
 (.seq (.reg 0 [oo 8 (.mv (.c (.bool false)))])
 (.seq (.seq (.reg 0 [oo 65 (.load true 4 (.t 1)),
 oo 66 (.mv (.t 7)),
 oo 67 (.call true (cf f_gram_Grammar_Of) [(.t 65), (.t 66)]),
 oo 68 (.len .sl (.t 67)),
 oo 69 (.mv (ci 0))])
 (.block 4 (.loop c_law08_NullableClosed_l2)))
 (.keep [1, 3, 4, 7, 8, 61, 62] [1] (.seq (.reg 0 [oo 115 (.mv (.t 3)),
 oo 116 (.mv (.t 7)),
 oo 117 (.ixa 1 (.t 115) (.t 116)),
 oo 118 (.load false 1 (.t 117)),
 oo 119 (.mv (.t 118)),
 og 120 119 true (.mv (.t 8)),
 og 121 119 true (.un .not (.t 120)),
 oo 122 (.pick (.t 119) (.t 121) (.c (.bool false)))])
 (.cond (.t 122) (.seq (.reg 0 [oo 2 (.mv (.c (.bool false)))])
 (.keep [2] [] (.ret))) (.skip))))))))
 (.keep [1, 3, 4, 61, 62] [1] (.reg 0 [oo 123 (.bin .add (.t 62) (ci 1)),
 oo 62 (.mv (.t 123))]))))))
def c_law08_NullableClosed_l3 : ACode := .keep [1, 3, 4, 61, 62] [1] b_law08_NullableClosed_l3
def c_law08_NullableClosed : ACode :=
  .seq (.reg 0 [oo 1 (.box (.t 0)),
 oo 2 (.mv (.c (.bool false)))])
 (.seq (.seq (.reg 0 [oo 14 (.load true 4 (.t 1)),
 oo 15 (.call true (cf f_law02_Small) [(.t 14)]),
 oo 16 (.un .not (.t 15)),
 oo 17 (.mv (.t 16)),
 og 18 17 false (.load true 4 (.t 1)),
 og 19 17 false (.call true (cf f_law02_May) [(.t 18)]),
 og 20 17 false (.un .not (.t 19)),
 oo 21 (.pick (.t 17) (.c (.bool true)) (.t 20))])
 (.cond (.t 21) (.seq (.reg 0 [oo 22 (.call true (cf f_law08_Awake) []),
 oo 2 (.mv (.t 22))])
 (.ret)) (.skip)))
 (.keep [1] [1] (.seq (.reg 3 [oo 23 (.load true 4 (.t 1)),
 oo 24 (.call true (cf f_nullable_Of) [(.t 23)]),
 oo 25 (.load true 4 (.t 1)),
 oo 26 (.call true (cf f_none_56) [(.t 25)]),
 oo 3 (.mv (.t 24)),
 oo 4 (.mv (.t 26))])
 (.seq (.seq (.reg 0 [oo 27 (.mv (.t 3)),
 oo 28 (.len .sl (.t 27)),
 oo 29 (.fld 0 (.t 1)),
 oo 30 (.load false 1 (.t 29)),
 oo 31 (.len .sl (.t 30)),
 oo 32 (.bin .neq (.t 28) (.t 31)),
 oo 33 (.mv (.t 32)),
 og 34 33 false (.mv (.t 4)),
 og 35 33 false (.len .sl (.t 34)),
 og 36 33 false (.mv (.t 3)),
 og 37 33 false (.len .sl (.t 36)),
 og 38 33 false (.bin .neq (.t 35) (.t 37)),
 oo 39 (.pick (.t 33) (.c (.bool true)) (.t 38))])
 (.cond (.t 39) (.seq (.reg 0 [oo 2 (.mv (.c (.bool false)))])
 (.ret)) (.skip)))
 (.keep [1, 3, 4] [1] (.seq (.seq (.reg 0 [oo 40 (.fld 3 (.t 1)),
 oo 41 (.load false 1 (.t 40)),
 oo 42 (.len .sl (.t 41)),
 oo 43 (.mv (ci 0))])
 (.block 0 (.loop c_law08_NullableClosed_l0)))
 (.keep [1, 3, 4] [1] (.seq (.seq (.reg 0 [oo 60 (.mv (.t 3)),
 oo 61 (.len .sl (.t 60)),
 oo 62 (.mv (ci 0))])
 (.block 2 (.loop c_law08_NullableClosed_l3)))
 (.keep [] [] (.seq (.reg 0 [oo 124 (.call true (cf f_law08_Awake) []),
 oo 2 (.mv (.t 124))])
 (.ret)))))))))))
def n_law08_NullableClosed : Fn := ⟨c_law08_NullableClosed, [.t 2], false, false⟩
theorem ok_law08_NullableClosed : fnOf Tryd.prog eff keep f_law08_NullableClosed = some n_law08_NullableClosed.bare := by kernel_rfl
@[simp] theorem c_law08_NullableClosed_l0_norm (st : St) : norm c_law08_NullableClosed_l0 st = st.keep [1, 3, 4, 41, 42, 43] [1] := rfl
@[simp] theorem c_law08_NullableClosed_l1_norm (st : St) : norm c_law08_NullableClosed_l1 st = st.keep [1, 3, 4, 7, 8, 11, 61, 62, 67, 68, 69, 78, 79, 80] [1] := rfl
@[simp] theorem c_law08_NullableClosed_l2_norm (st : St) : norm c_law08_NullableClosed_l2 st = st.keep [1, 3, 4, 7, 8, 61, 62, 67, 68, 69] [1] := rfl
@[simp] theorem c_law08_NullableClosed_l3_norm (st : St) : norm c_law08_NullableClosed_l3 st = st.keep [1, 3, 4, 61, 62] [1] := rfl
def b_nullable_All_l0 : ACode :=
  (.seq (.reg 0 [oo 10 (.bin .lss (.t 9) (.t 8))])
 (.seq (.cond (.t 10) (.skip) (.keep [] [] (.exit 0)))
 (.keep [0, 7, 8, 9] [] (.seq (.block 1 (.seq (.reg 0 [oo 11 (.ixa 1 (.t 7) (.t 9)),
 oo 12 (.load false 1 (.t 11)),
 oo 6 (.mv (.t 12))])
 (.seq (.reg 0 [oo 13 (.mv (.t 6)),
 oo 14 (.call true (cf f_gram_Sym_IsTerm) [(.t 13)]),
 oo 15 (.mv (.t 14)),
 og 16 15 false (.mv (.t 6)),
 og 17 15 false (.call true (cf f_gram_Sym_Place) [(.t 16)]),
 og 18 15 false (.mv (.t 0)),
 og 19 15 false (.len .sl (.t 18)),
 og 20 15 false (.bin .geq (.t 17) (.t 19)),
 oo 21 (.pick (.t 15) (.c (.bool true)) (.t 20)),
 oo 22 (.mv (.t 21)),
 og 23 22 false (.mv (.t 0)),
 og 24 22 false (.mv (.t 6)),
 og 25 22 false (.call true (cf f_gram_Sym_Place) [(.t 24)]),
 og 26 22 false (.ixa 1 (.t 23) (.t 25)),
 og 27 22 false (.load false 1 (.t 26)),
 og 28 22 false (.un .not (.t 27)),
 oo 29 (.pick (.t 22) (.c (.bool true)) (.t 28))])
 (.cond (.t 29) (.seq (.reg 0 [oo 4 (.mv (.c (.bool false)))])
 (.keep [4] [] (.ret))) (.skip)))))
 (.keep [0, 7, 8, 9] [] (.reg 0 [oo 30 (.bin .add (.t 9) (ci 1)),
 oo 9 (.mv (.t 30))]))))))
def c_nullable_All_l0 : ACode := .keep [0, 7, 8, 9] [] b_nullable_All_l0
def c_nullable_All : ACode :=
  .seq (.reg 0 [oo 4 (.mv (.c (.bool false)))])
 (.seq (.seq (.reg 0 [oo 7 (.mv (.t 1)),
 oo 8 (.len .sl (.t 7)),
 oo 9 (.mv (ci 0))])
 (.block 0 (.loop c_nullable_All_l0)))
 (.keep [] [] (.seq (.reg 0 [oo 4 (.mv (.c (.bool true)))])
 (.ret))))
def n_nullable_All : Fn := ⟨c_nullable_All, [.t 4], false, false⟩
theorem ok_nullable_All : fnOf Tryd.prog eff keep f_nullable_All = some n_nullable_All.bare := by kernel_rfl
@[simp] theorem c_nullable_All_l0_norm (st : St) : norm c_nullable_All_l0 st = st.keep [0, 7, 8, 9] [] := rfl
def b_law12_TmplPlain_l0 : ACode :=
  (.seq (.reg 0 [oo 30 (.bin .lss (.t 29) (.t 28))])
 (.seq (.cond (.t 30) (.skip) (.keep [1, 3] [3] (.exit 0)))
 (.keep [1, 3, 27, 28, 29] [3] (.seq (.block 1 (.seq (.reg 0 [oo 31 (.mv (.t 29)),
 oo 32 (.ixa 3 (.t 27) (.t 29)),
 oo 33 (.load true 3 (.t 32)),
 oo 9 (.alloc [(.bool false), (.sl [] .nil), (.sl [] .nil)]),
 oo 8 (.mv (.t 31)),
 ox (.store 3 (.t 9) (.t 33))])
 (.seq (.reg 0 [oo 34 (.fld 0 (.t 9)),
 oo 35 (.load false 1 (.t 34)),
 oo 36 (.mv (.t 35)),
 og 37 36 false (.fld 1 (.t 9)),
 og 38 36 false (.load false 1 (.t 37)),
 og 39 36 false (.len .sl (.t 38)),
 og 40 36 false (.bin .gtr (.t 39) (ci 0)),
 oo 41 (.pick (.t 36) (.c (.bool true)) (.t 40)),
 oo 42 (.mv (.t 41)),
 og 43 42 false (.fld 2 (.t 9)),
 og 44 42 false (.load false 1 (.t 43)),
 og 45 42 false (.len .sl (.t 44)),
 og 46 42 false (.bin .neq (.t 45) (ci 1)),
 oo 47 (.pick (.t 42) (.c (.bool true)) (.t 46)),
 oo 48 (.mv (.t 47)),
 og 49 48 false (.fld 2 (.t 9)),
 og 50 48 false (.load false 1 (.t 49)),
 og 51 48 false (.ixa 1 (.t 50) (ci 0)),
 og 52 48 false (.load false 1 (.t 51)),
 og 53 48 false (.mv (.t 8)),
 og 54 48 false (.bin .neq (.t 52) (.t 53)),
 oo 55 (.pick (.t 48) (.c (.bool true)) (.t 54))])
 (.cond (.t 55) (.seq (.reg 0 [oo 6 (.mv (.c (.bool false)))])
 (.keep [6] [] (.ret))) (.skip)))))
 (.keep [1, 3, 27, 28, 29] [3] (.reg 0 [oo 56 (.bin .add (.t 29) (ci 1)),
 oo 29 (.mv (.t 56))]))))))
def c_law12_TmplPlain_l0 : ACode := .keep [1, 3, 27, 28, 29] [3] b_law12_TmplPlain_l0
def c_law12_TmplPlain : ACode :=
  .seq (.reg 0 [oo 3 (.box (.t 0)),
 oo 6 (.mv (.c (.bool false)))])
 (.seq (.seq (.reg 0 [oo 11 (.load true 4 (.t 3)),
 oo 12 (.call true (cf f_law02_Small) [(.t 11)]),
 oo 13 (.un .not (.t 12)),
 oo 14 (.mv (.t 13)),
 og 15 14 false (.mv (.t 2)),
 og 16 14 false (.bin .gtr (.t 15) (ci 200)),
 oo 17 (.pick (.t 14) (.c (.bool true)) (.t 16))])
 (.cond (.t 17) (.seq (.reg 0 [oo 18 (.call true (cf f_law12_Awake) []),
 oo 6 (.mv (.t 18))])
 (.ret)) (.skip)))
 (.keep [1, 2, 3] [3] (.seq (.reg 0 [oo 19 (.load true 4 (.t 3)),
 oo 20 (.mv (.t 2)),
 oo 21 (.call true (cf f_tmpl_Sorts) [(.t 19), (.t 20)]),
 oo 7 (.mv (.t 21))])
 (.seq (.seq (.reg 0 [oo 22 (.mv (.t 7)),
 oo 23 (.len .sl (.t 22)),
 oo 24 (.mv (.t 2)),
 oo 25 (.max [(.t 24), (ci 0)]),
 oo 26 (.bin .neq (.t 23) (.t 25))])
 (.cond (.t 26) (.seq (.reg 0 [oo 6 (.mv (.c (.bool false)))])
 (.ret)) (.skip)))
 (.keep [1, 3, 7] [3] (.seq (.seq (.reg 0 [oo 27 (.mv (.t 7)),
 oo 28 (.len .sl (.t 27)),
 oo 29 (.mv (ci 0))])
 (.block 0 (.loop c_law12_TmplPlain_l0)))
 (.keep [1, 3] [3] (.seq (.reg 0 [oo 57 (.load true 4 (.t 3)),
 oo 58 (.call true (cf f_gram_Grammar_Check) [(.t 57)]),
 oo 10 (.mv (.t 58))])
 (.seq (.seq (.reg 16 [oo 59 (.mv (.t 10)),
 oo 60 (.bin .eql (.t 59) (ci 0)),
 oo 61 (.mv (.t 60)),
 og 62 61 true (.fld 3 (.t 3)),
 og 63 61 true (.load false 1 (.t 62)),
 og 64 61 true (.len .sl (.t 63)),
 og 65 61 true (.bin .gtr (.t 64) (ci 0)),
 oo 66 (.pick (.t 61) (.t 65) (.c (.bool false))),
 oo 67 (.mv (.t 66)),
 og 68 67 true (.load true 4 (.t 3)),
 og 69 67 true (.call true (cf f_tmpl_Same) [(.t 68)]),
 og 70 67 true (.fldv false 9 1 (.t 69)),
 og 71 67 true (.len .sl (.t 70)),
 og 72 67 true (.fld 3 (.t 3)),
 og 73 67 true (.load false 1 (.t 72)),
 og 74 67 true (.len .sl (.t 73)),
 og 75 67 true (.bin .neq (.t 71) (.t 74)),
 oo 76 (.pick (.t 67) (.t 75) (.c (.bool false)))])
 (.cond (.t 76) (.seq (.reg 0 [oo 6 (.mv (.c (.bool false)))])
 (.ret)) (.skip)))
 (.keep [1, 3, 10] [3] (.seq (.reg 17 [oo 77 (.call true (cf f_law12_Awake) []),
 oo 78 (.mv (.t 77)),
 og 79 78 true (.load true 4 (.t 3)),
 og 80 78 true (.mv (.t 1)),
 og 81 78 true (.call true (cf f_tmpl_Plain) [(.t 79), (.t 80)]),
 og 82 78 true (.call true (cf f_law12_Items) [(.t 81)]),
 og 83 78 true (.load true 4 (.t 3)),
 og 84 78 true (.call true (cf f_law02_Of) [(.t 83)]),
 og 85 78 true (.mv (.t 1)),
 og 86 78 true (.call true (cf f_ref12_Plain) [(.t 84), (.t 85)]),
 og 87 78 true (.call true (cf f_ref12_Same) [(.t 82), (.t 86)]),
 oo 88 (.pick (.t 78) (.t 87) (.c (.bool false))),
 oo 89 (.mv (.t 88)),
 og 90 89 true (.load true 4 (.t 3)),
 og 91 89 true (.call true (cf f_tmpl_Same) [(.t 90)]),
 og 92 89 true (.call true (cf f_tmpl_Check) [(.t 91)]),
 og 93 89 true (.mv (.t 10)),
 og 94 89 true (.bin .eql (.t 92) (.t 93)),
 oo 95 (.pick (.t 89) (.t 94) (.c (.bool false))),
 oo 6 (.mv (.t 95))])
 (.ret))))))))))))
def n_law12_TmplPlain : Fn := ⟨c_law12_TmplPlain, [.t 6], false, false⟩
theorem ok_law12_TmplPlain : fnOf Tryd.prog eff keep f_law12_TmplPlain = some n_law12_TmplPlain.bare := by kernel_rfl
@[simp] theorem c_law12_TmplPlain_l0_norm (st : St) : norm c_law12_TmplPlain_l0 st = st.keep [1, 3, 27, 28, 29] [3] := rfl
def b_tmpl_Same_l0 : ACode :=
  (.seq (.reg 0 [oo 17 (.bin .lss (.t 16) (.t 15))])
 (.seq (.cond (.t 17) (.skip) (.keep [2, 3] [2, 3] (.exit 0)))
 (.keep [1, 2, 3, 15, 16] [1, 2, 3] (.seq (.block 1 (.seq (.reg 0 [oo 18 (.mv (.t 16)),
 oo 4 (.mv (.t 18))])
 (.reg 6 [oo 19 (.fld 9 (.t 3)),
 oo 20 (.load false 1 (.t 19)),
 oo 21 (.load true 4 (.t 1)),
 oo 22 (.mv (.t 4)),
 oo 23 (.call true (cf f_tmpl_Plain) [(.t 21), (.t 22)]),
 oo 24 (.bslice [(.sl [] .nil)] 1 [(0, (.t 23))]),
 oo 25 (.app 1 (.t 20) (.t 24)),
 oo 26 (.fld 9 (.t 3)),
 ox (.store 1 (.t 26) (.t 25))])))
 (.keep [1, 2, 3, 15, 16] [1, 2, 3] (.reg 0 [oo 27 (.bin .add (.t 16) (ci 1)),
 oo 16 (.mv (.t 27))]))))))
def c_tmpl_Same_l0 : ACode := .keep [1, 2, 3, 15, 16] [1, 2, 3] b_tmpl_Same_l0
def c_tmpl_Same : ACode :=
  .seq (.reg 0 [oo 1 (.box (.t 0)),
 oo 2 (.alloc [(.sl [] .nil), (.sl [] .nil), (.int .i64 0), (.sl [] .nil), (.sl [] .nil), (.sl [] .nil), (.int .i64 0), (.sl [] .nil), (.sl [] .nil), (.sl [] .nil)])])
 (.seq (.reg 9 [oo 5 (.load true 4 (.t 1)),
 oo 6 (.load true 4 (.t 1)),
 oo 7 (.load true 4 (.t 1)),
 oo 8 (.fld 0 (.t 1)),
 oo 9 (.load false 1 (.t 8)),
 oo 10 (.len .sl (.t 9)),
 oo 11 (.call true (cf f_tmpl_Sorts) [(.t 7), (.t 10)]),
 oo 12 (.build [(.sl [] .nil), (.sl [] .nil), (.int .i64 0), (.sl [] .nil), (.sl [] .nil), (.sl [] .nil), (.int .i64 0), (.sl [] .nil), (.sl [] .nil), (.sl [] .nil)] [(0, 4, (.t 5)), (4, 4, (.t 6)), (8, 1, (.t 11))]),
 oo 3 (.alloc [(.sl [] .nil), (.sl [] .nil), (.int .i64 0), (.sl [] .nil), (.sl [] .nil), (.sl [] .nil), (.int .i64 0), (.sl [] .nil), (.sl [] .nil), (.sl [] .nil)]),
 ox (.store 10 (.t 3) (.t 12))])
 (.seq (.seq (.reg 0 [oo 13 (.fld 3 (.t 1)),
 oo 14 (.load false 1 (.t 13)),
 oo 15 (.len .sl (.t 14)),
 oo 16 (.mv (ci 0))])
 (.block 0 (.loop c_tmpl_Same_l0)))
 (.keep [2, 3] [2, 3] (.seq (.reg 0 [oo 28 (.load true 10 (.t 3)),
 ox (.store 10 (.t 2) (.t 28))])
 (.ret)))))
def n_tmpl_Same : Fn := ⟨c_tmpl_Same, [.c 2 10 true], false, false⟩
theorem ok_tmpl_Same : fnOf Tryd.prog eff keep f_tmpl_Same = some n_tmpl_Same.bare := by kernel_rfl
@[simp] theorem c_tmpl_Same_l0_norm (st : St) : norm c_tmpl_Same_l0 st = st.keep [1, 2, 3, 15, 16] [1, 2, 3] := rfl
end Go.Proofs.YtlacnkjkcikodaaDoor.Am
end
section
set_option linter.unusedVariables false
set_option maxRecDepth 1000000
namespace Go.Proofs.YtlacnkjkcikodaaDoor.Am
open Go
def b_ref12_Plain_l0 : ACode :=
  (.seq (.seq (.reg 0 [oo 18 (.mv (.t 6)),
 oo 19 (.fld 3 (.t 2)),
 oo 20 (.load false 1 (.t 19)),
 oo 21 (.mv (.t 1)),
 oo 22 (.ixa 2 (.t 20) (.t 21)),
 oo 23 (.fld 1 (.t 22)),
 oo 24 (.load false 1 (.t 23)),
 oo 25 (.len .sl (.t 24)),
 oo 26 (.bin .lss (.t 18) (.t 25))])
 (.cond (.t 26) (.skip) (.keep [5] [5] (.exit 0))))
 (.keep [1, 2, 5, 6] [2, 5] (.seq (.block 1 (.reg 0 [oo 29 (.fld 2 (.t 5)),
 oo 30 (.load false 1 (.t 29)),
 oo 31 (.mv (.t 6)),
 oo 32 (.build [(.int .i64 0), (.int .i64 0), (.sl [] .nil)] [(0, 1, (ci 1)), (1, 1, (.t 31))]),
 oo 33 (.bslice [(.int .i64 0), (.int .i64 0), (.sl [] .nil)] 1 [(0, (.t 32))]),
 oo 34 (.app 3 (.t 30) (.t 33)),
 oo 35 (.fld 2 (.t 5)),
 ox (.store 1 (.t 35) (.t 34))]))
 (.keep [1, 2, 5, 6] [2, 5] (.reg 0 [oo 27 (.mv (.t 6)),
 oo 28 (.bin .add (.t 27) (ci 1)),
 oo 6 (.mv (.t 28))])))))
def c_ref12_Plain_l0 : ACode := .keep [1, 2, 5, 6] [2, 5] b_ref12_Plain_l0
def c_ref12_Plain : ACode :=
  .seq (.reg 0 [oo 2 (.box (.t 0)),
 oo 4 (.mv (.c (.sl [] .nil)))])
 (.seq (.seq (.reg 0 [oo 7 (.mv (.t 1)),
 oo 8 (.bin .lss (.t 7) (ci 0)),
 oo 9 (.mv (.t 8)),
 og 10 9 false (.mv (.t 1)),
 og 11 9 false (.fld 3 (.t 2)),
 og 12 9 false (.load false 1 (.t 11)),
 og 13 9 false (.len .sl (.t 12)),
 og 14 9 false (.bin .geq (.t 10) (.t 13)),
 oo 15 (.pick (.t 9) (.c (.bool true)) (.t 14))])
 (.cond (.t 15) (.seq (.reg 0 [oo 4 (.mv (.c (.sl [] .nil)))])
 (.ret)) (.skip)))
 (.keep [1, 2] [2] (.seq (.reg 0 [oo 16 (.mv (.t 1)),
 oo 17 (.build [(.int .i64 0), (.int .i64 0), (.sl [] .nil)] [(1, 1, (.t 16))]),
 oo 5 (.alloc [(.int .i64 0), (.int .i64 0), (.sl [] .nil)]),
 ox (.store 3 (.t 5) (.t 17))])
 (.seq (.seq (.reg 0 [oo 6 (.mv (ci 0))])
 (.block 0 (.loop c_ref12_Plain_l0)))
 (.keep [5] [5] (.seq (.reg 0 [oo 36 (.load true 3 (.t 5)),
 oo 37 (.bslice [(.int .i64 0), (.int .i64 0), (.sl [] .nil)] 1 [(0, (.t 36))]),
 oo 4 (.mv (.t 37))])
 (.ret)))))))
def n_ref12_Plain : Fn := ⟨c_ref12_Plain, [.t 4], false, false⟩
theorem ok_ref12_Plain : fnOf Tryd.prog eff keep f_ref12_Plain = some n_ref12_Plain.bare := by kernel_rfl
@[simp] theorem c_ref12_Plain_l0_norm (st : St) : norm c_ref12_Plain_l0 st = st.keep [1, 2, 5, 6] [2, 5] := rfl
def c_law09_UsefulTells : ACode :=
  .seq (.reg 0 [oo 1 (.box (.t 0)),
 oo 2 (.mv (.c (.bool false)))])
 (.seq (.seq (.reg 0 [oo 4 (.load true 4 (.t 1)),
 oo 5 (.call true (cf f_law02_Small) [(.t 4)]),
 oo 6 (.un .not (.t 5))])
 (.cond (.t 6) (.seq (.reg 0 [oo 7 (.call true (cf f_law09_Awake) []),
 oo 2 (.mv (.t 7))])
 (.ret)) (.skip)))
 (.keep [1] [1] (.seq (.seq (.reg 0 [oo 8 (.load true 4 (.t 1)),
 oo 9 (.call true (cf f_law02_May) [(.t 8)]),
 oo 10 (.un .not (.t 9))])
 (.cond (.t 10) (.seq (.reg 0 [oo 11 (.call true (cf f_law09_Awake) []),
 oo 12 (.mv (.t 11)),
 og 13 12 true (.load true 4 (.t 1)),
 og 14 12 true (.call true (cf f_useful_Makes) [(.t 13)]),
 og 15 12 true (.len .sl (.t 14)),
 og 16 12 true (.bin .eql (.t 15) (ci 0)),
 oo 17 (.pick (.t 12) (.t 16) (.c (.bool false))),
 oo 18 (.mv (.t 17)),
 og 19 18 true (.load true 4 (.t 1)),
 og 20 18 true (.call true (cf f_useful_Met) [(.t 19)]),
 og 21 18 true (.len .sl (.t 20)),
 og 22 18 true (.bin .eql (.t 21) (ci 0)),
 oo 23 (.pick (.t 18) (.t 22) (.c (.bool false))),
 oo 24 (.mv (.t 23)),
 og 25 24 true (.load true 4 (.t 1)),
 og 26 24 true (.call true (cf f_useful_Reduced) [(.t 25)]),
 og 27 24 true (.un .not (.t 26)),
 oo 28 (.pick (.t 24) (.t 27) (.c (.bool false))),
 oo 2 (.mv (.t 28))])
 (.ret)) (.skip)))
 (.keep [1] [1] (.seq (.reg 0 [oo 29 (.load true 4 (.t 1)),
 oo 30 (.call true (cf f_law02_Of) [(.t 29)]),
 oo 3 (.alloc [(.sl [] .nil), (.sl [] .nil), (.int .i64 0), (.sl [] .nil)]),
 ox (.store 4 (.t 3) (.t 30))])
 (.seq (.reg 19 [oo 31 (.call true (cf f_law09_Awake) []),
 oo 32 (.mv (.t 31)),
 og 33 32 true (.load true 4 (.t 1)),
 og 34 32 true (.call true (cf f_useful_Makes) [(.t 33)]),
 og 35 32 true (.load true 4 (.t 3)),
 og 36 32 true (.call true (cf f_ref09_Makes) [(.t 35)]),
 og 37 32 true (.call true (cf f_law09_bools) [(.t 34), (.t 36)]),
 oo 38 (.pick (.t 32) (.t 37) (.c (.bool false))),
 oo 39 (.mv (.t 38)),
 og 40 39 true (.load true 4 (.t 1)),
 og 41 39 true (.call true (cf f_useful_Met) [(.t 40)]),
 og 42 39 true (.load true 4 (.t 3)),
 og 43 39 true (.call true (cf f_ref09_Met) [(.t 42)]),
 og 44 39 true (.call true (cf f_law09_bools) [(.t 41), (.t 43)]),
 oo 45 (.pick (.t 39) (.t 44) (.c (.bool false))),
 oo 46 (.mv (.t 45)),
 og 47 46 true (.load true 4 (.t 1)),
 og 48 46 true (.call true (cf f_useful_Reduced) [(.t 47)]),
 og 49 46 true (.load true 4 (.t 3)),
 og 50 46 true (.call true (cf f_ref09_Reduced) [(.t 49)]),
 og 51 46 true (.eqv false .b (.t 48) (.t 50)),
 oo 52 (.pick (.t 46) (.t 51) (.c (.bool false))),
 oo 2 (.mv (.t 52))])
 (.ret)))))))
def n_law09_UsefulTells : Fn := ⟨c_law09_UsefulTells, [.t 2], false, false⟩
theorem ok_law09_UsefulTells : fnOf Tryd.prog eff keep f_law09_UsefulTells = some n_law09_UsefulTells.bare := by kernel_rfl
def c_law09_Awake : ACode :=
  .seq (.reg 0 [oo 0 (.mv (.c (.bool false)))])
 (.seq (.reg 0 [oo 4 (.bslice [(.str ⟨#[]⟩)] 2 [(0, (.c (.str ⟨#[83]⟩))), (1, (.c (.str ⟨#[65]⟩)))]),
 oo 5 (.bslice [(.str ⟨#[]⟩)] 1 [(0, (.c (.str ⟨#[97]⟩)))]),
 oo 6 (.bslice [(.int .i64 0)] 1 [(0, (ci (-1)))]),
 oo 7 (.build [(.int .i64 0), (.sl [] .nil)] [(1, 1, (.t 6))]),
 oo 8 (.bslice [(.int .i64 0)] 1 [(0, (ci 1))]),
 oo 9 (.build [(.int .i64 0), (.sl [] .nil)] [(1, 1, (.t 8))]),
 oo 10 (.bslice [(.int .i64 0)] 1 [(0, (ci 1))]),
 oo 11 (.build [(.int .i64 0), (.sl [] .nil)] [(0, 1, (ci 1)), (1, 1, (.t 10))]),
 oo 12 (.bslice [(.int .i64 0), (.sl [] .nil)] 3 [(0, (.t 7)), (1, (.t 9)), (2, (.t 11))]),
 oo 13 (.build [(.sl [] .nil), (.sl [] .nil), (.int .i64 0), (.sl [] .nil)] [(0, 1, (.t 4)), (1, 1, (.t 5)), (3, 1, (.t 12))]),
 oo 1 (.alloc [(.sl [] .nil), (.sl [] .nil), (.int .i64 0), (.sl [] .nil)]),
 ox (.store 4 (.t 1) (.t 13))])
 (.seq (.reg 3 [oo 14 (.load true 4 (.t 1)),
 oo 15 (.call true (cf f_useful_Makes) [(.t 14)]),
 oo 16 (.load true 4 (.t 1)),
 oo 17 (.call true (cf f_useful_Met) [(.t 16)]),
 oo 2 (.mv (.t 15)),
 oo 3 (.mv (.t 17))])
 (.seq (.reg 0 [oo 18 (.call true (cf f_law03_Awake) []),
 oo 19 (.mv (.t 18)),
 og 20 19 true (.mv (.t 2)),
 og 21 19 true (.len .sl (.t 20)),
 og 22 19 true (.bin .eql (.t 21) (ci 2)),
 oo 23 (.pick (.t 19) (.t 22) (.c (.bool false))),
 oo 24 (.mv (.t 23)),
 og 25 24 true (.mv (.t 2)),
 og 26 24 true (.ixa 1 (.t 25) (ci 0)),
 og 27 24 true (.load false 1 (.t 26)),
 oo 28 (.pick (.t 24) (.t 27) (.c (.bool false))),
 oo 29 (.mv (.t 28)),
 og 30 29 true (.mv (.t 2)),
 og 31 29 true (.ixa 1 (.t 30) (ci 1)),
 og 32 29 true (.load false 1 (.t 31)),
 og 33 29 true (.un .not (.t 32)),
 oo 34 (.pick (.t 29) (.t 33) (.c (.bool false))),
 oo 35 (.mv (.t 34)),
 og 36 35 true (.mv (.t 3)),
 og 37 35 true (.len .sl (.t 36)),
 og 38 35 true (.bin .eql (.t 37) (ci 2)),
 oo 39 (.pick (.t 35) (.t 38) (.c (.bool false))),
 oo 40 (.mv (.t 39)),
 og 41 40 true (.mv (.t 3)),
 og 42 40 true (.ixa 1 (.t 41) (ci 0)),
 og 43 40 true (.load false 1 (.t 42)),
 oo 44 (.pick (.t 40) (.t 43) (.c (.bool false))),
 oo 45 (.mv (.t 44)),
 og 46 45 true (.mv (.t 3)),
 og 47 45 true (.ixa 1 (.t 46) (ci 1)),
 og 48 45 true (.load false 1 (.t 47)),
 oo 49 (.pick (.t 45) (.t 48) (.c (.bool false))),
 oo 50 (.mv (.t 49)),
 og 51 50 true (.load true 4 (.t 1)),
 og 52 50 true (.call true (cf f_useful_Reduced) [(.t 51)]),
 og 53 50 true (.un .not (.t 52)),
 oo 54 (.pick (.t 50) (.t 53) (.c (.bool false))),
 oo 0 (.mv (.t 54))])
 (.ret))))
def n_law09_Awake : Fn := ⟨c_law09_Awake, [.t 0], false, false⟩
theorem ok_law09_Awake : fnOf Tryd.prog eff keep f_law09_Awake = some n_law09_Awake.bare := by kernel_rfl
def b_useful_Makes_l0 : ACode :=
  (.seq (.reg 0 [oo 13 (.bin .lss (.t 12) (.t 11))])
 (.seq (.cond (.t 13) (.skip) (.keep [3] [] (.exit 0)))
 (.keep [220003, 10, 11, 12] [] (.seq (.block 1 (.seq (.reg 0 [oo 14 (.ixa 1 (.t 10) (.t 12)),
 oo 15 (.load false 1 (.t 14)),
 oo 5 (.mv (.t 15))])
 (.reg 0 [oo 16 (.mv (.t 3)),
 oo 17 (.mv (.t 5)),
 oo 18 (.bin .geq (.t 17) (ci 0)),
 oo 19 (.bslice [(.bool false)] 1 [(0, (.t 18))]),
 oo 20 (.app 1 (.t 16) (.t 19)),
 oo 3 (.mv (.t 20))])))
 (.keep [220003, 10, 11, 12] [] (.reg 0 [oo 21 (.bin .add (.t 12) (ci 1)),
 oo 12 (.mv (.t 21))]))))))
def c_useful_Makes_l0 : ACode := .keep [220003, 10, 11, 12] [] b_useful_Makes_l0
def c_useful_Makes : ACode :=
  .seq (.reg 0 [oo 1 (.box (.t 0)),
 oo 2 (.mv (.c (.sl [] .nil)))])
 (.seq (.seq (.reg 0 [oo 6 (.load true 4 (.t 1)),
 oo 7 (.call true (cf f_gram_Grammar_Check) [(.t 6)]),
 oo 8 (.bin .neq (.t 7) (ci 0))])
 (.cond (.t 8) (.seq (.reg 0 [oo 2 (.mv (.c (.sl [] .nil)))])
 (.ret)) (.skip)))
 (.keep [1] [1] (.seq (.reg 0 [oo 3 (.mv (.c (.sl [] .nil)))])
 (.seq (.seq (.reg 0 [oo 9 (.load true 4 (.t 1)),
 oo 10 (.call true (cf f_none_126) [(.t 9)]),
 oo 11 (.len .sl (.t 10)),
 oo 12 (.mv (ci 0))])
 (.block 0 (.loop c_useful_Makes_l0)))
 (.keep [3] [] (.seq (.reg 0 [oo 22 (.mv (.t 3)),
 oo 2 (.mv (.t 22))])
 (.ret)))))))
def n_useful_Makes : Fn := ⟨c_useful_Makes, [.t 2], false, false⟩
theorem ok_useful_Makes : fnOf Tryd.prog eff keep f_useful_Makes = some n_useful_Makes.bare := by kernel_rfl
@[simp] theorem c_useful_Makes_l0_norm (st : St) : norm c_useful_Makes_l0 st = st.keep [220003, 10, 11, 12] [] := rfl
def c_useful_Met : ACode :=
  .seq (.reg 0 [oo 1 (.box (.t 0)),
 oo 2 (.mv (.c (.sl [] .nil)))])
 (.seq (.seq (.reg 0 [oo 5 (.load true 4 (.t 1)),
 oo 6 (.call true (cf f_gram_Grammar_Check) [(.t 5)]),
 oo 7 (.bin .neq (.t 6) (ci 0))])
 (.cond (.t 7) (.seq (.reg 0 [oo 2 (.mv (.c (.sl [] .nil)))])
 (.ret)) (.skip)))
 (.keep [1] [1, 3, 4, 11] (.seq (.reg 0 [oo 8 (.fld 0 (.t 1)),
 oo 9 (.load false 1 (.t 8)),
 oo 10 (.len .sl (.t 9)),
 oo 11 (.mksl (.bool false) (.t 10)),
 oo 3 (.alloc [(.sl [] .nil)]),
 ox (.store 1 (.t 3) (.t 11))])
 (.seq (.reg 0 [oo 4 (.alloc [.nilf])])
 (.seq (.reg 0 [oo 12 (.mkf f_useful_Met_1 [(.t 3), (.t 1), (.t 4)]),
 ox (.store 1 (.t 4) (.t 12))])
 (.keep [1, 3, 4] [1, 3, 4, 11] (.seq (.reg 0 [oo 13 (.load false 1 (.t 4)),
 oo 14 (.fld 2 (.t 1)),
 oo 15 (.load false 1 (.t 14)),
 oo 16 (.call false (.t 13) [(.t 15)])])
 (.seq (.reg 0 [oo 17 (.load false 1 (.t 3)),
 oo 2 (.mv (.t 17))])
 (.ret)))))))))
def n_useful_Met : Fn := ⟨c_useful_Met, [.t 2], false, false⟩
theorem ok_useful_Met : fnOf Tryd.prog eff keep f_useful_Met = some n_useful_Met.bare := by kernel_rfl
def b_useful_Met_1_l0 : ACode :=
  (.seq (.reg 0 [oo 32 (.bin .lss (.t 31) (.t 30))])
 (.seq (.cond (.t 32) (.skip) (.keep [2, 3, 18, 19, 20] [] (.exit 2)))
 (.keep [2, 3, 18, 19, 20, 29, 30, 31] [] (.seq (.block 3 (.seq (.reg 0 [oo 33 (.ixa 1 (.t 29) (.t 31)),
 oo 34 (.load false 1 (.t 33)),
 oo 8 (.mv (.t 34))])
 (.seq (.reg 0 [oo 35 (.mv (.t 8)),
 oo 36 (.call true (cf f_gram_Sym_IsTerm) [(.t 35)]),
 oo 37 (.un .not (.t 36))])
 (.cond (.t 37) (.reg 3 [oo 38 (.load false 1 (.t 3)),
 oo 39 (.mv (.t 8)),
 oo 40 (.call true (cf f_gram_Sym_Place) [(.t 39)]),
 oo 41 (.call false (.t 38) [(.t 40)])]) (.skip)))))
 (.keep [2, 3, 18, 19, 20, 29, 30, 31] [] (.reg 0 [oo 42 (.bin .add (.t 31) (ci 1)),
 oo 31 (.mv (.t 42))]))))))
def c_useful_Met_1_l0 : ACode := .keep [2, 3, 18, 19, 20, 29, 30, 31] [] b_useful_Met_1_l0
def b_useful_Met_1_l1 : ACode :=
  (.seq (.reg 0 [oo 21 (.bin .lss (.t 20) (.t 19))])
 (.seq (.cond (.t 21) (.skip) (.keep [] [] (.exit 0)))
 (.keep [2, 3, 18, 19, 20] [] (.seq (.block 1 (.seq (.reg 0 [oo 22 (.ixa 1 (.t 18) (.t 20)),
 oo 23 (.load false 1 (.t 22)),
 oo 6 (.mv (.t 23))])
 (.seq (.reg 0 [oo 24 (.fld 3 (.t 2)),
 oo 25 (.load false 1 (.t 24)),
 oo 26 (.mv (.t 6)),
 oo 27 (.ixa 2 (.t 25) (.t 26)),
 oo 28 (.fld 1 (.t 27)),
 oo 29 (.load false 1 (.t 28)),
 oo 30 (.len .sl (.t 29)),
 oo 31 (.mv (ci 0))])
 (.block 2 (.loop c_useful_Met_1_l0)))))
 (.keep [2, 3, 18, 19, 20] [] (.reg 0 [oo 43 (.bin .add (.t 20) (ci 1)),
 oo 20 (.mv (.t 43))]))))))
def c_useful_Met_1_l1 : ACode := .keep [2, 3, 18, 19, 20] [] b_useful_Met_1_l1
def c_useful_Met_1 : ACode :=
  .seq (.seq (.reg 0 [oo 9 (.load false 1 (.t 1)),
 oo 10 (.mv (.t 0)),
 oo 11 (.ixa 1 (.t 9) (.t 10)),
 oo 12 (.load false 1 (.t 11))])
 (.cond (.t 12) (.ret) (.skip)))
 (.keep [0, 1, 2, 3] [] (.seq (.reg 0 [oo 13 (.load false 1 (.t 1)),
 oo 14 (.mv (.t 0)),
 oo 15 (.ixa 1 (.t 13) (.t 14)),
 ox (.store 1 (.t 15) (.c (.bool true)))])
 (.seq (.reg 0 [oo 16 (.load true 4 (.t 2)),
 oo 17 (.mv (.t 0)),
 oo 18 (.call true (cf f_gram_Grammar_Of) [(.t 16), (.t 17)]),
 oo 19 (.len .sl (.t 18)),
 oo 20 (.mv (ci 0))])
 (.block 0 (.loop c_useful_Met_1_l1)))))
def n_useful_Met_1 : Fn := ⟨c_useful_Met_1, [], false, false⟩
theorem ok_useful_Met_1 : fnOf Tryd.prog eff keep f_useful_Met_1 = some n_useful_Met_1.bare := by kernel_rfl
@[simp] theorem c_useful_Met_1_l0_norm (st : St) : norm c_useful_Met_1_l0 st = st.keep [2, 3, 18, 19, 20, 29, 30, 31] [] := rfl
@[simp] theorem c_useful_Met_1_l1_norm (st : St) : norm c_useful_Met_1_l1 st = st.keep [2, 3, 18, 19, 20] [] := rfl
def b_useful_Reduced_l0 : ACode :=
  (.seq (.reg 0 [oo 33 (.bin .lss (.t 32) (.t 31))])
 (.seq (.cond (.t 33) (.skip) (.keep [3, 4, 17, 18, 19] [] (.exit 2)))
 (.keep [3, 4, 17, 18, 19, 30, 31, 32] [] (.seq (.block 3 (.seq (.reg 0 [oo 34 (.ixa 1 (.t 30) (.t 32)),
 oo 35 (.load false 1 (.t 34)),
 oo 8 (.mv (.t 35))])
 (.seq (.reg 0 [oo 36 (.mv (.t 8)),
 oo 37 (.call true (cf f_gram_Sym_IsTerm) [(.t 36)]),
 oo 38 (.un .not (.t 37)),
 oo 39 (.mv (.t 38)),
 og 40 39 true (.mv (.t 3)),
 og 41 39 true (.mv (.t 8)),
 og 42 39 true (.call true (cf f_gram_Sym_Place) [(.t 41)]),
 og 43 39 true (.ixa 1 (.t 40) (.t 42)),
 og 44 39 true (.load false 1 (.t 43)),
 og 45 39 true (.un .not (.t 44)),
 oo 46 (.pick (.t 39) (.t 45) (.c (.bool false)))])
 (.cond (.t 46) (.seq (.reg 0 [oo 2 (.mv (.c (.bool false)))])
 (.keep [2] [] (.ret))) (.skip)))))
 (.keep [3, 4, 17, 18, 19, 30, 31, 32] [] (.reg 0 [oo 47 (.bin .add (.t 32) (ci 1)),
 oo 32 (.mv (.t 47))]))))))
def c_useful_Reduced_l0 : ACode := .keep [3, 4, 17, 18, 19, 30, 31, 32] [] b_useful_Reduced_l0
def b_useful_Reduced_l1 : ACode :=
  (.seq (.reg 0 [oo 20 (.bin .lss (.t 19) (.t 18))])
 (.seq (.cond (.t 20) (.skip) (.keep [] [] (.exit 0)))
 (.keep [3, 4, 17, 18, 19] [] (.seq (.block 1 (.seq (.reg 0 [oo 21 (.ixa 2 (.t 17) (.t 19)),
 oo 22 (.load true 2 (.t 21)),
 oo 6 (.alloc [(.int .i64 0), (.sl [] .nil)]),
 ox (.store 2 (.t 6) (.t 22))])
 (.seq (.seq (.reg 0 [oo 23 (.mv (.t 4)),
 oo 24 (.fld 0 (.t 6)),
 oo 25 (.load false 1 (.t 24)),
 oo 26 (.ixa 1 (.t 23) (.t 25)),
 oo 27 (.load false 1 (.t 26)),
 oo 28 (.un .not (.t 27))])
 (.cond (.t 28) (.seq (.reg 0 [oo 2 (.mv (.c (.bool false)))])
 (.keep [2] [] (.ret))) (.skip)))
 (.keep [3, 4, 6, 17, 18, 19] [6] (.seq (.reg 0 [oo 29 (.fld 1 (.t 6)),
 oo 30 (.load false 1 (.t 29)),
 oo 31 (.len .sl (.t 30)),
 oo 32 (.mv (ci 0))])
 (.block 2 (.loop c_useful_Reduced_l0)))))))
 (.keep [3, 4, 17, 18, 19] [] (.reg 0 [oo 48 (.bin .add (.t 19) (ci 1)),
 oo 19 (.mv (.t 48))]))))))
def c_useful_Reduced_l1 : ACode := .keep [3, 4, 17, 18, 19] [] b_useful_Reduced_l1
def c_useful_Reduced : ACode :=
  .seq (.reg 0 [oo 1 (.box (.t 0)),
 oo 2 (.mv (.c (.bool false)))])
 (.seq (.seq (.reg 0 [oo 9 (.load true 4 (.t 1)),
 oo 10 (.call true (cf f_gram_Grammar_Check) [(.t 9)]),
 oo 11 (.bin .neq (.t 10) (ci 0))])
 (.cond (.t 11) (.seq (.reg 0 [oo 2 (.mv (.c (.bool false)))])
 (.ret)) (.skip)))
 (.keep [1] [1] (.seq (.reg 3 [oo 12 (.load true 4 (.t 1)),
 oo 13 (.call true (cf f_useful_Makes) [(.t 12)]),
 oo 14 (.load true 4 (.t 1)),
 oo 15 (.call true (cf f_useful_Met) [(.t 14)]),
 oo 3 (.mv (.t 13)),
 oo 4 (.mv (.t 15))])
 (.seq (.seq (.reg 0 [oo 16 (.fld 3 (.t 1)),
 oo 17 (.load false 1 (.t 16)),
 oo 18 (.len .sl (.t 17)),
 oo 19 (.mv (ci 0))])
 (.block 0 (.loop c_useful_Reduced_l1)))
 (.keep [] [] (.seq (.reg 0 [oo 2 (.mv (.c (.bool true)))])
 (.ret)))))))
def n_useful_Reduced : Fn := ⟨c_useful_Reduced, [.t 2], false, false⟩
theorem ok_useful_Reduced : fnOf Tryd.prog eff keep f_useful_Reduced = some n_useful_Reduced.bare := by kernel_rfl
@[simp] theorem c_useful_Reduced_l0_norm (st : St) : norm c_useful_Reduced_l0 st = st.keep [3, 4, 17, 18, 19, 30, 31, 32] [] := rfl
@[simp] theorem c_useful_Reduced_l1_norm (st : St) : norm c_useful_Reduced_l1 st = st.keep [3, 4, 17, 18, 19] [] := rfl
def b_ref09_Makes_l0 : ACode :=
  (.seq (.seq (.reg 0 [oo 11 (.mv (.t 5)),
 oo 12 (.mv (.t 3)),
 oo 13 (.len .sl (.t 12)),
 oo 14 (.bin .lss (.t 11) (.t 13))])
 (.cond (.t 14) (.skip) (.keep [4] [10] (.exit 0))))
 (.keep [3, 4, 5] [10] (.seq (.block 1 (.reg 0 [oo 17 (.mv (.t 4)),
 oo 18 (.mv (.t 5)),
 oo 19 (.mv (.t 3)),
 oo 20 (.mv (.t 5)),
 oo 21 (.ixa 1 (.t 19) (.t 20)),
 oo 22 (.load false 1 (.t 21)),
 oo 23 (.bin .geq (.t 22) (ci 0)),
 oo 24 (.ixa 1 (.t 17) (.t 18)),
 ox (.store 1 (.t 24) (.t 23))]))
 (.keep [3, 4, 5] [10] (.reg 0 [oo 15 (.mv (.t 5)),
 oo 16 (.bin .add (.t 15) (ci 1)),
 oo 5 (.mv (.t 16))])))))
def c_ref09_Makes_l0 : ACode := .keep [3, 4, 5] [10] b_ref09_Makes_l0
def c_ref09_Makes : ACode :=
  .seq (.reg 0 [oo 1 (.box (.t 0)),
 oo 2 (.mv (.c (.sl [] .nil)))])
 (.seq (.reg 0 [oo 6 (.load true 4 (.t 1)),
 oo 7 (.call true (cf f_ref09_By) [(.t 6)]),
 oo 3 (.mv (.t 7))])
 (.seq (.reg 0 [oo 8 (.mv (.t 3)),
 oo 9 (.len .sl (.t 8)),
 oo 10 (.mksl (.bool false) (.t 9)),
 oo 4 (.mv (.t 10))])
 (.seq (.seq (.reg 0 [oo 5 (.mv (ci 0))])
 (.block 0 (.loop c_ref09_Makes_l0)))
 (.keep [4] [10] (.seq (.reg 0 [oo 25 (.mv (.t 4)),
 oo 2 (.mv (.t 25))])
 (.ret))))))
def n_ref09_Makes : Fn := ⟨c_ref09_Makes, [.t 2], false, false⟩
theorem ok_ref09_Makes : fnOf Tryd.prog eff keep f_ref09_Makes = some n_ref09_Makes.bare := by kernel_rfl
@[simp] theorem c_ref09_Makes_l0_norm (st : St) : norm c_ref09_Makes_l0 st = st.keep [3, 4, 5] [10] := rfl
def b_ref09_By_l0 : ACode :=
  (.seq (.seq (.reg 0 [oo 15 (.mv (.t 4)),
 oo 16 (.mv (.t 3)),
 oo 17 (.len .sl (.t 16)),
 oo 18 (.bin .lss (.t 15) (.t 17))])
 (.cond (.t 18) (.skip) (.keep [1, 3] [1, 14] (.exit 0))))
 (.keep [1, 3, 4] [1, 14] (.seq (.block 1 (.reg 0 [oo 21 (.mv (.t 3)),
 oo 22 (.mv (.t 4)),
 oo 23 (.ixa 1 (.t 21) (.t 22)),
 ox (.store 1 (.t 23) (ci (-1)))]))
 (.keep [1, 3, 4] [1, 14] (.reg 0 [oo 19 (.mv (.t 4)),
 oo 20 (.bin .add (.t 19) (ci 1)),
 oo 4 (.mv (.t 20))])))))
def c_ref09_By_l0 : ACode := .keep [1, 3, 4] [1, 14] b_ref09_By_l0
def b_ref09_By_l1 : ACode :=
  (.seq (.seq (.reg 0 [oo 52 (.mv (.t 10)),
 oo 53 (.fld 1 (.t 8)),
 oo 54 (.load false 1 (.t 53)),
 oo 55 (.len .sl (.t 54)),
 oo 56 (.bin .lss (.t 52) (.t 55))])
 (.cond (.t 56) (.skip) (.keep [1, 3, 5, 6, 10007, 8, 9] [1, 8, 14] (.exit 6))))
 (.keep [1, 3, 5, 6, 10007, 8, 9, 10] [1, 8, 14] (.seq (.block 7 (.seq (.reg 0 [oo 59 (.fld 1 (.t 8)),
 oo 60 (.load false 1 (.t 59)),
 oo 61 (.mv (.t 10)),
 oo 62 (.ixa 1 (.t 60) (.t 61)),
 oo 63 (.load false 1 (.t 62)),
 oo 64 (.bin .geq (.t 63) (ci 0)),
 oo 65 (.mv (.t 64)),
 og 66 65 true (.mv (.t 6)),
 og 67 65 true (.fld 1 (.t 8)),
 og 68 65 true (.load false 1 (.t 67)),
 og 69 65 true (.mv (.t 10)),
 og 70 65 true (.ixa 1 (.t 68) (.t 69)),
 og 71 65 true (.load false 1 (.t 70)),
 og 72 65 true (.ixa 1 (.t 66) (.t 71)),
 og 73 65 true (.load false 1 (.t 72)),
 og 74 65 true (.bin .lss (.t 73) (ci 0)),
 oo 75 (.pick (.t 65) (.t 74) (.c (.bool false)))])
 (.cond (.t 75) (.reg 0 [oo 9 (.mv (.c (.bool false)))]) (.skip))))
 (.keep [1, 3, 5, 6, 10007, 8, 9, 10] [1, 8, 14] (.reg 0 [oo 57 (.mv (.t 10)),
 oo 58 (.bin .add (.t 57) (ci 1)),
 oo 10 (.mv (.t 58))])))))
def c_ref09_By_l1 : ACode := .keep [1, 3, 5, 6, 10007, 8, 9, 10] [1, 8, 14] b_ref09_By_l1
def b_ref09_By_l2 : ACode :=
  (.seq (.seq (.reg 0 [oo 34 (.mv (.t 7)),
 oo 35 (.fld 3 (.t 1)),
 oo 36 (.load false 1 (.t 35)),
 oo 37 (.len .sl (.t 36)),
 oo 38 (.bin .lss (.t 34) (.t 37))])
 (.cond (.t 38) (.skip) (.keep [1, 3, 5] [1, 14] (.exit 4))))
 (.keep [1, 3, 5, 6, 10007] [1, 14] (.seq (.block 5 (.seq (.reg 0 [oo 41 (.fld 3 (.t 1)),
 oo 42 (.load false 1 (.t 41)),
 oo 43 (.mv (.t 7)),
 oo 44 (.ixa 2 (.t 42) (.t 43)),
 oo 45 (.load true 2 (.t 44)),
 oo 8 (.alloc [(.int .i64 0), (.sl [] .nil)]),
 ox (.store 2 (.t 8) (.t 45))])
 (.seq (.reg 0 [oo 46 (.mv (.t 3)),
 oo 47 (.fld 0 (.t 8)),
 oo 48 (.load false 1 (.t 47)),
 oo 49 (.ixa 1 (.t 46) (.t 48)),
 oo 50 (.load false 1 (.t 49)),
 oo 51 (.bin .lss (.t 50) (ci 0)),
 oo 9 (.mv (.t 51))])
 (.seq (.seq (.reg 0 [oo 10 (.mv (ci 0))])
 (.block 6 (.loop c_ref09_By_l1)))
 (.keep [1, 3, 5, 6, 10007, 8, 9] [1, 8, 14] (.seq (.reg 0 [oo 76 (.mv (.t 9))])
 (.cond (.t 76) (.reg 0 [oo 77 (.mv (.t 3)),
 oo 78 (.fld 0 (.t 8)),
 oo 79 (.load false 1 (.t 78)),
 oo 80 (.mv (.t 7)),
 oo 81 (.ixa 1 (.t 77) (.t 79)),
 ox (.store 1 (.t 81) (.t 80))]) (.skip))))))))
 (.keep [1, 3, 5, 6, 7] [1, 14] (.reg 0 [oo 39 (.mv (.t 7)),
 oo 40 (.bin .add (.t 39) (ci 1)),
 oo 7 (.mv (.t 40))])))))
def c_ref09_By_l2 : ACode := .keep [1, 3, 5, 6, 10007] [1, 14] b_ref09_By_l2
def b_ref09_By_l3 : ACode :=
  (.seq (.seq (.reg 0 [oo 24 (.mv (.t 5)),
 oo 25 (.fld 0 (.t 1)),
 oo 26 (.load false 1 (.t 25)),
 oo 27 (.len .sl (.t 26)),
 oo 28 (.bin .leq (.t 24) (.t 27))])
 (.cond (.t 28) (.skip) (.keep [3] [14] (.exit 2))))
 (.keep [1, 3, 5] [1, 14] (.seq (.block 3 (.seq (.reg 0 [oo 31 (.bslice [(.int .i64 0)] 0 []),
 oo 32 (.mv (.t 3)),
 oo 33 (.app 1 (.t 31) (.t 32)),
 oo 6 (.mv (.t 33))])
 (.seq (.reg 0 [oo 7 (.mv (ci 0))])
 (.block 4 (.loop c_ref09_By_l2)))))
 (.keep [1, 3, 5] [1, 14] (.reg 0 [oo 29 (.mv (.t 5)),
 oo 30 (.bin .add (.t 29) (ci 1)),
 oo 5 (.mv (.t 30))])))))
def c_ref09_By_l3 : ACode := .keep [1, 3, 5] [1, 14] b_ref09_By_l3
def c_ref09_By : ACode :=
  .seq (.reg 0 [oo 1 (.box (.t 0)),
 oo 2 (.mv (.c (.sl [] .nil)))])
 (.seq (.reg 0 [oo 11 (.fld 0 (.t 1)),
 oo 12 (.load false 1 (.t 11)),
 oo 13 (.len .sl (.t 12)),
 oo 14 (.mksl (.int .i64 0) (.t 13)),
 oo 3 (.mv (.t 14))])
 (.seq (.seq (.reg 0 [oo 4 (.mv (ci 0))])
 (.block 0 (.loop c_ref09_By_l0)))
 (.keep [1, 3] [1, 14] (.seq (.seq (.reg 0 [oo 5 (.mv (ci 0))])
 (.block 2 (.loop c_ref09_By_l3)))
 (.keep [3] [14] (.seq (.reg 0 [oo 82 (.mv (.t 3)),
 oo 2 (.mv (.t 82))])
 (.ret)))))))
def n_ref09_By : Fn := ⟨c_ref09_By, [.t 2], false, false⟩
theorem ok_ref09_By : fnOf Tryd.prog eff keep f_ref09_By = some n_ref09_By.bare := by kernel_rfl
@[simp] theorem c_ref09_By_l0_norm (st : St) : norm c_ref09_By_l0 st = st.keep [1, 3, 4] [1, 14] := rfl
@[simp] theorem c_ref09_By_l1_norm (st : St) : norm c_ref09_By_l1 st = st.keep [1, 3, 5, 6, 10007, 8, 9, 10] [1, 8, 14] := rfl
@[simp] theorem c_ref09_By_l2_norm (st : St) : norm c_ref09_By_l2 st = st.keep [1, 3, 5, 6, 10007] [1, 14] := rfl
@[simp] theorem c_ref09_By_l3_norm (st : St) : norm c_ref09_By_l3 st = st.keep [1, 3, 5] [1, 14] := rfl
def b_law09_bools_l0 : ACode :=
  (.seq (.reg 0 [oo 14 (.bin .lss (.t 13) (.t 12))])
 (.seq (.cond (.t 14) (.skip) (.keep [] [] (.exit 0)))
 (.keep [0, 1, 12, 13] [] (.seq (.block 1 (.seq (.reg 0 [oo 15 (.mv (.t 13)),
 oo 5 (.mv (.t 15))])
 (.seq (.reg 8 [oo 16 (.mv (.t 0)),
 oo 17 (.mv (.t 5)),
 oo 18 (.ixa 1 (.t 16) (.t 17)),
 oo 19 (.load false 1 (.t 18)),
 oo 20 (.mv (.t 1)),
 oo 21 (.mv (.t 5)),
 oo 22 (.ixa 1 (.t 20) (.t 21)),
 oo 23 (.load false 1 (.t 22)),
 oo 24 (.eqv true .b (.t 19) (.t 23))])
 (.cond (.t 24) (.seq (.reg 0 [oo 4 (.mv (.c (.bool false)))])
 (.keep [4] [] (.ret))) (.skip)))))
 (.keep [0, 1, 12, 13] [] (.reg 0 [oo 25 (.bin .add (.t 13) (ci 1)),
 oo 13 (.mv (.t 25))]))))))
def c_law09_bools_l0 : ACode := .keep [0, 1, 12, 13] [] b_law09_bools_l0
def c_law09_bools : ACode :=
  .seq (.reg 0 [oo 4 (.mv (.c (.bool false)))])
 (.seq (.seq (.reg 0 [oo 6 (.mv (.t 0)),
 oo 7 (.len .sl (.t 6)),
 oo 8 (.mv (.t 1)),
 oo 9 (.len .sl (.t 8)),
 oo 10 (.bin .neq (.t 7) (.t 9))])
 (.cond (.t 10) (.seq (.reg 0 [oo 4 (.mv (.c (.bool false)))])
 (.ret)) (.skip)))
 (.keep [0, 1] [] (.seq (.seq (.reg 0 [oo 11 (.mv (.t 0)),
 oo 12 (.len .sl (.t 11)),
 oo 13 (.mv (ci 0))])
 (.block 0 (.loop c_law09_bools_l0)))
 (.keep [] [] (.seq (.reg 0 [oo 4 (.mv (.c (.bool true)))])
 (.ret))))))
def n_law09_bools : Fn := ⟨c_law09_bools, [.t 4], false, false⟩
theorem ok_law09_bools : fnOf Tryd.prog eff keep f_law09_bools = some n_law09_bools.bare := by kernel_rfl
@[simp] theorem c_law09_bools_l0_norm (st : St) : norm c_law09_bools_l0 st = st.keep [0, 1, 12, 13] [] := rfl
def b_ref09_Met_l0 : ACode :=
  (.seq (.seq (.reg 0 [oo 29 (.mv (.t 3)),
 oo 30 (.fld 3 (.t 1)),
 oo 31 (.load false 1 (.t 30)),
 oo 32 (.mv (.t 5)),
 oo 33 (.ixa 2 (.t 31) (.t 32)),
 oo 34 (.fld 0 (.t 33)),
 oo 35 (.load false 1 (.t 34)),
 oo 36 (.ixa 1 (.t 29) (.t 35)),
 oo 37 (.load false 1 (.t 36)),
 oo 38 (.mv (.t 37)),
 og 39 38 true (.mv (.t 6)),
 og 40 38 true (.fld 3 (.t 1)),
 og 41 38 true (.load false 1 (.t 40)),
 og 42 38 true (.mv (.t 5)),
 og 43 38 true (.ixa 2 (.t 41) (.t 42)),
 og 44 38 true (.fld 1 (.t 43)),
 og 45 38 true (.load false 1 (.t 44)),
 og 46 38 true (.len .sl (.t 45)),
 og 47 38 true (.bin .lss (.t 39) (.t 46)),
 oo 48 (.pick (.t 38) (.t 47) (.c (.bool false)))])
 (.cond (.t 48) (.skip) (.keep [1, 3, 4, 5] [1, 10] (.exit 4))))
 (.keep [1, 3, 4, 5, 6] [1, 10] (.seq (.block 5 (.seq (.reg 0 [oo 51 (.fld 3 (.t 1)),
 oo 52 (.load false 1 (.t 51)),
 oo 53 (.mv (.t 5)),
 oo 54 (.ixa 2 (.t 52) (.t 53)),
 oo 55 (.fld 1 (.t 54)),
 oo 56 (.load false 1 (.t 55)),
 oo 57 (.mv (.t 6)),
 oo 58 (.ixa 1 (.t 56) (.t 57)),
 oo 59 (.load false 1 (.t 58)),
 oo 60 (.bin .geq (.t 59) (ci 0))])
 (.cond (.t 60) (.reg 0 [oo 61 (.mv (.t 3)),
 oo 62 (.fld 3 (.t 1)),
 oo 63 (.load false 1 (.t 62)),
 oo 64 (.mv (.t 5)),
 oo 65 (.ixa 2 (.t 63) (.t 64)),
 oo 66 (.fld 1 (.t 65)),
 oo 67 (.load false 1 (.t 66)),
 oo 68 (.mv (.t 6)),
 oo 69 (.ixa 1 (.t 67) (.t 68)),
 oo 70 (.load false 1 (.t 69)),
 oo 71 (.ixa 1 (.t 61) (.t 70)),
 ox (.store 1 (.t 71) (.c (.bool true)))]) (.skip))))
 (.keep [1, 3, 4, 5, 6] [1, 10] (.reg 0 [oo 49 (.mv (.t 6)),
 oo 50 (.bin .add (.t 49) (ci 1)),
 oo 6 (.mv (.t 50))])))))
def c_ref09_Met_l0 : ACode := .keep [1, 3, 4, 5, 6] [1, 10] b_ref09_Met_l0
def b_ref09_Met_l1 : ACode :=
  (.seq (.seq (.reg 0 [oo 22 (.mv (.t 5)),
 oo 23 (.fld 3 (.t 1)),
 oo 24 (.load false 1 (.t 23)),
 oo 25 (.len .sl (.t 24)),
 oo 26 (.bin .lss (.t 22) (.t 25))])
 (.cond (.t 26) (.skip) (.keep [1, 3, 4] [1, 10] (.exit 2))))
 (.keep [1, 3, 4, 5] [1, 10] (.seq (.block 3 (.seq (.reg 0 [oo 6 (.mv (ci 0))])
 (.block 4 (.loop c_ref09_Met_l0))))
 (.keep [1, 3, 4, 5] [1, 10] (.reg 0 [oo 27 (.mv (.t 5)),
 oo 28 (.bin .add (.t 27) (ci 1)),
 oo 5 (.mv (.t 28))])))))
def c_ref09_Met_l1 : ACode := .keep [1, 3, 4, 5] [1, 10] b_ref09_Met_l1
def b_ref09_Met_l2 : ACode :=
  (.seq (.seq (.reg 0 [oo 15 (.mv (.t 4)),
 oo 16 (.fld 0 (.t 1)),
 oo 17 (.load false 1 (.t 16)),
 oo 18 (.len .sl (.t 17)),
 oo 19 (.bin .lss (.t 15) (.t 18))])
 (.cond (.t 19) (.skip) (.keep [3] [10] (.exit 0))))
 (.keep [1, 3, 4] [1, 10] (.seq (.block 1 (.seq (.reg 0 [oo 5 (.mv (ci 0))])
 (.block 2 (.loop c_ref09_Met_l1))))
 (.keep [1, 3, 4] [1, 10] (.reg 0 [oo 20 (.mv (.t 4)),
 oo 21 (.bin .add (.t 20) (ci 1)),
 oo 4 (.mv (.t 21))])))))
def c_ref09_Met_l2 : ACode := .keep [1, 3, 4] [1, 10] b_ref09_Met_l2
def c_ref09_Met : ACode :=
  .seq (.reg 0 [oo 1 (.box (.t 0)),
 oo 2 (.mv (.c (.sl [] .nil)))])
 (.seq (.reg 0 [oo 7 (.fld 0 (.t 1)),
 oo 8 (.load false 1 (.t 7)),
 oo 9 (.len .sl (.t 8)),
 oo 10 (.mksl (.bool false) (.t 9)),
 oo 3 (.mv (.t 10))])
 (.seq (.reg 0 [oo 11 (.mv (.t 3)),
 oo 12 (.fld 2 (.t 1)),
 oo 13 (.load false 1 (.t 12)),
 oo 14 (.ixa 1 (.t 11) (.t 13)),
 ox (.store 1 (.t 14) (.c (.bool true)))])
 (.seq (.seq (.reg 0 [oo 4 (.mv (ci 0))])
 (.block 0 (.loop c_ref09_Met_l2)))
 (.keep [3] [10] (.seq (.reg 0 [oo 72 (.mv (.t 3)),
 oo 2 (.mv (.t 72))])
 (.ret))))))
def n_ref09_Met : Fn := ⟨c_ref09_Met, [.t 2], false, false⟩
theorem ok_ref09_Met : fnOf Tryd.prog eff keep f_ref09_Met = some n_ref09_Met.bare := by kernel_rfl
@[simp] theorem c_ref09_Met_l0_norm (st : St) : norm c_ref09_Met_l0 st = st.keep [1, 3, 4, 5, 6] [1, 10] := rfl
@[simp] theorem c_ref09_Met_l1_norm (st : St) : norm c_ref09_Met_l1 st = st.keep [1, 3, 4, 5] [1, 10] := rfl
@[simp] theorem c_ref09_Met_l2_norm (st : St) : norm c_ref09_Met_l2 st = st.keep [1, 3, 4] [1, 10] := rfl
def b_ref09_Reduced_l0 : ACode :=
  (.seq (.seq (.reg 0 [oo 30 (.mv (.t 7)),
 oo 31 (.fld 1 (.t 6)),
 oo 32 (.load false 1 (.t 31)),
 oo 33 (.len .sl (.t 32)),
 oo 34 (.bin .lss (.t 30) (.t 33))])
 (.cond (.t 34) (.skip) (.keep [1, 3, 4, 5] [1] (.exit 2))))
 (.keep [1, 3, 4, 5, 6, 7] [1, 6] (.seq (.block 3 (.seq (.reg 0 [oo 37 (.fld 1 (.t 6)),
 oo 38 (.load false 1 (.t 37)),
 oo 39 (.mv (.t 7)),
 oo 40 (.ixa 1 (.t 38) (.t 39)),
 oo 41 (.load false 1 (.t 40)),
 oo 42 (.bin .geq (.t 41) (ci 0)),
 oo 43 (.mv (.t 42)),
 og 44 43 true (.mv (.t 3)),
 og 45 43 true (.fld 1 (.t 6)),
 og 46 43 true (.load false 1 (.t 45)),
 og 47 43 true (.mv (.t 7)),
 og 48 43 true (.ixa 1 (.t 46) (.t 47)),
 og 49 43 true (.load false 1 (.t 48)),
 og 50 43 true (.ixa 1 (.t 44) (.t 49)),
 og 51 43 true (.load false 1 (.t 50)),
 og 52 43 true (.un .not (.t 51)),
 oo 53 (.pick (.t 43) (.t 52) (.c (.bool false)))])
 (.cond (.t 53) (.seq (.reg 0 [oo 2 (.mv (.c (.bool false)))])
 (.keep [2] [] (.ret))) (.skip))))
 (.keep [1, 3, 4, 5, 6, 7] [1, 6] (.reg 0 [oo 35 (.mv (.t 7)),
 oo 36 (.bin .add (.t 35) (ci 1)),
 oo 7 (.mv (.t 36))])))))
def c_ref09_Reduced_l0 : ACode := .keep [1, 3, 4, 5, 6, 7] [1, 6] b_ref09_Reduced_l0
def b_ref09_Reduced_l1 : ACode :=
  (.seq (.seq (.reg 0 [oo 12 (.mv (.t 5)),
 oo 13 (.fld 3 (.t 1)),
 oo 14 (.load false 1 (.t 13)),
 oo 15 (.len .sl (.t 14)),
 oo 16 (.bin .lss (.t 12) (.t 15))])
 (.cond (.t 16) (.skip) (.keep [] [] (.exit 0))))
 (.keep [1, 3, 4, 5] [1] (.seq (.block 1 (.seq (.reg 0 [oo 19 (.fld 3 (.t 1)),
 oo 20 (.load false 1 (.t 19)),
 oo 21 (.mv (.t 5)),
 oo 22 (.ixa 2 (.t 20) (.t 21)),
 oo 23 (.load true 2 (.t 22)),
 oo 6 (.alloc [(.int .i64 0), (.sl [] .nil)]),
 ox (.store 2 (.t 6) (.t 23))])
 (.seq (.seq (.reg 0 [oo 24 (.mv (.t 4)),
 oo 25 (.fld 0 (.t 6)),
 oo 26 (.load false 1 (.t 25)),
 oo 27 (.ixa 1 (.t 24) (.t 26)),
 oo 28 (.load false 1 (.t 27)),
 oo 29 (.un .not (.t 28))])
 (.cond (.t 29) (.seq (.reg 0 [oo 2 (.mv (.c (.bool false)))])
 (.keep [2] [] (.ret))) (.skip)))
 (.keep [1, 3, 4, 5, 6] [1, 6] (.seq (.reg 0 [oo 7 (.mv (ci 0))])
 (.block 2 (.loop c_ref09_Reduced_l0)))))))
 (.keep [1, 3, 4, 5] [1] (.reg 0 [oo 17 (.mv (.t 5)),
 oo 18 (.bin .add (.t 17) (ci 1)),
 oo 5 (.mv (.t 18))])))))
def c_ref09_Reduced_l1 : ACode := .keep [1, 3, 4, 5] [1] b_ref09_Reduced_l1
def c_ref09_Reduced : ACode :=
  .seq (.reg 0 [oo 1 (.box (.t 0)),
 oo 2 (.mv (.c (.bool false)))])
 (.seq (.reg 3 [oo 8 (.load true 4 (.t 1)),
 oo 9 (.call true (cf f_ref09_Makes) [(.t 8)]),
 oo 10 (.load true 4 (.t 1)),
 oo 11 (.call true (cf f_ref09_Met) [(.t 10)]),
 oo 3 (.mv (.t 9)),
 oo 4 (.mv (.t 11))])
 (.seq (.seq (.reg 0 [oo 5 (.mv (ci 0))])
 (.block 0 (.loop c_ref09_Reduced_l1)))
 (.keep [] [] (.seq (.reg 0 [oo 2 (.mv (.c (.bool true)))])
 (.ret)))))
def n_ref09_Reduced : Fn := ⟨c_ref09_Reduced, [.t 2], false, false⟩
theorem ok_ref09_Reduced : fnOf Tryd.prog eff keep f_ref09_Reduced = some n_ref09_Reduced.bare := by kernel_rfl
@[simp] theorem c_ref09_Reduced_l0_norm (st : St) : norm c_ref09_Reduced_l0 st = st.keep [1, 3, 4, 5, 6, 7] [1, 6] := rfl
@[simp] theorem c_ref09_Reduced_l1_norm (st : St) : norm c_ref09_Reduced_l1 st = st.keep [1, 3, 4, 5] [1] := rfl
def b_law06_BnfMay_l0 : ACode :=
  (.seq (.reg 0 [oo 84 (.bin .lss (.t 83) (.t 82))])
 (.seq (.cond (.t 84) (.skip) (.keep [] [] (.exit 0)))
 (.keep [5, 9, 82, 83] [5, 9] (.seq (.block 1 (.seq (.reg 0 [oo 85 (.mv (.t 83)),
 oo 11 (.mv (.t 85))])
 (.seq (.reg 10 [oo 86 (.fld 3 (.t 9)),
 oo 87 (.load false 1 (.t 86)),
 oo 88 (.mv (.t 11)),
 oo 89 (.ixa 2 (.t 87) (.t 88)),
 oo 90 (.load true 2 (.t 89)),
 oo 91 (.fld 3 (.t 5)),
 oo 92 (.load false 1 (.t 91)),
 oo 93 (.mv (.t 11)),
 oo 94 (.ixa 2 (.t 92) (.t 93)),
 oo 95 (.load true 2 (.t 94)),
 oo 96 (.call true (cf f_gram_Rule_Same) [(.t 90), (.t 95)]),
 oo 97 (.un .not (.t 96))])
 (.cond (.t 97) (.seq (.reg 0 [oo 4 (.mv (.c (.bool false)))])
 (.keep [4] [] (.ret))) (.skip)))))
 (.keep [5, 9, 82, 83] [5, 9] (.reg 0 [oo 98 (.bin .add (.t 83) (ci 1)),
 oo 83 (.mv (.t 98))]))))))
def c_law06_BnfMay_l0 : ACode := .keep [5, 9, 82, 83] [5, 9] b_law06_BnfMay_l0
def c_law06_BnfMay : ACode :=
  .seq (.reg 0 [oo 4 (.mv (.c (.bool false)))])
 (.seq (.seq (.reg 0 [oo 12 (.mv (.t 0)),
 oo 13 (.len .s (.t 12)),
 oo 14 (.bin .gtr (.t 13) (ci 2000)),
 oo 15 (.mv (.t 14)),
 og 16 15 false (.mv (.t 1)),
 og 17 15 false (.len .s (.t 16)),
 og 18 15 false (.bin .gtr (.t 17) (ci 2000)),
 oo 19 (.pick (.t 15) (.c (.bool true)) (.t 18))])
 (.cond (.t 19) (.seq (.reg 0 [oo 20 (.call true (cf f_none_54) []),
 oo 4 (.mv (.t 20))])
 (.ret)) (.skip)))
 (.keep [0, 1] [] (.seq (.reg 0 [oo 22 (.mv (.t 0)),
 oo 23 (.call true (cf f_bnf_Read) [(.t 22)]),
 oo 21 (.mv (.t 23)),
 oo 24 (.ext (.t 21) 0),
 oo 25 (.ext (.t 21) 1),
 oo 5 (.alloc [(.sl [] .nil), (.sl [] .nil), (.int .i64 0), (.sl [] .nil)]),
 oo 6 (.alloc [(.int .i64 0), (.int .i64 0)]),
 ox (.store 4 (.t 5) (.t 24)),
 ox (.store 2 (.t 6) (.t 25))])
 (.seq (.reg 0 [oo 27 (.mv (.t 1)),
 oo 28 (.call true (cf f_bnf_Read) [(.t 27)]),
 oo 26 (.mv (.t 28)),
 oo 29 (.ext (.t 26) 0),
 oo 30 (.ext (.t 26) 1),
 oo 7 (.alloc [(.sl [] .nil), (.sl [] .nil), (.int .i64 0), (.sl [] .nil)]),
 oo 8 (.alloc [(.int .i64 0), (.int .i64 0)]),
 ox (.store 4 (.t 7) (.t 29)),
 ox (.store 2 (.t 8) (.t 30))])
 (.seq (.seq (.reg 0 [oo 31 (.fld 1 (.t 6)),
 oo 32 (.load false 1 (.t 31)),
 oo 33 (.bin .eql (.t 32) (ci 0)),
 oo 34 (.mv (.t 33)),
 og 35 34 true (.load true 4 (.t 5)),
 og 36 34 true (.call true (cf f_law02_May) [(.t 35)]),
 og 37 34 true (.un .not (.t 36)),
 oo 38 (.pick (.t 34) (.t 37) (.c (.bool false)))])
 (.cond (.t 38) (.seq (.reg 0 [oo 4 (.mv (.c (.bool false)))])
 (.ret)) (.skip)))
 (.keep [0, 1, 5, 6, 8] [5, 6, 8] (.seq (.seq (.reg 0 [oo 39 (.fld 1 (.t 6)),
 oo 40 (.load false 1 (.t 39)),
 oo 41 (.bin .neq (.t 40) (ci 0)),
 oo 42 (.mv (.t 41)),
 og 43 42 false (.fld 1 (.t 8)),
 og 44 42 false (.load false 1 (.t 43)),
 og 45 42 false (.bin .neq (.t 44) (ci 0)),
 oo 46 (.pick (.t 42) (.c (.bool true)) (.t 45))])
 (.cond (.t 46) (.seq (.reg 0 [oo 47 (.call true (cf f_none_54) []),
 oo 4 (.mv (.t 47))])
 (.ret)) (.skip)))
 (.keep [0, 1, 5] [5] (.seq (.reg 0 [oo 49 (.mv (.t 0)),
 oo 50 (.bin .add (.t 49) (.c (.str ⟨#[10]⟩))),
 oo 51 (.mv (.t 1)),
 oo 52 (.bin .add (.t 50) (.t 51)),
 oo 53 (.call true (cf f_bnf_Read) [(.t 52)]),
 oo 48 (.mv (.t 53)),
 oo 54 (.ext (.t 48) 0),
 oo 55 (.ext (.t 48) 1),
 oo 9 (.alloc [(.sl [] .nil), (.sl [] .nil), (.int .i64 0), (.sl [] .nil)]),
 oo 10 (.alloc [(.int .i64 0), (.int .i64 0)]),
 ox (.store 4 (.t 9) (.t 54)),
 ox (.store 2 (.t 10) (.t 55))])
 (.seq (.seq (.reg 0 [oo 56 (.fld 1 (.t 10)),
 oo 57 (.load false 1 (.t 56)),
 oo 58 (.bin .neq (.t 57) (ci 0)),
 oo 59 (.mv (.t 58)),
 og 60 59 false (.load true 4 (.t 9)),
 og 61 59 false (.call true (cf f_gram_Grammar_Check) [(.t 60)]),
 og 62 59 false (.bin .neq (.t 61) (ci 0)),
 oo 63 (.pick (.t 59) (.c (.bool true)) (.t 62)),
 oo 64 (.mv (.t 63)),
 og 65 64 false (.fld 3 (.t 9)),
 og 66 64 false (.load false 1 (.t 65)),
 og 67 64 false (.len .sl (.t 66)),
 og 68 64 false (.fld 3 (.t 5)),
 og 69 64 false (.load false 1 (.t 68)),
 og 70 64 false (.len .sl (.t 69)),
 og 71 64 false (.bin .lss (.t 67) (.t 70)),
 oo 72 (.pick (.t 64) (.c (.bool true)) (.t 71)),
 oo 73 (.mv (.t 72)),
 og 74 73 false (.fld 2 (.t 9)),
 og 75 73 false (.load false 1 (.t 74)),
 og 76 73 false (.fld 2 (.t 5)),
 og 77 73 false (.load false 1 (.t 76)),
 og 78 73 false (.bin .neq (.t 75) (.t 77)),
 oo 79 (.pick (.t 73) (.c (.bool true)) (.t 78))])
 (.cond (.t 79) (.seq (.reg 0 [oo 4 (.mv (.c (.bool false)))])
 (.ret)) (.skip)))
 (.keep [5, 9] [5, 9] (.seq (.seq (.reg 0 [oo 80 (.fld 3 (.t 5)),
 oo 81 (.load false 1 (.t 80)),
 oo 82 (.len .sl (.t 81)),
 oo 83 (.mv (ci 0))])
 (.block 0 (.loop c_law06_BnfMay_l0)))
 (.keep [] [] (.seq (.reg 0 [oo 99 (.call true (cf f_none_54) []),
 oo 4 (.mv (.t 99))])
 (.ret)))))))))))))))
def n_law06_BnfMay : Fn := ⟨c_law06_BnfMay, [.t 4], false, false⟩
theorem ok_law06_BnfMay : fnOf Tryd.prog eff keep f_law06_BnfMay = some n_law06_BnfMay.bare := by kernel_rfl
@[simp] theorem c_law06_BnfMay_l0_norm (st : St) : norm c_law06_BnfMay_l0 st = st.keep [5, 9, 82, 83] [5, 9] := rfl
end Go.Proofs.YtlacnkjkcikodaaDoor.Am
end
section
set_option linter.unusedVariables false
namespace Go.Proofs.YtlacnkjkcikodaaDoor.Am
open Go
def ints : List V → Option (List Int)
  | [] => some []
  | .int .i64 n :: l => (ints l).map (n :: ·)
  | _ => none
def gv_Itoa : Giv := fun lk args H => match args with
  | [.int .i64 n] => if -9223372036854775808 ≤ n ∧ n ≤ 9223372036854775807 then some (.str (itoaB n), H) else none
  | _ => none
def gv_Quote : Giv := fun lk args H => match args with
  | [.str s] => if s.size ≤ 17592186044416 then some (.str (quoteB s), H) else none
  | _ => none
def gv_key : Giv := fun lk args H => match args with
  | [.agg [.int .i64 a, .sl l t]] => match ints l with
    | some m => bif ruleOk ⟨a, m⟩ then some (.str (keyB ⟨a, m⟩), H) else none
    | none => none
  | _ => none
theorem ints_map (l : List Int) : ints (l.map (V.int .i64)) = some l := by
  induction l with
  | nil => rfl
  | cons a l ih => simp [ints, ih]
theorem ints_some : ∀ {l : List V} {m : List Int}, ints l = some m → l = m.map (V.int .i64)
  | [], m, h => by cases h; rfl
  | .int k n :: l, m, h => by
    cases k with
    | i64 =>
      obtain ⟨m', h', rfl⟩ := Option.map_eq_some_iff.1 h
      rw [ints_some h']; rfl
    | _ => cases h
  | .bool _ :: _, m, h | .flt _ _ :: _, m, h | .str _ :: _, m, h | .sl _ _ :: _, m, h | .agg _ :: _, m, h | .tup _ :: _, m, h | .ptr _ _ _ :: _, m, h | .nilp :: _, m, h | .elp _ _ _ :: _, m, h | .row _ _ _ _ :: _, m, h | .fn _ _ :: _, m, h | .nilf :: _, m, h | .map _ _ :: _, m, h | .nilm :: _, m, h | .undef :: _, m, h | .any :: _, m, h => by cases h
end Go.Proofs.YtlacnkjkcikodaaDoor.Am
end
section
set_option linter.unusedVariables false
set_option maxRecDepth 1000000
namespace Go.Proofs.YtlacnkjkcikodaaDoor.Am
open Go
def fnTab : List (FuncId × Fn) := [(f_law10_UnitsTell, n_law10_UnitsTell),
  (f_law02_Small, n_law02_Small),
  (f_law10_Awake, n_law10_Awake),
  (f_units_Chain, n_units_Chain),
  (f_units_walk, n_units_walk),
  (f_gram_Grammar_Check, n_gram_Grammar_Check),
  (f_gram_texts, n_gram_texts),
  (f_names_Name, n_names_Name),
  (f_names_letter, n_names_letter),
  (f_names_Mark, n_names_Mark),
  (f_gram_Grammar_rules, n_gram_Grammar_rules),
  (f_gram_Grammar_rules_1, n_gram_Grammar_rules_1),
  (f_gram_Grammar_has, n_gram_Grammar_has),
  (f_gram_Sym_IsTerm, n_gram_Sym_IsTerm),
  (f_gram_Sym_Place, n_gram_Sym_Place),
  (f_slices_ContainsFunc_gram_Sym_gram_Sym, n_slices_ContainsFunc_gram_Sym_gram_Sym),
  (f_slices_IndexFunc_gram_Sym_gram_Sym, n_slices_IndexFunc_gram_Sym_gram_Sym),
  (f_units_walk_1, n_units_walk_1),
  (f_units_walk_1_1, n_units_walk_1_1),
  (f_slices_ContainsFunc_units_met_units_met, n_slices_ContainsFunc_units_met_units_met),
  (f_slices_IndexFunc_units_met_units_met, n_slices_IndexFunc_units_met_units_met),
  (f_gram_Grammar_Of, n_gram_Grammar_Of),
  (f_units_to, n_units_to),
  (f_slices_Clone_int_int, n_slices_Clone_int_int),
  (f_law02_Awake, n_law02_Awake),
  (f_law02_Example, n_law02_Example),
  (f_law01_Awake, n_law01_Awake),
  (f_names_Fresh, n_names_Fresh),
  (f_slices_Contains_string_string, n_slices_Contains_string_string),
  (f_slices_Index_string_string, n_slices_Index_string_string),
  (f_gram_Grammar_Size, n_gram_Grammar_Size),
  (f_gram_Grammar_Text, n_gram_Grammar_Text),
  (f_units_From, n_units_From),
  (f_law10_ints, n_law10_ints),
  (f_law02_May, n_law02_May),
  (f_law02_Of, n_law02_Of),
  (f_law02_OfRule, n_law02_OfRule),
  (f_ref02_Check, n_ref02_Check),
  (f_ref01_Name, n_ref01_Name),
  (f_ref01_letter, n_ref01_letter),
  (f_ref01_Mark, n_ref01_Mark),
  (f_ref02_twice, n_ref02_twice),
  (f_ref02_Has, n_ref02_Has),
  (f_ref02_Find, n_ref02_Find),
  (f_ref02_Same, n_ref02_Same),
  (f_ref10_Walk, n_ref10_Walk),
  (f_ref10_has, n_ref10_has),
  (f_law14_MeterBounds, n_law14_MeterBounds),
  (f_law14_Awake, n_law14_Awake),
  (f_meter_New, n_meter_New),
  (f_gram_Grammar_Clone, n_gram_Grammar_Clone),
  (f_slices_Clone_string_string, n_slices_Clone_string_string),
  (f_slices_Clone_gram_Rule_gram_Rule, n_slices_Clone_gram_Rule_gram_Rule),
  (f_slices_Clone_gram_Sym_gram_Sym, n_slices_Clone_gram_Sym_gram_Sym),
  (f_tmpl_Sorts, n_tmpl_Sorts),
  (f_meter_Pot_Put, n_meter_Pot_Put),
  (f_meter_key, n_meter_key),
  (f_law12_Awake, n_law12_Awake),
  (f_tmpl_Plain, n_tmpl_Plain),
  (f_meter_Pot_Spoilt, n_meter_Pot_Spoilt),
  (f_meter_Pot_Size, n_meter_Pot_Size),
  (f_law14_may, n_law14_may),
  (f_law14_mark, n_law14_mark),
  (f_meter_Pot_Table, n_meter_Pot_Table),
  (f_slices_Clone_tmpl_Sort_tmpl_Sort, n_slices_Clone_tmpl_Sort_tmpl_Sort),
  (f_slices_Clone_tmpl_Item_tmpl_Item, n_slices_Clone_tmpl_Item_tmpl_Item),
  (f_gram_Grammar_Find, n_gram_Grammar_Find),
  (f_gram_Grammar_Find_1, n_gram_Grammar_Find_1),
  (f_gram_Rule_Same, n_gram_Rule_Same),
  (f_slices_Equal_gram_Sym_gram_Sym, n_slices_Equal_gram_Sym_gram_Sym),
  (f_slices_IndexFunc_gram_Rule_gram_Rule, n_slices_IndexFunc_gram_Rule_gram_Rule),
  (f_law14_MeterPlays, n_law14_MeterPlays),
  (f_ref14_New, n_ref14_New),
  (f_law12_Items, n_law12_Items),
  (f_ref14_Put, n_ref14_Put),
  (f_ref02_Size, n_ref02_Size),
  (f_meter_Pot_Of, n_meter_Pot_Of),
  (f_meter_Pot_Drop, n_meter_Pot_Drop),
  (f_meter_Pot_Drop_1, n_meter_Pot_Drop_1),
  (f_ref14_Drop, n_ref14_Drop),
  (f_ref12_Same, n_ref12_Same),
  (f_ref14_Fresh, n_ref14_Fresh),
  (f_ref01_Fresh, n_ref01_Fresh),
  (f_ref01_Digits, n_ref01_Digits),
  (f_meter_Pot_Fresh, n_meter_Pot_Fresh),
  (f_law12_Of, n_law12_Of),
  (f_law12_ints, n_law12_ints),
  (f_ref14_Same, n_ref14_Same),
  (f_ref02_Alike, n_ref02_Alike),
  (f_ref02_texts, n_ref02_texts),
  (f_ref14_SameSorts, n_ref14_SameSorts),
  (f_ref14_ints, n_ref14_ints),
  (f_law12_TmplChecks, n_law12_TmplChecks),
  (f_law12_Small, n_law12_Small),
  (f_law12_count, n_law12_count),
  (f_tmpl_Check, n_tmpl_Check),
  (f_slices_Equal_string_string, n_slices_Equal_string_string),
  (f_tmpl_sorts, n_tmpl_sorts),
  (f_tmpl_has, n_tmpl_has),
  (f_tmpl_template, n_tmpl_template),
  (f_tmpl_judge_all, n_tmpl_judge_all),
  (f_tmpl_judge_one, n_tmpl_judge_one),
  (f_tmpl_judge_kid, n_tmpl_judge_kid),
  (f_tmpl_judge_node, n_tmpl_judge_node),
  (f_slices_Equal_int_int, n_slices_Equal_int_int),
  (f_ref12_Check, n_ref12_Check),
  (f_ref12_ints, n_ref12_ints),
  (f_ref12_stands, n_ref12_stands),
  (f_law08_NullableTells, n_law08_NullableTells),
  (f_law08_Awake, n_law08_Awake),
  (f_law03_Awake, n_law03_Awake),
  (f_tree_Leaf, n_tree_Leaf),
  (f_tree_Node, n_tree_Node),
  (f_slices_Clone_tree_Tree_tree_Tree, n_slices_Clone_tree_Tree_tree_Tree),
  (f_tree_Root, n_tree_Root),
  (f_tree_Check, n_tree_Check),
  (f_tree_Count, n_tree_Count),
  (f_tree_Tree_leaf, n_tree_Tree_leaf),
  (f_tree_nodeWrong, n_tree_nodeWrong),
  (f_tree_leafWrong, n_tree_leafWrong),
  (f_tree_Text, n_tree_Text),
  (f_tree_Text_1, n_tree_Text_1),
  (f_tree_Yield, n_tree_Yield),
  (f_tree_Yield_1, n_tree_Yield_1),
  (f_nullable_Of, n_nullable_Of),
  (f_ref08_Steps, n_ref08_Steps),
  (f_law08_NullableTrees, n_law08_NullableTrees),
  (f_law03_Build, n_law03_Build),
  (f_law03_Fits, n_law03_Fits),
  (f_law03_Of, n_law03_Of),
  (f_ref03_Check, n_ref03_Check),
  (f_ref03_Count, n_ref03_Count),
  (f_ref03_Fits, n_ref03_Fits),
  (f_law06_BnfReads, n_law06_BnfReads),
  (f_bnf_Read, n_bnf_Read),
  (f_ref06_Read, n_ref06_Read),
  (f_ref05_Lex, n_ref05_Lex),
  (f_ref01_Unquote, n_ref01_Unquote),
  (f_ref01_digit, n_ref01_digit),
  (f_ref06_place, n_ref06_place),
  (f_gram_Grammar_Same, n_gram_Grammar_Same),
  (f_slices_EqualFunc_gram_Rule_gram_Rule_gram_Rule_gram_Rule, n_slices_EqualFunc_gram_Rule_gram_Rule_gram_Rule_gram_Rule),
  (f_law08_NullableClosed, n_law08_NullableClosed),
  (f_nullable_All, n_nullable_All),
  (f_law12_TmplPlain, n_law12_TmplPlain),
  (f_tmpl_Same, n_tmpl_Same),
  (f_ref12_Plain, n_ref12_Plain),
  (f_law09_UsefulTells, n_law09_UsefulTells),
  (f_law09_Awake, n_law09_Awake),
  (f_useful_Makes, n_useful_Makes),
  (f_useful_Met, n_useful_Met),
  (f_useful_Met_1, n_useful_Met_1),
  (f_useful_Reduced, n_useful_Reduced),
  (f_ref09_Makes, n_ref09_Makes),
  (f_ref09_By, n_ref09_By),
  (f_law09_bools, n_law09_bools),
  (f_ref09_Met, n_ref09_Met),
  (f_ref09_Reduced, n_ref09_Reduced),
  (f_law06_BnfMay, n_law06_BnfMay)]
def givTab : List (FuncId × Giv) := [(f_gram_Rule_key, gv_key), (f_names_Quote, gv_Quote), (f_strconv_Itoa, gv_Itoa)]
def mach : Mach := ⟨tabAt fnTab, tabAt givTab⟩
theorem eq_law02_Small {lk : Nat} {args : List V} {H : List Tab} : lim mach lk f_law02_Small args H = leaveG false [.t 2] (runs mach lk c_law02_Small ⟨argsT 0 args, [], H⟩) := (lim_fn (fn := n_law02_Small) (by kernel_rfl) (by kernel_rfl) rfl).trans leaveG_eq
theorem eq_gram_Grammar_Check {lk : Nat} {args : List V} {H : List Tab} : lim mach lk f_gram_Grammar_Check args H = leaveG false [.t 2] (runs mach lk c_gram_Grammar_Check ⟨argsT 0 args, [], H⟩) := (lim_fn (fn := n_gram_Grammar_Check) (by kernel_rfl) (by kernel_rfl) rfl).trans leaveG_eq
theorem eq_gram_texts {lk : Nat} {args : List V} {H : List Tab} : lim mach lk f_gram_texts args H = leaveG false [.t 4] (runs mach lk c_gram_texts ⟨argsT 0 args, [], H⟩) := (lim_fn (fn := n_gram_texts) (by kernel_rfl) (by kernel_rfl) rfl).trans leaveG_eq
theorem eq_names_Name {lk : Nat} {args : List V} {H : List Tab} : lim mach lk f_names_Name args H = leaveG false [.t 2] (runs mach lk c_names_Name ⟨argsT 0 args, [], H⟩) := (lim_fn (fn := n_names_Name) (by kernel_rfl) (by kernel_rfl) rfl).trans leaveG_eq
theorem eq_names_letter {lk : Nat} {args : List V} {H : List Tab} : lim mach lk f_names_letter args H = leaveG false [.t 2] (runs mach lk c_names_letter ⟨argsT 0 args, [], H⟩) := (lim_fn (fn := n_names_letter) (by kernel_rfl) (by kernel_rfl) rfl).trans leaveG_eq
theorem eq_names_Mark {lk : Nat} {args : List V} {H : List Tab} : lim mach lk f_names_Mark args H = leaveG false [.t 2] (runs mach lk c_names_Mark ⟨argsT 0 args, [], H⟩) := (lim_fn (fn := n_names_Mark) (by kernel_rfl) (by kernel_rfl) rfl).trans leaveG_eq
theorem eq_gram_Grammar_rules {lk : Nat} {args : List V} {H : List Tab} : lim mach lk f_gram_Grammar_rules args H = leaveG false [.t 2] (runs mach lk c_gram_Grammar_rules ⟨argsT 0 args, [], H⟩) := (lim_fn (fn := n_gram_Grammar_rules) (by kernel_rfl) (by kernel_rfl) rfl).trans leaveG_eq
theorem eq_gram_Grammar_rules_1 {lk : Nat} {args : List V} {H : List Tab} : lim mach lk f_gram_Grammar_rules_1 args H = leaveG false [.t 3] (runs mach lk c_gram_Grammar_rules_1 ⟨argsT 0 args, [], H⟩) := (lim_fn (fn := n_gram_Grammar_rules_1) (by kernel_rfl) (by kernel_rfl) rfl).trans leaveG_eq
theorem eq_gram_Grammar_has {lk : Nat} {args : List V} {H : List Tab} : lim mach lk f_gram_Grammar_has args H = leaveG false [.t 4] (runs mach lk c_gram_Grammar_has ⟨argsT 0 args, [], H⟩) := (lim_fn (fn := n_gram_Grammar_has) (by kernel_rfl) (by kernel_rfl) rfl).trans leaveG_eq
theorem eq_gram_Sym_IsTerm {lk : Nat} {args : List V} {H : List Tab} : lim mach lk f_gram_Sym_IsTerm args H = leaveG false [.t 2] (runs mach lk c_gram_Sym_IsTerm ⟨argsT 0 args, [], H⟩) := (lim_fn (fn := n_gram_Sym_IsTerm) (by kernel_rfl) (by kernel_rfl) rfl).trans leaveG_eq
theorem eq_gram_Sym_Place {lk : Nat} {args : List V} {H : List Tab} : lim mach lk f_gram_Sym_Place args H = leaveG false [.t 2] (runs mach lk c_gram_Sym_Place ⟨argsT 0 args, [], H⟩) := (lim_fn (fn := n_gram_Sym_Place) (by kernel_rfl) (by kernel_rfl) rfl).trans leaveG_eq
theorem eq_slices_ContainsFunc_gram_Sym_gram_Sym {lk : Nat} {args : List V} {H : List Tab} : lim mach lk f_slices_ContainsFunc_gram_Sym_gram_Sym args H = leaveG false [.t 4] (runs mach lk c_slices_ContainsFunc_gram_Sym_gram_Sym ⟨argsT 0 args, [], H⟩) := (lim_fn (fn := n_slices_ContainsFunc_gram_Sym_gram_Sym) (by kernel_rfl) (by kernel_rfl) rfl).trans leaveG_eq
theorem eq_slices_IndexFunc_gram_Sym_gram_Sym {lk : Nat} {args : List V} {H : List Tab} : lim mach lk f_slices_IndexFunc_gram_Sym_gram_Sym args H = leaveG false [.t 4] (runs mach lk c_slices_IndexFunc_gram_Sym_gram_Sym ⟨argsT 0 args, [], H⟩) := (lim_fn (fn := n_slices_IndexFunc_gram_Sym_gram_Sym) (by kernel_rfl) (by kernel_rfl) rfl).trans leaveG_eq
theorem eq_law02_Awake {lk : Nat} {args : List V} {H : List Tab} : lim mach lk f_law02_Awake args H = leaveG false [.t 0] (runs mach lk c_law02_Awake ⟨argsT 0 args, [], H⟩) := (lim_fn (fn := n_law02_Awake) (by kernel_rfl) (by kernel_rfl) rfl).trans leaveG_eq
theorem eq_law02_Example {lk : Nat} {args : List V} {H : List Tab} : lim mach lk f_law02_Example args H = leaveG false [.c 0 4 true] (runs mach lk c_law02_Example ⟨argsT 0 args, [], H⟩) := (lim_fn (fn := n_law02_Example) (by kernel_rfl) (by kernel_rfl) rfl).trans leaveG_eq
theorem eq_law01_Awake {lk : Nat} {args : List V} {H : List Tab} : lim mach lk f_law01_Awake args H = leaveG false [.t 0] (runs mach lk c_law01_Awake ⟨argsT 0 args, [], H⟩) := (lim_fn (fn := n_law01_Awake) (by kernel_rfl) (by kernel_rfl) rfl).trans leaveG_eq
theorem eq_names_Fresh {lk : Nat} {args : List V} {H : List Tab} : lim mach lk f_names_Fresh args H = leaveG false [.t 4] (runs mach lk c_names_Fresh ⟨argsT 0 args, [], H⟩) := (lim_fn (fn := n_names_Fresh) (by kernel_rfl) (by kernel_rfl) rfl).trans leaveG_eq
theorem eq_slices_Contains_string_string {lk : Nat} {args : List V} {H : List Tab} : lim mach lk f_slices_Contains_string_string args H = leaveG false [.t 4] (runs mach lk c_slices_Contains_string_string ⟨argsT 0 args, [], H⟩) := (lim_fn (fn := n_slices_Contains_string_string) (by kernel_rfl) (by kernel_rfl) rfl).trans leaveG_eq
theorem eq_slices_Index_string_string {lk : Nat} {args : List V} {H : List Tab} : lim mach lk f_slices_Index_string_string args H = leaveG false [.t 4] (runs mach lk c_slices_Index_string_string ⟨argsT 0 args, [], H⟩) := (lim_fn (fn := n_slices_Index_string_string) (by kernel_rfl) (by kernel_rfl) rfl).trans leaveG_eq
theorem eq_gram_Grammar_Size {lk : Nat} {args : List V} {H : List Tab} : lim mach lk f_gram_Grammar_Size args H = leaveG false [.t 2] (runs mach lk c_gram_Grammar_Size ⟨argsT 0 args, [], H⟩) := (lim_fn (fn := n_gram_Grammar_Size) (by kernel_rfl) (by kernel_rfl) rfl).trans leaveG_eq
theorem eq_gram_Grammar_Text {lk : Nat} {args : List V} {H : List Tab} : lim mach lk f_gram_Grammar_Text args H = leaveG false [.t 4] (runs mach lk c_gram_Grammar_Text ⟨argsT 0 args, [], H⟩) := (lim_fn (fn := n_gram_Grammar_Text) (by kernel_rfl) (by kernel_rfl) rfl).trans leaveG_eq
theorem eq_law02_Of {lk : Nat} {args : List V} {H : List Tab} : lim mach lk f_law02_Of args H = leaveG false [.c 2 4 true] (runs mach lk c_law02_Of ⟨argsT 0 args, [], H⟩) := (lim_fn (fn := n_law02_Of) (by kernel_rfl) (by kernel_rfl) rfl).trans leaveG_eq
theorem eq_law02_OfRule {lk : Nat} {args : List V} {H : List Tab} : lim mach lk f_law02_OfRule args H = leaveG false [.c 2 2 true] (runs mach lk c_law02_OfRule ⟨argsT 0 args, [], H⟩) := (lim_fn (fn := n_law02_OfRule) (by kernel_rfl) (by kernel_rfl) rfl).trans leaveG_eq
theorem eq_ref01_Name {lk : Nat} {args : List V} {H : List Tab} : lim mach lk f_ref01_Name args H = leaveG false [.t 2] (runs mach lk c_ref01_Name ⟨argsT 0 args, [], H⟩) := (lim_fn (fn := n_ref01_Name) (by kernel_rfl) (by kernel_rfl) rfl).trans leaveG_eq
theorem eq_ref01_letter {lk : Nat} {args : List V} {H : List Tab} : lim mach lk f_ref01_letter args H = leaveG false [.t 2] (runs mach lk c_ref01_letter ⟨argsT 0 args, [], H⟩) := (lim_fn (fn := n_ref01_letter) (by kernel_rfl) (by kernel_rfl) rfl).trans leaveG_eq
theorem eq_ref01_Mark {lk : Nat} {args : List V} {H : List Tab} : lim mach lk f_ref01_Mark args H = leaveG false [.t 2] (runs mach lk c_ref01_Mark ⟨argsT 0 args, [], H⟩) := (lim_fn (fn := n_ref01_Mark) (by kernel_rfl) (by kernel_rfl) rfl).trans leaveG_eq
theorem eq_tmpl_Sorts {lk : Nat} {args : List V} {H : List Tab} : lim mach lk f_tmpl_Sorts args H = leaveG false [.t 4] (runs mach lk c_tmpl_Sorts ⟨argsT 0 args, [], H⟩) := (lim_fn (fn := n_tmpl_Sorts) (by kernel_rfl) (by kernel_rfl) rfl).trans leaveG_eq
theorem eq_law12_Awake {lk : Nat} {args : List V} {H : List Tab} : lim mach lk f_law12_Awake args H = leaveG false [.t 0] (runs mach lk c_law12_Awake ⟨argsT 0 args, [], H⟩) := (lim_fn (fn := n_law12_Awake) (by kernel_rfl) (by kernel_rfl) rfl).trans leaveG_eq
theorem eq_tmpl_Plain {lk : Nat} {args : List V} {H : List Tab} : lim mach lk f_tmpl_Plain args H = leaveG false [.t 4] (runs mach lk c_tmpl_Plain ⟨argsT 0 args, [], H⟩) := (lim_fn (fn := n_tmpl_Plain) (by kernel_rfl) (by kernel_rfl) rfl).trans leaveG_eq
theorem eq_slices_Equal_gram_Sym_gram_Sym {lk : Nat} {args : List V} {H : List Tab} : lim mach lk f_slices_Equal_gram_Sym_gram_Sym args H = leaveG false [.t 4] (runs mach lk c_slices_Equal_gram_Sym_gram_Sym ⟨argsT 0 args, [], H⟩) := (lim_fn (fn := n_slices_Equal_gram_Sym_gram_Sym) (by kernel_rfl) (by kernel_rfl) rfl).trans leaveG_eq
theorem eq_law12_Items {lk : Nat} {args : List V} {H : List Tab} : lim mach lk f_law12_Items args H = leaveG false [.t 2] (runs mach lk c_law12_Items ⟨argsT 0 args, [], H⟩) := (lim_fn (fn := n_law12_Items) (by kernel_rfl) (by kernel_rfl) rfl).trans leaveG_eq
theorem eq_ref12_Same {lk : Nat} {args : List V} {H : List Tab} : lim mach lk f_ref12_Same args H = leaveG false [.t 4] (runs mach lk c_ref12_Same ⟨argsT 0 args, [], H⟩) := (lim_fn (fn := n_ref12_Same) (by kernel_rfl) (by kernel_rfl) rfl).trans leaveG_eq
theorem eq_law12_ints {lk : Nat} {args : List V} {H : List Tab} : lim mach lk f_law12_ints args H = leaveG false [.t 2] (runs mach lk c_law12_ints ⟨argsT 0 args, [], H⟩) := (lim_fn (fn := n_law12_ints) (by kernel_rfl) (by kernel_rfl) rfl).trans leaveG_eq
theorem eq_tmpl_Check {lk : Nat} {args : List V} {H : List Tab} : lim mach lk f_tmpl_Check args H = leaveG false [.t 2] (runs mach lk c_tmpl_Check ⟨argsT 0 args, [], H⟩) := (lim_fn (fn := n_tmpl_Check) (by kernel_rfl) (by kernel_rfl) rfl).trans leaveG_eq
theorem eq_slices_Equal_string_string {lk : Nat} {args : List V} {H : List Tab} : lim mach lk f_slices_Equal_string_string args H = leaveG false [.t 4] (runs mach lk c_slices_Equal_string_string ⟨argsT 0 args, [], H⟩) := (lim_fn (fn := n_slices_Equal_string_string) (by kernel_rfl) (by kernel_rfl) rfl).trans leaveG_eq
theorem eq_tmpl_sorts {lk : Nat} {args : List V} {H : List Tab} : lim mach lk f_tmpl_sorts args H = leaveG false [.t 2] (runs mach lk c_tmpl_sorts ⟨argsT 0 args, [], H⟩) := (lim_fn (fn := n_tmpl_sorts) (by kernel_rfl) (by kernel_rfl) rfl).trans leaveG_eq
theorem eq_tmpl_has {lk : Nat} {args : List V} {H : List Tab} : lim mach lk f_tmpl_has args H = leaveG false [.t 4] (runs mach lk c_tmpl_has ⟨argsT 0 args, [], H⟩) := (lim_fn (fn := n_tmpl_has) (by kernel_rfl) (by kernel_rfl) rfl).trans leaveG_eq
theorem eq_tmpl_template {lk : Nat} {args : List V} {H : List Tab} : lim mach lk f_tmpl_template args H = leaveG false [.t 4] (runs mach lk c_tmpl_template ⟨argsT 0 args, [], H⟩) := (lim_fn (fn := n_tmpl_template) (by kernel_rfl) (by kernel_rfl) rfl).trans leaveG_eq
theorem eq_tmpl_judge_all {lk : Nat} {args : List V} {H : List Tab} : lim mach lk f_tmpl_judge_all args H = leaveG false [.t 6, .t 7] (runs mach lk c_tmpl_judge_all ⟨argsT 0 args, [], H⟩) := (lim_fn (fn := n_tmpl_judge_all) (by kernel_rfl) (by kernel_rfl) rfl).trans leaveG_eq
theorem eq_tmpl_judge_one {lk : Nat} {args : List V} {H : List Tab} : lim mach lk f_tmpl_judge_one args H = leaveG false [.t 6, .t 7] (runs mach lk c_tmpl_judge_one ⟨argsT 0 args, [], H⟩) := (lim_fn (fn := n_tmpl_judge_one) (by kernel_rfl) (by kernel_rfl) rfl).trans leaveG_eq
theorem eq_tmpl_judge_kid {lk : Nat} {args : List V} {H : List Tab} : lim mach lk f_tmpl_judge_kid args H = leaveG false [.t 4, .c 5 3 true, .t 6] (runs mach lk c_tmpl_judge_kid ⟨argsT 0 args, [], H⟩) := (lim_fn (fn := n_tmpl_judge_kid) (by kernel_rfl) (by kernel_rfl) rfl).trans leaveG_eq
theorem eq_tmpl_judge_node {lk : Nat} {args : List V} {H : List Tab} : lim mach lk f_tmpl_judge_node args H = leaveG false [.t 6, .t 7] (runs mach lk c_tmpl_judge_node ⟨argsT 0 args, [], H⟩) := (lim_fn (fn := n_tmpl_judge_node) (by kernel_rfl) (by kernel_rfl) rfl).trans leaveG_eq
theorem eq_slices_Equal_int_int {lk : Nat} {args : List V} {H : List Tab} : lim mach lk f_slices_Equal_int_int args H = leaveG false [.t 4] (runs mach lk c_slices_Equal_int_int ⟨argsT 0 args, [], H⟩) := (lim_fn (fn := n_slices_Equal_int_int) (by kernel_rfl) (by kernel_rfl) rfl).trans leaveG_eq
theorem eq_ref12_ints {lk : Nat} {args : List V} {H : List Tab} : lim mach lk f_ref12_ints args H = leaveG false [.t 4] (runs mach lk c_ref12_ints ⟨argsT 0 args, [], H⟩) := (lim_fn (fn := n_ref12_ints) (by kernel_rfl) (by kernel_rfl) rfl).trans leaveG_eq
theorem eq_law12_TmplPlain {lk : Nat} {args : List V} {H : List Tab} : lim mach lk f_law12_TmplPlain args H = leaveG false [.t 6] (runs mach lk c_law12_TmplPlain ⟨argsT 0 args, [], H⟩) := (lim_fn (fn := n_law12_TmplPlain) (by kernel_rfl) (by kernel_rfl) rfl).trans leaveG_eq
theorem eq_tmpl_Same {lk : Nat} {args : List V} {H : List Tab} : lim mach lk f_tmpl_Same args H = leaveG false [.c 2 10 true] (runs mach lk c_tmpl_Same ⟨argsT 0 args, [], H⟩) := (lim_fn (fn := n_tmpl_Same) (by kernel_rfl) (by kernel_rfl) rfl).trans leaveG_eq
theorem eq_ref12_Plain {lk : Nat} {args : List V} {H : List Tab} : lim mach lk f_ref12_Plain args H = leaveG false [.t 4] (runs mach lk c_ref12_Plain ⟨argsT 0 args, [], H⟩) := (lim_fn (fn := n_ref12_Plain) (by kernel_rfl) (by kernel_rfl) rfl).trans leaveG_eq
theorem st_law02_Small_l0 {lk : Nat} (st : St) : lp mach lk c_law02_Small_l0 st = andThen (lpN mach lk c_law02_Small_l0) (runs mach lk b_law02_Small_l0 st) := lp_step _ _
theorem st_law02_Small_l1 {lk : Nat} (st : St) : lp mach lk c_law02_Small_l1 st = andThen (lpN mach lk c_law02_Small_l1) (runs mach lk b_law02_Small_l1 st) := lp_step _ _
theorem st_law02_Small_l2 {lk : Nat} (st : St) : lp mach lk c_law02_Small_l2 st = andThen (lpN mach lk c_law02_Small_l2) (runs mach lk b_law02_Small_l2 st) := lp_step _ _
theorem st_gram_Grammar_Check_l0 {lk : Nat} (st : St) : lp mach lk c_gram_Grammar_Check_l0 st = andThen (lpN mach lk c_gram_Grammar_Check_l0) (runs mach lk b_gram_Grammar_Check_l0 st) := lp_step _ _
theorem st_gram_texts_l0 {lk : Nat} (st : St) : lp mach lk c_gram_texts_l0 st = andThen (lpN mach lk c_gram_texts_l0) (runs mach lk b_gram_texts_l0 st) := lp_step _ _
theorem st_names_Name_l0 {lk : Nat} (st : St) : lp mach lk c_names_Name_l0 st = andThen (lpN mach lk c_names_Name_l0) (runs mach lk b_names_Name_l0 st) := lp_step _ _
theorem st_gram_Grammar_rules_l0 {lk : Nat} (st : St) : lp mach lk c_gram_Grammar_rules_l0 st = andThen (lpN mach lk c_gram_Grammar_rules_l0) (runs mach lk b_gram_Grammar_rules_l0 st) := lp_step _ _
theorem st_slices_IndexFunc_gram_Sym_gram_Sym_l0 {lk : Nat} (st : St) : lp mach lk c_slices_IndexFunc_gram_Sym_gram_Sym_l0 st = andThen (lpN mach lk c_slices_IndexFunc_gram_Sym_gram_Sym_l0) (runs mach lk b_slices_IndexFunc_gram_Sym_gram_Sym_l0 st) := lp_step _ _
theorem st_names_Fresh_l0 {lk : Nat} (st : St) : lp mach lk c_names_Fresh_l0 st = andThen (lpN mach lk c_names_Fresh_l0) (runs mach lk b_names_Fresh_l0 st) := lp_step _ _
theorem st_slices_Index_string_string_l0 {lk : Nat} (st : St) : lp mach lk c_slices_Index_string_string_l0 st = andThen (lpN mach lk c_slices_Index_string_string_l0) (runs mach lk b_slices_Index_string_string_l0 st) := lp_step _ _
theorem st_gram_Grammar_Size_l0 {lk : Nat} (st : St) : lp mach lk c_gram_Grammar_Size_l0 st = andThen (lpN mach lk c_gram_Grammar_Size_l0) (runs mach lk b_gram_Grammar_Size_l0 st) := lp_step _ _
theorem st_law02_Of_l0 {lk : Nat} (st : St) : lp mach lk c_law02_Of_l0 st = andThen (lpN mach lk c_law02_Of_l0) (runs mach lk b_law02_Of_l0 st) := lp_step _ _
theorem st_law02_OfRule_l0 {lk : Nat} (st : St) : lp mach lk c_law02_OfRule_l0 st = andThen (lpN mach lk c_law02_OfRule_l0) (runs mach lk b_law02_OfRule_l0 st) := lp_step _ _
theorem st_ref01_Name_l0 {lk : Nat} (st : St) : lp mach lk c_ref01_Name_l0 st = andThen (lpN mach lk c_ref01_Name_l0) (runs mach lk b_ref01_Name_l0 st) := lp_step _ _
theorem st_tmpl_Sorts_l0 {lk : Nat} (st : St) : lp mach lk c_tmpl_Sorts_l0 st = andThen (lpN mach lk c_tmpl_Sorts_l0) (runs mach lk b_tmpl_Sorts_l0 st) := lp_step _ _
theorem st_tmpl_Plain_l0 {lk : Nat} (st : St) : lp mach lk c_tmpl_Plain_l0 st = andThen (lpN mach lk c_tmpl_Plain_l0) (runs mach lk b_tmpl_Plain_l0 st) := lp_step _ _
theorem st_slices_Equal_gram_Sym_gram_Sym_l0 {lk : Nat} (st : St) : lp mach lk c_slices_Equal_gram_Sym_gram_Sym_l0 st = andThen (lpN mach lk c_slices_Equal_gram_Sym_gram_Sym_l0) (runs mach lk b_slices_Equal_gram_Sym_gram_Sym_l0 st) := lp_step _ _
theorem st_law12_Items_l0 {lk : Nat} (st : St) : lp mach lk c_law12_Items_l0 st = andThen (lpN mach lk c_law12_Items_l0) (runs mach lk b_law12_Items_l0 st) := lp_step _ _
theorem st_ref12_Same_l0 {lk : Nat} (st : St) : lp mach lk c_ref12_Same_l0 st = andThen (lpN mach lk c_ref12_Same_l0) (runs mach lk b_ref12_Same_l0 st) := lp_step _ _
theorem st_law12_ints_l0 {lk : Nat} (st : St) : lp mach lk c_law12_ints_l0 st = andThen (lpN mach lk c_law12_ints_l0) (runs mach lk b_law12_ints_l0 st) := lp_step _ _
theorem st_tmpl_Check_l0 {lk : Nat} (st : St) : lp mach lk c_tmpl_Check_l0 st = andThen (lpN mach lk c_tmpl_Check_l0) (runs mach lk b_tmpl_Check_l0 st) := lp_step _ _
theorem st_tmpl_Check_l1 {lk : Nat} (st : St) : lp mach lk c_tmpl_Check_l1 st = andThen (lpN mach lk c_tmpl_Check_l1) (runs mach lk b_tmpl_Check_l1 st) := lp_step _ _
theorem st_slices_Equal_string_string_l0 {lk : Nat} (st : St) : lp mach lk c_slices_Equal_string_string_l0 st = andThen (lpN mach lk c_slices_Equal_string_string_l0) (runs mach lk b_slices_Equal_string_string_l0 st) := lp_step _ _
theorem st_tmpl_sorts_l0 {lk : Nat} (st : St) : lp mach lk c_tmpl_sorts_l0 st = andThen (lpN mach lk c_tmpl_sorts_l0) (runs mach lk b_tmpl_sorts_l0 st) := lp_step _ _
theorem st_tmpl_has_l0 {lk : Nat} (st : St) : lp mach lk c_tmpl_has_l0 st = andThen (lpN mach lk c_tmpl_has_l0) (runs mach lk b_tmpl_has_l0 st) := lp_step _ _
theorem st_tmpl_template_l0 {lk : Nat} (st : St) : lp mach lk c_tmpl_template_l0 st = andThen (lpN mach lk c_tmpl_template_l0) (runs mach lk b_tmpl_template_l0 st) := lp_step _ _
theorem st_tmpl_judge_all_l0 {lk : Nat} (st : St) : lp mach lk c_tmpl_judge_all_l0 st = andThen (lpN mach lk c_tmpl_judge_all_l0) (runs mach lk b_tmpl_judge_all_l0 st) := lp_step _ _
theorem st_slices_Equal_int_int_l0 {lk : Nat} (st : St) : lp mach lk c_slices_Equal_int_int_l0 st = andThen (lpN mach lk c_slices_Equal_int_int_l0) (runs mach lk b_slices_Equal_int_int_l0 st) := lp_step _ _
theorem st_ref12_ints_l0 {lk : Nat} (st : St) : lp mach lk c_ref12_ints_l0 st = andThen (lpN mach lk c_ref12_ints_l0) (runs mach lk b_ref12_ints_l0 st) := lp_step _ _
theorem st_law12_TmplPlain_l0 {lk : Nat} (st : St) : lp mach lk c_law12_TmplPlain_l0 st = andThen (lpN mach lk c_law12_TmplPlain_l0) (runs mach lk b_law12_TmplPlain_l0 st) := lp_step _ _
theorem st_tmpl_Same_l0 {lk : Nat} (st : St) : lp mach lk c_tmpl_Same_l0 st = andThen (lpN mach lk c_tmpl_Same_l0) (runs mach lk b_tmpl_Same_l0 st) := lp_step _ _
theorem st_ref12_Plain_l0 {lk : Nat} (st : St) : lp mach lk c_ref12_Plain_l0 st = andThen (lpN mach lk c_ref12_Plain_l0) (runs mach lk b_ref12_Plain_l0 st) := lp_step _ _
theorem eq_gram_Rule_key {lk : Nat} {args : List V} {H : List Tab} : lim mach lk f_gram_Rule_key args H = gv_key lk args H := lim_given (by kernel_rfl)
theorem eq_names_Quote {lk : Nat} {args : List V} {H : List Tab} : lim mach lk f_names_Quote args H = gv_Quote lk args H := lim_given (by kernel_rfl)
theorem eq_strconv_Itoa {lk : Nat} {args : List V} {H : List Tab} : lim mach lk f_strconv_Itoa args H = gv_Itoa lk args H := lim_given (by kernel_rfl)
end Go.Proofs.YtlacnkjkcikodaaDoor.Am
end
section
set_option linter.unusedVariables false
set_option linter.unusedSimpArgs false
namespace Go.Proofs.YtlacnkjkcikodaaDoor.Am
open Go
def encR (r : Rule) : V := .agg [.int .i64 r.left, .sl (r.right.map (V.int .i64)) .no]
def encG (g : Gram) : V := .agg [.sl (g.names.map V.str) .no, .sl (g.terms.map V.str) .no, .int .i64 g.start, .sl (g.rules.map encR) .no]
theorem szOK_R {q : List Rule} : szOK 2 (q.map encR) = true := szOK_map fun _ => rfl
attribute [simp] encR encG szOK_R
theorem wrapI {n : Int} (h : -9223372036854775808 ≤ n ∧ n ≤ 9223372036854775807) : IntKind.i64.wrap n = n := wrap_i64 h.1 h.2
theorem drop_nil {α : Type} {l : List α} {i : Nat} (h : l.drop i = []) : l.length ≤ i := List.drop_eq_nil_iff.1 h
theorem drop_cons {α : Type} {l r : List α} {i : Nat} {x : α} (h : l.drop i = x :: r) : l[i]? = some x ∧ i < l.length ∧ l.drop (i + 1) = r := by
  have hl : i < l.length := by
    rcases Nat.lt_or_ge i l.length with h1 | h1
    · exact h1
    · rw [List.drop_eq_nil_of_le h1] at h; cases h
  rw [List.drop_eq_getElem_cons hl] at h
  injection h with h1 h2
  exact ⟨by rw [List.getElem?_eq_getElem hl, h1], hl, h2⟩
theorem getLast_snoc {H : List Tab} {L : Tab} : (H ++ [L]).getLastD [] = L := by
  rw [List.getLastD_eq_getLast?]; simp
theorem get_midA {α : Type} {l r : List α} {x : α} : (l ++ x :: r)[l.length]? = some x := by simp
theorem get_left {α : Type} {l r : List α} {i : Nat} (h : i < l.length) : (l ++ r)[i]? = l[i]? := List.getElem?_append_left h
theorem dropLast_2 {α : Type} {l : List α} {a x : α} : (a :: (l ++ [x])).dropLast = a :: l := by rw [← List.cons_append, List.dropLast_concat]
theorem take_len_map {α β : Type} {f : α → β} {l : List α} : (l.map f).take l.length = l.map f := by rw [← List.length_map (f := f), List.take_length]
attribute [simp] take_len_map get_midA get_left dropLast_2
def letterI (b : Int) : Bool := decide (65 ≤ b ∧ b ≤ 90 ∨ 97 ≤ b ∧ b ≤ 122)
def nameI (b : Int) : Bool := letterI b || decide (b = 45 ∨ 48 ≤ b ∧ b ≤ 57)
def nameL : List UInt8 → Bool
  | [] => false
  | b :: r => decide (r.length < 64) && letterI b.toNat && r.all fun b => nameI b.toNat
def nameB (s : ByteArray) : Bool := nameL s.data.toList
def markB (s : ByteArray) : Bool := decide (1 ≤ s.size ∧ s.size ≤ 64)
theorem size_list (s : ByteArray) : s.data.toList.length = s.size := by simp
theorem empty_iff (s : ByteArray) : s = ⟨#[]⟩ ↔ s.size = 0 := by
  constructor
  · intro h; subst h; rfl
  · intro h
    cases s with
    | mk d => have : d.size = 0 := h; simp at this; subst this; rfl
attribute [simp] wrapI getLast_snoc
end Go.Proofs.YtlacnkjkcikodaaDoor.Am
end
section
set_option linter.unusedVariables false
set_option linter.unusedSimpArgs false
set_option maxHeartbeats 1000000
namespace Go.Proofs.YtlacnkjkcikodaaDoor.Am
open Go
variable {lk : Nat} {H : List Tab}
@[simp] theorem sp_letter (b : Int) : lim mach lk f_names_letter [.int .u8 b] H = some (.bool (letterI b), H) := by
  rw [eq_names_letter]
  by_cases h1 : 65 ≤ b <;> by_cases h2 : b ≤ 90 <;> by_cases h3 : 97 ≤ b <;> by_cases h4 : b ≤ 122 <;> first | (exfalso; omega) | simp (disch := first | assumption | omega | (simp; done) | (simp only [ByteArray.size_append]; omega)) [-getElem?_pos, -List.all_eq_true, -List.any_eq_true, -List.length_eq_zero_iff, -List.map_take, -List.map_drop, c_names_letter, letterI, h1, h2, h3, h4]
@[simp] theorem sp_rletter (b : Int) : lim mach lk f_ref01_letter [.int .u8 b] H = some (.bool (letterI b), H) := by
  rw [eq_ref01_letter]
  by_cases h1 : 65 ≤ b <;> by_cases h2 : b ≤ 90 <;> by_cases h3 : 97 ≤ b <;> by_cases h4 : b ≤ 122 <;> first | (exfalso; omega) | simp (disch := first | assumption | omega | (simp; done) | (simp only [ByteArray.size_append]; omega)) [-getElem?_pos, -List.all_eq_true, -List.any_eq_true, -List.length_eq_zero_iff, -List.map_take, -List.map_drop, c_ref01_letter, letterI, h1, h2, h3, h4]
@[simp] theorem sp_Mark (s : ByteArray) : lim mach lk f_names_Mark [.str s] H = some (.bool (markB s), H) := by
  rw [eq_names_Mark]
  by_cases h : s = ⟨#[]⟩
  · subst h; simp (disch := first | assumption | omega | (simp; done) | (simp only [ByteArray.size_append]; omega)) [-getElem?_pos, -List.all_eq_true, -List.any_eq_true, -List.length_eq_zero_iff, -List.map_take, -List.map_drop, c_names_Mark, markB]; decide
  · have h0 : s.size ≠ 0 := fun e => h ((empty_iff s).2 e)
    simp (disch := first | assumption | omega | (simp; done) | (simp only [ByteArray.size_append]; omega)) [-getElem?_pos, -List.all_eq_true, -List.any_eq_true, -List.length_eq_zero_iff, -List.map_take, -List.map_drop, c_names_Mark, markB, h]; omega
@[simp] theorem sp_rMark (s : ByteArray) : lim mach lk f_ref01_Mark [.str s] H = some (.bool (markB s), H) := by
  rw [eq_ref01_Mark]
  by_cases h : 1 ≤ s.size <;> simp (disch := first | assumption | omega | (simp; done) | (simp only [ByteArray.size_append]; omega)) [-getElem?_pos, -List.all_eq_true, -List.any_eq_true, -List.length_eq_zero_iff, -List.map_take, -List.map_drop, c_ref01_Mark, markB, h]; omega
theorem nameI_cases (b : Int) : (letterI b = true ∧ nameI b = true) ∨ (letterI b = false ∧ b = 45 ∧ nameI b = true) ∨ (letterI b = false ∧ ¬b = 45 ∧ b < 48 ∧ nameI b = false) ∨ (letterI b = false ∧ ¬b = 45 ∧ ¬b < 48 ∧ 57 < b ∧ nameI b = false) ∨ (letterI b = false ∧ ¬b = 45 ∧ ¬b < 48 ∧ ¬57 < b ∧ nameI b = true) := by
  unfold nameI
  cases letterI b with
  | true => simp
  | false => simp; omega
theorem name_l0 (s : ByteArray) (hs : s.size ≤ 64) : ∀ (r : List UInt8) (i : Nat) (j : Int), s.data.toList.drop i = r → j = i → i ≤ s.size → lp mach lk c_names_Name_l0 ⟨[(0, .str s), (18, .int .i64 s.size), (19, .int .i64 j)], [], H⟩ = some (if r.all (fun b => nameI b.toNat) then (.exit 0, ⟨[], [], H⟩) else (.ret, ⟨[(2, .bool false)], [], H⟩)) := by
  intro r
  induction r with
  | nil =>
    intro i j h hj hi; subst hj
    have := drop_nil h
    rw [size_list] at this
    rw [st_names_Name_l0]
    simp (disch := first | assumption | omega | (simp; done) | (simp only [ByteArray.size_append]; omega)) [-getElem?_pos, -List.all_eq_true, -List.any_eq_true, -List.length_eq_zero_iff, -List.map_take, -List.map_drop, b_names_Name_l0]
  | cons b r ih =>
    intro i j h hj hi; subst hj
    obtain ⟨hx, hlt, hr⟩ := drop_cons h
    rw [size_list] at hlt
    have ih := ih (i + 1) (i + 1) hr (by omega) (by omega)
    rw [st_names_Name_l0]
    rcases nameI_cases b.toNat with ⟨h1, hn⟩ | ⟨h1, h2, hn⟩ | ⟨h1, h2, h3, hn⟩ | ⟨h1, h2, h3, h4, hn⟩ | ⟨h1, h2, h3, h4, hn⟩ <;> simp (disch := first | assumption | omega | (simp; done) | (simp only [ByteArray.size_append]; omega)) [-getElem?_pos, -List.all_eq_true, -List.any_eq_true, -List.length_eq_zero_iff, -List.map_take, -List.map_drop, b_names_Name_l0, hx, h1, hn, ih]
theorem name_first (s : ByteArray) (h : s ≠ ⟨#[]⟩) : ∃ b r, s.data.toList = b :: r ∧ s.data.toList[0]? = some b := by
  cases e : s.data.toList with
  | nil => exact absurd ((empty_iff s).2 (by rw [← size_list, e]; rfl)) h
  | cons b r => exact ⟨b, r, rfl, rfl⟩
@[simp] theorem sp_Name (s : ByteArray) : lim mach lk f_names_Name [.str s] H = some (.bool (nameB s), H) := by
  by_cases h : s = ⟨#[]⟩
  · subst h; (rw [eq_names_Name]; simp (disch := first | assumption | omega | (simp; done) | (simp only [ByteArray.size_append]; omega)) [-getElem?_pos, -List.all_eq_true, -List.any_eq_true, -List.length_eq_zero_iff, -List.map_take, -List.map_drop, c_names_Name, nameB, nameL])
  · obtain ⟨b, r, e, h0⟩ := name_first s h
    have hl : s.size = r.length + 1 := by rw [← size_list, e]; rfl
    by_cases h64 : 64 < s.size
    · have hn : nameB s = false := by unfold nameB; rw [e]; simp only [nameL]; rw [decide_eq_false (by omega)]; rfl
      (rw [eq_names_Name]; simp (disch := first | assumption | omega | (simp; done) | (simp only [ByteArray.size_append]; omega)) [-getElem?_pos, -List.all_eq_true, -List.any_eq_true, -List.length_eq_zero_iff, -List.map_take, -List.map_drop, c_names_Name, h, hn])
    · have hn : nameB s = (letterI b.toNat && (b :: r).all fun b => nameI b.toNat) := by
        unfold nameB; rw [e]; simp only [nameL, List.all_cons]; rw [decide_eq_true (by omega)]
        unfold nameI; cases letterI b.toNat <;> rfl
      have hlp := name_l0 (lk := lk) (H := H) s (by omega) _ 0 0 rfl rfl (by omega)
      rw [List.drop_zero, e] at hlp
      cases h1 : letterI b.toNat with
      | false => (rw [eq_names_Name]; simp (disch := first | assumption | omega | (simp; done) | (simp only [ByteArray.size_append]; omega)) [-getElem?_pos, -List.all_eq_true, -List.any_eq_true, -List.length_eq_zero_iff, -List.map_take, -List.map_drop, c_names_Name, h, h0, h1, hn])
      | true =>
        rw [h1, Bool.true_and] at hn
        cases ha : (b :: r).all (fun b => nameI b.toNat) with
        | true => rw [ha] at hlp hn; (rw [eq_names_Name]; simp (disch := first | assumption | omega | (simp; done) | (simp only [ByteArray.size_append]; omega)) [-getElem?_pos, -List.all_eq_true, -List.any_eq_true, -List.length_eq_zero_iff, -List.map_take, -List.map_drop, c_names_Name, h, h0, h1, hlp, hn])
        | false => rw [ha] at hlp hn; (rw [eq_names_Name]; simp (disch := first | assumption | omega | (simp; done) | (simp only [ByteArray.size_append]; omega)) [-getElem?_pos, -List.all_eq_true, -List.any_eq_true, -List.length_eq_zero_iff, -List.map_take, -List.map_drop, c_names_Name, h, h0, h1, hlp, hn])
theorem rname_l0 (s : ByteArray) (hs : s.size ≤ 64) : ∀ (r : List UInt8) (i : Nat) (j : Int), s.data.toList.drop i = r → j = i → i ≤ s.size → lp mach lk c_ref01_Name_l0 ⟨[(0, .str s), (3, .int .i64 j)], [], H⟩ = some (if r.all (fun b => nameI b.toNat) then (.exit 0, ⟨[], [], H⟩) else (.ret, ⟨[(2, .bool false)], [], H⟩)) := by
  intro r
  induction r with
  | nil =>
    intro i j h hj hi; subst hj
    have := drop_nil h
    rw [size_list] at this
    (rw [st_ref01_Name_l0]; simp (disch := first | assumption | omega | (simp; done) | (simp only [ByteArray.size_append]; omega)) [-getElem?_pos, -List.all_eq_true, -List.any_eq_true, -List.length_eq_zero_iff, -List.map_take, -List.map_drop, b_ref01_Name_l0])
  | cons b r ih =>
    intro i j h hj hi; subst hj
    obtain ⟨hx, hlt, hr⟩ := drop_cons h
    rw [size_list] at hlt
    have ih := ih (i + 1) (i + 1) hr (by omega) (by omega)
    have hc : (letterI b.toNat = true ∧ nameI b.toNat = true) ∨ (letterI b.toNat = false ∧ ¬(48 ≤ (b.toNat : Int)) ∧ (b.toNat : Int) = 45 ∧ nameI b.toNat = true) ∨ (letterI b.toNat = false ∧ ¬(48 ≤ (b.toNat : Int)) ∧ ¬(b.toNat : Int) = 45 ∧ nameI b.toNat = false) ∨ (letterI b.toNat = false ∧ 48 ≤ (b.toNat : Int) ∧ (b.toNat : Int) ≤ 57 ∧ nameI b.toNat = true) ∨ (letterI b.toNat = false ∧ 48 ≤ (b.toNat : Int) ∧ ¬(b.toNat : Int) ≤ 57 ∧ nameI b.toNat = false) := by
      unfold nameI
      cases letterI b.toNat with
      | true => simp
      | false => simp; omega
    rcases hc with ⟨h1, hn⟩ | ⟨h1, h2, h3, hn⟩ | ⟨h1, h2, h3, hn⟩ | ⟨h1, h2, h3, hn⟩ | ⟨h1, h2, h3, hn⟩ <;> (rw [st_ref01_Name_l0]; simp (disch := first | assumption | omega | (simp; done) | (simp only [ByteArray.size_append]; omega)) [-getElem?_pos, -List.all_eq_true, -List.any_eq_true, -List.length_eq_zero_iff, -List.map_take, -List.map_drop, b_ref01_Name_l0, hx, h1, hn, ih])
@[simp] theorem sp_rName (s : ByteArray) : lim mach lk f_ref01_Name [.str s] H = some (.bool (nameB s), H) := by
  by_cases h : s = ⟨#[]⟩
  · subst h; have h0 : (⟨#[]⟩ : ByteArray).size = 0 := rfl; (rw [eq_ref01_Name]; simp (disch := first | assumption | omega | (simp; done) | (simp only [ByteArray.size_append]; omega)) [-getElem?_pos, -List.all_eq_true, -List.any_eq_true, -List.length_eq_zero_iff, -List.map_take, -List.map_drop, c_ref01_Name, nameB, nameL, h0])
  · obtain ⟨b, r, e, h0⟩ := name_first s h
    have hl : s.size = r.length + 1 := by rw [← size_list, e]; rfl
    by_cases h64 : 64 < s.size
    · have hn : nameB s = false := by unfold nameB; rw [e]; simp only [nameL]; rw [decide_eq_false (by omega)]; rfl
      (rw [eq_ref01_Name]; simp (disch := first | assumption | omega | (simp; done) | (simp only [ByteArray.size_append]; omega)) [-getElem?_pos, -List.all_eq_true, -List.any_eq_true, -List.length_eq_zero_iff, -List.map_take, -List.map_drop, c_ref01_Name, hn])
    · have hn : nameB s = (letterI b.toNat && r.all fun b => nameI b.toNat) := by
        unfold nameB; rw [e]; simp only [nameL]; rw [decide_eq_true (by omega)]; rfl
      have hlp := rname_l0 (lk := lk) (H := H) s (by omega) _ 1 1 rfl rfl (by omega)
      rw [e, List.drop_succ_cons, List.drop_zero] at hlp
      cases h1 : letterI b.toNat with
      | false => (rw [eq_ref01_Name]; simp (disch := first | assumption | omega | (simp; done) | (simp only [ByteArray.size_append]; omega)) [-getElem?_pos, -List.all_eq_true, -List.any_eq_true, -List.length_eq_zero_iff, -List.map_take, -List.map_drop, c_ref01_Name, h0, h1, hn])
      | true =>
        rw [h1, Bool.true_and] at hn
        cases ha : r.all (fun b => nameI b.toNat) with
        | true => rw [ha] at hlp hn; (rw [eq_ref01_Name]; simp (disch := first | assumption | omega | (simp; done) | (simp only [ByteArray.size_append]; omega)) [-getElem?_pos, -List.all_eq_true, -List.any_eq_true, -List.length_eq_zero_iff, -List.map_take, -List.map_drop, c_ref01_Name, h0, h1, hlp, hn])
        | false => rw [ha] at hlp hn; (rw [eq_ref01_Name]; simp (disch := first | assumption | omega | (simp; done) | (simp only [ByteArray.size_append]; omega)) [-getElem?_pos, -List.all_eq_true, -List.any_eq_true, -List.length_eq_zero_iff, -List.map_take, -List.map_drop, c_ref01_Name, h0, h1, hlp, hn])
end Go.Proofs.YtlacnkjkcikodaaDoor.Am
end
section
set_option linter.unusedVariables false
set_option linter.unusedSimpArgs false
set_option maxHeartbeats 1000000
namespace Go.Proofs.YtlacnkjkcikodaaDoor.Am
open Go
variable {lk : Nat} {H : List Tab}
def encM : List (ByteArray × V) → Nat → List (V × V × Nat)
  | [], _ => []
  | (s, v) :: r, k => (.str s, v, k) :: encM r (k + 1)
def fndM : List (ByteArray × V) → ByteArray → Option (Nat × V)
  | [], _ => none
  | (t, v) :: r, s => if s = t then some (0, v) else (fndM r s).map fun p => (p.1 + 1, p.2)
theorem findV_M (s : ByteArray) : ∀ (cs : List (ByteArray × V)) (k i : Nat), findV .s (.str s) (encM cs k) i = some ((fndM cs s).map fun p => (i + p.1, p.2, k + p.1))
  | [], k, i => rfl
  | (t, v) :: r, k, i => by
    simp only [encM, findV, al_s, fndM]
    by_cases e : s = t
    · simp [e]
    · simp only [decide_eq_false e, if_neg e, findV_M s r (k + 1) (i + 1)]
      cases fndM r s with
      | none => rfl
      | some p => simp; omega
theorem encM_len : ∀ (cs : List (ByteArray × V)) (k : Nat), (encM cs k).length = cs.length
  | [], _ => rfl
  | _ :: r, k => by simp [encM, encM_len r (k + 1)]
theorem encM_snoc (s : ByteArray) (v : V) : ∀ (cs : List (ByteArray × V)) (k : Nat), encM cs k ++ [(.str s, v, k + cs.length)] = encM (cs ++ [(s, v)]) k
  | [], _ => rfl
  | (t, u) :: r, k => by
    have := encM_snoc s v r (k + 1)
    simp only [encM, List.cons_append, List.length_cons]
    rw [show k + (r.length + 1) = k + 1 + r.length by omega, this]
theorem encM_snoc0 (s : ByteArray) (v : V) (cs : List (ByteArray × V)) : encM cs 0 ++ [(.str s, v, cs.length)] = encM (cs ++ [(s, v)]) 0 := by
  have := encM_snoc s v cs 0; rwa [Nat.zero_add] at this
theorem encM_set (s : ByteArray) (v : V) : ∀ (cs : List (ByteArray × V)) (k j : Nat) (u : V), fndM cs s = some (j, u) → (encM cs k).set j (.str s, v, k + j) = encM (cs.set j (s, v)) k
  | (t, u0) :: r, k, j, u, h => by
    simp only [fndM] at h
    by_cases e : s = t
    · rw [if_pos e] at h; cases h; rfl
    · rw [if_neg e] at h
      obtain ⟨p, hp, h2⟩ := Option.map_eq_some_iff.1 h
      obtain ⟨j0, u1⟩ := p
      cases h2
      simp only [encM, List.set_cons_succ]
      rw [show k + (j0 + 1) = k + 1 + j0 by omega, encM_set s v r (k + 1) j0 _ hp]
theorem fndM_set (s : ByteArray) (v : V) : ∀ (cs : List (ByteArray × V)) (j : Nat) (u : V), fndM cs s = some (j, u) → ∀ t, fndM (cs.set j (s, v)) t = if t = s then some (j, v) else fndM cs t
  | (t0, u0) :: r, j, u, h, t => by
    simp only [fndM] at h
    by_cases e : s = t0
    · rw [if_pos e] at h; cases h; subst e
      simp only [List.set_cons_zero, fndM]
      split <;> rfl
    · rw [if_neg e] at h
      obtain ⟨p, hp, h2⟩ := Option.map_eq_some_iff.1 h
      obtain ⟨j0, u1⟩ := p
      cases h2
      simp only [List.set_cons_succ, fndM, fndM_set s v r j0 _ hp t]
      by_cases e2 : t = t0
      · rw [if_pos e2, if_pos e2, if_neg (by rintro rfl; exact e e2)]
      · rw [if_neg e2, if_neg e2]
        split <;> rfl
theorem fndM_snoc (s : ByteArray) (v : V) : ∀ (cs : List (ByteArray × V)), fndM cs s = none → ∀ t, fndM (cs ++ [(s, v)]) t = if t = s then some (cs.length, v) else fndM cs t
  | [], _, t => by simp [fndM]
  | (t0, u0) :: r, h, t => by
    simp only [fndM] at h
    by_cases e : s = t0
    · rw [if_pos e] at h; cases h
    · rw [if_neg e] at h
      have h := Option.map_eq_none_iff.1 h
      simp only [List.cons_append, fndM, fndM_snoc s v r h t, List.length_cons]
      by_cases e2 : t = t0
      · rw [if_pos e2, if_pos e2, if_neg (by rintro rfl; exact e e2)]
      · rw [if_neg e2, if_neg e2]
        split <;> rfl
attribute [simp] findV_M encM_len encM_snoc0
def intM (cs : List (ByteArray × V)) : Prop := ∀ p ∈ cs, ∃ n, p.2 = .int .i64 n
theorem kill_encM {n : Nat} {ds : List Nat} {c : Nat} : ∀ {cs : List (ByteArray × V)} {k : Nat}, intM cs → Ob.kill n ds (.map (encM cs k) c) = .map (encM cs k) c
  | [], k, _ => rfl
  | (s, v) :: r, k, h => by
    obtain ⟨m, hm⟩ := h (s, v) List.mem_cons_self
    have ih := kill_encM (n := n) (ds := ds) (c := c) (k := k + 1) (cs := r) fun p hp => h p (List.mem_cons_of_mem _ hp)
    simp only [Ob.kill, Ob.map.injEq, and_true] at ih
    simp only at hm
    subst hm
    simp only [Ob.kill, encM, List.map_cons, ih]; rfl
attribute [simp] kill_encM
def CntM (cs : List (ByteArray × V)) (seen : List ByteArray) : Prop := intM cs ∧ ∀ s, (s ∈ seen → ∃ (j : Nat) (n : Int), fndM cs s = some (j, .int .i64 n) ∧ 1 ≤ n ∧ n ≤ seen.length) ∧ (s ∉ seen → fndM cs s = none)
theorem CntM.nil : CntM [] [] := ⟨fun _ h => by (cases h), fun s => ⟨fun h => by (cases h), fun _ => rfl⟩⟩
theorem CntM.new {cs : List (ByteArray × V)} {seen : List ByteArray} (h : CntM cs seen) {s : ByteArray} (hs : s ∉ seen) : CntM (cs ++ [(s, .int .i64 1)]) (seen ++ [s]) := by
  refine ⟨fun p hp => ?_, fun t => ?_⟩
  · rcases List.mem_append.1 hp with hp | hp
    · exact h.1 p hp
    · obtain rfl := List.mem_singleton.1 hp; exact ⟨1, rfl⟩
  replace h := h.2
  rw [fndM_snoc s _ cs ((h s).2 hs) t]
  by_cases e : t = s
  · subst e
    rw [if_pos rfl]
    exact ⟨fun _ => ⟨_, 1, rfl, by omega, by simp; omega⟩, fun hn => absurd (by simp) hn⟩
  · rw [if_neg e]
    refine ⟨fun hm => ?_, fun hn => (h t).2 (by simpa [e] using hn)⟩
    obtain ⟨j, n, h1, h2, h3⟩ := (h t).1 (by simpa [e] using hm)
    exact ⟨j, n, h1, h2, by simp; omega⟩
theorem CntM.more {cs : List (ByteArray × V)} {seen : List ByteArray} (h : CntM cs seen) {s : ByteArray} {j : Nat} {n : Int} (hf : fndM cs s = some (j, .int .i64 n)) (hs : s ∈ seen) (h1 : 1 ≤ n) (h2 : n ≤ seen.length) : CntM (cs.set j (s, .int .i64 (n + 1))) (seen ++ [s]) := by
  refine ⟨fun p hp => ?_, fun t => ?_⟩
  · rcases List.mem_or_eq_of_mem_set hp with hp | rfl
    · exact h.1 p hp
    · exact ⟨_, rfl⟩
  replace h := h.2
  rw [fndM_set s _ cs j _ hf t]
  by_cases e : t = s
  · subst e
    rw [if_pos rfl]
    exact ⟨fun _ => ⟨_, n + 1, rfl, by omega, by simp; omega⟩, fun hn => absurd (by simp) hn⟩
  · rw [if_neg e]
    refine ⟨fun hm => ?_, fun hn => (h t).2 (by simpa [e] using hn)⟩
    obtain ⟨j, n, h1, h2, h3⟩ := (h t).1 (by simpa [e] using hm)
    exact ⟨j, n, h1, h2, by simp; omega⟩
def Asks {α : Type} (f : FuncId) (caps : List V) (enc : α → V) (H : List Tab) (p : α → Bool) (l : List α) : Prop := caps.map V.bare = caps ∧ ∀ lk E, ∀ x ∈ l, lim mach lk f (enc x :: caps) (H ++ E) = some (.bool (p x), H ++ E)
theorem Asks.more {α : Type} {f : FuncId} {caps : List V} {enc : α → V} {H : List Tab} {p : α → Bool} {l : List α} (h : Asks f caps enc H p l) (E : List Tab) : Asks f caps enc (H ++ E) p l := ⟨h.1, fun lk E' x hx => by rw [List.append_assoc]; exact h.2 lk _ x hx⟩
def idxI {α : Type} (p : α → Bool) : List α → Int → Int
  | [], _ => -1
  | x :: r, i => bif p x then i else idxI p r (i + 1)
theorem idxI_any {α : Type} (p : α → Bool) : ∀ (l : List α) (i : Int), 0 ≤ i → decide (0 ≤ idxI p l i) = l.any p
  | [], i, _ => rfl
  | x :: r, i, h => by
    have ih := idxI_any p r (i + 1) (by omega)
    rw [List.any_cons, ← ih, show idxI p (x :: r) i = bif p x then i else idxI p r (i + 1) from rfl]
    by_cases e : p x = true
    · simp [e, h]
    · simp [e]
theorem mem_drop {α : Type} {l r : List α} {i : Nat} {x : α} (h : l.drop i = x :: r) : x ∈ l := List.mem_of_mem_drop (h ▸ List.mem_cons_self)
end Go.Proofs.YtlacnkjkcikodaaDoor.Am
end
section
set_option linter.unusedVariables false
set_option linter.unusedSimpArgs false
set_option maxHeartbeats 1000000
namespace Go.Proofs.YtlacnkjkcikodaaDoor.Am
open Go
variable {lk : Nat} {H : List Tab}
theorem idxI_neg {α : Type} (p : α → Bool) : ∀ (l : List α) (i : Int), 0 ≤ i → idxI p l i < 0 → idxI p l i = -1
  | [], i, _, _ => rfl
  | x :: r, i, h, h2 => by
    rw [show idxI p (x :: r) i = bif p x then i else idxI p r (i + 1) from rfl] at h2 ⊢
    by_cases e : p x = true
    · simp [e] at h2; omega
    · simp [e] at h2 ⊢; exact idxI_neg p r (i + 1) (by omega) h2
@[simp] theorem sp_IsTerm (s : Int) : lim mach lk f_gram_Sym_IsTerm [.int .i64 s] H = some (.bool (decide (s < 0)), H) := by
  (rw [eq_gram_Sym_IsTerm]; simp (disch := first | assumption | omega | (simp; done) | (simp only [ByteArray.size_append]; omega)) [-getElem?_pos, -List.all_eq_true, -List.any_eq_true, -List.length_eq_zero_iff, -List.map_take, -List.map_drop, c_gram_Sym_IsTerm])
def placeI (s : Int) : Int := if s < 0 then -1 - s else s
@[simp] theorem sp_Place (s : Int) (h : -9223372036854775808 ≤ s) : lim mach lk f_gram_Sym_Place [.int .i64 s] H = some (.int .i64 (placeI s), H) := by
  by_cases hs : s < 0 <;> (rw [eq_gram_Sym_Place]; simp (disch := first | assumption | omega | (simp; done) | (simp only [ByteArray.size_append]; omega)) [-getElem?_pos, -List.all_eq_true, -List.any_eq_true, -List.length_eq_zero_iff, -List.map_take, -List.map_drop, c_gram_Sym_Place, placeI, hs])
def hasI (n m : Nat) (s : Int) : Bool := decide (-(m : Int) ≤ s ∧ s < n)
@[simp] theorem sp_has (ns ts : List ByteArray) (st : Int) (rs : List Rule) (s : Int) (h : -9223372036854775808 ≤ s) : lim mach lk f_gram_Grammar_has [(.agg [.sl (ns.map V.str) .no, .sl (ts.map V.str) .no, .int .i64 st, .sl (rs.map encR) .no]), .int .i64 s] H = some (.bool (hasI ns.length ts.length s), H) := by
  by_cases hs : s < 0
  · have : hasI ns.length ts.length s = decide (-1 - s < (ts.length : Int)) := by unfold hasI; congr 1; apply propext; omega
    (rw [eq_gram_Grammar_has]; simp (disch := first | assumption | omega | (simp; done) | (simp only [ByteArray.size_append]; omega)) [-getElem?_pos, -List.all_eq_true, -List.any_eq_true, -List.length_eq_zero_iff, -List.map_take, -List.map_drop, c_gram_Grammar_has, placeI, hs, this])
  · have : hasI ns.length ts.length s = decide (s < (ns.length : Int)) := by unfold hasI; congr 1; apply propext; omega
    (rw [eq_gram_Grammar_has]; simp (disch := first | assumption | omega | (simp; done) | (simp only [ByteArray.size_append]; omega)) [-getElem?_pos, -List.all_eq_true, -List.any_eq_true, -List.length_eq_zero_iff, -List.map_take, -List.map_drop, c_gram_Grammar_has, placeI, hs, this])
def textsC (may : ByteArray → Bool) (l : List ByteArray) : Int := if l.all may = true then (if l.Nodup then 0 else 2) else 1
theorem texts_l0 (hlk : lk ≤ H.length) (f : FuncId) (may : ByteArray → Bool) (l : List ByteArray) (hf : Asks f [] V.str H may l) (hl : l.length ≤ 4611686018427387904) : ∀ (r : List ByteArray) (i : Nat) (j : Int) (cs : List (ByteArray × V)) (seen : List ByteArray) (tw : Int), l.drop i = r → j = i → l = seen ++ r → CntM cs seen → tw = (if seen.Nodup then 0 else 2) →
    ∃ cs', lp mach lk c_gram_texts_l0 ⟨[(1, .fn f []), (5, .map H.length 9), (6, .int .i64 tw), (10, .sl (l.map V.str) .no), (11, .int .i64 l.length), (12, .int .i64 j)], [(9, .map (encM cs 0) cs.length)], H⟩ = some (if r.all may = true then (.exit 0, ⟨[(6, .int .i64 (if l.Nodup then 0 else 2))], [(9, .map (encM cs' 0) cs'.length)], H⟩) else (.ret, ⟨[(4, .int .i64 1)], [(9, .map (encM cs' 0) cs'.length)], H⟩)) := by
  intro r
  induction r with
  | nil =>
    intro i j cs seen tw h hj he hc ht; subst hj
    have := drop_nil h
    rw [List.append_nil] at he
    subst he
    exact ⟨cs, by (rw [st_gram_texts_l0]; simp (disch := first | assumption | omega | (simp; done) | (simp only [ByteArray.size_append]; omega)) [-getElem?_pos, -List.all_eq_true, -List.any_eq_true, -List.length_eq_zero_iff, -List.map_take, -List.map_drop, b_gram_texts_l0, ht])⟩
  | cons x r ih =>
    intro i j cs seen tw h hj he hc ht; subst hj
    obtain ⟨hx, hlt, hr⟩ := drop_cons h
    have hq := fun (L : Tab) => hf.2 lk [L] x (mem_drop h)
    try simp at hq
    have hsl : seen.length < l.length := by rw [he]; simp
    have he2 : l = (seen ++ [x]) ++ r := by rw [he]; simp
    cases hp : may x with
    | false =>
      rw [hp] at hq
      exact ⟨cs, by (rw [st_gram_texts_l0]; simp (disch := first | assumption | omega | (simp; done) | (simp only [ByteArray.size_append]; omega)) [-getElem?_pos, -List.all_eq_true, -List.any_eq_true, -List.length_eq_zero_iff, -List.map_take, -List.map_drop, b_gram_texts_l0, hx, hq, hp])⟩
    | true =>
      rw [hp] at hq
      by_cases hs : x ∈ seen
      · obtain ⟨k, n, hf1, hn1, hn2⟩ := (hc.2 x).1 hs
        have hset := encM_set x (.int .i64 (n + 1)) cs 0 k _ hf1
        rw [Nat.zero_add] at hset
        have hnd : ¬(seen ++ [x]).Nodup := by rw [List.nodup_append]; simp [hs]
        obtain ⟨cs', ih⟩ := ih (i + 1) (i + 1) _ (seen ++ [x]) 2 hr (by omega) he2 (hc.more hf1 hs hn1 hn2) (by rw [if_neg hnd])
        have hf2 := fndM_set x (.int .i64 (n + 1)) cs k _ hf1 x
        rw [if_pos rfl] at hf2
        simp only [List.length_set] at ih
        exact ⟨cs', by (rw [st_gram_texts_l0]; simp (disch := first | assumption | omega | (simp; done) | (simp only [ByteArray.size_append]; omega)) [-getElem?_pos, -List.all_eq_true, -List.any_eq_true, -List.length_eq_zero_iff, -List.map_take, -List.map_drop, b_gram_texts_l0, hx, hq, hp, hf1, hset, hf2, ih])⟩
      · have hf1 := (hc.2 x).2 hs
        have hnd : (seen ++ [x]).Nodup ↔ seen.Nodup := by rw [List.nodup_append]; simp [hs]; exact fun _ => fun y hy e => hs (e ▸ hy)
        obtain ⟨cs', ih⟩ := ih (i + 1) (i + 1) _ (seen ++ [x]) tw hr (by omega) he2 (hc.new hs) (by rw [ht]; simp only [hnd])
        have hf2 := fndM_snoc x (.int .i64 1) cs hf1 x
        rw [if_pos rfl] at hf2
        simp only [List.length_append, List.length_singleton] at ih
        exact ⟨cs', by (rw [st_gram_texts_l0]; simp (disch := first | assumption | omega | (simp; done) | (simp only [ByteArray.size_append]; omega)) [-getElem?_pos, -List.all_eq_true, -List.any_eq_true, -List.length_eq_zero_iff, -List.map_take, -List.map_drop, b_gram_texts_l0, hx, hq, hp, hf1, hf2, ih])⟩
theorem sp_texts (hlk : lk ≤ H.length) (f : FuncId) (may : ByteArray → Bool) (l : List ByteArray) (hf : Asks f [] V.str H may l) (hl : l.length ≤ 4611686018427387904) : lim mach lk f_gram_texts [.sl (l.map V.str) .no, .fn f []] H = some (.int .i64 (textsC may l), H) := by
  obtain ⟨cs, h⟩ := texts_l0 hlk f may l hf hl l 0 0 [] [] 0 rfl rfl rfl CntM.nil (by simp)
  simp only [encM, List.length_nil] at h
  unfold textsC
  by_cases e : l.all may = true
  · rw [if_pos e] at h ⊢; (rw [eq_gram_texts]; simp (disch := first | assumption | omega | (simp; done) | (simp only [ByteArray.size_append]; omega)) [-getElem?_pos, -List.all_eq_true, -List.any_eq_true, -List.length_eq_zero_iff, -List.map_take, -List.map_drop, c_gram_texts, h])
  · rw [if_neg e] at h ⊢; (rw [eq_gram_texts]; simp (disch := first | assumption | omega | (simp; done) | (simp only [ByteArray.size_append]; omega)) [-getElem?_pos, -List.all_eq_true, -List.any_eq_true, -List.length_eq_zero_iff, -List.map_take, -List.map_drop, c_gram_texts, h])
theorem idxl_gram_Sym_gram_Sym (f : FuncId) (caps : List V) (p : Int → Bool) (l : List Int) (hf : Asks f caps (V.int .i64) H p l) (hl : l.length ≤ 4611686018427387904) : ∀ (r : List Int) (i : Nat) (j : Int), l.drop i = r → j = i → lp mach lk c_slices_IndexFunc_gram_Sym_gram_Sym_l0 ⟨[(0, .sl (l.map (V.int .i64)) .no), (1, .fn f caps), (7, .int .i64 l.length), (8, .int .i64 j)], [], H⟩ = some (if idxI p r j < 0 then (.exit 0, ⟨[], [], H⟩) else (.ret, ⟨[(4, .int .i64 (idxI p r j))], [], H⟩)) := by
  intro r
  induction r with
  | nil =>
    intro i j h hj; subst hj
    have := drop_nil h
    (rw [st_slices_IndexFunc_gram_Sym_gram_Sym_l0]; simp (disch := first | assumption | omega | (simp; done) | (simp only [ByteArray.size_append]; omega)) [-getElem?_pos, -List.all_eq_true, -List.any_eq_true, -List.length_eq_zero_iff, -List.map_take, -List.map_drop, b_slices_IndexFunc_gram_Sym_gram_Sym_l0, idxI])
  | cons x r ih =>
    intro i j h hj; subst hj
    obtain ⟨hx, hlt, hr⟩ := drop_cons h
    have ih := ih (i + 1) (i + 1) hr (by omega)
    have hc := hf.2 lk [[]] x (mem_drop h)
    have hb := hf.1
    try simp at hc
    cases hp : p x with
    | true => rw [hp] at hc; (rw [st_slices_IndexFunc_gram_Sym_gram_Sym_l0]; simp (disch := first | assumption | omega | (simp; done) | (simp only [ByteArray.size_append]; omega)) [-getElem?_pos, -List.all_eq_true, -List.any_eq_true, -List.length_eq_zero_iff, -List.map_take, -List.map_drop, b_slices_IndexFunc_gram_Sym_gram_Sym_l0, idxI, hx, hb, hc, hp])
    | false => rw [hp] at hc; (rw [st_slices_IndexFunc_gram_Sym_gram_Sym_l0]; simp (disch := first | assumption | omega | (simp; done) | (simp only [ByteArray.size_append]; omega)) [-getElem?_pos, -List.all_eq_true, -List.any_eq_true, -List.length_eq_zero_iff, -List.map_take, -List.map_drop, b_slices_IndexFunc_gram_Sym_gram_Sym_l0, idxI, hx, hb, hc, hp, ih])
theorem sp_Index_gram_Sym_gram_Sym (f : FuncId) (caps : List V) (p : Int → Bool) (l : List Int) (hf : Asks f caps (V.int .i64) H p l) (hl : l.length ≤ 4611686018427387904) : lim mach lk f_slices_IndexFunc_gram_Sym_gram_Sym [.sl (l.map (V.int .i64)) .no, .fn f caps] H = some (.int .i64 (idxI p l 0), H) := by
  have h := idxl_gram_Sym_gram_Sym (lk := lk) f caps p l hf hl l 0 0 rfl rfl
  by_cases e : idxI p l 0 < 0
  · rw [if_pos e] at h
    have e2 : idxI p l 0 = -1 := idxI_neg p l 0 (by omega) e
    (rw [eq_slices_IndexFunc_gram_Sym_gram_Sym]; simp (disch := first | assumption | omega | (simp; done) | (simp only [ByteArray.size_append]; omega)) [-getElem?_pos, -List.all_eq_true, -List.any_eq_true, -List.length_eq_zero_iff, -List.map_take, -List.map_drop, c_slices_IndexFunc_gram_Sym_gram_Sym, h, e2])
  · rw [if_neg e] at h; (rw [eq_slices_IndexFunc_gram_Sym_gram_Sym]; simp (disch := first | assumption | omega | (simp; done) | (simp only [ByteArray.size_append]; omega)) [-getElem?_pos, -List.all_eq_true, -List.any_eq_true, -List.length_eq_zero_iff, -List.map_take, -List.map_drop, c_slices_IndexFunc_gram_Sym_gram_Sym, h])
theorem sp_Contains_gram_Sym_gram_Sym (f : FuncId) (caps : List V) (p : Int → Bool) (l : List Int) (hf : Asks f caps (V.int .i64) H p l) (hl : l.length ≤ 4611686018427387904) : lim mach lk f_slices_ContainsFunc_gram_Sym_gram_Sym [.sl (l.map (V.int .i64)) .no, .fn f caps] H = some (.bool (l.any p), H) := by
  have h := sp_Index_gram_Sym_gram_Sym (lk := H.length + 1) f caps p l (hf.more [[]]) hl
  have e := idxI_any p l 0 (by omega)
  (rw [eq_slices_ContainsFunc_gram_Sym_gram_Sym]; simp (disch := first | assumption | omega | (simp; done) | (simp only [ByteArray.size_append]; omega)) [-getElem?_pos, -List.all_eq_true, -List.any_eq_true, -List.length_eq_zero_iff, -List.map_take, -List.map_drop, c_slices_ContainsFunc_gram_Sym_gram_Sym, h, e])
theorem keyB_inj (r s : Rule) : keyB r = keyB s ↔ r = s := by
  constructor
  · intro h
    apply keyL_inj
    have := congrArg (fun b : ByteArray => b.data.toList) h
    simpa [keyB] using this
  · rintro rfl; rfl
@[simp] theorem sp_key (a : Int) (l : List Int) (h : ruleOk ⟨a, l⟩ = true) : lim mach lk f_gram_Rule_key [(.agg [.int .i64 a, .sl ( l.map (V.int .i64)) .no])] H = some (.str (keyB ⟨a, l⟩), H) := by
  rw [eq_gram_Rule_key]; simp [gv_key, ints_map, h]
def ruleC (n m : Nat) (r : Rule) : Int := if r.left < 0 ∨ (n : Int) ≤ r.left ∨ r.right.any (fun s => !hasI n m s) = true then 3 else if 64 < r.right.length then 5 else 0
def rulesF (n m : Nat) : List Rule → Option Int
  | [] => none
  | r :: l => if ruleC n m r = 0 then rulesF n m l else some (ruleC n m r)
def rulesC (n m : Nat) (l : List Rule) : Int := match rulesF n m l with
  | some e => e
  | none => if l.Nodup then 0 else 2
def OkR (r : Rule) : Prop := r.right.length ≤ 4611686018427387904 ∧ ∀ s ∈ r.right, -9223372036854775808 ≤ s
def OkG (g : Gram) : Prop := g.names.length ≤ 4611686018427387904 ∧ g.terms.length ≤ 4611686018427387904 ∧ g.rules.length ≤ 4611686018427387904 ∧ ∀ r ∈ g.rules, OkR r
theorem asks_rules (ns ts : List ByteArray) (st : Int) (rs : List Rule) (L : Tab) (hL : L.get 1 = some (.cells (encG ⟨ns, ts, st, rs⟩).cells)) (l : List Int) (hl : ∀ s ∈ l, -9223372036854775808 ≤ s) : Asks f_gram_Grammar_rules_1 [.ptr H.length 1 0] (V.int .i64) (H ++ [L]) (fun s => !hasI ns.length ts.length s) l := by
  refine ⟨rfl, fun lk E x hx => ?_⟩
  have := hl x hx
  simp at hL
  (rw [eq_gram_Grammar_rules_1]; simp (disch := first | assumption | omega | (simp; done) | (simp only [ByteArray.size_append]; omega)) [-getElem?_pos, -List.all_eq_true, -List.any_eq_true, -List.length_eq_zero_iff, -List.map_take, -List.map_drop, c_gram_Grammar_rules_1, hL])
theorem rule_ok {n m : Nat} {r : Rule} (h : ruleC n m r = 0) (hn : n ≤ 4611686018427387904) (hm : m ≤ 4611686018427387904) : ruleOk r = true := by
  unfold ruleC at h
  split at h
  · cases h
  · rename_i h1
    split at h
    · cases h
    · rename_i h2
      simp only [not_or, Bool.not_eq_true, List.any_eq_false] at h1
      simp only [ruleOk, symOk, Bool.and_eq_true, decide_eq_true_eq, List.all_eq_true]
      refine ⟨⟨by omega, by omega⟩, fun s hs => ?_⟩
      have := h1.2.2 s hs
      simp only [hasI, Bool.not_eq_false', decide_eq_true_eq] at this
      omega
theorem rules_l0 (hlk : lk ≤ H.length) (g : Gram) (hg : OkG g) : ∀ (r : List Rule) (i : Nat) (j : Int) (cs : List (ByteArray × V)) (seen : List Rule) (tw : Int), g.rules.drop i = r → j = i → g.rules = seen ++ r → CntM cs (seen.map keyB) → tw = (if seen.Nodup then 0 else 2) →
    ∃ cs', lp mach lk c_gram_Grammar_rules_l0 ⟨[(1, .ptr H.length 1 0), (3, .map H.length 7), (4, .int .i64 tw), (9, .sl (g.rules.map encR) .no), (10, .int .i64 g.rules.length), (11, .int .i64 j)], [(1, .cells (encG g).cells), (7, .map (encM cs 0) cs.length)], H⟩ = some (match rulesF g.names.length g.terms.length r with | none => (.exit 0, ⟨[(4, .int .i64 (if g.rules.Nodup then 0 else 2))], [(1, .cells (encG g).cells), (7, .map (encM cs' 0) cs'.length)], H⟩) | some e => (.ret, ⟨[(2, .int .i64 e)], [(1, .cells (encG g).cells), (7, .map (encM cs' 0) cs'.length)], H⟩)) := by
  obtain ⟨ns, ts, st, rs⟩ := g
  obtain ⟨hg1, hg2, hg3, hg4⟩ := hg
  simp only at hg1 hg2 hg3 hg4
  intro r
  induction r with
  | nil =>
    intro i j cs seen tw h hj he hc ht; subst hj; have hi := hc.1
    have := drop_nil h
    rw [List.append_nil] at he
    simp only at he this
    subst he
    exact ⟨cs, by (rw [st_gram_Grammar_rules_l0]; simp (disch := first | assumption | omega | (simp; done) | (simp only [ByteArray.size_append]; omega)) [-getElem?_pos, -List.all_eq_true, -List.any_eq_true, -List.length_eq_zero_iff, -List.map_take, -List.map_drop, b_gram_Grammar_rules_l0, ht, rulesF])⟩
  | cons x r ih =>
    intro i j cs seen tw h hj he hc ht; subst hj; have hi := hc.1
    obtain ⟨hx, hlt, hr⟩ := drop_cons h
    simp only at hx hlt hr he ih h
    have he2 : rs = (seen ++ [x]) ++ r := by rw [he]; simp
    have hokx := hg4 x (mem_drop h)
    have hq := fun (L : Tab) (hL : L.get 1 = some (.cells (encG ⟨ns, ts, st, rs⟩).cells)) => sp_Contains_gram_Sym_gram_Sym (lk := H.length + 1) _ _ _ x.right (asks_rules (H := H) ns ts st rs L hL x.right hokx.2) hokx.1
    obtain ⟨a, l⟩ := x
    simp only at hq hokx
    simp only [encG, V.cells] at hq
    by_cases h1 : a < 0
    · have e : ruleC ns.length ts.length ⟨a, l⟩ = 3 := by unfold ruleC; rw [if_pos (.inl h1)]
      exact ⟨cs, by (rw [st_gram_Grammar_rules_l0]; simp (disch := first | assumption | omega | (simp; done) | (simp only [ByteArray.size_append]; omega)) [-getElem?_pos, -List.all_eq_true, -List.any_eq_true, -List.length_eq_zero_iff, -List.map_take, -List.map_drop, b_gram_Grammar_rules_l0, hx, rulesF, e])⟩
    by_cases h2 : (ns.length : Int) ≤ a
    · have e : ruleC ns.length ts.length ⟨a, l⟩ = 3 := by unfold ruleC; rw [if_pos (.inr (.inl h2))]
      exact ⟨cs, by (rw [st_gram_Grammar_rules_l0]; simp (disch := first | assumption | omega | (simp; done) | (simp only [ByteArray.size_append]; omega)) [-getElem?_pos, -List.all_eq_true, -List.any_eq_true, -List.length_eq_zero_iff, -List.map_take, -List.map_drop, b_gram_Grammar_rules_l0, hx, rulesF, e])⟩
    cases h3 : l.any (fun s => !hasI ns.length ts.length s) with
    | true =>
      have e : ruleC ns.length ts.length ⟨a, l⟩ = 3 := by unfold ruleC; rw [if_pos (.inr (.inr h3))]
      rw [h3] at hq
      exact ⟨cs, by (rw [st_gram_Grammar_rules_l0]; simp (disch := first | assumption | omega | (simp; done) | (simp only [ByteArray.size_append]; omega)) [-getElem?_pos, -List.all_eq_true, -List.any_eq_true, -List.length_eq_zero_iff, -List.map_take, -List.map_drop, b_gram_Grammar_rules_l0, hx, rulesF, e, hq])⟩
    | false =>
      have e : ruleC ns.length ts.length ⟨a, l⟩ = if 64 < l.length then 5 else 0 := by unfold ruleC; rw [if_neg]; simp only [h3]; simp; omega
      rw [h3] at hq
      by_cases h4 : 64 < l.length
      · rw [if_pos h4] at e
        exact ⟨cs, by (rw [st_gram_Grammar_rules_l0]; simp (disch := first | assumption | omega | (simp; done) | (simp only [ByteArray.size_append]; omega)) [-getElem?_pos, -List.all_eq_true, -List.any_eq_true, -List.length_eq_zero_iff, -List.map_take, -List.map_drop, b_gram_Grammar_rules_l0, hx, rulesF, e, hq])⟩
      rw [if_neg h4] at e
      have hk := rule_ok e hg1 hg2
      have hmem : keyB ⟨a, l⟩ ∈ seen.map keyB ↔ (⟨a, l⟩ : Rule) ∈ seen := by
        rw [List.mem_map]; exact ⟨fun ⟨y, hy, e⟩ => (keyB_inj _ _).1 e ▸ hy, fun h => ⟨_, h, rfl⟩⟩
      have hsl : seen.length < rs.length := by rw [he]; simp
      by_cases hs : (⟨a, l⟩ : Rule) ∈ seen
      · obtain ⟨k, n, hf1, hn1, hn2⟩ := (hc.2 (keyB ⟨a, l⟩)).1 (hmem.2 hs)
        rw [List.length_map] at hn2
        have hset := encM_set (keyB ⟨a, l⟩) (.int .i64 (n + 1)) cs 0 k _ hf1
        rw [Nat.zero_add] at hset
        have hnd : ¬(seen ++ [(⟨a, l⟩ : Rule)]).Nodup := by rw [List.nodup_append]; simp [hs]
        obtain ⟨cs', ih⟩ := ih (i + 1) (i + 1) _ (seen ++ [⟨a, l⟩]) 2 hr (by omega) he2 (by rw [List.map_append]; exact hc.more hf1 (hmem.2 hs) hn1 (by rw [List.length_map]; exact hn2)) (by rw [if_neg hnd])
        have hf2 := fndM_set (keyB ⟨a, l⟩) (.int .i64 (n + 1)) cs k _ hf1 (keyB ⟨a, l⟩)
        rw [if_pos rfl] at hf2
        simp only [List.length_set, encG, V.cells] at ih
        exact ⟨cs', by (rw [st_gram_Grammar_rules_l0]; simp (disch := first | assumption | omega | (simp; done) | (simp only [ByteArray.size_append]; omega)) [-getElem?_pos, -List.all_eq_true, -List.any_eq_true, -List.length_eq_zero_iff, -List.map_take, -List.map_drop, b_gram_Grammar_rules_l0, hx, rulesF, e, hq, hk, hf1, hset, hf2, ih])⟩
      · have hf1 := (hc.2 (keyB ⟨a, l⟩)).2 (fun h => hs (hmem.1 h))
        have hnd : (seen ++ [(⟨a, l⟩ : Rule)]).Nodup ↔ seen.Nodup := by rw [List.nodup_append]; simp [hs]; exact fun _ => fun y hy e => hs (e ▸ hy)
        obtain ⟨cs', ih⟩ := ih (i + 1) (i + 1) _ (seen ++ [⟨a, l⟩]) tw hr (by omega) he2 (by rw [List.map_append]; exact hc.new (fun h => hs (hmem.1 h))) (by rw [ht]; simp only [hnd])
        have hf2 := fndM_snoc (keyB ⟨a, l⟩) (.int .i64 1) cs hf1 (keyB ⟨a, l⟩)
        rw [if_pos rfl] at hf2
        simp only [List.length_append, List.length_singleton, encG, V.cells] at ih
        exact ⟨cs', by (rw [st_gram_Grammar_rules_l0]; simp (disch := first | assumption | omega | (simp; done) | (simp only [ByteArray.size_append]; omega)) [-getElem?_pos, -List.all_eq_true, -List.any_eq_true, -List.length_eq_zero_iff, -List.map_take, -List.map_drop, b_gram_Grammar_rules_l0, hx, rulesF, e, hq, hk, hf1, hf2, ih])⟩
theorem sp_rules (hlk : lk ≤ H.length) (g : Gram) (hg : OkG g) : lim mach lk f_gram_Grammar_rules [encG g] H = some (.int .i64 (rulesC g.names.length g.terms.length g.rules), H) := by
  obtain ⟨cs, h⟩ := rules_l0 hlk g hg g.rules 0 0 [] [] 0 rfl rfl rfl CntM.nil (by simp)
  simp only [encM, List.length_nil, encG, V.cells] at h
  unfold rulesC
  cases e : rulesF g.names.length g.terms.length g.rules with
  | some x => rw [e] at h; (rw [eq_gram_Grammar_rules]; simp (disch := first | assumption | omega | (simp; done) | (simp only [ByteArray.size_append]; omega)) [-getElem?_pos, -List.all_eq_true, -List.any_eq_true, -List.length_eq_zero_iff, -List.map_take, -List.map_drop, c_gram_Grammar_rules, h])
  | none => rw [e] at h; (rw [eq_gram_Grammar_rules]; simp (disch := first | assumption | omega | (simp; done) | (simp only [ByteArray.size_append]; omega)) [-getElem?_pos, -List.all_eq_true, -List.any_eq_true, -List.length_eq_zero_iff, -List.map_take, -List.map_drop, c_gram_Grammar_rules, h])
end Go.Proofs.YtlacnkjkcikodaaDoor.Am
end
section
set_option linter.unusedVariables false
set_option linter.unusedSimpArgs false
namespace Go.Proofs.YtlacnkjkcikodaaDoor.Am
open Go Go.RowKit Go.ChangeShapes Go.WideShapes Go.Deep
def symI (n : Int) : Prop := -9223372036854775808 ≤ n ∧ n ≤ 9223372036854775807
structure GArg (g : Gram) : Prop where
  n0 : g.names.length ≤ 140737488355328
  n1 : g.terms.length ≤ 140737488355328
  n3 : g.rules.length ≤ 140737488355328
  s0 : ∀ s ∈ g.names, s.size ≤ 140737488355328
  s1 : ∀ s ∈ g.terms, s.size ≤ 140737488355328
  i2 : symI g.start
  r3 : ∀ r ∈ g.rules, symI r.left ∧ r.right.length ≤ 140737488355328 ∧ ∀ s ∈ r.right, symI s
theorem wf_symI (n : Int) (h : (Lit.int .i64 n).wf = true) : symI n := by
  have e1 : IntKind.i64.min = -9223372036854775808 := by decide
  have e2 : IntKind.i64.max = 9223372036854775807 := by decide
  simp only [Lit.wf, Bool.and_eq_true, decide_eq_true_eq, e1, e2] at h
  exact h
theorem GArg.ok {g : Gram} (h : GArg g) : OkG g := ⟨by have := h.n0; omega, by have := h.n1; omega, by have := h.n3; omega, fun r hr => ⟨by have := (h.r3 r hr).2.1; omega, fun s hs => ((h.r3 r hr).2.2 s hs).1⟩⟩
section
variable {W : World} {hL : Laid W}
theorem opensA_rule : OpensA Tryd.prog W hL 46 encR 2 (fun r => symI r.left ∧ r.right.length ≤ 140737488355328 ∧ ∀ s ∈ r.right, symI s) := by
  have h1 := opensA_slice (P := Tryd.prog) (W := W) (hL := hL) (t := 44) (e := 94) (sz := 1) Tryd.underlying44 (by kernel_rfl) (by omega) (opensA_int Tryd.underlying94)
  have hb : Tryd.prog.bytesOf 94 = 8 := by kernel_rfl
  refine opensA_mono (opensA_two Tryd.underlying46 (by kernel_rfl) (by kernel_rfl) (opensA_int Tryd.underlying3) h1 (fun _ => rfl) (fun _ => rfl) Rule.mk encR (fun _ _ => rfl)) ?_
  rintro r ⟨x, y, rfl, g0, g1, g2, _⟩
  rw [hb] at g2
  unfold reachBytes at g2
  have g2' : y.length * 8 ≤ 0x7ffffffff000 := g2
  exact ⟨wf_symI _ g0, by show y.length ≤ _; omega, fun s hs => wf_symI _ (g1 s hs)⟩
set_option maxRecDepth 100000 in
theorem open_gramA {H : Type} {enc : TypeId × Value → H} {base b0 : Nat} {sp : Nat → Bool} {held : Bool} {r : Reach} {v : Value} {D : DataW H} {p : List MemPlace} (hv : Value.okWide Tryd.prog W r b0 25 v) (h : DataW.Trod enc Tryd.prog W base sp held 25 v D p)
    (hw : ∀ n ∈ D.weights Tryd.prog 25, n ≤ reachBytes) : ∃ g : Gram, VR W (topG W hL) (encG g) v ∧ GArg g := by
  obtain ⟨v0, v1, v2, v3, y0, y1, y2, y3, n, rfl, rfl, rfl, h0, h1, h2, h3⟩ := Joins.open_agg4 Tryd.underlying25 (by kernel_rfl) (by kernel_rfl) hv h
  simp only [DataW.weights, Tryd.underlying25, List.map_cons, List.map_nil, DataW.weightsEach, List.append_nil, List.mem_append] at hw
  have hs := opensA_slice (P := Tryd.prog) (W := W) (hL := hL) (t := 22) (e := 9) (sz := 1) Tryd.underlying22 (by kernel_rfl) (by omega) (opensA_string Tryd.underlying9)
  have hr := opensA_slice (P := Tryd.prog) (W := W) (hL := hL) (t := 23) (e := 46) (sz := 2) Tryd.underlying23 (by kernel_rfl) (by omega) opensA_rule
  have hb0 : Tryd.prog.bytesOf 9 = 16 := by kernel_rfl
  have hb3 : Tryd.prog.bytesOf 46 = 32 := by kernel_rfl
  obtain ⟨l0, -, c0, -, g0, g0', _⟩ := hs H enc base sp held n [v0] y0 h0 (fun k hk => hw k (.inl hk))
  obtain ⟨l1, -, c1, -, g1, g1', _⟩ := hs H enc base sp held n [v1] y1 h1 (fun k hk => hw k (.inr (.inl hk)))
  obtain ⟨a2, -, c2, -, g2⟩ := opensA_int (hL := hL) Tryd.underlying3 H enc base sp held n [v2] y2 h2 (fun k hk => hw k (.inr (.inr (.inl hk))))
  obtain ⟨l3, -, c3, -, g3, g3', _⟩ := hr H enc base sp held n [v3] y3 h3 (fun k hk => hw k (.inr (.inr (.inr hk))))
  rw [hb0] at g0' g1'
  rw [hb3] at g3'
  unfold reachBytes at g0 g1 g0' g1' g3'
  refine ⟨⟨l0, l1, a2, l3⟩, ⟨[v0, v1, v2, v3], rfl, ?_⟩, ⟨by show l0.length ≤ _; omega, by show l1.length ≤ _; omega, by show l3.length ≤ _; omega, fun s hm => by have := g0 s hm; omega, fun s hm => by have := g1 s hm; omega, wf_symI _ g2, g3⟩⟩
  cases c0 with
  | cons c0 _ => cases c1 with
    | cons c1 _ => cases c2 with
      | cons c2 _ => cases c3 with
        | cons c3 _ => exact .cons c0 (.cons c1 (.cons c2 (.cons c3 .nil)))
theorem gram_out (g : Gram) : (encG g).under 0 = true ∧ (encG g).free = true := ⟨rfl, rfl⟩
end
end Go.Proofs.YtlacnkjkcikodaaDoor.Am
end
section
namespace Go.Proofs
open Go.Shelf
def Tryd.lays169_ren : Go.Shelf.Ren := ⟨fun | 169 => 142 | n => n, fun | 70 => 198 | 9 => 9 | 0 => 0 | 72 => 201 | 37 => 199 | 127 => 239 | 3 => 3 | 5 => 5 | n => n, fun | n => n⟩
theorem Tryd.lays169 : Go.Proofs.Lays.n169 Tryd.prog Tryd.lays169_ren := {
  mixed := by kernel_rfl
  f169 := Tryd.func142.trans (congrArg some (by kernel_rfl))
  t0 := Tryd.underlying0
  a0 := Tryd.isAgg0
  z0 := Tryd.sizeOf0
  v0 := Tryd.zeroValue0
  t3 := Tryd.underlying3
  a3 := Tryd.isAgg3
  z3 := Tryd.sizeOf3
  v3 := Tryd.zeroValue3
  t9 := Tryd.underlying9
  a9 := Tryd.isAgg9
  z9 := Tryd.sizeOf9
  v9 := Tryd.zeroValue9
  t37 := Tryd.underlying199
  a37 := Tryd.isAgg199
  z37 := Tryd.sizeOf199
  v37 := Tryd.zeroValue199
  t70 := Tryd.underlying198
  a70 := Tryd.isAgg198
  z70 := Tryd.sizeOf198
  v70 := Tryd.zeroValue198
  t72 := Tryd.underlying201
  a72 := Tryd.isAgg201
  z72 := Tryd.sizeOf201
  v72 := Tryd.zeroValue201
  t127 := Tryd.underlying239
  a127 := Tryd.isAgg239
  z127 := Tryd.sizeOf239
  v127 := Tryd.zeroValue239 }
theorem Tryd.Builder_Extra_169 : Builder.Extra Tryd.prog Tryd.lays169_ren := {
  sizeBuilder := by kernel_rfl
  liesBuilder := by kernel_rfl
  t5 := Tryd.underlying5
  a5 := Tryd.isAgg5
  z5 := Tryd.sizeOf5
  v5 := Tryd.zeroValue5
  infoByte := by kernel_rfl
  cellsByte := by kernel_rfl
  sizeByte := by kernel_rfl
  neB5 := by decide }
def Tryd.lays137_ren : Go.Shelf.Ren := ⟨fun | 137 => 189 | 217 => 203 | 266 => 211 | n => n, fun | 9 => 9 | 5 => 5 | 3 => 3 | n => n, fun | n => n⟩
theorem Tryd.lays137 : Go.Proofs.Lays.n137 Tryd.prog Tryd.lays137_ren := {
  mixed := by kernel_rfl
  f137 := Tryd.func189.trans (congrArg some (by kernel_rfl))
  f217 := Tryd.func203.trans (congrArg some (by kernel_rfl))
  f266 := Tryd.func211.trans (congrArg some (by kernel_rfl))
  t3 := Tryd.underlying3
  a3 := Tryd.isAgg3
  z3 := Tryd.sizeOf3
  v3 := Tryd.zeroValue3
  t5 := Tryd.underlying5
  a5 := Tryd.isAgg5
  z5 := Tryd.sizeOf5
  v5 := Tryd.zeroValue5
  t9 := Tryd.underlying9
  a9 := Tryd.isAgg9
  z9 := Tryd.sizeOf9
  v9 := Tryd.zeroValue9 }
open Go.RowKit in
theorem Tryd.strings_IndexByte (s : ByteArray) (c : Int) (w : World) :
    Calls Tryd.prog 189 #[.string s, .int .u8 c] w fun e w' => e = .returned (.int .i64 (Lib.indexByte s.data.toList c.toNat.toUInt8)) ∧ w' = w := Any.strings_IndexByte Tryd.lays137 s c w
open Go.RowKit in
theorem Tryd.Builder_String_any_k (B b : Nat) (l : List UInt8) (w : World) (h : Lib.IsBuilderF 201 5 B b (Lib.byteCells l) w) (hBw : B ≤ w.heap.size) :
    Calls Tryd.prog 142 #[.pointer (some ⟨b, 0, none⟩)] w fun e w' => e = .returned (.string ⟨l.toArray⟩) ∧ (Lib.IsBuilderF 201 5 B b (Lib.byteCells l) w' ∧ Below B w w' ∧ Lib.OthersKept 5 (some b) w w') := Any.Builder_String_any_k Tryd.lays169 Tryd.Builder_Extra_169 B b l w h hBw
def Tryd.laysM171_ren : Go.Shelf.Ren := ⟨fun | 171 => 141 | 243 => 169 | 246 => 186 | 283 => 199 | 284 => 200 | 285 => 201 | 286 => 202 | 129 => 207 | 317 => 206 | 318 => 208 | 319 => 209 | 320 => 210 | 337 => 212 | 338 => 213 | n => n, fun | 3 => 3 | 9 => 9 | 2 => 2 | 4 => 4 | 171 => 269 | 0 => 0 | 53 => 270 | 37 => 199 | 5 => 5 | 173 => 273 | 212 => 279 | 51 => 280 | 20 => 20 | 213 => 281 | 46 => 253 | 232 => 284 | 233 => 285 | n => n, fun | 17 => 0 | 18 => 2 | 19 => 3 | n => n⟩
theorem Tryd.laysM171 : Go.Proofs.LaysM.n171 Tryd.prog Tryd.laysM171_ren := {
  mixed := by kernel_rfl
  f129 := Tryd.func207.trans (congrArg some (by kernel_rfl))
  f171 := Tryd.func141.trans (congrArg some (by kernel_rfl))
  f243 := Tryd.func169.trans (congrArg some (by kernel_rfl))
  f246 := Tryd.func186.trans (congrArg some (by kernel_rfl))
  f283 := Tryd.func199.trans (congrArg some (by kernel_rfl))
  f284 := Tryd.func200.trans (congrArg some (by kernel_rfl))
  f285 := Tryd.func201.trans (congrArg some (by kernel_rfl))
  f286 := Tryd.func202.trans (congrArg some (by kernel_rfl))
  f317 := Tryd.func206.trans (congrArg some (by kernel_rfl))
  f318 := Tryd.func208.trans (congrArg some (by kernel_rfl))
  f319 := Tryd.func209.trans (congrArg some (by kernel_rfl))
  f320 := Tryd.func210.trans (congrArg some (by kernel_rfl))
  f337 := Tryd.func212.trans (congrArg some (by kernel_rfl))
  f338 := Tryd.func213.trans (congrArg some (by kernel_rfl))
  t0 := Tryd.underlying0
  a0 := Tryd.isAgg0
  z0 := Tryd.sizeOf0
  v0 := Tryd.zeroValue0
  t2 := Tryd.underlying2
  a2 := Tryd.isAgg2
  z2 := Tryd.sizeOf2
  v2 := Tryd.zeroValue2
  t3 := Tryd.underlying3
  a3 := Tryd.isAgg3
  z3 := Tryd.sizeOf3
  v3 := Tryd.zeroValue3
  t4 := Tryd.underlying4
  a4 := Tryd.isAgg4
  z4 := Tryd.sizeOf4
  v4 := Tryd.zeroValue4
  t5 := Tryd.underlying5
  a5 := Tryd.isAgg5
  z5 := Tryd.sizeOf5
  v5 := Tryd.zeroValue5
  t9 := Tryd.underlying9
  a9 := Tryd.isAgg9
  z9 := Tryd.sizeOf9
  v9 := Tryd.zeroValue9
  t20 := Tryd.underlying20
  a20 := Tryd.isAgg20
  z20 := Tryd.sizeOf20
  v20 := Tryd.zeroValue20
  t37 := Tryd.underlying199
  a37 := Tryd.isAgg199
  z37 := Tryd.sizeOf199
  v37 := Tryd.zeroValue199
  t46 := Tryd.underlying253
  a46 := Tryd.isAgg253
  z46 := Tryd.sizeOf253
  v46 := Tryd.zeroValue253
  t51 := Tryd.underlying280
  a51 := Tryd.isAgg280
  z51 := Tryd.sizeOf280
  v51 := Tryd.zeroValue280
  t53 := Tryd.underlying270
  a53 := Tryd.isAgg270
  z53 := Tryd.sizeOf270
  v53 := Tryd.zeroValue270
  t171 := Tryd.underlying269
  a171 := Tryd.isAgg269
  z171 := Tryd.sizeOf269
  v171 := Tryd.zeroValue269
  t173 := Tryd.underlying273
  a173 := Tryd.isAgg273
  z173 := Tryd.sizeOf273
  v173 := Tryd.zeroValue273
  t212 := Tryd.underlying279
  a212 := Tryd.isAgg279
  z212 := Tryd.sizeOf279
  v212 := Tryd.zeroValue279
  t213 := Tryd.underlying281
  a213 := Tryd.isAgg281
  z213 := Tryd.sizeOf281
  t232 := Tryd.underlying284
  a232 := Tryd.isAgg284
  z232 := Tryd.sizeOf284
  v232 := Tryd.zeroValue284
  t233 := Tryd.underlying285
  a233 := Tryd.isAgg285
  z233 := Tryd.sizeOf285
  v233 := Tryd.zeroValue285
  g17 := by kernel_rfl
  g18 := by kernel_rfl
  g19 := by kernel_rfl
  i0 := by kernel_rfl
  i2 := by kernel_rfl
  i3 := by kernel_rfl
  i4 := by kernel_rfl
  i5 := by kernel_rfl
  i9 := by kernel_rfl
  i20 := by kernel_rfl
  i37 := by kernel_rfl
  i46 := by kernel_rfl
  i51 := by kernel_rfl
  i53 := by kernel_rfl
  i171 := by kernel_rfl
  i173 := by kernel_rfl
  i212 := by kernel_rfl
  i232 := by kernel_rfl
  i233 := by kernel_rfl
  m17 := by kernel_rfl
  m18 := by kernel_rfl
  m19 := by kernel_rfl }
open Go.RowKit Go.Sort Go.Lib in
theorem Tryd.strconv_Itoa (n : Int) (h0 : -9223372036854775808 ≤ n) (h1 : n ≤ 9223372036854775807) (w : World) (htab : Lib.TabIs Tryd.prog w "internal/strconv.uint64pow10" .u64 Lib.pow10Tab) :
    Calls Tryd.prog 141 #[.int .i64 n] w fun e w' => e = .returned (.string ⟨(Lib.itoa n).toArray⟩) ∧ ∃ k os, w' = grow (w.drewN k) os := Any.strconv_Itoa Tryd.laysM171 n h0 h1 w htab
def Tryd.lays167_ren : Go.Shelf.Ren := ⟨fun | 167 => 183 | 240 => 168 | 276 => 185 | n => n, fun | 0 => 0 | 4 => 4 | 5 => 5 | 9 => 9 | 20 => 20 | 37 => 199 | 70 => 198 | 72 => 201 | 75 => 203 | 80 => 207 | 164 => 254 | n => n, fun | n => n⟩
theorem Tryd.lays167 : Go.Proofs.Lays.n167 Tryd.prog Tryd.lays167_ren := {
  mixed := by kernel_rfl
  f167 := Tryd.func183.trans (congrArg some (by kernel_rfl))
  f240 := Tryd.func168.trans (congrArg some (by kernel_rfl))
  f276 := Tryd.func185.trans (congrArg some (by kernel_rfl))
  t0 := Tryd.underlying0
  a0 := Tryd.isAgg0
  z0 := Tryd.sizeOf0
  v0 := Tryd.zeroValue0
  t4 := Tryd.underlying4
  a4 := Tryd.isAgg4
  z4 := Tryd.sizeOf4
  v4 := Tryd.zeroValue4
  t5 := Tryd.underlying5
  a5 := Tryd.isAgg5
  z5 := Tryd.sizeOf5
  v5 := Tryd.zeroValue5
  t9 := Tryd.underlying9
  a9 := Tryd.isAgg9
  z9 := Tryd.sizeOf9
  v9 := Tryd.zeroValue9
  t20 := Tryd.underlying20
  a20 := Tryd.isAgg20
  z20 := Tryd.sizeOf20
  v20 := Tryd.zeroValue20
  t37 := Tryd.underlying199
  a37 := Tryd.isAgg199
  z37 := Tryd.sizeOf199
  v37 := Tryd.zeroValue199
  t70 := Tryd.underlying198
  a70 := Tryd.isAgg198
  z70 := Tryd.sizeOf198
  v70 := Tryd.zeroValue198
  t72 := Tryd.underlying201
  a72 := Tryd.isAgg201
  z72 := Tryd.sizeOf201
  v72 := Tryd.zeroValue201
  t75 := Tryd.underlying203
  a75 := Tryd.isAgg203
  z75 := Tryd.sizeOf203
  v75 := Tryd.zeroValue203
  t164 := Tryd.underlying254
  a164 := Tryd.isAgg254
  z164 := Tryd.sizeOf254
  v164 := Tryd.zeroValue254 }
theorem Tryd.Builder_Extra_167 : Builder.Extra Tryd.prog Tryd.lays167_ren := {
  sizeBuilder := by kernel_rfl
  liesBuilder := by kernel_rfl
  t5 := Tryd.underlying5
  a5 := Tryd.isAgg5
  z5 := Tryd.sizeOf5
  v5 := Tryd.zeroValue5
  infoByte := by kernel_rfl
  cellsByte := by kernel_rfl
  sizeByte := by kernel_rfl
  neB5 := by decide }
open Go.RowKit in
theorem Tryd.Builder_WriteByte_k (B b : Nat) (bs : List Value) (c : Int) (w : World) (h : Lib.IsBuilderF 201 5 B b bs w) (hlen : bs.length + 1 ≤ 140737488355328) (hBw : B ≤ w.heap.size) :
    Calls Tryd.prog 183 #[.pointer (some ⟨b, 0, none⟩), .int .u8 c] w fun e w' => e = .returned .nilIface ∧ (Lib.BuilderAtF 201 5 B b (.pointer (some ⟨b, 0, none⟩)) (bs ++ [.int .u8 c]) w' ∧ Below B w w' ∧ Lib.OthersKept 5 (some b) w w') := Any.Builder_WriteByte_k Tryd.lays167 Tryd.Builder_Extra_167 B b bs c w h hlen hBw
def Tryd.lays166_ren : Go.Shelf.Ren := ⟨fun | 166 => 140 | 240 => 168 | 276 => 185 | n => n, fun | 0 => 0 | 3 => 3 | 4 => 4 | 5 => 5 | 9 => 9 | 20 => 20 | 37 => 199 | 70 => 198 | 72 => 201 | 75 => 203 | 80 => 207 | 164 => 254 | n => n, fun | n => n⟩
theorem Tryd.lays166 : Go.Proofs.Lays.n166 Tryd.prog Tryd.lays166_ren := {
  mixed := by kernel_rfl
  f166 := Tryd.func140.trans (congrArg some (by kernel_rfl))
  f240 := Tryd.func168.trans (congrArg some (by kernel_rfl))
  f276 := Tryd.func185.trans (congrArg some (by kernel_rfl))
  t0 := Tryd.underlying0
  a0 := Tryd.isAgg0
  z0 := Tryd.sizeOf0
  v0 := Tryd.zeroValue0
  t3 := Tryd.underlying3
  a3 := Tryd.isAgg3
  z3 := Tryd.sizeOf3
  v3 := Tryd.zeroValue3
  t4 := Tryd.underlying4
  a4 := Tryd.isAgg4
  z4 := Tryd.sizeOf4
  v4 := Tryd.zeroValue4
  t9 := Tryd.underlying9
  a9 := Tryd.isAgg9
  z9 := Tryd.sizeOf9
  v9 := Tryd.zeroValue9
  t20 := Tryd.underlying20
  a20 := Tryd.isAgg20
  z20 := Tryd.sizeOf20
  v20 := Tryd.zeroValue20
  t37 := Tryd.underlying199
  a37 := Tryd.isAgg199
  z37 := Tryd.sizeOf199
  v37 := Tryd.zeroValue199
  t70 := Tryd.underlying198
  a70 := Tryd.isAgg198
  z70 := Tryd.sizeOf198
  v70 := Tryd.zeroValue198
  t72 := Tryd.underlying201
  a72 := Tryd.isAgg201
  z72 := Tryd.sizeOf201
  v72 := Tryd.zeroValue201
  t75 := Tryd.underlying203
  a75 := Tryd.isAgg203
  z75 := Tryd.sizeOf203
  v75 := Tryd.zeroValue203
  t164 := Tryd.underlying254
  a164 := Tryd.isAgg254
  z164 := Tryd.sizeOf254
  v164 := Tryd.zeroValue254 }
theorem Tryd.Builder_Extra_166 : Builder.Extra Tryd.prog Tryd.lays166_ren := {
  sizeBuilder := by kernel_rfl
  liesBuilder := by kernel_rfl
  t5 := Tryd.underlying5
  a5 := Tryd.isAgg5
  z5 := Tryd.sizeOf5
  v5 := Tryd.zeroValue5
  infoByte := by kernel_rfl
  cellsByte := by kernel_rfl
  sizeByte := by kernel_rfl
  neB5 := by decide }
open Go.RowKit in
theorem Tryd.Builder_WriteString_k (B b : Nat) (bs : List Value) (s : ByteArray) (w : World) (h : Lib.IsBuilderF 201 5 B b bs w) (hlen : bs.length + s.size ≤ 140737488355328) (hBw : B ≤ w.heap.size) :
    Calls Tryd.prog 140 #[.pointer (some ⟨b, 0, none⟩), .string s] w fun e w' => e = .returned (.tuple #[.int .i64 s.size, .nilIface]) ∧ (Lib.BuilderAtF 201 5 B b (.pointer (some ⟨b, 0, none⟩)) (bs ++ Lib.strCells s) w' ∧ Below B w w' ∧ Lib.OthersKept 5 (some b) w w') := Any.Builder_WriteString_k Tryd.lays166 Tryd.Builder_Extra_166 B b bs s w h hlen hBw
end Go.Proofs
end
section
set_option linter.unusedVariables false
set_option linter.unusedSimpArgs false
namespace Go.Proofs.YtlacnkjkcikodaaDoor.Am
open Go Go.Proofs Go.RowKit Go.Maps Go.WideMaps Go.Proofs.YtlacnkjkcikodaaDoorW.PrintWords
def strconv_Itoa.f (a0 : Int) : Option ByteArray := if -9223372036854775808 ≤ a0 ∧ a0 ≤ 9223372036854775807 then some ⟨(Lib.itoa a0).toArray⟩ else none
theorem strconv_Itoa.calls (a0 : Int) (r : ByteArray) (w : World) (hG : Laid w) (h : strconv_Itoa.f a0 = some r) :
    Calls Tryd.prog 141 #[.int .i64 a0] w fun e w' => e = .returned (.string r) ∧ Below w.heap.size w w' := by
  unfold strconv_Itoa.f at h
  split at h
  · rename_i hb
    obtain rfl := Option.some.inj h
    refine (Tryd.strconv_Itoa a0 hb.1 hb.2 w hG).mono ?_
    rintro e w' ⟨rfl, k, os, rfl⟩
    exact ⟨rfl, Lib.below_grow _ w (Nat.le_refl _) k os⟩
  · cases h
def strings_IndexByte.f (a0 : ByteArray) (a1 : Int) : Option Int := some (Lib.indexByte a0.data.toList a1.toNat.toUInt8)
theorem strings_IndexByte.calls (a0 : ByteArray) (a1 : Int) (r : Int) (w : World) (h : strings_IndexByte.f a0 a1 = some r) :
    Calls Tryd.prog 189 #[.string a0, .int .u8 a1] w fun e w' => e = .returned (.int .i64 r) ∧ Drawn0 w w' := by
  obtain rfl := Option.some.inj h
  refine (Tryd.strings_IndexByte a0 a1 w).mono ?_
  rintro e w' ⟨rfl, rfl⟩
  exact ⟨rfl, Drawn0.refl _⟩
def names_plain.f (a0 : Int) : Option (Bool) := if a0 ≥ 32 then (some (decide (a0 < 127))) else (some false)
theorem names_plain.calls (a0 : Int) (r : Bool) (w : World) (h : names_plain.f a0 = some r) :
    Calls Tryd.prog 184 #[.int .u8 a0] w fun e w' => e = .returned (.bool r) ∧ Drawn0 w w' := by
  have H : (if a0 ≥ 32 then (some (decide (a0 < 127))) else (some false)) = some r := h
  clear h
  by_cases c2 : a0 ≥ 32
  · rw [if_pos c2] at H
    have c2b0 : decide (32 ≤ a0) = true := decide_eq_true c2
    clear c2
    obtain rfl := Option.some.inj H
    go_enter Tryd.func184, Tryd.ntmps184
    go_wp2
    go_ret
    exact ⟨by first | rfl | (simp; done) | (simp [*]; done), by repeat (first | exact Drawn0.refl _ | apply Drawn0.step)⟩
  · rw [if_neg c2] at H
    have c2b0 : decide (32 ≤ a0) = false := decide_eq_false c2
    clear c2
    obtain rfl := Option.some.inj H
    go_enter Tryd.func184, Tryd.ntmps184
    go_wp2
    go_ret
    exact ⟨by first | rfl | (simp; done) | (simp [*]; done), by repeat (first | exact Drawn0.refl _ | apply Drawn0.step)⟩
theorem wb {l : List UInt8} {B : Nat} (c : UInt8) {W : World} (h : Hid (Lib.IsBuilderF 201 5 B B (Lib.byteCells l) W)) (hl : l.length ≤ 100000000000000) (hB : B ≤ W.heap.size) :
    Calls Tryd.prog 183 #[.pointer (some ⟨B, 0, none⟩), .int .u8 c.toNat] W fun e w' => e = .returned .nilIface ∧ (Hid (Lib.IsBuilderF 201 5 B B (Lib.byteCells (l ++ [c])) w') ∧ Below B W w') := by
  refine (Tryd.Builder_WriteByte_k B B (Lib.byteCells l) c.toNat W h.out (by rw [Lib.byteCells_length]; omega) hB).mono ?_
  rintro e w' ⟨rfl, h1, hb, _⟩
  refine ⟨rfl, Lib.hid ?_, hb⟩
  rw [Lib.byteCells_append]; exact Or.inr h1
theorem wbn {l : List UInt8} {B : Nat} (c : Int) (n : Nat) (hc : c = n) (hn : n < 256) {W : World} (h : Hid (Lib.IsBuilderF 201 5 B B (Lib.byteCells l) W)) (hl : l.length ≤ 100000000000000) (hB : B ≤ W.heap.size) :
    Calls Tryd.prog 183 #[.pointer (some ⟨B, 0, none⟩), .int .u8 c] W fun e w' => e = .returned .nilIface ∧ (Hid (Lib.IsBuilderF 201 5 B B (Lib.byteCells (l ++ [UInt8.ofNat n])) w') ∧ Below B W w') := by
  subst hc
  have := wb (UInt8.ofNat n) h hl hB
  rwa [show (UInt8.ofNat n).toNat = n from by simp; omega] at this
theorem ws {l : List UInt8} {B : Nat} (t : List UInt8) {W : World} (h : Hid (Lib.IsBuilderF 201 5 B B (Lib.byteCells l) W)) (hl : l.length + t.length ≤ 100000000000000) (hB : B ≤ W.heap.size) :
    Calls Tryd.prog 140 #[.pointer (some ⟨B, 0, none⟩), .string ⟨t.toArray⟩] W fun e w' => e = .returned (.tuple #[.int .i64 t.length, .nilIface]) ∧ (Hid (Lib.IsBuilderF 201 5 B B (Lib.byteCells (l ++ t)) w') ∧ Below B W w') := by
  refine (Tryd.Builder_WriteString_k B B (Lib.byteCells l) ⟨t.toArray⟩ W h.out (by rw [Lib.byteCells_length]; show l.length + t.length ≤ _; omega) hB).mono ?_
  rintro e w' ⟨rfl, h1, hb, _⟩
  refine ⟨rfl, Lib.hid ?_, hb⟩
  rw [Lib.byteCells_append]; exact Or.inr h1
theorem bs_ {l : List UInt8} {B : Nat} {W : World} (h : Hid (Lib.IsBuilderF 201 5 B B (Lib.byteCells l) W)) (hB : B ≤ W.heap.size) :
    Calls Tryd.prog 142 #[.pointer (some ⟨B, 0, none⟩)] W fun e w' => e = .returned (.string ⟨l.toArray⟩) ∧ Below B W w' := by
  refine (Tryd.Builder_String_any_k B B l W h.out hB).mono ?_
  rintro e w' ⟨rfl, _, hb, _⟩
  exact ⟨rfl, hb⟩
theorem below_drewN_ {B : Nat} (W : World) (n : Nat) : Below B W (W.drewN n) := pw_below_drewN (Below.refl _ _) n
theorem bnew (W : World) : Hid (Lib.IsBuilderF 201 5 W.heap.size W.heap.size (Lib.byteCells []) (W.alloc (.cells #[.pointer none, .slice none 0 0] 201))) := Lib.hid (Lib.IsBuilderF.of (Lib.fresh_isBuilder 201 5 W))
set_option maxHeartbeats 4000000 in
set_option maxRecDepth 100000 in
theorem names_Quote.calls (a0 : ByteArray) (r : ByteArray) (w : World) (h : (if a0.size ≤ 17592186044416 then some ⟨(quoteL a0.data.toList).toArray⟩ else none) = some r) :
    Calls Tryd.prog 165 #[.string a0] w fun e w' => e = .returned (.string r) ∧ Below w.heap.size w w' := by
  split at h
  · rename_i hs
    obtain rfl := Option.some.inj h
    clear h
    go_enter Tryd.func165, Tryd.ntmps165
    go_wp2_with (go_at_call 183; (with_reducible refine (wbn _ 34 (by omega) (by omega) (bnew w) (by simp) (by simp)).mono ?_); rintro e w1 ⟨rfl, h1, hb1⟩)
    have hb0 : Below w.heap.size w w1 := ((Below.refl _ w).alloc (Nat.le_refl _) _).trans hb1
    clear hb1
    go_loopw [9] (fun v wr => ∃ k : Nat, k ≤ a0.size ∧ v = .int .i64 k ∧ Hid (Lib.IsBuilderF 201 5 w.heap.size w.heap.size (Lib.byteCells (quoteP a0 k)) wr) ∧ Below w.heap.size w wr) (fun v _ => a0.size - (intOf v).toNat)
    case atStart => exact ⟨0, Nat.zero_le _, rfl, h1, hb0⟩
    case round =>
      obtain ⟨k, hk, rfl, hI, hB⟩ := hrel
      have hl := quoteP_le a0 k hk
      by_cases hlt : k < a0.size
      · obtain ⟨n, hn⟩ : ∃ n : Nat, (a0[k]).toNat = n := ⟨_, rfl⟩
        have hn2 : n < 256 := by rw [← hn]; exact UInt8.toNat_lt _
        have hc0 : a0[k] = UInt8.ofNat n := by rw [← hn]; simp
        have HS : Hid (quoteP a0 (k + 1) = quoteP a0 k ++ escB a0[k]) := Lib.hid (quoteP_succ a0 k hlt)
        have HC : Hid (a0[k] = UInt8.ofNat n) := Lib.hid hc0
        have HN : Hid (a0[k].toNat = n) := Lib.hid hn
        clear hc0
        have hBs := hB.size
        by_cases e10 : n = 10
        · have HE : Hid (escB a0[k] = [92, 110]) := Lib.hid (by unfold escB; rw [hn, if_pos e10])
          have e1 : ((n : Int) == 10) = true := by simp [e10]
          clear e10
          go_wp2_with (go_at_call 140; refine (ws [92, 110] hI (by simp; omega) hBs).mono ?_; rintro e w3 ⟨rfl, h3, hb3⟩)
          go_roundw
          case rel => exact ⟨k + 1, by omega, by go_num, Lib.hid (by rw [HS.out, HE.out]; exact h3.out), hB.trans hb3⟩
          case measure => simp [intOf]; omega
        have e1 : ((n : Int) == 10) = false := by simp; omega
        by_cases e9 : n = 9
        · have HE : Hid (escB a0[k] = [92, 116]) := Lib.hid (by unfold escB; rw [hn, if_neg e10, if_pos e9])
          have e2 : ((n : Int) == 9) = true := by simp [e9]
          clear e10 e9
          go_wp2_with (go_at_call 140; refine (ws [92, 116] hI (by simp; omega) hBs).mono ?_; rintro e w3 ⟨rfl, h3, hb3⟩)
          go_roundw
          case rel => exact ⟨k + 1, by omega, by go_num, Lib.hid (by rw [HS.out, HE.out]; exact h3.out), hB.trans hb3⟩
          case measure => simp [intOf]; omega
        have e2 : ((n : Int) == 9) = false := by simp; omega
        by_cases ep : n < 32 ∨ 126 < n
        · have HE : Hid (escB a0[k] = [92, 120, hexd (n / 16), hexd (n % 16)]) := Lib.hid (by unfold escB; rw [hn, if_neg e10, if_neg e9, if_pos ep])
          have hpl : Hid (names_plain.f n = some false) := Lib.hid (by unfold names_plain.f; split <;> simp <;> omega)
          clear e10 e9 ep
          go_wp2_with (first | (go_at_call 184; (with_reducible refine (names_plain.calls n false _ hpl.out).mono ?_); rintro e w2 ⟨rfl, ⟨nd, rfl⟩⟩; have hI2 : Hid (Lib.IsBuilderF 201 5 w.heap.size w.heap.size (Lib.byteCells (quoteP a0 k)) (wr.drewN nd)) := hI; have hBs2 : w.heap.size ≤ (wr.drewN nd).heap.size := hBs) | (go_at_call 140; refine (ws [92, 120] hI2 (by simp; omega) hBs2).mono ?_; rintro e w3 ⟨rfl, h3, hb3⟩))
          have hB3 : wr.heap.size ≤ w3.heap.size := hb3.size
          go_wp2_with (go_at_call 183; refine (wb _ h3 (by simp only [List.length_append, List.length_cons, List.length_nil]; omega) (by omega)).mono ?_; rintro e w4 ⟨rfl, h4, hb4⟩)
          have hB4 := hb4.size
          go_wp2_with (go_at_call 183; refine (wb _ h4 (by simp only [List.length_append, List.length_cons, List.length_nil]; omega) (by omega)).mono ?_; rintro e w5 ⟨rfl, h5, hb5⟩)
          go_roundw
          case rel => exact ⟨k + 1, by omega, by go_num, Lib.hid (by
            have hx := h5.out
            rw [HS.out, HE.out]
            rw [show ({ data := #[48, 49, 50, 51, 52, 53, 54, 55, 56, 57, 97, 98, 99, 100, 101, 102] } : ByteArray)[n / 16]'(by show n / 16 < 16; omega) = hexd (n / 16) from digit_at ⟨n / 16, by omega⟩, show ({ data := #[48, 49, 50, 51, 52, 53, 54, 55, 56, 57, 97, 98, 99, 100, 101, 102] } : ByteArray)[n % 16]'(by show n % 16 < 16; omega) = hexd (n % 16) from digit_at ⟨n % 16, by omega⟩] at hx
            simpa using hx), hB.trans (((below_drewN_ wr nd).trans hb3).trans (hb4.trans hb5))⟩
          case measure => simp [intOf]; omega
        have hpl : Hid (names_plain.f n = some true) := Lib.hid (by unfold names_plain.f; split <;> simp <;> omega)
        by_cases eq : n = 34 ∨ n = 92
        · have HE : Hid (escB a0[k] = [92, UInt8.ofNat n]) := Lib.hid (by unfold escB; rw [hn, if_neg e10, if_neg e9, if_neg ep, if_pos eq, HC.out])
          by_cases e34 : n = 34
          · have e3 : ((n : Int) == 34) = true := by simp [e34]
            clear e34 eq
            clear e10 e9 ep
            go_wp2_with (first | (go_at_call 184; (with_reducible refine (names_plain.calls n true _ hpl.out).mono ?_); rintro e w2 ⟨rfl, ⟨nd, rfl⟩⟩; have hI2 : Hid (Lib.IsBuilderF 201 5 w.heap.size w.heap.size (Lib.byteCells (quoteP a0 k)) (wr.drewN nd)) := hI; have hBs2 : w.heap.size ≤ (wr.drewN nd).heap.size := hBs) | (go_at_call 183; (with_reducible refine (wbn _ 92 (by omega) (by omega) hI2 (by omega) hBs2).mono ?_); rintro e w3 ⟨rfl, h3, hb3⟩))
            have hB3 : wr.heap.size ≤ w3.heap.size := hb3.size
            go_wp2_with (go_at_call 183; refine (wbn _ n rfl hn2 h3 (by simp only [List.length_append, List.length_cons, List.length_nil]; omega) (by omega)).mono ?_; rintro e w4 ⟨rfl, h4, hb4⟩)
            go_roundw
            case rel => exact ⟨k + 1, by omega, by go_num, Lib.hid (by have hx := h4.out; rw [HS.out, HE.out]; simpa using hx), hB.trans (((below_drewN_ wr nd).trans hb3).trans hb4)⟩
            case measure => simp [intOf]; omega
          · have e3 : ((n : Int) == 34) = false := by simp; omega
            have e4 : ((n : Int) == 92) = true := by simp; omega
            clear e34 eq
            clear e10 e9 ep
            go_wp2_with (first | (go_at_call 184; (with_reducible refine (names_plain.calls n true _ hpl.out).mono ?_); rintro e w2 ⟨rfl, ⟨nd, rfl⟩⟩; have hI2 : Hid (Lib.IsBuilderF 201 5 w.heap.size w.heap.size (Lib.byteCells (quoteP a0 k)) (wr.drewN nd)) := hI; have hBs2 : w.heap.size ≤ (wr.drewN nd).heap.size := hBs) | (go_at_call 183; (with_reducible refine (wbn _ 92 (by omega) (by omega) hI2 (by omega) hBs2).mono ?_); rintro e w3 ⟨rfl, h3, hb3⟩))
            have hB3 : wr.heap.size ≤ w3.heap.size := hb3.size
            go_wp2_with (go_at_call 183; refine (wbn _ n rfl hn2 h3 (by simp only [List.length_append, List.length_cons, List.length_nil]; omega) (by omega)).mono ?_; rintro e w4 ⟨rfl, h4, hb4⟩)
            go_roundw
            case rel => exact ⟨k + 1, by omega, by go_num, Lib.hid (by have hx := h4.out; rw [HS.out, HE.out]; simpa using hx), hB.trans (((below_drewN_ wr nd).trans hb3).trans hb4)⟩
            case measure => simp [intOf]; omega
        · have HE : Hid (escB a0[k] = [UInt8.ofNat n]) := Lib.hid (by unfold escB; rw [hn, if_neg e10, if_neg e9, if_neg ep, if_neg eq, HC.out])
          have e3 : ((n : Int) == 34) = false := by simp; omega
          have e4 : ((n : Int) == 92) = false := by simp; omega
          clear e10 e9 ep eq
          go_wp2_with (first | (go_at_call 184; (with_reducible refine (names_plain.calls n true _ hpl.out).mono ?_); rintro e w2 ⟨rfl, ⟨nd, rfl⟩⟩; have hI2 : Hid (Lib.IsBuilderF 201 5 w.heap.size w.heap.size (Lib.byteCells (quoteP a0 k)) (wr.drewN nd)) := hI; have hBs2 : w.heap.size ≤ (wr.drewN nd).heap.size := hBs) | (go_at_call 183; (with_reducible refine (wbn _ n rfl hn2 hI2 (by omega) hBs2).mono ?_); rintro e w3 ⟨rfl, h3, hb3⟩))
          go_roundw
          case rel => exact ⟨k + 1, by omega, by go_num, Lib.hid (by have hx := h3.out; rw [HS.out, HE.out]; simpa using hx), hB.trans ((below_drewN_ wr nd).trans hb3)⟩
          case measure => simp [intOf]; omega
      · obtain rfl : k = a0.size := by omega
        go_wp2_with (first | (go_at_call 183; (with_reducible refine (wbn _ 34 (by omega) (by omega) hI (by omega) hB.size).mono ?_); rintro e w2 ⟨rfl, h2, hb2⟩) | (go_at_call 142; refine (bs_ h2 (by have := hB.size; have := hb2.size; omega)).mono ?_; rintro e w3 ⟨rfl, hb3⟩))
        go_ret
        have hq : quoteL a0.data.toList = quoteP a0 a0.size ++ [34] := by unfold quoteL quoteP; rw [List.take_of_length_le (by simp)]; simp
        exact ⟨by rw [hq]; rfl, (hB.trans hb2).trans (hb3)⟩
  · cases h
theorem blk_lt_ {w : World} {a : Addr} {v : Value} (h : w.cell? a = some v) : a.block < w.heap.size := by
  rcases Nat.lt_or_ge a.block w.heap.size with h' | h'
  · exact h'
  · rw [World.cell?, Array.getElem?_eq_none h'] at h
    cases h
theorem itoa_f (n : Int) (h : symOk n = true) : strconv_Itoa.f n = some ⟨(Lib.itoa n).toArray⟩ := by
  have h := of_decide_eq_true h
  unfold strconv_Itoa.f
  rw [if_pos h]
theorem itoa_len' (n : Int) (h : symOk n = true) : (Lib.itoa n).length ≤ 20 := by
  have h := of_decide_eq_true h
  exact itoa_len n h.1 h.2
theorem itoa_ba (n : Int) : (⟨#[32]⟩ : ByteArray) ++ (⟨(Lib.itoa n).toArray⟩ : ByteArray) = ⟨(32 :: Lib.itoa n).toArray⟩ := by
  apply (fun {a b : ByteArray} (h : a.data.toList = b.data.toList) => show a = b by cases a; cases b; simp_all [Array.toList_inj])
  rw [Go.Joins.data_append]
  rfl
theorem bld_below {B b : Nat} {l : List UInt8} {W W' : World} (h : Hid (Lib.IsBuilderF 201 5 B b (Lib.byteCells l) W)) (hb : Below W.heap.size W W') : Hid (Lib.IsBuilderF 201 5 B b (Lib.byteCells l) W') := Lib.hid (by
  have one : ∀ p : Value, Lib.BuilderAtF 201 5 B b p (Lib.byteCells l) W → Lib.BuilderAtF 201 5 B b p (Lib.byteCells l) W' := by
    intro p hp
    have hlt := hp.lt
    obtain ⟨h1, v, h2, h3, h4⟩ := hp
    have hg : W.grownBy W' none := ⟨hb.os, hb.tape, hb.output, hb.size, fun j hj _ => hb.block j hj⟩
    refine ⟨h1, v, (hb.block b hlt).trans h2, h3.kept hg ?_, h4⟩
    by_cases e : v.ownBlock = none
    · exact .inl e
    · exact .inr e
  exact h.out.elim (fun x => .inl (one _ x)) (fun x => .inr (one _ x)))
def keyP (r : Rule) (k : Nat) : List UInt8 := Lib.itoa r.left ++ keyW (r.right.take k)
theorem keyP_succ (r : Rule) (k : Nat) (h : k < r.right.length) : keyP r (k + 1) = keyP r k ++ (32 :: Lib.itoa r.right[k]) := by
  unfold keyP keyW
  rw [List.take_succ_eq_append_getElem h, List.flatMap_append, List.append_assoc, List.append_cancel_left_eq, List.append_cancel_left_eq]; simp
theorem keyP_len (r : Rule) (k : Nat) (h : ruleOk r = true) : (keyP r k).length ≤ 20 + 21 * k := by
  simp only [ruleOk, Bool.and_eq_true, decide_eq_true_eq] at h
  have h1 := itoa_len' r.left h.1.1
  have h2 := keyW_len (r.right.take k) (fun s hs => of_decide_eq_true (List.all_eq_true.1 h.2 s (List.mem_of_mem_take hs)))
  have h3 : (r.right.take k).length ≤ k := List.length_take_le _ _
  unfold keyP
  rw [List.length_append]; omega
set_option maxHeartbeats 4000000 in
set_option maxRecDepth 100000 in
theorem key_calls (r : Rule) (hr : ruleOk r = true) (A1 : Option Addr) (c1 : Nat) (w : World) (hG : Laid w) (hr1 : Kd.C (Kd.int .i64) w A1 r.right.length r.right) (hc1 : r.right.length ≤ c1) :
    Calls Tryd.prog 147 #[.agg #[.int .i64 r.left, .slice A1 r.right.length c1]] w fun e w' => e = .returned (.string ⟨(keyL r).toArray⟩) ∧ Below w.heap.size w w' := by
  have hu := Tryd.underlying46
  obtain ⟨f0, l⟩ := r
  have HG := Lib.hid hG
  have HR := Lib.hid hr
  have HR2 : symOk f0 = true ∧ l.length ≤ 1000000 ∧ l.all symOk = true := by
    simp only [ruleOk, Bool.and_eq_true, decide_eq_true_eq] at hr
    exact ⟨hr.1.1, hr.1.2, hr.2⟩
  have hll := HR2.2.1
  have HS := Lib.hid HR2.2.2
  have HF0 := Lib.hid (itoa_f f0 HR2.1)
  have hil := itoa_len' f0 HR2.1
  clear hG hr HR2
  go_enter Tryd.func147, Tryd.ntmps147
  have hB0 : Below w.heap.size w ((w.alloc (.cells #[.int .i64 f0, .slice A1 l.length c1] 46)).alloc (.cells #[.pointer none, .slice none 0 0] 201)) := ((Below.refl _ w).alloc (Nat.le_refl _) _).alloc (by simp) _
  have hbox : ((w.alloc (.cells #[.int .i64 f0, .slice A1 l.length c1] 46)).alloc (.cells #[.pointer none, .slice none 0 0] 201)).heap[w.heap.size]? = some (.cells #[.int .i64 f0, .slice A1 l.length c1] 46 (0, 0)) := blk_alloc (blk_new w _) _
  have hnew : Hid (Lib.IsBuilderF 201 5 (w.heap.size + 1) (w.heap.size + 1) (Lib.byteCells []) ((w.alloc (.cells #[.int .i64 f0, .slice A1 l.length c1] 46)).alloc (.cells #[.pointer none, .slice none 0 0] 201))) := Lib.hid (by
    have := (bnew (w.alloc (.cells #[.int .i64 f0, .slice A1 l.length c1] 46))).out
    rwa [show (w.alloc (.cells #[.int .i64 f0, .slice A1 l.length c1] 46)).heap.size = w.heap.size + 1 by simp] at this)
  have HB0 := Lib.hid hB0
  have HBX := Lib.hid hbox
  clear hB0 hbox
  go_wp2_with (go_at_call 141; (with_reducible refine (strconv_Itoa.calls f0 _ _ (Laid.below HG.out HB0.out) HF0.out).mono ?_); rintro e w1 ⟨rfl, hb1⟩)
  have hb01 : Below w.heap.size w w1 := HB0.out.trans (hb1.mono HB0.out.size)
  have hs1 : w.heap.size + 1 ≤ w1.heap.size := by have := hb1.size; simp at this; omega
  have hn1 := bld_below hnew hb1
  have HBX1 := Lib.hid (blk_below HBX.out hb1)
  clear hb1 hnew HBX
  refine (ws (Lib.itoa f0) hn1 (by simp; omega) hs1).mono ?_
  rintro e w2 ⟨rfl, hn2, hb2⟩
  have hB2 : Below w.heap.size w w2 := hb01.trans (hb2.mono (Nat.le_succ _))
  have hs2 : w.heap.size + 1 ≤ w2.heap.size := Nat.le_trans hs1 hb2.size
  have HBX2 := Lib.hid (show w2.heap[w.heap.size]? = some (.cells #[.int .i64 f0, .slice A1 l.length c1] 46 (0, 0)) from (hb2.block _ (Nat.lt_succ_self _)).trans HBX1.out)
  have hz0 : w2.cell? ⟨w.heap.size, 0, none⟩ = some (.int .i64 f0) := (blk_cell HBX2.out 0).trans rfl
  have hz1 : w2.cell? ⟨w.heap.size, 1, none⟩ = some (.slice A1 l.length c1) := (blk_cell HBX2.out 1).trans rfl
  clear hb01 hs1 hn1 HBX1 hb2
  go_wp2
  go_loopw [5, 13] (fun _ i wr => ∃ k : Nat, k ≤ l.length ∧ i = .int .i64 k ∧ Hid (Lib.IsBuilderF 201 5 (w.heap.size + 1) (w.heap.size + 1) (Lib.byteCells (keyP ⟨f0, l⟩ k)) wr) ∧ Below w.heap.size w wr ∧ w.heap.size + 1 ≤ wr.heap.size) (fun _ i _ => l.length - (intOf i).toNat)
  case atStart => exact ⟨0, Nat.zero_le _, rfl, by rw [List.nil_append] at hn2; simpa [keyP, keyW] using hn2, hB2, hs2⟩
  case round =>
    obtain ⟨k, hk, rfl, hI, hB, hs⟩ := hrel
    have hl := keyP_len ⟨f0, l⟩ k HR.out
    by_cases hlt : k < l.length
    · obtain ⟨ad, e0, hx⟩ := Kd.at_int hr1 (k : Int) (by omega) (by omega)
      subst e0
      obtain ⟨s, hsk⟩ : ∃ s, s = l[k] := ⟨_, rfl⟩
      have hrd : Go.Proofs.YtlacnkjkcikodaaDoorW.PrintWords.rd l (k : Int) = s := by rw [hsk, Go.Proofs.YtlacnkjkcikodaaDoorW.PrintWords.rd, Int.toNat_natCast, List.getD_eq_getElem?_getD, List.getElem?_eq_getElem hlt]; rfl
      rw [hrd, Int.toNat_natCast] at hx
      have hx2 : wr.cell? (ad.add k) = some (.int .i64 s) := (hB.cell (blk_lt_ hx)).trans hx
      have hso : symOk s = true := List.all_eq_true.1 HS.out s (by rw [hsk]; exact List.getElem_mem _)
      have HF := Lib.hid (itoa_f s hso)
      have his := itoa_len' s hso
      have HK := Lib.hid (show keyP ⟨f0, l⟩ (k + 1) = keyP ⟨f0, l⟩ k ++ (32 :: Lib.itoa s) by rw [hsk]; exact keyP_succ ⟨f0, l⟩ k hlt)
      clear hrd hso hsk hx hn2 hz0 hz1
      go_wp2_with (go_at_call 141; (with_reducible refine (strconv_Itoa.calls s _ _ (Laid.below HG.out hB) HF.out).mono ?_); rintro e w3 ⟨rfl, hb3⟩)
      rw [itoa_ba]
      refine (ws (32 :: Lib.itoa s) (bld_below hI hb3) (by simp only [List.length_cons]; omega) (Nat.le_trans hs hb3.size)).mono ?_
      rintro e w4 ⟨rfl, hn4, hb4⟩
      have hB3 : Below w.heap.size w w3 := hB.trans (hb3.mono hB.size)
      have hB4 : Below w.heap.size w w4 := hB3.trans (hb4.mono (Nat.le_succ _))
      have hs4 : w.heap.size + 1 ≤ w4.heap.size := Nat.le_trans (Nat.le_trans hs hb3.size) hb4.size
      have hn5 : Hid (Lib.IsBuilderF 201 5 (w.heap.size + 1) (w.heap.size + 1) (Lib.byteCells (keyP ⟨f0, l⟩ (k + 1))) w4) := by rw [HK.out]; exact hn4
      clear hb3 hb4 hI hn4 hB3 hB hs HK hx2
      go_wp2
      go_roundw
      case rel => exact ⟨k + 1, by omega, by go_num, hn5, hB4, hs4⟩
      case measure => simp [intOf]; omega
    · obtain rfl : k = l.length := by omega
      go_wp2_with ((go_at_call 142; (with_reducible refine (bs_ hI hs).mono ?_); rintro e w3 ⟨rfl, hb3⟩))
      go_ret
      have hq : keyL ⟨f0, l⟩ = keyP ⟨f0, l⟩ l.length := by unfold keyL keyP; rw [List.take_length]
      exact ⟨by rw [hq]; rfl, hB.trans (hb3.mono (Nat.le_succ _))⟩
end Go.Proofs.YtlacnkjkcikodaaDoor.Am
end
section
set_option linter.unusedVariables false
set_option linter.unusedSimpArgs false
namespace Go.Proofs.YtlacnkjkcikodaaDoor.Am
open Go Go.RowKit Go.Proofs.YtlacnkjkcikodaaDoorW.PrintWords
theorem frame_below {lk n : Nat} {w w' : World} {g : Gh} {H : List Tab} (hg : GOK w g) (hh : HR w g H) (hb : Below w.heap.size w w') : Fr lk n w g w' g ∧ HR w' g H := by
  have hs := fun b (h : b < w.heap.size) => hb.block b h
  have hk : ∀ m, Keeps m w g w' g := fun m => ⟨fun _ _ => Nat.le_refl _, fun b o h _ => cell_of_heap (hs b h) o, fun _ _ _ _ h => h⟩
  refine ⟨⟨hb.size, hk n, fun b h _ => ⟨hs b h, rfl, rfl⟩, fun _ _ _ h => .inl h, fun _ _ _ => rfl, fun _ _ _ _ h => h, ⟨hg.inj, fun lv s b h => Nat.lt_of_lt_of_le (hg.lt lv s b h) hb.size, fun b k h => ⟨Nat.lt_of_lt_of_le (hg.ow b k h).1 hb.size, (hg.ow b k h).2⟩, fun b o h => ?_⟩, hb.os, hb.tape, hb.output⟩, ?_⟩
  · obtain ⟨h1, h2, h3⟩ := hg.pin b o h
    exact ⟨(hs b (heap_lt h1)).trans h1, h2, h3⟩
  · refine HR_same (m := H.length) hh (hk _) (Nat.le_refl _) (fun lv s o b ho hm => ⟨hs b (hg.lt _ _ _ hm), rfl⟩) (fun lv s c l v ho => ho.keep fun b hb' => ⟨hs b (hg.ow _ _ hb').1, rfl, rfl⟩)
theorem given_plain {P : Program} {f : FuncId} {G : Giv} {F : Func} (hF : P.funcs[f]? = some F) (hc : F.body.isSome = true) (hn : (F.name == "runtime.NumGoroutine") = false)
    (h : ∀ lk args H r H', G lk args H = some (r, H') → H' = H ∧ (∃ s, r = .str s) ∧ ∀ g w vals, GOK w g → F2 (VR w g) args vals → Calls P f vals.toArray w fun e w' => ∃ v, e = .returned v ∧ (∀ s, r = .str s → v = .string s) ∧ Below w.heap.size w w') : GivenOK P f G := by
  obtain ⟨c, hc⟩ := Option.isSome_iff_exists.1 hc
  intro lk args H r H' hG hlk
  obtain ⟨rfl, ⟨s, rfl⟩, hw⟩ := h lk args H r H' hG
  refine ⟨rfl, fun _ _ => rfl, fun g w vals hg hh hA hU => .inl ⟨f, vals.toArray, run_enter hF hc hn _ _, (hw g w vals hg hA).mono ?_⟩⟩
  rintro e w' ⟨v, rfl, hv, hb⟩
  obtain ⟨hfr, hhr⟩ := frame_below (lk := lk) (n := H'.length) hg hh hb
  obtain rfl := hv s rfl
  exact ⟨_, rfl, g, hfr, hhr, (CR.str s).vr, rfl, fun _ _ e => (by cases e), fun _ _ _ _ e => (by cases e)⟩
theorem f2_1 {α β : Type} {R : α → β → Prop} {a : α} {l : List β} (h : F2 R [a] l) : ∃ b, l = [b] ∧ R a b := by
  cases h with | cons h t => cases t; exact ⟨_, rfl, h⟩
theorem f2_2 {α β : Type} {R : α → β → Prop} {a a' : α} {l : List β} (h : F2 R [a, a'] l) : ∃ b b', l = [b, b'] ∧ R a b ∧ R a' b' := by
  cases h with | cons h t => obtain ⟨b, rfl, h2⟩ := f2_1 t; exact ⟨_, _, rfl, h, h2⟩
theorem vr_int {w : World} {g : Gh} {k : IntKind} {n : Int} {v : Value} (h : VR w g (.int k n) v) : v = .int k n := by
  have := h.cr (fun _ e => (by cases e)) (fun _ e => (by cases e)); cases this; rfl
theorem vr_str {w : World} {g : Gh} {n : ByteArray} {v : Value} (h : VR w g (.str n) v) : v = .string n := by
  have := h.cr (fun _ e => (by cases e)) (fun _ e => (by cases e)); cases this; rfl
theorem cr_ints {w : World} {g : Gh} {m : List Int} {t : Tag} {v : Value} (h : CR w g (.sl (m.map (V.int .i64)) t) v) (hm : m.length ≤ 1000000) : ∃ A c, v = .slice A m.length c ∧ m.length ≤ c ∧ Kd.C (Kd.int .i64) w A m.length m := by
  generalize hl : m.map (V.int .i64) = l at h
  cases h with
  | sl _ _ A c sz vs hc hn ht hp hz hd ha hr =>
    subst hl
    simp only [List.length_map] at hc ha ⊢
    refine ⟨A, c, rfl, hc, rfl, Nat.le_trans hm (by decide), fun h0 => ?_⟩
    have hne : m.map (V.int .i64) ≠ [] := by intro e; have h1 := congrArg List.length e; simp at h1; subst h1; simp at h0
    obtain ⟨a, rfl, hsp, -, hcell⟩ := ha hne
    have hsz : sz = 1 := by
      cases m with
      | nil => simp at h0
      | cons x r => exact (hz (.int .i64 x) (by simp)).symm
    subst hsz
    refine ⟨a, rfl, fun j p hj => ⟨[.int .i64 p], rfl, rfl, fun i u hu => ?_⟩⟩
    have hlt := (List.getElem?_eq_some_iff.1 hj).1
    have h1 := hr j (.int .i64 p) (by rw [List.getElem?_map, hj]; rfl) 0 (.int .i64 p) rfl
    have h2 := hcell j 0 hlt (by omega)
    cases i with
    | succ i => simp at hu
    | zero =>
      simp at hu; subst hu
      obtain ⟨b, o, s⟩ := a
      simp only at hsp; subst hsp
      have e : (⟨b, o, none⟩ : Addr).add (j * (Kd.int .i64).sz + 0) = ⟨b, o + j * 1 + 0, none⟩ := by
        simp [Addr.add, Kd.int, Kd.scalar]
      rw [e, h2]
      generalize vs j 0 = u at h1
      cases h1; rfl
theorem ok_gv_Itoa : GivenOK Tryd.prog 141 gv_Itoa := by
  refine given_plain Tryd.func141 (by kernel_rfl) (by kernel_rfl) fun lk args H r H' h => ?_
  unfold gv_Itoa at h
  split at h
  case h_2 => cases h
  rename_i n
  split at h
  case isFalse => cases h
  rename_i hb
  cases h
  refine ⟨rfl, ⟨_, rfl⟩, fun g w vals hg hA => ?_⟩
  obtain ⟨b, rfl, hv⟩ := f2_1 hA
  obtain rfl := vr_int hv
  refine (strconv_Itoa.calls n _ w hg.laid (by unfold strconv_Itoa.f; rw [if_pos hb])).mono ?_
  rintro e w' ⟨rfl, hb⟩
  exact ⟨_, rfl, fun s e => by cases e; rfl, hb⟩
theorem ok_gv_Quote : GivenOK Tryd.prog 165 gv_Quote := by
  refine given_plain Tryd.func165 (by kernel_rfl) (by kernel_rfl) fun lk args H r H' h => ?_
  unfold gv_Quote at h
  split at h
  case h_2 => cases h
  rename_i n
  split at h
  case isFalse => cases h
  rename_i hb
  cases h
  refine ⟨rfl, ⟨_, rfl⟩, fun g w vals hg hA => ?_⟩
  obtain ⟨b, rfl, hv⟩ := f2_1 hA
  obtain rfl := vr_str hv
  refine (names_Quote.calls n _ w (by rw [if_pos hb])).mono ?_
  rintro e w' ⟨rfl, hb⟩
  exact ⟨_, rfl, fun s e => by cases e; rfl, hb⟩
theorem ok_gv_key : GivenOK Tryd.prog 147 gv_key := by
  refine given_plain Tryd.func147 (by kernel_rfl) (by kernel_rfl) fun lk args H r H' h => ?_
  unfold gv_key at h
  split at h
  case h_2 => cases h
  rename_i a l t
  split at h
  case h_2 => cases h
  rename_i m hm
  obtain rfl := ints_some hm
  cases hr : ruleOk ⟨a, m⟩ with
  | false => rw [hr] at h; cases h
  | true =>
    rw [hr, cond_true] at h
    cases h
    refine ⟨rfl, ⟨_, rfl⟩, fun g w vals hg hA => ?_⟩
    obtain ⟨b, rfl, hv⟩ := f2_1 hA
    obtain ⟨vs, rfl, h2⟩ := hv.vr0 (fun _ e => by cases e)
    obtain ⟨v0, v1, rfl, q0, q1⟩ := f2_2 h2
    cases q0
    have hl : m.length ≤ 1000000 := by
      simp only [ruleOk, Bool.and_eq_true, decide_eq_true_eq] at hr; exact hr.1.2
    obtain ⟨A, c, rfl, hc, hC⟩ := cr_ints q1 hl
    refine (key_calls ⟨a, m⟩ hr A c w hg.laid hC hc).mono ?_
    rintro e w' ⟨rfl, hb⟩
    exact ⟨_, rfl, fun s e => by cases e; rfl, hb⟩
end Go.Proofs.YtlacnkjkcikodaaDoor.Am
end
section
set_option linter.unusedVariables false
set_option maxRecDepth 1000000
namespace Go.Proofs.YtlacnkjkcikodaaDoor.Am
open Go
theorem fns_ok : ∀ p ∈ fnTab, fnOf Tryd.prog eff keep p.1 = some p.2.bare :=
  List.forall_mem_cons.2 ⟨ok_law10_UnitsTell, List.forall_mem_cons.2 ⟨ok_law02_Small, List.forall_mem_cons.2 ⟨ok_law10_Awake, List.forall_mem_cons.2 ⟨ok_units_Chain, List.forall_mem_cons.2 ⟨ok_units_walk, List.forall_mem_cons.2 ⟨ok_gram_Grammar_Check, List.forall_mem_cons.2 ⟨ok_gram_texts, List.forall_mem_cons.2 ⟨ok_names_Name, List.forall_mem_cons.2 ⟨ok_names_letter, List.forall_mem_cons.2 ⟨ok_names_Mark, List.forall_mem_cons.2 ⟨ok_gram_Grammar_rules, List.forall_mem_cons.2 ⟨ok_gram_Grammar_rules_1, List.forall_mem_cons.2 ⟨ok_gram_Grammar_has, List.forall_mem_cons.2 ⟨ok_gram_Sym_IsTerm, List.forall_mem_cons.2 ⟨ok_gram_Sym_Place, List.forall_mem_cons.2 ⟨ok_slices_ContainsFunc_gram_Sym_gram_Sym, List.forall_mem_cons.2 ⟨ok_slices_IndexFunc_gram_Sym_gram_Sym, List.forall_mem_cons.2 ⟨ok_units_walk_1, List.forall_mem_cons.2 ⟨ok_units_walk_1_1, List.forall_mem_cons.2 ⟨ok_slices_ContainsFunc_units_met_units_met, List.forall_mem_cons.2 ⟨ok_slices_IndexFunc_units_met_units_met, List.forall_mem_cons.2 ⟨ok_gram_Grammar_Of, List.forall_mem_cons.2 ⟨ok_units_to, List.forall_mem_cons.2 ⟨ok_slices_Clone_int_int, List.forall_mem_cons.2 ⟨ok_law02_Awake, List.forall_mem_cons.2 ⟨ok_law02_Example, List.forall_mem_cons.2 ⟨ok_law01_Awake, List.forall_mem_cons.2 ⟨ok_names_Fresh, List.forall_mem_cons.2 ⟨ok_slices_Contains_string_string, List.forall_mem_cons.2 ⟨ok_slices_Index_string_string, List.forall_mem_cons.2 ⟨ok_gram_Grammar_Size, List.forall_mem_cons.2 ⟨ok_gram_Grammar_Text, List.forall_mem_cons.2 ⟨ok_units_From, List.forall_mem_cons.2 ⟨ok_law10_ints, List.forall_mem_cons.2 ⟨ok_law02_May, List.forall_mem_cons.2 ⟨ok_law02_Of, List.forall_mem_cons.2 ⟨ok_law02_OfRule, List.forall_mem_cons.2 ⟨ok_ref02_Check, List.forall_mem_cons.2 ⟨ok_ref01_Name, List.forall_mem_cons.2 ⟨ok_ref01_letter, List.forall_mem_cons.2 ⟨ok_ref01_Mark, List.forall_mem_cons.2 ⟨ok_ref02_twice, List.forall_mem_cons.2 ⟨ok_ref02_Has, List.forall_mem_cons.2 ⟨ok_ref02_Find, List.forall_mem_cons.2 ⟨ok_ref02_Same, List.forall_mem_cons.2 ⟨ok_ref10_Walk, List.forall_mem_cons.2 ⟨ok_ref10_has, List.forall_mem_cons.2 ⟨ok_law14_MeterBounds, List.forall_mem_cons.2 ⟨ok_law14_Awake, List.forall_mem_cons.2 ⟨ok_meter_New, List.forall_mem_cons.2 ⟨ok_gram_Grammar_Clone, List.forall_mem_cons.2 ⟨ok_slices_Clone_string_string, List.forall_mem_cons.2 ⟨ok_slices_Clone_gram_Rule_gram_Rule, List.forall_mem_cons.2 ⟨ok_slices_Clone_gram_Sym_gram_Sym, List.forall_mem_cons.2 ⟨ok_tmpl_Sorts, List.forall_mem_cons.2 ⟨ok_meter_Pot_Put, List.forall_mem_cons.2 ⟨ok_meter_key, List.forall_mem_cons.2 ⟨ok_law12_Awake, List.forall_mem_cons.2 ⟨ok_tmpl_Plain, List.forall_mem_cons.2 ⟨ok_meter_Pot_Spoilt, List.forall_mem_cons.2 ⟨ok_meter_Pot_Size, List.forall_mem_cons.2 ⟨ok_law14_may, List.forall_mem_cons.2 ⟨ok_law14_mark, List.forall_mem_cons.2 ⟨ok_meter_Pot_Table, List.forall_mem_cons.2 ⟨ok_slices_Clone_tmpl_Sort_tmpl_Sort, List.forall_mem_cons.2 ⟨ok_slices_Clone_tmpl_Item_tmpl_Item, List.forall_mem_cons.2 ⟨ok_gram_Grammar_Find, List.forall_mem_cons.2 ⟨ok_gram_Grammar_Find_1, List.forall_mem_cons.2 ⟨ok_gram_Rule_Same, List.forall_mem_cons.2 ⟨ok_slices_Equal_gram_Sym_gram_Sym, List.forall_mem_cons.2 ⟨ok_slices_IndexFunc_gram_Rule_gram_Rule, List.forall_mem_cons.2 ⟨ok_law14_MeterPlays, List.forall_mem_cons.2 ⟨ok_ref14_New, List.forall_mem_cons.2 ⟨ok_law12_Items, List.forall_mem_cons.2 ⟨ok_ref14_Put, List.forall_mem_cons.2 ⟨ok_ref02_Size, List.forall_mem_cons.2 ⟨ok_meter_Pot_Of, List.forall_mem_cons.2 ⟨ok_meter_Pot_Drop, List.forall_mem_cons.2 ⟨ok_meter_Pot_Drop_1, List.forall_mem_cons.2 ⟨ok_ref14_Drop, List.forall_mem_cons.2 ⟨ok_ref12_Same, List.forall_mem_cons.2 ⟨ok_ref14_Fresh, List.forall_mem_cons.2 ⟨ok_ref01_Fresh, List.forall_mem_cons.2 ⟨ok_ref01_Digits, List.forall_mem_cons.2 ⟨ok_meter_Pot_Fresh, List.forall_mem_cons.2 ⟨ok_law12_Of, List.forall_mem_cons.2 ⟨ok_law12_ints, List.forall_mem_cons.2 ⟨ok_ref14_Same, List.forall_mem_cons.2 ⟨ok_ref02_Alike, List.forall_mem_cons.2 ⟨ok_ref02_texts, List.forall_mem_cons.2 ⟨ok_ref14_SameSorts, List.forall_mem_cons.2 ⟨ok_ref14_ints, List.forall_mem_cons.2 ⟨ok_law12_TmplChecks, List.forall_mem_cons.2 ⟨ok_law12_Small, List.forall_mem_cons.2 ⟨ok_law12_count, List.forall_mem_cons.2 ⟨ok_tmpl_Check, List.forall_mem_cons.2 ⟨ok_slices_Equal_string_string, List.forall_mem_cons.2 ⟨ok_tmpl_sorts, List.forall_mem_cons.2 ⟨ok_tmpl_has, List.forall_mem_cons.2 ⟨ok_tmpl_template, List.forall_mem_cons.2 ⟨ok_tmpl_judge_all, List.forall_mem_cons.2 ⟨ok_tmpl_judge_one, List.forall_mem_cons.2 ⟨ok_tmpl_judge_kid, List.forall_mem_cons.2 ⟨ok_tmpl_judge_node, List.forall_mem_cons.2 ⟨ok_slices_Equal_int_int, List.forall_mem_cons.2 ⟨ok_ref12_Check, List.forall_mem_cons.2 ⟨ok_ref12_ints, List.forall_mem_cons.2 ⟨ok_ref12_stands, List.forall_mem_cons.2 ⟨ok_law08_NullableTells, List.forall_mem_cons.2 ⟨ok_law08_Awake, List.forall_mem_cons.2 ⟨ok_law03_Awake, List.forall_mem_cons.2 ⟨ok_tree_Leaf, List.forall_mem_cons.2 ⟨ok_tree_Node, List.forall_mem_cons.2 ⟨ok_slices_Clone_tree_Tree_tree_Tree, List.forall_mem_cons.2 ⟨ok_tree_Root, List.forall_mem_cons.2 ⟨ok_tree_Check, List.forall_mem_cons.2 ⟨ok_tree_Count, List.forall_mem_cons.2 ⟨ok_tree_Tree_leaf, List.forall_mem_cons.2 ⟨ok_tree_nodeWrong, List.forall_mem_cons.2 ⟨ok_tree_leafWrong, List.forall_mem_cons.2 ⟨ok_tree_Text, List.forall_mem_cons.2 ⟨ok_tree_Text_1, List.forall_mem_cons.2 ⟨ok_tree_Yield, List.forall_mem_cons.2 ⟨ok_tree_Yield_1, List.forall_mem_cons.2 ⟨ok_nullable_Of, List.forall_mem_cons.2 ⟨ok_ref08_Steps, List.forall_mem_cons.2 ⟨ok_law08_NullableTrees, List.forall_mem_cons.2 ⟨ok_law03_Build, List.forall_mem_cons.2 ⟨ok_law03_Fits, List.forall_mem_cons.2 ⟨ok_law03_Of, List.forall_mem_cons.2 ⟨ok_ref03_Check, List.forall_mem_cons.2 ⟨ok_ref03_Count, List.forall_mem_cons.2 ⟨ok_ref03_Fits, List.forall_mem_cons.2 ⟨ok_law06_BnfReads, List.forall_mem_cons.2 ⟨ok_bnf_Read, List.forall_mem_cons.2 ⟨ok_ref06_Read, List.forall_mem_cons.2 ⟨ok_ref05_Lex, List.forall_mem_cons.2 ⟨ok_ref01_Unquote, List.forall_mem_cons.2 ⟨ok_ref01_digit, List.forall_mem_cons.2 ⟨ok_ref06_place, List.forall_mem_cons.2 ⟨ok_gram_Grammar_Same, List.forall_mem_cons.2 ⟨ok_slices_EqualFunc_gram_Rule_gram_Rule_gram_Rule_gram_Rule, List.forall_mem_cons.2 ⟨ok_law08_NullableClosed, List.forall_mem_cons.2 ⟨ok_nullable_All, List.forall_mem_cons.2 ⟨ok_law12_TmplPlain, List.forall_mem_cons.2 ⟨ok_tmpl_Same, List.forall_mem_cons.2 ⟨ok_ref12_Plain, List.forall_mem_cons.2 ⟨ok_law09_UsefulTells, List.forall_mem_cons.2 ⟨ok_law09_Awake, List.forall_mem_cons.2 ⟨ok_useful_Makes, List.forall_mem_cons.2 ⟨ok_useful_Met, List.forall_mem_cons.2 ⟨ok_useful_Met_1, List.forall_mem_cons.2 ⟨ok_useful_Reduced, List.forall_mem_cons.2 ⟨ok_ref09_Makes, List.forall_mem_cons.2 ⟨ok_ref09_By, List.forall_mem_cons.2 ⟨ok_law09_bools, List.forall_mem_cons.2 ⟨ok_ref09_Met, List.forall_mem_cons.2 ⟨ok_ref09_Reduced, List.forall_mem_cons.2 ⟨ok_law06_BnfMay, fun p h => by cases h⟩⟩⟩⟩⟩⟩⟩⟩⟩⟩⟩⟩⟩⟩⟩⟩⟩⟩⟩⟩⟩⟩⟩⟩⟩⟩⟩⟩⟩⟩⟩⟩⟩⟩⟩⟩⟩⟩⟩⟩⟩⟩⟩⟩⟩⟩⟩⟩⟩⟩⟩⟩⟩⟩⟩⟩⟩⟩⟩⟩⟩⟩⟩⟩⟩⟩⟩⟩⟩⟩⟩⟩⟩⟩⟩⟩⟩⟩⟩⟩⟩⟩⟩⟩⟩⟩⟩⟩⟩⟩⟩⟩⟩⟩⟩⟩⟩⟩⟩⟩⟩⟩⟩⟩⟩⟩⟩⟩⟩⟩⟩⟩⟩⟩⟩⟩⟩⟩⟩⟩⟩⟩⟩⟩⟩⟩⟩⟩⟩⟩⟩⟩⟩⟩⟩⟩⟩⟩⟩⟩⟩⟩⟩⟩⟩⟩⟩⟩⟩⟩⟩⟩⟩⟩⟩⟩⟩⟩⟩
theorem giv_ok : ∀ p ∈ givTab, GivenOK Tryd.prog p.1 p.2 :=
  List.forall_mem_cons.2 ⟨ok_gv_key, List.forall_mem_cons.2 ⟨ok_gv_Quote, List.forall_mem_cons.2 ⟨ok_gv_Itoa, fun p h => by cases h⟩⟩⟩
theorem mach_ok : MachOK Tryd.prog mach := ⟨by kernel_rfl, fun f fn h => ⟨eff, keep, fns_ok (f, fn) (tabAt_mem h)⟩, fun f G h => giv_ok (f, G) (tabAt_mem h)⟩
end Go.Proofs.YtlacnkjkcikodaaDoor.Am
end
section
set_option linter.unusedVariables false
set_option linter.unusedSimpArgs false
set_option maxHeartbeats 1000000
namespace Go.Proofs.YtlacnkjkcikodaaDoor.Am
open Go
variable {lk : Nat} {H : List Tab}
theorem textsC_cases (may : ByteArray → Bool) (l : List ByteArray) : (textsC may l = 1 ∧ l.all may = false) ∨ (textsC may l = 0 ∧ l.all may = true ∧ l.Nodup) ∨ (textsC may l = 2 ∧ l.all may = true ∧ ¬l.Nodup) := by
  unfold textsC
  cases h : l.all may with
  | false => simp
  | true => by_cases h2 : l.Nodup <;> simp [h2]
def checkC (g : Gram) : Int :=
  if g.names.length < 1 ∨ 2048 < g.names.length ∨ 2048 < g.terms.length ∨ 8192 < g.rules.length then 11
  else if textsC nameB g.names = 1 ∨ textsC markB g.terms = 1 then 1
  else if textsC nameB g.names = 2 ∨ textsC markB g.terms = 2 then 2
  else if g.start < 0 ∨ (g.names.length : Int) ≤ g.start then 3
  else rulesC g.names.length g.terms.length g.rules
theorem asks_Name (l : List ByteArray) : Asks f_names_Name [] V.str H nameB l := ⟨rfl, fun lk E x _ => sp_Name x⟩
theorem asks_Mark (l : List ByteArray) : Asks f_names_Mark [] V.str H markB l := ⟨rfl, fun lk E x _ => sp_Mark x⟩
theorem sp_Check (hlk : lk ≤ H.length) (g : Gram) (hg : OkG g) : lim mach lk f_gram_Grammar_Check [encG g] H = some (.int .i64 (checkC g), H) := by
  have ht1 := fun (L : Tab) => sp_texts (lk := H.length + 1) (H := H ++ [L]) (by simp) f_names_Name nameB g.names (asks_Name g.names) hg.1
  have ht2 := fun (L : Tab) => sp_texts (lk := H.length + 1) (H := H ++ [L]) (by simp) f_names_Mark markB g.terms (asks_Mark g.terms) hg.2.1
  have hr := fun (L : Tab) => sp_rules (lk := H.length + 1) (H := H ++ [L]) (by simp) g hg
  obtain ⟨ns, ts, st, rs⟩ := g
  simp only [encG] at hr ht1 ht2 ⊢
  unfold checkC
  simp only
  by_cases h1 : ns.length < 1
  · (rw [eq_gram_Grammar_Check]; simp (disch := first | assumption | omega | (simp; done) | (simp only [ByteArray.size_append]; omega)) [-getElem?_pos, -List.all_eq_true, -List.any_eq_true, -List.length_eq_zero_iff, -List.map_take, -List.map_drop, c_gram_Grammar_Check, h1])
  by_cases h2 : 2048 < ns.length
  · (rw [eq_gram_Grammar_Check]; simp (disch := first | assumption | omega | (simp; done) | (simp only [ByteArray.size_append]; omega)) [-getElem?_pos, -List.all_eq_true, -List.any_eq_true, -List.length_eq_zero_iff, -List.map_take, -List.map_drop, c_gram_Grammar_Check, h2])
  by_cases h3 : 2048 < ts.length
  · (rw [eq_gram_Grammar_Check]; simp (disch := first | assumption | omega | (simp; done) | (simp only [ByteArray.size_append]; omega)) [-getElem?_pos, -List.all_eq_true, -List.any_eq_true, -List.length_eq_zero_iff, -List.map_take, -List.map_drop, c_gram_Grammar_Check, h3])
  by_cases h4 : 8192 < rs.length
  · (rw [eq_gram_Grammar_Check]; simp (disch := first | assumption | omega | (simp; done) | (simp only [ByteArray.size_append]; omega)) [-getElem?_pos, -List.all_eq_true, -List.any_eq_true, -List.length_eq_zero_iff, -List.map_take, -List.map_drop, c_gram_Grammar_Check, h4])
  rw [if_neg (by omega)]
  by_cases h5 : st < 0 <;> by_cases h6 : (ns.length : Int) ≤ st <;> first | (exfalso; omega) | skip
  all_goals
    rcases textsC_cases nameB ns with ⟨e1, -⟩ | ⟨e1, -⟩ | ⟨e1, -⟩ <;> rcases textsC_cases markB ts with ⟨e2, -⟩ | ⟨e2, -⟩ | ⟨e2, -⟩ <;> rw [e1] at ht1 ⊢ <;> rw [e2] at ht2 ⊢ <;> (rw [eq_gram_Grammar_Check]; simp (disch := first | assumption | omega | (simp; done) | (simp only [ByteArray.size_append]; omega)) [-getElem?_pos, -List.all_eq_true, -List.any_eq_true, -List.length_eq_zero_iff, -List.map_take, -List.map_drop, c_gram_Grammar_Check, st_gram_Grammar_Check_l0, b_gram_Grammar_Check_l0, ht1, ht2, hr, h5, h6])
def sizeC : List Rule → Int
  | [] => 0
  | r :: l => 1 + r.right.length + sizeC l
theorem sizeC_0 : ∀ l : List Rule, 0 ≤ sizeC l
  | [] => by simp [sizeC]
  | r :: l => by have := sizeC_0 l; simp only [sizeC]; omega
theorem size_l0 (hlk : lk ≤ H.length) (rs : List Rule) (hs : sizeC rs ≤ 4611686018427387904) (hl : rs.length ≤ 4611686018427387904) : ∀ (r : List Rule) (i : Nat) (j n : Int), rs.drop i = r → j = i → n + sizeC r = sizeC rs → 0 ≤ n → lp mach lk c_gram_Grammar_Size_l0 ⟨[(3, .int .i64 n), (7, .sl (rs.map encR) .no), (8, .int .i64 rs.length), (9, .int .i64 j)], [], H⟩ = some (.exit 0, ⟨[(3, .int .i64 (sizeC rs))], [], H⟩) := by
  intro r
  induction r with
  | nil =>
    intro i j n h hj hn h0; subst hj
    have := drop_nil h
    simp only [sizeC] at hn
    obtain rfl : n = sizeC rs := by omega
    (rw [st_gram_Grammar_Size_l0]; simp (disch := first | assumption | omega | (simp; done) | (simp only [ByteArray.size_append]; omega)) [-getElem?_pos, -List.all_eq_true, -List.any_eq_true, -List.length_eq_zero_iff, -List.map_take, -List.map_drop, b_gram_Grammar_Size_l0])
  | cons x r ih =>
    intro i j n h hj hn h0; subst hj
    obtain ⟨hx, hlt, hr⟩ := drop_cons h
    obtain ⟨a, l⟩ := x
    simp only [sizeC] at hn
    have := sizeC_0 r
    have ih := ih (i + 1) (i + 1) (n + (1 + l.length)) hr (by omega) (by omega) (by omega)
    (rw [st_gram_Grammar_Size_l0]; simp (disch := first | assumption | omega | (simp; done) | (simp only [ByteArray.size_append]; omega)) [-getElem?_pos, -List.all_eq_true, -List.any_eq_true, -List.length_eq_zero_iff, -List.map_take, -List.map_drop, b_gram_Grammar_Size_l0, hx, ih])
theorem sp_Size (hlk : lk ≤ H.length) (ns ts : List ByteArray) (st : Int) (rs : List Rule) (hs : sizeC rs ≤ 4611686018427387904) (hl : rs.length ≤ 4611686018427387904) : lim mach lk f_gram_Grammar_Size [(.agg [.sl (ns.map V.str) .no, .sl (ts.map V.str) .no, .int .i64 st, .sl (rs.map encR) .no])] H = some (.int .i64 (sizeC rs), H) := by
  have h := size_l0 hlk rs hs hl rs 0 0 0 rfl rfl (by omega) (by omega)
  (rw [eq_gram_Grammar_Size]; simp (disch := first | assumption | omega | (simp; done) | (simp only [ByteArray.size_append]; omega)) [-getElem?_pos, -List.all_eq_true, -List.any_eq_true, -List.length_eq_zero_iff, -List.map_take, -List.map_drop, c_gram_Grammar_Size, h])
end Go.Proofs.YtlacnkjkcikodaaDoor.Am
end
