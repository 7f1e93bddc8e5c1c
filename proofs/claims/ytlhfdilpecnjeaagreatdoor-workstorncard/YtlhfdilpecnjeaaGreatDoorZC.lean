/- The functions in a tree. -/
import Derived.Test.YtlhfdilpecnjeaaGreatDoorZCx2
set_option linter.unusedVariables false
set_option linter.unusedSimpArgs false
noncomputable section
namespace Go.Z
open Go Go.Abs
def zt0:bL:=.node 8 (.node 5 (.leaf 4 c4) (.node 7 (.leaf 5 c5) (.leaf 7 c7))) (.node 10 (.leaf 8 c8) (.node 11 (.leaf 10 oC) (.leaf 11 YU)))
def zt1:bL:=.node 16 (.node 13 (.leaf 12 c12) (.node 15 (.leaf 13 KY) (.leaf 15 c15))) (.node 18 (.node 17 (.leaf 16 CD) (.leaf 17 YI)) (.node 19 (.leaf 18 Zz) (.leaf 19 c19)))
def zt2:bL:=.node 23 (.node 21 (.leaf 20 c20) (.node 22 (.leaf 21 c21) (.leaf 22 c22))) (.node 25 (.node 24 (.leaf 23 c23) (.leaf 24 c24)) (.node 27 (.leaf 25 c25) (.leaf 27 Ah)))
def zt3:bL:=.node 36 (.node 34 (.leaf 28 c28) (.node 35 (.leaf 34 YM) (.leaf 35 c35))) (.node 38 (.node 37 (.leaf 36 c36) (.leaf 37 c37)) (.node 39 (.leaf 38 hH) (.leaf 39 c39)))
def zt4:bL:=.node 43 (.node 41 (.leaf 40 rS) (.node 42 (.leaf 41 c41) (.leaf 42 jU))) (.node 45 (.node 44 (.leaf 43 c43) (.leaf 44 YT)) (.node 46 (.leaf 45 c45) (.leaf 46 c46)))
def zt5:bL:=.node 50 (.node 48 (.leaf 47 c47) (.node 49 (.leaf 48 KX) (.leaf 49 KC))) (.node 52 (.node 51 (.leaf 50 YS) (.leaf 51 ol)) (.node 53 (.leaf 52 YA) (.leaf 53 qH)))
def zt6:bL:=.node 58 (.node 56 (.leaf 55 Zr) (.node 57 (.leaf 56 c56) (.leaf 57 c57))) (.node 60 (.node 59 (.leaf 58 c58) (.leaf 59 c59)) (.node 61 (.leaf 60 c60) (.leaf 61 c61)))
def zt7:bL:=.node 65 (.node 63 (.leaf 62 c62) (.node 64 (.leaf 63 c63) (.leaf 64 KL))) (.node 67 (.node 66 (.leaf 65 c65) (.leaf 66 c66)) (.node 68 (.leaf 67 c67) (.leaf 68 c68)))
def zt8:bL:=.node 74 (.node 70 (.leaf 69 c69) (.node 73 (.leaf 70 c70) (.leaf 73 c73))) (.node 75 (.leaf 74 c74) (.node 78 (.leaf 75 c75) (.leaf 78 c78)))
def zt9:bL:=.node 85 (.node 82 (.leaf 80 c80) (.node 83 (.leaf 82 c82) (.leaf 83 c83))) (.node 87 (.node 86 (.leaf 85 c85) (.leaf 86 YK)) (.node 88 (.leaf 87 Ze) (.leaf 88 Zf)))
def Lq:bL:=.node 92 (.node 90 (.leaf 89 c89) (.node 91 (.leaf 90 Zg) (.leaf 91 c91))) (.node 94 (.node 93 (.leaf 92 Zh) (.leaf 93 c93)) (.node 95 (.leaf 94 Zj) (.leaf 95 c95)))
def Lr:bL:=.node 99 (.node 97 (.leaf 96 c96) (.node 98 (.leaf 97 Zk) (.leaf 98 YV))) (.node 101 (.node 100 (.leaf 99 Zl) (.leaf 100 CU)) (.node 102 (.leaf 101 E9) (.leaf 102 E8)))
def Ls:bL:=.node 106 (.node 104 (.leaf 103 CM) (.node 105 (.leaf 104 jF) (.leaf 105 Ee))) (.node 108 (.node 107 (.leaf 106 DU) (.leaf 107 DV)) (.node 109 (.leaf 108 DW) (.leaf 109 DX)))
def Lt:bL:=.node 113 (.node 111 (.leaf 110 DY) (.node 112 (.leaf 111 DZ) (.leaf 112 oF))) (.node 115 (.node 114 (.leaf 113 D0) (.leaf 114 D1)) (.node 116 (.leaf 115 D3) (.leaf 116 D5)))
def Lu:bL:=.node 120 (.node 118 (.leaf 117 D6) (.node 119 (.leaf 118 Fi) (.leaf 119 D7))) (.node 122 (.node 121 (.leaf 120 Ej) (.leaf 121 Cy)) (.node 123 (.leaf 122 Cx) (.leaf 123 Cm)))
def Lw:bL:=.node 127 (.node 125 (.leaf 124 Ea) (.node 126 (.leaf 125 Eh) (.leaf 126 Ef))) (.node 129 (.node 128 (.leaf 127 Ei) (.leaf 128 Eg)) (.node 131 (.leaf 129 jK) (.leaf 131 Ek)))
def Lx:bL:=.node 138 (.node 136 (.leaf 135 Cw) (.node 137 (.leaf 136 Ck) (.leaf 137 tJ))) (.node 139 (.leaf 138 Cu) (.node 140 (.leaf 139 Cn) (.leaf 140 Cz)))
def Ly:bL:=.node 147 (.node 145 (.leaf 144 oG) (.node 146 (.leaf 145 Ev) (.leaf 146 c146))) (.node 149 (.node 148 (.leaf 147 EH) (.leaf 148 EG)) (.node 150 (.leaf 149 El) (.leaf 150 Ey)))
def Lz:bL:=.node 154 (.node 152 (.leaf 151 Eu) (.node 153 (.leaf 152 DT) (.leaf 153 E1))) (.node 157 (.node 155 (.leaf 154 E0) (.leaf 155 E4)) (.node 158 (.leaf 157 Eo) (.leaf 158 Ep)))
def LA:bL:=.node 162 (.node 160 (.leaf 159 EI) (.node 161 (.leaf 160 ED) (.leaf 161 EA))) (.node 164 (.node 163 (.leaf 162 EC) (.leaf 163 EB)) (.node 165 (.leaf 164 EF) (.leaf 165 EE)))
def LB:bL:=.node 169 (.node 167 (.leaf 166 Ew) (.node 168 (.leaf 167 CH) (.leaf 168 CG))) (.node 171 (.node 170 (.leaf 169 ER) (.leaf 170 ES)) (.node 172 (.leaf 171 Dv) (.leaf 172 oE)))
def LC:bL:=.node 176 (.node 174 (.leaf 173 ub) (.node 175 (.leaf 174 l4) (.leaf 175 Dy))) (.node 178 (.node 177 (.leaf 176 Dx) (.leaf 177 Dz)) (.node 179 (.leaf 178 DA) (.leaf 179 tX)))
def LD:bL:=.node 183 (.node 181 (.leaf 180 tZ) (.node 182 (.leaf 181 DC) (.leaf 182 De))) (.node 185 (.node 184 (.leaf 183 DI) (.leaf 184 EU)) (.node 186 (.leaf 185 EZ) (.leaf 186 ET)))
def LH:bL:=.node 190 (.node 188 (.leaf 187 Dw) (.node 189 (.leaf 188 Df) (.leaf 189 Dr))) (.node 192 (.node 191 (.leaf 190 DF) (.leaf 191 DG)) (.node 193 (.leaf 192 tV) (.leaf 193 ua)))
def LI:bL:=.node 197 (.node 195 (.leaf 194 DH) (.node 196 (.leaf 195 DE) (.leaf 196 DJ))) (.node 198 (.leaf 197 EY) (.node 199 (.leaf 198 Ez) (.leaf 199 Dn)))
def LJ:bL:=.node 203 (.node 201 (.leaf 200 Dp) (.node 202 (.leaf 201 Dq) (.leaf 202 Dj))) (.node 205 (.node 204 (.leaf 203 Dk) (.leaf 204 kJ)) (.node 206 (.leaf 205 Dl) (.leaf 206 Dm)))
def LK:bL:=.node 213 (.node 211 (.leaf 210 Cv) (.node 212 (.leaf 211 c211) (.leaf 212 Ci))) (.node 218 (.node 217 (.leaf 213 Ct) (.leaf 217 DN)) (.node 219 (.leaf 218 DQ) (.leaf 219 DL)))
def LL:bL:=.node 223 (.node 221 (.leaf 220 DK) (.node 222 (.leaf 221 E2) (.leaf 222 E3))) (.node 225 (.node 224 (.leaf 223 Er) (.leaf 224 Et)) (.node 226 (.leaf 225 DM) (.leaf 226 EJ)))
def LM:bL:=.node 230 (.node 228 (.leaf 227 EK) (.node 229 (.leaf 228 l0) (.leaf 229 tY))) (.node 232 (.node 231 (.leaf 230 Dg) (.leaf 231 Ds)) (.node 233 (.leaf 232 EV) (.leaf 233 tW)))
def LN:bL:=.node 237 (.node 235 (.leaf 234 Dh) (.node 236 (.leaf 235 Dt) (.leaf 236 EW))) (.node 239 (.node 238 (.leaf 237 EM) (.leaf 238 EN)) (.node 240 (.leaf 239 EO) (.leaf 240 EL)))
def LP:bL:=.node 244 (.node 242 (.leaf 241 Di) (.node 243 (.leaf 242 Du) (.leaf 243 EX))) (.node 246 (.node 245 (.leaf 244 EP) (.leaf 245 Fh)) (.node 256 (.leaf 246 l5) (.leaf 256 c256)))
def LS:bL:=.node 264 (.node 262 (.leaf 260 Cs) (.node 263 (.leaf 262 DS) (.leaf 263 Es))) (.node 266 (.node 265 (.leaf 264 EQ) (.leaf 265 Fe)) (.node 277 (.leaf 266 E7) (.leaf 277 Em)))
def tree:bL:=.node 135 (.node 69 (.node 40 (.node 20 (.node 12 zt0 zt1) (.node 28 zt2 zt3)) (.node 55 (.node 47 zt4 zt5) (.node 62 zt6 zt7))) (.node 103 (.node 89 (.node 80 zt8 zt9) (.node 96 Lq Lr)) (.node 117 (.node 110 Ls Lt) (.node 124 Lu Lw)))) (.node 194 (.node 166 (.node 151 (.node 144 Lx Ly) (.node 159 Lz LA)) (.node 180 (.node 173 LB LC) (.node 187 LD LH))) (.node 227 (.node 210 (.node 200 LI LJ) (.node 220 LK LL)) (.node 241 (.node 234 LM LN) (.node 260 LP LS))))
end Go.Z
end
