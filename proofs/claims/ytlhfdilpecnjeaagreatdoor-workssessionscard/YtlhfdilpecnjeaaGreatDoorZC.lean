/- The functions in a tree. -/
import Derived.Test.YtlhfdilpecnjeaaGreatDoorZCx1
set_option linter.all false
noncomputable section
namespace Go.Z
open Go Go.Abs
def zt0:bP:=.node 7 (.node 5 (.leaf 3 c3) (.node 6 (.leaf 5 c5) (.leaf 6 c6))) (.node 9 (.node 8 (.leaf 7 c7) (.leaf 8 c8)) (.node 10 (.leaf 9 c9) (.leaf 10 nJ)))
def zt1:bP:=.node 14 (.node 12 (.leaf 11 ZQ) (.node 13 (.leaf 12 Dh) (.leaf 13 Di))) (.node 19 (.node 17 (.leaf 14 ZM) (.leaf 17 Z2)) (.node 20 (.leaf 19 c19) (.leaf 20 c20)))
def zt2:bP:=.node 24 (.node 22 (.leaf 21 c21) (.node 23 (.leaf 22 c22) (.leaf 23 c23))) (.node 26 (.node 25 (.leaf 24 c24) (.leaf 25 ZE)) (.node 27 (.leaf 26 mb) (.leaf 27 AF)))
def zt3:bP:=.node 32 (.node 30 (.node 29 (.leaf 28 c28) (.leaf 29 c29)) (.node 31 (.leaf 30 Lf) (.leaf 31 c31))) (.node 34 (.node 33 (.leaf 32 ZT) (.leaf 33 c33)) (.node 35 (.leaf 34 ZD) (.leaf 35 c35)))
def zt4:bP:=.node 39 (.node 37 (.leaf 36 c36) (.node 38 (.leaf 37 c37) (.leaf 38 iB))) (.node 41 (.node 40 (.leaf 39 c39) (.leaf 40 sF)) (.node 42 (.leaf 41 c41) (.leaf 42 kB)))
def zt5:bP:=.node 46 (.node 44 (.leaf 43 c43) (.node 45 (.leaf 44 ZP) (.leaf 45 LX))) (.node 48 (.node 47 (.leaf 46 LW) (.leaf 47 c47)) (.node 49 (.leaf 48 LY) (.leaf 49 c49)))
def zt6:bP:=.node 55 (.node 52 (.leaf 50 ZJ) (.node 53 (.leaf 52 ZW) (.leaf 53 rA))) (.node 57 (.node 56 (.leaf 55 c55) (.leaf 56 c56)) (.node 58 (.leaf 57 c57) (.leaf 58 c58)))
def zt7:bP:=.node 63 (.node 61 (.node 60 (.leaf 59 c59) (.leaf 60 c60)) (.node 62 (.leaf 61 c61) (.leaf 62 c62))) (.node 65 (.node 64 (.leaf 63 c63) (.leaf 64 LK)) (.node 66 (.leaf 65 c65) (.leaf 66 c66)))
def zt8:bP:=.node 70 (.node 68 (.leaf 67 c67) (.node 69 (.leaf 68 c68) (.leaf 69 c69))) (.node 72 (.node 71 (.leaf 70 c70) (.leaf 71 ZO)) (.node 73 (.leaf 72 ZN) (.leaf 73 c73)))
def zt9:bP:=.node 77 (.node 75 (.leaf 74 c74) (.node 76 (.leaf 75 c75) (.leaf 76 c76))) (.node 79 (.node 78 (.leaf 77 c77) (.leaf 78 c78)) (.node 80 (.leaf 79 c79) (.leaf 80 c80)))
def Me:bP:=.node 84 (.node 82 (.leaf 81 c81) (.node 83 (.leaf 82 c82) (.leaf 83 c83))) (.node 86 (.node 85 (.leaf 84 c84) (.leaf 85 c85)) (.node 87 (.leaf 86 ZC) (.leaf 87 c87)))
def Mf:bP:=.node 92 (.node 90 (.node 89 (.leaf 88 c88) (.leaf 89 c89)) (.node 91 (.leaf 90 c90) (.leaf 91 c91))) (.node 94 (.node 93 (.leaf 92 c92) (.leaf 93 c93)) (.node 95 (.leaf 94 c94) (.leaf 95 c95)))
def Mg:bP:=.node 99 (.node 97 (.leaf 96 c96) (.node 98 (.leaf 97 c97) (.leaf 98 c98))) (.node 101 (.node 100 (.leaf 99 c99) (.leaf 100 Dj)) (.node 102 (.leaf 101 Fs) (.leaf 102 Fq)))
def Mh:bP:=.node 106 (.node 104 (.leaf 103 C9) (.node 105 (.leaf 104 jR) (.leaf 105 Dx))) (.node 108 (.node 107 (.leaf 106 E2) (.leaf 107 E3)) (.node 109 (.leaf 108 E4) (.leaf 109 E6)))
def Mi:bP:=.node 113 (.node 111 (.leaf 110 E7) (.node 112 (.leaf 111 E8) (.leaf 112 po))) (.node 115 (.node 114 (.leaf 113 E9) (.leaf 114 Fc)) (.node 116 (.leaf 115 Fe) (.leaf 116 Ff)))
def Mj:bP:=.node 121 (.node 119 (.node 118 (.leaf 117 Fg) (.leaf 118 Fy)) (.node 120 (.leaf 119 Fh) (.leaf 120 DC))) (.node 123 (.node 122 (.leaf 121 CS) (.leaf 122 CR)) (.node 124 (.leaf 123 CG) (.leaf 124 Dt)))
def Ml:bP:=.node 128 (.node 126 (.leaf 125 DA) (.node 127 (.leaf 126 Dy) (.leaf 127 DB))) (.node 131 (.node 129 (.leaf 128 Dz) (.leaf 129 jT)) (.node 135 (.leaf 131 DE) (.leaf 135 CQ)))
def Mm:bP:=.node 139 (.node 137 (.leaf 136 CD) (.node 138 (.leaf 137 ud) (.leaf 138 CO))) (.node 144 (.node 140 (.leaf 139 CH) (.leaf 140 CT)) (.node 145 (.leaf 144 pk) (.leaf 145 DP)))
def Mn:bP:=.node 149 (.node 147 (.leaf 146 c146) (.node 148 (.leaf 147 D0) (.leaf 148 DZ))) (.node 151 (.node 150 (.leaf 149 DF) (.leaf 150 DR)) (.node 152 (.leaf 151 DN) (.leaf 152 E1)))
def Mp:bP:=.node 157 (.node 155 (.node 154 (.leaf 153 Fj) (.leaf 154 Fi)) (.node 156 (.leaf 155 Fm) (.leaf 156 DL))) (.node 159 (.node 158 (.leaf 157 DH) (.leaf 158 DI)) (.node 160 (.leaf 159 D1) (.leaf 160 DW)))
def Mq:bP:=.node 164 (.node 162 (.leaf 161 DT) (.node 163 (.leaf 162 DV) (.leaf 163 DU))) (.node 166 (.node 165 (.leaf 164 DY) (.leaf 165 DX)) (.node 167 (.leaf 166 DQ) (.leaf 167 C7)))
def Mr:bP:=.node 171 (.node 169 (.leaf 168 C6) (.node 170 (.leaf 169 Ec) (.leaf 170 Ed))) (.node 173 (.node 172 (.leaf 171 EG) (.leaf 172 pn)) (.node 174 (.leaf 173 uJ) (.leaf 174 mg)))
def Ms:bP:=.node 178 (.node 176 (.leaf 175 EJ) (.node 177 (.leaf 176 EI) (.leaf 177 EK))) (.node 180 (.node 179 (.leaf 178 EL) (.leaf 179 uy)) (.node 181 (.leaf 180 uD) (.leaf 181 EN)))
def Mt:bP:=.node 186 (.node 184 (.node 183 (.leaf 182 Eo) (.leaf 183 ES)) (.node 185 (.leaf 184 Ef) (.leaf 185 Ek))) (.node 188 (.node 187 (.leaf 186 Ee) (.leaf 187 EH)) (.node 189 (.leaf 188 Ep) (.leaf 189 EC)))
def Mu:bP:=.node 193 (.node 191 (.leaf 190 EP) (.node 192 (.leaf 191 EQ) (.leaf 192 uw))) (.node 195 (.node 194 (.leaf 193 uH) (.leaf 194 ER)) (.node 196 (.leaf 195 EO) (.leaf 196 ET)))
def Mv:bP:=.node 200 (.node 198 (.leaf 197 Ej) (.node 199 (.leaf 198 DS) (.leaf 199 Ez))) (.node 202 (.node 201 (.leaf 200 EA) (.leaf 201 EB)) (.node 203 (.leaf 202 Eu) (.leaf 203 Ev)))
def Mw:bP:=.node 210 (.node 205 (.leaf 204 kW) (.node 206 (.leaf 205 Ew) (.leaf 206 Ey))) (.node 212 (.node 211 (.leaf 210 CP) (.leaf 211 c211)) (.node 213 (.leaf 212 CA) (.leaf 213 CN)))
def Mx:bP:=.node 221 (.node 219 (.node 218 (.leaf 217 EX) (.leaf 218 EY)) (.node 220 (.leaf 219 EV) (.leaf 220 EU))) (.node 223 (.node 222 (.leaf 221 Fk) (.leaf 222 Fl)) (.node 224 (.leaf 223 DJ) (.leaf 224 DM)))
def My:bP:=.node 228 (.node 226 (.leaf 225 EW) (.node 227 (.leaf 226 D3) (.leaf 227 D5))) (.node 230 (.node 229 (.leaf 228 mf) (.leaf 229 uz)) (.node 231 (.leaf 230 Er) (.leaf 231 ED)))
def Mz:bP:=.node 236 (.node 234 (.node 233 (.leaf 232 Eg) (.leaf 233 ux)) (.node 235 (.leaf 234 Es) (.leaf 235 EE))) (.node 238 (.node 237 (.leaf 236 Eh) (.leaf 237 D7)) (.node 239 (.leaf 238 D8) (.leaf 239 D9)))
def MA:bP:=.node 243 (.node 241 (.leaf 240 D6) (.node 242 (.leaf 241 Et) (.leaf 242 EF))) (.node 245 (.node 244 (.leaf 243 Ei) (.leaf 244 Ea)) (.node 246 (.leaf 245 Fx) (.leaf 246 mr)))
def MB:bP:=.node 264 (.node 262 (.node 260 (.leaf 256 c256) (.leaf 260 CM)) (.node 263 (.leaf 262 E0) (.leaf 263 DK))) (.node 266 (.node 265 (.leaf 264 Eb) (.leaf 265 Fu)) (.node 277 (.leaf 266 Fp) (.leaf 277 DG)))
def tree:bP:=.node 125 (.node 67 (.node 36 (.node 21 (.node 11 zt0 zt1) (.node 28 zt2 zt3)) (.node 50 (.node 43 zt4 zt5) (.node 59 zt6 zt7))) (.node 96 (.node 81 (.node 74 zt8 zt9) (.node 88 Me Mf)) (.node 110 (.node 103 Mg Mh) (.node 117 Mi Mj)))) (.node 190 (.node 161 (.node 146 (.node 136 Ml Mm) (.node 153 Mn Mp)) (.node 175 (.node 168 Mq Mr) (.node 182 Ms Mt))) (.node 225 (.node 204 (.node 197 Mu Mv) (.node 217 Mw Mx)) (.node 240 (.node 232 My Mz) (.node 256 MA MB))))
end Go.Z
end
