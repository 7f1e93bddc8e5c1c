/- The functions in a tree. -/
import Derived.Test.YtoaianfagfampaaGreatDoorZCx2
set_option linter.all false
noncomputable section
namespace Go.Z
open Go Go.Abs
def zt0:bL:=.node 6 (.node 4 (.leaf 3 c3) (.node 5 (.leaf 4 c4) (.leaf 5 c5))) (.node 7 (.leaf 6 c6) (.node 8 (.leaf 7 c7) (.leaf 8 c8)))
def zt1:bL:=.node 12 (.node 10 (.leaf 9 c9) (.node 11 (.leaf 10 J2) (.leaf 11 wX))) (.node 14 (.node 13 (.leaf 12 J0) (.leaf 13 Ez)) (.node 15 (.leaf 14 c14) (.leaf 15 Xz)))
def zt2:bL:=.node 19 (.node 17 (.leaf 16 J8) (.node 18 (.leaf 17 Wx) (.leaf 18 Ww))) (.node 20 (.leaf 19 c19) (.node 21 (.leaf 20 c20) (.leaf 21 gW)))
def zt3:bL:=.node 25 (.node 23 (.leaf 22 c22) (.node 24 (.leaf 23 rm) (.leaf 24 Xx))) (.node 27 (.node 26 (.leaf 25 eu) (.leaf 26 c26)) (.node 28 (.leaf 27 Vc) (.leaf 28 U4)))
def zt4:bL:=.node 32 (.node 30 (.leaf 29 c29) (.node 31 (.leaf 30 J1) (.leaf 31 VL))) (.node 33 (.leaf 32 Vn) (.node 34 (.leaf 33 mS) (.leaf 34 JZ)))
def zt5:bL:=.node 38 (.node 36 (.leaf 35 JY) (.node 37 (.leaf 36 tm) (.leaf 37 c37))) (.node 40 (.node 39 (.leaf 38 c38) (.leaf 39 c39)) (.node 41 (.leaf 40 c40) (.leaf 41 c41)))
def zt6:bL:=.node 45 (.node 43 (.leaf 42 c42) (.node 44 (.leaf 43 c43) (.leaf 44 c44))) (.node 48 (.node 46 (.leaf 45 WU) (.leaf 46 Xw)) (.node 49 (.leaf 48 VM) (.leaf 49 WL)))
def zt7:bL:=.node 53 (.node 51 (.leaf 50 WO) (.node 52 (.leaf 51 VN) (.leaf 52 WS))) (.node 55 (.node 54 (.leaf 53 VO) (.leaf 54 WN)) (.node 56 (.leaf 55 VP) (.leaf 56 WT)))
def zt8:bL:=.node 60 (.node 58 (.leaf 57 VR) (.node 59 (.leaf 58 WK) (.leaf 59 WM))) (.node 61 (.leaf 60 VS) (.node 62 (.leaf 61 WR) (.leaf 62 JQ)))
def zt9:bL:=.node 66 (.node 64 (.leaf 63 VE) (.node 65 (.leaf 64 WQ) (.leaf 65 VU))) (.node 68 (.node 67 (.leaf 66 VT) (.leaf 67 XD)) (.node 69 (.leaf 68 XB) (.leaf 69 WH)))
def KI:bL:=.node 73 (.node 71 (.leaf 70 tq) (.node 72 (.leaf 71 WA) (.leaf 72 Xc))) (.node 75 (.node 74 (.leaf 73 Xd) (.leaf 74 Xe)) (.node 76 (.leaf 75 Xf) (.leaf 76 Xg)))
def KJ:bL:=.node 80 (.node 78 (.leaf 77 Xh) (.node 79 (.leaf 78 Ei) (.leaf 79 Xi))) (.node 82 (.node 81 (.leaf 80 Xj) (.leaf 81 Xq)) (.node 83 (.leaf 82 Xr) (.leaf 83 Xt)))
def KK:bL:=.node 87 (.node 85 (.leaf 84 XI) (.node 86 (.leaf 85 Xu) (.leaf 86 WG))) (.node 88 (.leaf 87 Vm) (.node 89 (.leaf 88 Vl) (.leaf 89 Vh)))
def KL:bL:=.node 93 (.node 91 (.leaf 90 Wy) (.node 92 (.leaf 91 WD) (.leaf 92 WB))) (.node 95 (.node 94 (.leaf 93 WE) (.leaf 94 WC)) (.node 97 (.leaf 95 tO) (.leaf 97 U2)))
def KM:bL:=.node 104 (.node 102 (.leaf 101 B1) (.node 103 (.leaf 102 BO) (.leaf 103 BN))) (.node 106 (.node 105 (.leaf 104 gV) (.leaf 105 CH)) (.node 107 (.leaf 106 XL) (.leaf 107 CT)))
def KN:bL:=.node 111 (.node 109 (.leaf 108 Du) (.node 110 (.leaf 109 CC) (.leaf 110 Ef))) (.node 113 (.node 112 (.leaf 111 Ek) (.leaf 112 Ej)) (.node 117 (.leaf 113 Eo) (.leaf 117 ov)))
def KO:bL:=.node 121 (.node 119 (.leaf 118 CX) (.node 120 (.leaf 119 Da) (.leaf 120 C9))) (.node 122 (.leaf 121 Db) (.node 123 (.leaf 122 C6) (.leaf 123 CZ)))
def KP:bL:=.node 127 (.node 125 (.leaf 124 C5) (.node 126 (.leaf 125 C4) (.leaf 126 C8))) (.node 129 (.node 128 (.leaf 127 C7) (.leaf 128 CW)) (.node 130 (.leaf 129 Cd) (.leaf 130 Cc)))
def KQ:bL:=.node 134 (.node 132 (.leaf 131 CI) (.node 133 (.leaf 132 CV) (.leaf 133 Dk))) (.node 136 (.node 135 (.leaf 134 Dl) (.leaf 135 DQ)) (.node 137 (.leaf 136 ox) (.leaf 137 tJ)))
def KR:bL:=.node 141 (.node 139 (.leaf 138 lE) (.node 140 (.leaf 139 DT) (.leaf 140 DS))) (.node 143 (.node 142 (.leaf 141 DU) (.leaf 142 DV)) (.node 144 (.leaf 143 tF) (.leaf 144 tH)))
def KS:bL:=.node 148 (.node 146 (.leaf 145 DX) (.node 147 (.leaf 146 Dy) (.leaf 147 D3))) (.node 149 (.leaf 148 Dn) (.node 150 (.leaf 149 Dt) (.leaf 150 Dm)))
def KT:bL:=.node 154 (.node 152 (.leaf 151 DR) (.node 153 (.leaf 152 Dz) (.leaf 153 DL))) (.node 156 (.node 155 (.leaf 154 DZ) (.leaf 155 D0)) (.node 157 (.leaf 156 tD) (.leaf 157 tI)))
def KU:bL:=.node 161 (.node 159 (.leaf 158 D1) (.node 160 (.leaf 159 DY) (.leaf 160 D5))) (.node 163 (.node 162 (.leaf 161 Ds) (.leaf 162 CY)) (.node 164 (.leaf 163 DI) (.leaf 164 DJ)))
def KW:bL:=.node 168 (.node 166 (.leaf 165 DK) (.node 167 (.leaf 166 DE) (.leaf 167 DF))) (.node 170 (.node 169 (.leaf 168 jQ) (.leaf 169 DG)) (.node 174 (.leaf 170 DH) (.leaf 174 BZ)))
def KX:bL:=.node 178 (.node 176 (.leaf 175 XM) (.node 177 (.leaf 176 s7) (.leaf 177 BX))) (.node 179 (.leaf 178 BQ) (.node 180 (.leaf 179 B2) (.leaf 180 XO)))
def KY:bL:=.node 184 (.node 182 (.leaf 181 XP) (.node 183 (.leaf 182 CK) (.leaf 183 CL))) (.node 186 (.node 185 (.leaf 184 CJ) (.leaf 185 Ea)) (.node 187 (.leaf 186 Ec) (.leaf 187 D7)))
def KZ:bL:=.node 191 (.node 189 (.leaf 188 D6) (.node 190 (.leaf 189 El) (.leaf 190 Em))) (.node 193 (.node 192 (.leaf 191 CN) (.leaf 192 CP)) (.node 194 (.leaf 193 CS) (.leaf 194 D8)))
def K0:bL:=.node 201 (.node 199 (.leaf 198 BM) (.node 200 (.leaf 199 CU) (.leaf 200 Dc))) (.node 203 (.node 202 (.leaf 201 Dd) (.leaf 202 lD)) (.node 204 (.leaf 203 tG) (.leaf 204 DA)))
def K1:bL:=.node 208 (.node 206 (.leaf 205 DM) (.node 207 (.leaf 206 Dp) (.leaf 207 tE))) (.node 209 (.leaf 208 DB) (.node 210 (.leaf 209 DN) (.leaf 210 Dq)))
def K3:bL:=.node 214 (.node 212 (.leaf 211 Df) (.node 213 (.leaf 212 Dg) (.leaf 213 Dh))) (.node 216 (.node 215 (.leaf 214 De) (.leaf 215 DC)) (.node 217 (.leaf 216 DP) (.leaf 217 Dr)))
def K4:bL:=.node 230 (.node 219 (.leaf 218 Di) (.node 220 (.leaf 219 Ew) (.leaf 220 lF))) (.node 232 (.node 231 (.leaf 230 BW) (.leaf 231 Ee)) (.node 233 (.leaf 232 CQ) (.leaf 233 CR)))
def K5:bL:=.node 241 (.node 239 (.leaf 235 XQ) (.node 240 (.leaf 239 Dj) (.leaf 240 Et))) (.node 251 (.node 250 (.leaf 241 Er) (.leaf 250 BV)) (.node 252 (.leaf 251 CM) (.leaf 252 CO)))
def tree:bL:=.node 118 (.node 57 (.node 29 (.node 16 (.node 9 zt0 zt1) (.node 22 zt2 zt3)) (.node 42 (.node 35 zt4 zt5) (.node 50 zt6 zt7))) (.node 84 (.node 70 (.node 63 zt8 zt9) (.node 77 KI KJ)) (.node 101 (.node 90 KK KL) (.node 108 KM KN)))) (.node 175 (.node 145 (.node 131 (.node 124 KO KP) (.node 138 KQ KR)) (.node 158 (.node 151 KS KT) (.node 165 KU KW))) (.node 205 (.node 188 (.node 181 KX KY) (.node 198 KZ K0)) (.node 218 (.node 211 K1 K3) (.node 235 K4 K5))))
end Go.Z
end
