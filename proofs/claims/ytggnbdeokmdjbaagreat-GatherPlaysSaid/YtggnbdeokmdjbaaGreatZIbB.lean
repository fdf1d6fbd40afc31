/-
  Parts of the proof, merged: what the statement leans on.
-/
import Derived.Test.YtggnbdeokmdjbaaGreatProg
import Derived.KernelRfl
import Derived.Test.YtggnbdeokmdjbaaGreatZIbA
set_option linter.unusedVariables false
set_option linter.unusedSimpArgs false

namespace Go.Proofs.YtggnbdeokmdjbaaGreat
open Go
set_option maxRecDepth 100000
def c4 : Fu := ⟨352, [.t 4], (.sq (.rg [kG 4 (.mv (.c (.bool false)))]) (.sq (.rg [kG 22 (.ca 15 []),
  kM 5 22]) (.sq (.sq (.rg [kM 23 5,
  kG 24 (.nt (.t 23))]) (.cd (.t 24) (.sq (.rg [kG 4 (.mv (.c (.bool false)))]) .rt) .sk)) (.sq (.sq (.rg [kM 25 1,
  kG 26 (.len (.t 25)),
  kG 27 (.ib .gtr (.t 26) (.c (.int .i64 150)))]) (.cd (.t 27) (.sq (.rg [kM 28 5,
  kM 4 28]) .rt) .sk)) (.sq (.rg [kM 29 0,
  kG 30 (.ca 7 [.t 29]),
  kG 31 (.ca 16 [.t 30]),
  kM 6 31]) (.sq (.sq (.rg [kM 32 6,
  kG 33 (.en 0 false (.t 32) (.c (.pointer none)))]) (.cd (.t 33) (.sq (.rg [kG 4 (.mv (.c (.bool false)))]) .rt) .sk)) (.sq (.rg [kM 34 6,
  kN 35 34,
  kF 36 35 0,
  kF 37 36 0,
  kL 38 37,
  kM 7 38]) (.sq (.rg [kG 8 (.al 66 [(.pointer none), (.pointer none), (.pointer none), (.pointer none)])]) (.sq (.rg [kG 9 (.al 68 [(.pointer none), (.pointer none), (.pointer none), (.pointer none)])]) (.sq (.sq (.rg [kG 10 (.mv (.c (.int .i64 0)))]) (.bl 0 (.lp (.sq (.sq (.rg [kM 39 10,
  kM 40 1,
  kG 41 (.len (.t 40)),
  kG 42 (.ib .lss (.t 39) (.t 41))]) (.cd (.t 42) .sk (.ex 0))) (.sq (.bl 1 (.sq (.rd [⟨0, 0, [1], kM 45 1⟩, ⟨1, 0, [10], kM 46 10⟩, ⟨2, 3, [45, 46], kG 47 (.ia (.t 45) (.t 46) 1)⟩, ⟨3, 7, [47], kL 48 47⟩, ⟨4, 0, [7], kM 49 7⟩, ⟨5, 31, [48, 49], kG 50 (.ca 10 [.t 48, .t 49])⟩, ⟨6, 0, [1], kM 51 1⟩, ⟨7, 0, [10], kM 52 10⟩, ⟨8, 192, [51, 52], kG 53 (.ia (.t 51) (.t 52) 1)⟩, ⟨9, 448, [53], kL 54 53⟩, ⟨10, 960, [54], kG 55 (.ib .quo (.t 54) (.c (.int .i64 4)))⟩, ⟨11, 2047, [55], kG 56 (.ca 10 [.t 55, (.c (.int .i64 60))])⟩, ⟨12, 4095, [50], kM 11 50⟩, ⟨13, 8191, [56], kM 12 56⟩]) (.sq (.bl 2 (.sq (.rg [kM 86 11,
  kG 87 (.iaa (.t 8) (.t 86) 4 1),
  kL 88 87,
  kG 89 (.en 0 true (.t 88) (.c (.pointer none))),
  kM 85 89]) (.cd (.t 85) (.sq (.rd [⟨0, 0, [11], kM 90 11⟩, ⟨1, 1, [8, 90], kG 91 (.iaa (.t 8) (.t 90) 4 1)⟩, ⟨2, 3, [91], kL 92 91⟩, ⟨3, 0, [11], kM 93 11⟩, ⟨4, 8, [9, 93], kG 94 (.iaa (.t 9) (.t 93) 4 1)⟩, ⟨5, 24, [94], kL 95 94⟩, ⟨6, 7, [92], kM 13 92⟩, ⟨7, 127, [95], kM 14 95⟩]) (.sq (.sq (.rd [⟨0, 0, [13], kM 96 13⟩, ⟨1, 1, [96], kG 97 (.ca 17 [.t 96])⟩, ⟨2, 0, [14], kM 98 14⟩, ⟨3, 7, [98], kG 99 (.ca 18 [.t 98])⟩, ⟨4, 15, [97, 99], kG 100 (.bb true (.t 97) (.t 99))⟩, ⟨5, 31, [100], kM 101 100⟩, ⟨6, 63, [13, 101], kH 102 101 false (.mv (.t 13))⟩, ⟨7, 127, [102, 101], kH 103 101 false (.ca 19 [.t 102])⟩, ⟨8, 63, [14, 101], kH 104 101 false (.mv (.t 14))⟩, ⟨9, 319, [104, 101], kH 105 101 false (.nc (.t 104))⟩, ⟨10, 831, [105, 101], kH 106 101 false (.fa (.t 105) 5)⟩, ⟨11, 1855, [106, 101], kH 107 101 false (.ld (.t 106) 1 false)⟩, ⟨12, 4095, [103, 107, 101], kH 108 101 false (.bb true (.t 103) (.t 107))⟩, ⟨13, 8191, [101, 108], kG 109 (.pk (.t 101) (.c (.bool true)) (.t 108))⟩, ⟨14, 16383, [109], kM 110 109⟩, ⟨15, 32767, [13, 110], kH 111 110 false (.mv (.t 13))⟩, ⟨16, 65535, [111, 110], kH 112 110 false (.ca 20 [.t 111])⟩, ⟨17, 32767, [14, 110], kH 113 110 false (.mv (.t 14))⟩, ⟨18, 163839, [113, 110], kH 114 110 false (.nc (.t 113))⟩, ⟨19, 425983, [114, 110], kH 115 110 false (.fa (.t 114) 4)⟩, ⟨20, 950271, [115, 110], kH 116 110 false (.ld (.t 115) 1 false)⟩, ⟨21, 2097151, [112, 116, 110], kH 117 110 false (.bb true (.t 112) (.t 116))⟩, ⟨22, 4194303, [110, 117], kG 118 (.pk (.t 110) (.c (.bool true)) (.t 117))⟩, ⟨23, 8388607, [118], kM 119 118⟩, ⟨24, 16777215, [13, 119], kH 120 119 false (.mv (.t 13))⟩, ⟨25, 33554431, [120, 119], kH 121 119 false (.ca 21 [.t 120])⟩, ⟨26, 16777215, [14, 119], kH 122 119 false (.mv (.t 14))⟩, ⟨27, 134217727, [122, 119], kH 123 119 false (.ca 22 [.t 122])⟩, ⟨28, 268435455, [121, 123, 119], kH 124 119 false (.ca 12 [.t 121, .t 123])⟩, ⟨29, 536870911, [124, 119], kH 125 119 false (.nt (.t 124))⟩, ⟨30, 1073741823, [119, 125], kG 126 (.pk (.t 119) (.c (.bool true)) (.t 125))⟩])
 (.cd (.t 126) (.sq (.rg [kG 4 (.mv (.c (.bool false)))]) .rt) .sk)) (.sq (.rg [kM 127 14,
  kN 128 127,
  kF 129 128 5,
  kL 130 129]) (.cd (.t 130) (.rg [kM 131 11,
  kG 132 (.iaa (.t 8) (.t 131) 4 1),
  kS (.st (.t 132) (.c (.pointer none)) 1)]) .sk)))) (.sq (.rg [kM 134 12,
  kG 135 (.ib .rem (.t 134) (.c (.int .i64 6))),
  kG 136 (.ib .lss (.t 135) (.c (.int .i64 2))),
  kM 133 136]) (.cd (.t 133) (.sq (.rd [⟨0, 0, [11], kM 137 11⟩, ⟨1, 0, [11], kM 138 11⟩, ⟨2, 0, [6], kM 139 6⟩, ⟨3, 4, [139], kN 140 139⟩, ⟨4, 12, [140], kF 141 140 8⟩, ⟨5, 28, [141], kL 142 141⟩, ⟨6, 0, [6], kM 143 6⟩, ⟨7, 64, [143], kN 144 143⟩, ⟨8, 192, [144], kF 145 144 10⟩, ⟨9, 448, [145], kL 146 145⟩, ⟨10, 0, [11], kM 147 11⟩, ⟨11, 1984, [146, 147], kG 148 (.ia (.t 146) (.t 147) 1)⟩, ⟨12, 4032, [148], kL 149 148⟩, ⟨13, 8188, [142, 149], kG 150 (.ca 23 [.t 142, .t 149])⟩, ⟨14, 0, [6], kM 151 6⟩, ⟨15, 16384, [151], kN 152 151⟩, ⟨16, 49152, [152], kF 153 152 12⟩, ⟨17, 114688, [153], kL 154 153⟩, ⟨18, 0, [11], kM 155 11⟩, ⟨19, 507904, [154, 155], kG 156 (.ia (.t 154) (.t 155) 1)⟩, ⟨20, 1032192, [156], kL 157 156⟩, ⟨21, 2097148, [157], kG 158 (.ca 24 [.t 157])⟩, ⟨22, 16381, [8, 137], kG 159 (.iaa (.t 8) (.t 137) 4 1)⟩, ⟨23, 8388605, [159, 150], kS (.st (.t 159) (.t 150) 1)⟩, ⟨24, 16777215, [9, 138], kG 160 (.iaa (.t 9) (.t 138) 4 1)⟩, ⟨25, 33554431, [160, 158], kS (.st (.t 160) (.t 158) 1)⟩]) (.sq (.rg [kM 161 11,
  kG 162 (.iaa (.t 8) (.t 161) 4 1),
  kL 163 162,
  kG 164 (.en 0 false (.t 163) (.c (.pointer none))),
  kM 165 164,
  kH 166 165 false (.mv (.t 11)),
  kH 167 165 false (.iaa (.t 8) (.t 166) 4 1),
  kH 168 165 false (.ld (.t 167) 1 false),
  kH 169 165 false (.ca 19 [.t 168]),
  kG 170 (.pk (.t 165) (.c (.bool true)) (.t 169))]) (.cd (.t 170) (.sq (.rg [kG 4 (.mv (.c (.bool false)))]) .rt) .sk))) (.sq (.rg [kM 172 12,
  kG 173 (.ib .rem (.t 172) (.c (.int .i64 6))),
  kG 174 (.ib .lss (.t 173) (.c (.int .i64 4))),
  kM 175 174,
  kH 176 175 true (.mv (.t 6)),
  kH 177 175 true (.nc (.t 176)),
  kH 178 175 true (.fa (.t 177) 11),
  kH 179 175 true (.ld (.t 178) 1 false),
  kH 180 175 true (.nc (.t 179)),
  kH 181 175 true (.fa (.t 180) 7),
  kH 182 175 true (.ld (.t 181) 1 false),
  kH 183 175 true (.ca 14 [.t 182]),
  kH 184 175 true (.len (.t 183)),
  kH 185 175 true (.ib .gtr (.t 184) (.c (.int .i64 0))),
  kG 186 (.pk (.t 175) (.t 185) (.c (.bool false))),
  kM 171 186]) (.cd (.t 171) (.sq (.rg [kM 188 6,
  kM 189 11,
  kG 190 (.ca 25 [.t 188, .t 189]),
  kM 187 190,
  kG 191 (.ex (.t 187) 0),
  kG 192 (.ex (.t 187) 1),
  kM 15 191,
  kM 16 192]) (.sq (.rg [kM 193 6,
  kN 194 193,
  kF 195 194 11,
  kL 196 195,
  kN 197 196,
  kF 198 197 9,
  kL 199 198,
  kG 200 (.ca 26 [.t 199]),
  kM 201 12,
  kG 202 (.ib .quo (.t 201) (.c (.int .i64 6))),
  kG 203 (.ib .rem (.t 202) (.c (.int .i64 2))),
  kG 204 (.ib .sub (.t 200) (.t 203)),
  kM 17 204]) (.sq (.sq (.rd [⟨0, 0, [16], kM 205 16⟩, ⟨1, 1, [205], kG 206 (.nt (.t 205))⟩, ⟨2, 3, [206], kM 207 206⟩, ⟨3, 7, [6, 207], kH 208 207 false (.mv (.t 6))⟩, ⟨4, 15, [208, 207], kH 209 207 false (.nc (.t 208))⟩, ⟨5, 31, [209, 207], kH 210 207 false (.fa (.t 209) 10)⟩, ⟨6, 63, [210, 207], kH 211 207 false (.ld (.t 210) 1 false)⟩, ⟨7, 7, [11, 207], kH 212 207 false (.mv (.t 11))⟩, ⟨8, 255, [211, 212, 207], kH 213 207 false (.ia (.t 211) (.t 212) 1)⟩, ⟨9, 511, [213, 207], kH 214 207 false (.ld (.t 213) 1 false)⟩, ⟨10, 7, [17, 207], kH 215 207 false (.mv (.t 17))⟩, ⟨11, 7, [15, 207], kH 216 207 false (.mv (.t 15))⟩, ⟨12, 2055, [216, 207], kH 217 207 false (.bs 3 1 [.int .i64 0] [(0, 1, (.t 216))])⟩, ⟨13, 8191, [214, 215, 217, 207], kH 218 207 false (.ca 27 [.t 214, .t 215, .t 217])⟩, ⟨14, 16383, [218, 207], kH 219 207 false (.ib .eql (.t 218) (.c (.int .i64 0)))⟩, ⟨15, 7, [6, 207], kH 220 207 false (.mv (.t 6))⟩, ⟨16, 32775, [220, 207], kH 221 207 false (.nc (.t 220))⟩, ⟨17, 98311, [221, 207], kH 222 207 false (.fa (.t 221) 12)⟩, ⟨18, 229383, [222, 207], kH 223 207 false (.ld (.t 222) 1 false)⟩, ⟨19, 7, [11, 207], kH 224 207 false (.mv (.t 11))⟩, ⟨20, 1015815, [223, 224, 207], kH 225 207 false (.ia (.t 223) (.t 224) 1)⟩, ⟨21, 2064391, [225, 207], kH 226 207 false (.ld (.t 225) 1 false)⟩, ⟨22, 7, [17, 207], kH 227 207 false (.mv (.t 17))⟩, ⟨23, 7, [15, 207], kH 228 207 false (.mv (.t 15))⟩, ⟨24, 8388615, [228, 207], kH 229 207 false (.bs 3 1 [.int .i64 0] [(0, 1, (.t 228))])⟩, ⟨25, 33538047, [226, 227, 229, 207], kH 230 207 false (.ca 28 [.t 226, .t 227, .t 229])⟩, ⟨26, 67108863, [219, 230, 207], kH 231 207 false (.bb true (.t 219) (.t 230))⟩, ⟨27, 134217727, [207, 231], kG 232 (.pk (.t 207) (.c (.bool true)) (.t 231))⟩]) (.cd (.t 232) (.sq (.rg [kG 4 (.mv (.c (.bool false)))]) .rt) .sk)) (.sq (.rg [kM 234 6,
  kN 235 234,
  kF 236 235 12,
  kL 237 236,
  kM 238 11,
  kG 239 (.ia (.t 237) (.t 238) 1),
  kL 240 239,
  kN 241 240,
  kF 242 241 2,
  kL 243 242,
  kM 244 17,
  kG 245 (.ib .add (.t 244) (.c (.int .i64 3))),
  kG 246 (.ib .rem (.t 245) (.c (.int .i64 3))),
  kG 247 (.ca 29 [.t 243, .t 246]),
  kM 233 247,
  kG 248 (.ex (.t 233) 0),
  kG 249 (.ex (.t 233) 1),
  kM 18 248,
  kM 19 249]) (.sq (.rg [kM 250 19,
  kG 251 (.len (.t 250)),
  kG 252 (.ib .eql (.t 251) (.c (.int .i64 0))),
  kM 253 252,
  kH 254 253 false (.mv (.t 19)),
  kH 255 253 false (.mv (.t 19)),
  kH 256 253 false (.len (.t 255)),
  kH 257 253 false (.ib .sub (.t 256) (.c (.int .i64 1))),
  kH 258 253 false (.ia (.t 254) (.t 257) 1),
  kH 259 253 false (.ld (.t 258) 1 false),
  kH 260 253 false (.mv (.t 15)),
  kH 261 253 false (.ib .neq (.t 259) (.t 260)),
  kG 262 (.pk (.t 253) (.c (.bool true)) (.t 261))]) (.cd (.t 262) (.sq (.rg [kM 263 6,
  kN 264 263,
  kF 265 264 10,
  kL 266 265,
  kM 267 11,
  kG 268 (.ia (.t 266) (.t 267) 1),
  kL 269 268,
  kM 270 15,
  kG 271 (.bs 3 1 [.int .i64 0] [(0, 1, (.t 270))]),
  kG 272 (.ca 30 [.t 269, .t 271])]) (.rg [kM 273 6,
  kN 274 273,
  kF 275 274 12,
  kL 276 275,
  kM 277 11,
  kG 278 (.ia (.t 276) (.t 277) 1),
  kL 279 278,
  kN 280 279,
  kF 281 280 1,
  kL 282 281,
  kM 283 15,
  kG 284 (.bs 3 1 [.int .i64 0] [(0, 1, (.t 283))]),
  kG 285 (.ca 31 [.t 282, .t 284])])) .sk)))))) (.sq (.rg [kM 287 12,
  kG 288 (.ib .rem (.t 287) (.c (.int .i64 6))),
  kG 289 (.ib .eql (.t 288) (.c (.int .i64 4))),
  kM 286 289]) (.cd (.t 286) (.sq (.rg [kM 291 6,
  kN 292 291,
  kF 293 292 11,
  kL 294 293,
  kN 295 294,
  kF 296 295 9,
  kL 297 296,
  kG 298 (.ca 26 [.t 297]),
  kG 299 (.ca 32 [.t 298]),
  kM 290 299,
  kG 300 (.ex (.t 290) 0),
  kG 301 (.ex (.t 290) 1),
  kM 20 300,
  kM 21 301]) (.sq (.rd [⟨0, 0, [6], kM 302 6⟩, ⟨1, 1, [302], kN 303 302⟩, ⟨2, 3, [303], kF 304 303 11⟩, ⟨3, 7, [304], kL 305 304⟩, ⟨4, 15, [305], kN 306 305⟩, ⟨5, 31, [306], kF 307 306 6⟩, ⟨6, 63, [307], kL 308 307⟩, ⟨7, 127, [308], kN 309 308⟩, ⟨8, 255, [309], kF 310 309 0⟩, ⟨9, 511, [310], kL 311 310⟩, ⟨10, 0, [6], kM 312 6⟩, ⟨11, 1024, [312], kN 313 312⟩, ⟨12, 3072, [313], kF 314 313 0⟩, ⟨13, 7168, [314], kG 315 (.ld (.t 314) 6 true)⟩, ⟨14, 0, [11], kM 316 11⟩, ⟨15, 31744, [315, 316], kG 317 (.ca 33 [.t 315, .t 316])⟩, ⟨16, 0, [20], kM 318 20⟩, ⟨17, 131071, [311, 317], kG 319 (.ia (.t 311) (.t 317) 1)⟩, ⟨18, 262143, [319, 318], kS (.st (.t 319) (.t 318) 1)⟩]) (.rd [⟨0, 0, [6], kM 320 6⟩, ⟨1, 1, [320], kN 321 320⟩, ⟨2, 3, [321], kF 322 321 6⟩, ⟨3, 7, [322], kL 323 322⟩, ⟨4, 0, [6], kM 324 6⟩, ⟨5, 16, [324], kN 325 324⟩, ⟨6, 48, [325], kF 326 325 0⟩, ⟨7, 112, [326], kG 327 (.ld (.t 326) 6 true)⟩, ⟨8, 0, [11], kM 328 11⟩, ⟨9, 496, [327, 328], kG 329 (.ca 35 [.t 327, .t 328])⟩, ⟨10, 0, [20], kM 330 20⟩, ⟨11, 2047, [323, 329, 330], kG 331 (.ca 34 [.t 323, .t 329, .t 330])⟩]))) (.sq (.rd [⟨0, 0, [6], kM 57 6⟩, ⟨1, 1, [57], kN 58 57⟩, ⟨2, 3, [58], kF 59 58 11⟩, ⟨3, 7, [59], kL 60 59⟩, ⟨4, 15, [60], kN 61 60⟩, ⟨5, 31, [61], kF 62 61 6⟩, ⟨6, 63, [62], kL 63 62⟩, ⟨7, 127, [63], kN 64 63⟩, ⟨8, 255, [64], kF 65 64 0⟩, ⟨9, 511, [65], kL 66 65⟩, ⟨10, 0, [6], kM 67 6⟩, ⟨11, 1024, [67], kN 68 67⟩, ⟨12, 3072, [68], kF 69 68 0⟩, ⟨13, 7168, [69], kG 70 (.ld (.t 69) 6 true)⟩, ⟨14, 0, [11], kM 71 11⟩, ⟨15, 31744, [70, 71], kG 72 (.ca 33 [.t 70, .t 71])⟩, ⟨16, 65535, [66, 72], kG 73 (.ia (.t 66) (.t 72) 1)⟩, ⟨17, 131071, [73], kS (.st (.t 73) (.c (.int .u64 0)) 1)⟩]) (.rd [⟨0, 0, [6], kM 74 6⟩, ⟨1, 1, [74], kN 75 74⟩, ⟨2, 3, [75], kF 76 75 6⟩, ⟨3, 7, [76], kL 77 76⟩, ⟨4, 0, [6], kM 78 6⟩, ⟨5, 16, [78], kN 79 78⟩, ⟨6, 48, [79], kF 80 79 0⟩, ⟨7, 112, [80], kG 81 (.ld (.t 80) 6 true)⟩, ⟨8, 0, [11], kM 82 11⟩, ⟨9, 496, [81, 82], kG 83 (.ca 35 [.t 81, .t 82])⟩, ⟨10, 1023, [77, 83], kG 84 (.ca 34 [.t 77, .t 83, (.c (.int .u64 0))])⟩])))))))))))
 (.sq (.rg [kM 332 6,
  kG 333 (.ca 36 [.t 332]),
  kG 334 (.nt (.t 333))]) (.cd (.t 334) (.sq (.rg [kG 4 (.mv (.c (.bool false)))]) .rt) .sk))))) (.rg [kM 43 10,
  kG 44 (.ib .add (.t 43) (.c (.int .i64 1))),
  kM 10 44])))))) (.sq (.rd [⟨0, 0, [5], kM 335 5⟩, ⟨1, 1, [335], kM 336 335⟩, ⟨2, 3, [6, 336], kH 337 336 true (.mv (.t 6))⟩, ⟨3, 7, [337, 336], kH 338 336 true (.nc (.t 337))⟩, ⟨4, 15, [338, 336], kH 339 336 true (.fa (.t 338) 9)⟩, ⟨5, 31, [339, 336], kH 340 336 true (.ld (.t 339) 1 false)⟩, ⟨6, 63, [340, 336], kH 341 336 true (.ca 13 [.t 340])⟩, ⟨7, 3, [6, 336], kH 342 336 true (.mv (.t 6))⟩, ⟨8, 131, [342, 336], kH 343 336 true (.nc (.t 342))⟩, ⟨9, 387, [343, 336], kH 344 336 true (.fa (.t 343) 11)⟩, ⟨10, 899, [344, 336], kH 345 336 true (.ld (.t 344) 1 false)⟩, ⟨11, 1923, [345, 336], kH 346 336 true (.nc (.t 345))⟩, ⟨12, 3971, [346, 336], kH 347 336 true (.fa (.t 346) 7)⟩, ⟨13, 8067, [347, 336], kH 348 336 true (.ld (.t 347) 1 false)⟩, ⟨14, 16383, [348, 336], kH 349 336 true (.ca 14 [.t 348])⟩, ⟨15, 32767, [341, 349, 336], kH 350 336 true (.ca 12 [.t 341, .t 349])⟩, ⟨16, 65535, [336, 350], kG 351 (.pk (.t 336) (.t 350) (.c (.bool false)))⟩, ⟨17, 131071, [351], kM 4 351⟩]) .rt)))))))))))⟩
theorem k4 : cF Tryz.prog Tryz.f4 = some c4 := by kernel_rfl
def c7 : Fu := ⟨43, [.c 2 6 true], (.sq (.rg [kG 2 (.al 25 [.int .i64 0, .int .i64 0, .int .i64 0, .int .i64 0, .int .i64 0, .int .i64 0])]) (.sq (.rg [kM 4 0,
  kG 5 (.ca 10 [.t 4, (.c (.int .i64 4))]),
  kM 6 0,
  kG 7 (.ib .quo (.t 6) (.c (.int .i64 4))),
  kG 8 (.ca 10 [.t 7, (.c (.int .i64 8))]),
  kM 9 0,
  kG 10 (.ib .quo (.t 9) (.c (.int .i64 32))),
  kG 11 (.ca 10 [.t 10, (.c (.int .i64 2))]),
  kM 12 0,
  kG 13 (.ib .quo (.t 12) (.c (.int .i64 64))),
  kG 14 (.ca 10 [.t 13, (.c (.int .i64 4))]),
  kM 15 0,
  kG 16 (.ib .quo (.t 15) (.c (.int .i64 256))),
  kG 17 (.ca 10 [.t 16, (.c (.int .i64 4))]),
  kM 18 0,
  kG 19 (.ib .quo (.t 18) (.c (.int .i64 1024))),
  kG 20 (.ca 10 [.t 19, (.c (.int .i64 3))]),
  kG 21 (.bs 3 6 [.int .i64 0, .int .i64 0, .int .i64 0, .int .i64 0, .int .i64 0, .int .i64 0] [(0, 1, (.t 5)), (1, 1, (.t 8)), (2, 1, (.t 11)), (3, 1, (.t 14)), (4, 1, (.t 17)), (5, 1, (.t 20))]),
  kG 22 (.bd [(.slice none 0 0), .int .i64 0] [(0, 1, (.t 21))]),
  kG 23 (.bx 127 (.t 22)),
  kM 3 23]) (.sq (.rg [kM 24 3,
  kG 25 (.ca 61 [.t 24, (.c (.int .i64 4))]),
  kG 26 (.ib .add (.c (.int .i64 1)) (.t 25)),
  kM 27 3,
  kG 28 (.ca 61 [.t 27, (.c (.int .i64 8))]),
  kG 29 (.ib .add (.c (.int .i64 1)) (.t 28)),
  kM 30 3,
  kG 31 (.ca 61 [.t 30, (.c (.int .i64 2))]),
  kG 32 (.ib .mul (.c (.int .i64 8)) (.t 31)),
  kG 33 (.ib .add (.c (.int .i64 8)) (.t 32)),
  kM 34 3,
  kG 35 (.ca 61 [.t 34, (.c (.int .i64 4))]),
  kG 36 (.ib .add (.c (.int .i64 1)) (.t 35)),
  kM 37 3,
  kG 38 (.ca 61 [.t 37, (.c (.int .i64 4))]),
  kM 39 3,
  kG 40 (.ca 61 [.t 39, (.c (.int .i64 3))]),
  kG 41 (.ib .add (.c (.int .i64 1)) (.t 40)),
  kG 42 (.bd [.int .i64 0, .int .i64 0, .int .i64 0, .int .i64 0, .int .i64 0, .int .i64 0] [(0, 1, (.t 26)), (1, 1, (.t 29)), (2, 1, (.t 33)), (3, 1, (.t 36)), (4, 1, (.t 38)), (5, 1, (.t 41))]),
  kS (.st (.t 2) (.t 42) 6)]) .rt)))⟩
theorem k7 : cF Tryz.prog Tryz.f7 = some c7 := by kernel_rfl
def c10 : Fu := ⟨15, [.t 4], (.sq (.rg [kG 4 (.mv (.c (.int .i64 0)))]) (.sq (.rg [kM 6 0,
  kM 7 1,
  kG 8 (.ib .rem (.t 6) (.t 7)),
  kM 5 8]) (.sq (.sq (.rg [kM 9 5,
  kG 10 (.ib .lss (.t 9) (.c (.int .i64 0)))]) (.cd (.t 10) (.rg [kM 11 5,
  kM 12 1,
  kG 13 (.ib .add (.t 11) (.t 12)),
  kM 5 13]) .sk)) (.sq (.rg [kM 14 5,
  kM 4 14]) .rt))))⟩
theorem k10 : cF Tryz.prog Tryz.f10 = some c10 := by kernel_rfl
def c12 : Fu := ⟨26, [.t 4], (.sq (.rg [kG 4 (.mv (.c (.bool false)))]) (.sq (.sq (.rg [kM 6 0,
  kG 7 (.len (.t 6)),
  kM 8 1,
  kG 9 (.len (.t 8)),
  kG 10 (.ib .neq (.t 7) (.t 9))]) (.cd (.t 10) (.sq (.rg [kG 4 (.mv (.c (.bool false)))]) .rt) .sk)) (.sq (.sq (.rg [kG 5 (.mv (.c (.int .i64 0)))]) (.bl 0 (.lp (.sq (.sq (.rg [kM 11 5,
  kM 12 0,
  kG 13 (.len (.t 12)),
  kG 14 (.ib .lss (.t 11) (.t 13))]) (.cd (.t 14) .sk (.ex 0))) (.sq (.bl 1 (.sq (.rd [⟨0, 0, [0], kM 17 0⟩, ⟨1, 0, [5], kM 18 5⟩, ⟨2, 3, [17, 18], kG 19 (.ia (.t 17) (.t 18) 1)⟩, ⟨3, 7, [19], kL 20 19⟩, ⟨4, 0, [1], kM 21 1⟩, ⟨5, 0, [5], kM 22 5⟩, ⟨6, 48, [21, 22], kG 23 (.ia (.t 21) (.t 22) 1)⟩, ⟨7, 112, [23], kL 24 23⟩, ⟨8, 255, [20, 24], kG 25 (.ib .neq (.t 20) (.t 24))⟩]) (.cd (.t 25) (.sq (.rg [kG 4 (.mv (.c (.bool false)))]) .rt) .sk))) (.rg [kM 15 5,
  kG 16 (.ib .add (.t 15) (.c (.int .i64 1))),
  kM 5 16])))))) (.sq (.rg [kG 4 (.mv (.c (.bool true)))]) .rt))))⟩
theorem k12 : cF Tryz.prog Tryz.f12 = some c12 := by kernel_rfl
def c13 : Fu := ⟨45, [.t 2], (.sq (.rg [kG 2 (.mv (.c (.slice none 0 0)))]) (.sq (.rg [kG 3 (.mv (.c (.slice none 0 0)))]) (.sq (.sq (.rd [⟨0, 0, [0], kM 5 0⟩, ⟨1, 0, [0], kM 6 0⟩, ⟨2, 2, [6], kN 7 6⟩, ⟨3, 6, [7], kF 8 7 0⟩, ⟨4, 14, [8], kL 9 8⟩, ⟨5, 0, [0], kM 10 0⟩, ⟨6, 32, [10], kN 11 10⟩, ⟨7, 96, [11], kF 12 11 1⟩, ⟨8, 224, [12], kL 13 12⟩, ⟨9, 510, [9, 13], kG 14 (.ca 81 [.t 9, .t 13])⟩, ⟨10, 1023, [5, 14], kG 15 (.ca 84 [.t 5, .t 14])⟩, ⟨11, 2047, [15], kM 4 15⟩]) (.bl 0 (.lp (.sq (.sq (.rg [kM 16 4,
  kG 17 (.ib .geq (.t 16) (.c (.int .i64 0))),
  kM 18 17,
  kH 19 18 true (.mv (.t 3)),
  kH 20 18 true (.len (.t 19)),
  kH 21 18 true (.mv (.t 0)),
  kH 22 18 true (.nc (.t 21)),
  kH 23 18 true (.fa (.t 22) 3),
  kH 24 18 true (.ld (.t 23) 1 false),
  kH 25 18 true (.ib .lss (.t 20) (.t 24)),
  kG 26 (.pk (.t 18) (.t 25) (.c (.bool false)))]) (.cd (.t 26) .sk (.ex 0))) (.sq (.bl 1 (.rg [kM 40 3,
  kM 41 4,
  kG 42 (.bs 3 1 [.int .i64 0] [(0, 1, (.t 41))]),
  kG 43 (.ap 22 3 1 8 [.int .i64 0] (.t 40) (.t 42)),
  kM 3 43])) (.rd [⟨0, 0, [0], kM 27 0⟩, ⟨1, 0, [0], kM 28 0⟩, ⟨2, 2, [28], kN 29 28⟩, ⟨3, 6, [29], kF 30 29 0⟩, ⟨4, 14, [30], kL 31 30⟩, ⟨5, 0, [0], kM 32 0⟩, ⟨6, 32, [32], kN 33 32⟩, ⟨7, 96, [33], kF 34 33 2⟩, ⟨8, 224, [34], kL 35 34⟩, ⟨9, 0, [4], kM 36 4⟩, ⟨10, 992, [35, 36], kG 37 (.ib .add (.t 35) (.t 36))⟩, ⟨11, 2046, [31, 37], kG 38 (.ca 81 [.t 31, .t 37])⟩, ⟨12, 4095, [27, 38], kG 39 (.ca 85 [.t 27, .t 38])⟩, ⟨13, 8191, [39], kM 4 39⟩])))))) (.sq (.rg [kM 44 3,
  kM 2 44]) .rt))))⟩
theorem k13 : cF Tryz.prog Tryz.f13 = some c13 := by kernel_rfl
def c14 : Fu := ⟨53, [.t 2], (.sq (.rg [kG 2 (.mv (.c (.slice none 0 0)))]) (.sq (.rg [kG 3 (.mv (.c (.slice none 0 0)))]) (.sq (.sq (.rd [⟨0, 0, [0], kM 5 0⟩, ⟨1, 0, [0], kM 6 0⟩, ⟨2, 2, [6], kN 7 6⟩, ⟨3, 6, [7], kF 8 7 0⟩, ⟨4, 14, [8], kL 9 8⟩, ⟨5, 30, [9], kN 10 9⟩, ⟨6, 62, [10], kF 11 10 0⟩, ⟨7, 126, [11], kL 12 11⟩, ⟨8, 0, [0], kM 13 0⟩, ⟨9, 256, [13], kN 14 13⟩, ⟨10, 768, [14], kF 15 14 1⟩, ⟨11, 1792, [15], kL 16 15⟩, ⟨12, 4094, [12, 16], kG 17 (.ia (.t 12) (.t 16) 1)⟩, ⟨13, 8190, [17], kL 18 17⟩, ⟨14, 16383, [5, 18], kG 19 (.ca 86 [.t 5, .t 18])⟩, ⟨15, 32767, [19], kM 4 19⟩]) (.bl 0 (.lp (.sq (.sq (.rg [kM 20 4,
  kG 21 (.ib .geq (.t 20) (.c (.int .i64 0))),
  kM 22 21,
  kH 23 22 true (.mv (.t 3)),
  kH 24 22 true (.len (.t 23)),
  kH 25 22 true (.mv (.t 0)),
  kH 26 22 true (.nc (.t 25)),
  kH 27 22 true (.fa (.t 26) 3),
  kH 28 22 true (.ld (.t 27) 1 false),
  kH 29 22 true (.ib .lss (.t 24) (.t 28)),
  kG 30 (.pk (.t 22) (.t 29) (.c (.bool false)))]) (.cd (.t 30) .sk (.ex 0))) (.sq (.bl 1 (.rg [kM 48 3,
  kM 49 4,
  kG 50 (.bs 3 1 [.int .i64 0] [(0, 1, (.t 49))]),
  kG 51 (.ap 22 3 1 8 [.int .i64 0] (.t 48) (.t 50)),
  kM 3 51])) (.rd [⟨0, 0, [0], kM 31 0⟩, ⟨1, 0, [0], kM 32 0⟩, ⟨2, 2, [32], kN 33 32⟩, ⟨3, 6, [33], kF 34 33 0⟩, ⟨4, 14, [34], kL 35 34⟩, ⟨5, 30, [35], kN 36 35⟩, ⟨6, 62, [36], kF 37 36 0⟩, ⟨7, 126, [37], kL 38 37⟩, ⟨8, 0, [0], kM 39 0⟩, ⟨9, 256, [39], kN 40 39⟩, ⟨10, 768, [40], kF 41 40 2⟩, ⟨11, 1792, [41], kL 42 41⟩, ⟨12, 0, [4], kM 43 4⟩, ⟨13, 7936, [42, 43], kG 44 (.ib .add (.t 42) (.t 43))⟩, ⟨14, 16382, [38, 44], kG 45 (.ia (.t 38) (.t 44) 1)⟩, ⟨15, 32766, [45], kL 46 45⟩, ⟨16, 65535, [31, 46], kG 47 (.ca 87 [.t 31, .t 46])⟩, ⟨17, 131071, [47], kM 4 47⟩])))))) (.sq (.rg [kM 52 3,
  kM 2 52]) .rt))))⟩
theorem k14 : cF Tryz.prog Tryz.f14 = some c14 := by kernel_rfl
def c15 : Fu := ⟨35, [.t 0], (.sq (.rg [kG 0 (.mv (.c (.bool false)))]) (.sq (.rg [kG 4 (.bd [.int .i64 0, .int .i64 0, .int .i64 0, .int .i64 0, .int .i64 0, .int .i64 0] [(0, 1, (.c (.int .i64 2))), (1, 1, (.c (.int .i64 2))), (2, 1, (.c (.int .i64 8))), (3, 1, (.c (.int .i64 1))), (5, 1, (.c (.int .i64 1)))]),
  kG 5 (.ca 16 [.t 4]),
  kM 1 5]) (.sq (.sq (.rg [kM 6 1,
  kG 7 (.en 0 false (.t 6) (.c (.pointer none)))]) (.cd (.t 7) (.sq (.rg [kG 0 (.mv (.c (.bool false)))]) .rt) .sk)) (.sq (.rg [kM 9 1,
  kG 10 (.ca 88 [.t 9, (.c (.int .i64 0))]),
  kM 8 10,
  kG 11 (.ex (.t 8) 0),
  kG 12 (.ex (.t 8) 1),
  kM 2 11,
  kM 3 12]) (.sq (.rg [kM 13 2,
  kM 14 13,
  kH 15 14 true (.mv (.t 3)),
  kH 16 14 true (.ib .eql (.t 15) (.c (.int .i64 5))),
  kG 17 (.pk (.t 14) (.t 16) (.c (.bool false))),
  kM 18 17,
  kH 19 18 true (.mv (.t 1)),
  kH 20 18 true (.nc (.t 19)),
  kH 21 18 true (.fa (.t 20) 7),
  kH 22 18 true (.ld (.t 21) 1 false),
  kH 23 18 true (.ca 89 [.t 22]),
  kH 24 18 true (.ib .eql (.t 23) (.c (.int .i64 1))),
  kG 25 (.pk (.t 18) (.t 24) (.c (.bool false))),
  kM 26 25,
  kH 27 26 true (.mv (.t 1)),
  kH 28 26 true (.nc (.t 27)),
  kH 29 26 true (.fa (.t 28) 9),
  kH 30 26 true (.ld (.t 29) 1 false),
  kH 31 26 true (.ca 13 [.t 30]),
  kH 32 26 true (.len (.t 31)),
  kH 33 26 true (.ib .eql (.t 32) (.c (.int .i64 2))),
  kG 34 (.pk (.t 26) (.t 33) (.c (.bool false))),
  kM 0 34]) .rt)))))⟩
theorem k15 : cF Tryz.prog Tryz.f15 = some c15 := by kernel_rfl
def c16 : Fu := ⟨130, [.t 2], (.sq (.rg [kG 1 (.bx 25 (.t 0)),
  kG 2 (.mv (.c (.pointer none)))]) (.sq (.rg [kG 16 (.ld (.t 1) 6 true),
  kG 17 (.ca 62 [.t 16]),
  kG 18 (.ca 53 [.t 17]),
  kM 15 18,
  kG 19 (.ex (.t 15) 0),
  kG 20 (.ex (.t 15) 1),
  kM 3 19,
  kM 4 20]) (.sq (.sq (.rg [kM 21 3,
  kG 22 (.en 0 false (.t 21) (.c (.pointer none))),
  kM 23 22,
  kH 24 23 false (.mv (.t 4)),
  kH 25 23 false (.ib .neq (.t 24) (.c (.int .i64 0))),
  kG 26 (.pk (.t 23) (.c (.bool true)) (.t 25))]) (.cd (.t 26) (.sq (.rg [kG 2 (.mv (.c (.pointer none)))]) .rt) .sk)) (.sq (.rg [kM 28 3,
  kG 29 (.ld (.t 1) 6 true),
  kG 30 (.ca 63 [.t 28, .t 29]),
  kM 27 30,
  kG 31 (.ex (.t 27) 0),
  kG 32 (.ex (.t 27) 1),
  kM 5 31,
  kM 6 32]) (.sq (.rg [kM 34 3,
  kG 35 (.ld (.t 1) 6 true),
  kG 36 (.ca 90 [.t 34, .t 35]),
  kM 33 36,
  kG 37 (.ex (.t 33) 0),
  kG 38 (.ex (.t 33) 1),
  kM 7 37,
  kM 8 38]) (.sq (.rd [⟨0, 0, [3], kM 40 3⟩, ⟨1, 0, [1], kG 41 (.ld (.t 1) 6 true)⟩, ⟨2, 2, [41], kG 42 (.ca 35 [.t 41, (.c (.int .i64 0))])⟩, ⟨3, 0, [1], kF 43 1 0⟩, ⟨4, 8, [43], kL 44 43⟩, ⟨5, 31, [40, 42, 44], kG 45 (.ca 91 [.t 40, (.c (.int .i64 2)), .t 42, .t 44])⟩, ⟨6, 63, [45], kM 39 45⟩, ⟨7, 127, [39], kG 46 (.ex (.t 39) 0)⟩, ⟨8, 127, [39], kG 47 (.ex (.t 39) 1)⟩, ⟨9, 255, [46], kM 9 46⟩, ⟨10, 1023, [47], kM 10 47⟩]) (.sq (.sq (.rg [kM 48 5,
  kG 49 (.en 0 false (.t 48) (.c (.pointer none))),
  kM 50 49,
  kH 51 50 false (.mv (.t 6)),
  kH 52 50 false (.ib .neq (.t 51) (.c (.int .i64 0))),
  kG 53 (.pk (.t 50) (.c (.bool true)) (.t 52)),
  kM 54 53,
  kH 55 54 false (.mv (.t 7)),
  kH 56 54 false (.en 0 false (.t 55) (.c (.pointer none))),
  kG 57 (.pk (.t 54) (.c (.bool true)) (.t 56)),
  kM 58 57,
  kH 59 58 false (.mv (.t 8)),
  kH 60 58 false (.ib .neq (.t 59) (.c (.int .i64 0))),
  kG 61 (.pk (.t 58) (.c (.bool true)) (.t 60)),
  kM 62 61,
  kH 63 62 false (.mv (.t 9)),
  kH 64 62 false (.en 0 false (.t 63) (.c (.pointer none))),
  kG 65 (.pk (.t 62) (.c (.bool true)) (.t 64)),
  kM 66 65,
  kH 67 66 false (.mv (.t 10)),
  kH 68 66 false (.ib .neq (.t 67) (.c (.int .i64 0))),
  kG 69 (.pk (.t 66) (.c (.bool true)) (.t 68)),
  kM 70 69,
  kH 71 70 false (.mv (.t 5)),
  kH 72 70 false (.ca 64 [.t 71]),
  kH 73 70 false (.en 0 false (.t 72) (.c (.pointer none))),
  kG 74 (.pk (.t 70) (.c (.bool true)) (.t 73))]) (.cd (.t 74) (.sq (.rg [kG 2 (.mv (.c (.pointer none)))]) .rt) .sk)) (.sq (.rg [kM 75 5,
  kG 76 (.ca 65 [.t 75])]) (.sq (.rd [⟨0, 0, [1], kG 77 (.ld (.t 1) 6 true)⟩, ⟨1, 0, [3], kM 78 3⟩, ⟨2, 0, [9], kM 79 9⟩, ⟨3, 0, [7], kM 80 7⟩, ⟨4, 0, [5], kM 81 5⟩, ⟨5, 16, [81], kG 82 (.ca 64 [.t 81])⟩, ⟨6, 0, [1], kG 83 (.ld (.t 1) 6 true)⟩, ⟨7, 112, [83], kG 84 (.ca 66 [.t 83])⟩, ⟨8, 255, [77, 78, 79, 80, 82, 84], kG 85 (.bd [.int .i64 0, .int .i64 0, .int .i64 0, .int .i64 0, .int .i64 0, .int .i64 0, (.pointer none), (.pointer none), (.pointer none), (.pointer none), (.slice none 0 0), (.pointer none), (.slice none 0 0)] [(0, 6, (.t 77)), (6, 1, (.t 78)), (7, 1, (.t 79)), (8, 1, (.t 80)), (9, 1, (.t 82)), (11, 1, (.t 84))])⟩, ⟨9, 511, [85], kG 86 (.bx 64 (.t 85))⟩, ⟨10, 1023, [86], kM 11 86⟩]) (.sq (.sq (.rg [kG 12 (.mv (.c (.int .i64 0)))]) (.bl 0 (.lp (.sq (.sq (.rg [kM 87 12,
  kF 88 1 0,
  kL 89 88,
  kG 90 (.ib .lss (.t 87) (.t 89))]) (.cd (.t 90) .sk (.ex 0))) (.sq (.bl 1 (.sq (.rg [kM 94 3,
  kG 95 (.ld (.t 1) 6 true),
  kG 96 (.ca 54 [.t 94, .t 95]),
  kM 93 96,
  kG 97 (.ex (.t 93) 0),
  kG 98 (.ex (.t 93) 1),
  kM 13 97,
  kM 14 98]) (.sq (.sq (.rg [kM 99 13,
  kG 100 (.en 0 false (.t 99) (.c (.pointer none))),
  kM 101 100,
  kH 102 101 false (.mv (.t 14)),
  kH 103 101 false (.ib .neq (.t 102) (.c (.int .i64 0))),
  kG 104 (.pk (.t 101) (.c (.bool true)) (.t 103))]) (.cd (.t 104) (.sq (.rg [kG 2 (.mv (.c (.pointer none)))]) .rt) .sk)) (.sq (.rg [kM 105 11,
  kM 106 11,
  kN 107 106,
  kF 108 107 10,
  kL 109 108,
  kM 110 13,
  kG 111 (.bs 74 1 [(.pointer none)] [(0, 1, (.t 110))]),
  kG 112 (.ap 47 74 1 8 [(.pointer none)] (.t 109) (.t 111)),
  kN 113 105,
  kF 114 113 10,
  kS (.st (.t 114) (.t 112) 1)]) (.rd [⟨0, 0, [11], kM 115 11⟩, ⟨1, 0, [11], kM 116 11⟩, ⟨2, 2, [116], kN 117 116⟩, ⟨3, 6, [117], kF 118 117 12⟩, ⟨4, 14, [118], kL 119 118⟩, ⟨5, 0, [11], kM 120 11⟩, ⟨6, 32, [120], kN 121 120⟩, ⟨7, 96, [121], kF 122 121 11⟩, ⟨8, 224, [122], kL 123 122⟩, ⟨9, 480, [123], kG 124 (.ca 67 [.t 123])⟩, ⟨10, 992, [124], kG 125 (.bs 69 1 [(.pointer none)] [(0, 1, (.t 124))])⟩, ⟨11, 2046, [119, 125], kG 126 (.ap 49 69 1 8 [(.pointer none)] (.t 119) (.t 125))⟩, ⟨12, 4095, [115], kN 127 115⟩, ⟨13, 8191, [127], kF 128 127 12⟩, ⟨14, 16383, [128, 126], kS (.st (.t 128) (.t 126) 1)⟩]))))) (.rg [kM 91 12,
  kG 92 (.ib .add (.t 91) (.c (.int .i64 1))),
  kM 12 92])))))) (.sq (.rg [kM 129 11,
  kM 2 129]) .rt)))))))))))⟩
theorem k16 : cF Tryz.prog Tryz.f16 = some c16 := by kernel_rfl
def c17 : Fu := ⟨7, [.t 2], (.sq (.rg [kG 2 (.mv (.c (.bool false)))]) (.sq (.rg [kM 3 0,
  kN 4 3,
  kF 5 4 0,
  kG 6 (.ca 92 [.t 5]),
  kM 2 6]) .rt))⟩
theorem k17 : cF Tryz.prog Tryz.f17 = some c17 := by kernel_rfl
def c18 : Fu := ⟨93, [.t 2], (.sq (.rg [kG 2 (.mv (.c (.bool false)))]) (.sq (.sq (.rg [kM 3 0,
  kN 4 3,
  kF 5 4 5,
  kL 6 5]) (.cd (.t 6) (.sq (.rg [kG 2 (.mv (.c (.bool false)))]) .rt) .sk)) (.sq (.sq (.rg [kM 7 0,
  kN 8 7,
  kF 9 8 1,
  kL 10 9]) (.bl 0 (.sq (.rg [kG 27 (.ib .eql (.t 10) (.c (.int .i64 0))),
  kM 26 27]) (.cd (.t 26) (.sq (.rg [kM 28 0,
  kN 29 28,
  kF 30 29 2,
  kL 31 30,
  kG 32 (.ca 93 [.t 31])]) (.sq (.rg [kM 33 0,
  kN 34 33,
  kF 35 34 2,
  kL 36 35,
  kN 37 36,
  kF 38 37 4,
  kL 39 38]) (.cd (.t 39) (.rg [kM 40 0,
  kM 41 0,
  kM 42 0,
  kN 43 42,
  kF 44 43 2,
  kL 45 44,
  kN 46 45,
  kF 47 46 3,
  kL 48 47,
  kN 49 40,
  kF 50 49 4,
  kS (.st (.t 50) (.t 48) 1),
  kN 51 41,
  kF 52 51 1,
  kS (.st (.t 52) (.c (.int .i64 1)) 1)]) .sk))) (.sq (.rg [kG 54 (.ib .eql (.t 10) (.c (.int .i64 1))),
  kM 53 54]) (.cd (.t 53) (.sq (.rd [⟨0, 0, [0], kM 55 0⟩, ⟨1, 1, [55], kN 56 55⟩, ⟨2, 3, [56], kF 57 56 0⟩, ⟨3, 7, [57], kL 58 57⟩, ⟨4, 0, [0], kM 59 0⟩, ⟨5, 16, [59], kN 60 59⟩, ⟨6, 48, [60], kF 61 60 0⟩, ⟨7, 112, [61], kL 62 61⟩, ⟨8, 240, [62], kN 63 62⟩, ⟨9, 496, [63], kF 64 63 0⟩, ⟨10, 1008, [64], kL 65 64⟩, ⟨11, 2032, [65], kN 66 65⟩, ⟨12, 4080, [66], kF 67 66 6⟩, ⟨13, 8176, [67], kL 68 67⟩, ⟨14, 16368, [68], kG 69 (.ca 95 [.t 68, (.c (.int .i64 2))])⟩, ⟨15, 32752, [69], kG 70 (.ca 94 [.t 69])⟩, ⟨16, 65535, [58, 70], kG 71 (.ca 80 [.t 58, .t 70])⟩]) (.sq (.rg [kM 72 0,
  kM 73 0,
  kM 74 0,
  kN 75 74,
  kF 76 75 0,
  kL 77 76,
  kG 78 (.ca 78 [.t 77]),
  kN 79 72,
  kF 80 79 3,
  kS (.st (.t 80) (.t 78) 1),
  kN 81 73,
  kF 82 81 1,
  kS (.st (.t 82) (.c (.int .i64 2)) 1)]) (.rg [kM 83 0,
  kM 84 0,
  kN 85 84,
  kF 86 85 3,
  kL 87 86,
  kN 88 87,
  kF 89 88 2,
  kL 90 89,
  kN 91 83,
  kF 92 91 5,
  kS (.st (.t 92) (.t 90) 1)]))) (.sq (.rg [kM 11 0,
  kN 12 11,
  kF 13 12 3,
  kL 14 13,
  kG 15 (.ca 72 [.t 14])]) (.rg [kM 16 0,
  kM 17 0,
  kN 18 17,
  kF 19 18 3,
  kL 20 19,
  kN 21 20,
  kF 22 21 2,
  kL 23 22,
  kN 24 16,
  kF 25 24 5,
  kS (.st (.t 25) (.t 23) 1)])))))))) (.sq (.rg [kG 2 (.mv (.c (.bool true)))]) .rt))))⟩
theorem k18 : cF Tryz.prog Tryz.f18 = some c18 := by kernel_rfl
def c19 : Fu := ⟨7, [.t 2], (.sq (.rg [kG 2 (.mv (.c (.bool false)))]) (.sq (.rg [kM 3 0,
  kN 4 3,
  kF 5 4 0,
  kG 6 (.ca 96 [.t 5]),
  kM 2 6]) .rt))⟩
theorem k19 : cF Tryz.prog Tryz.f19 = some c19 := by kernel_rfl
def c20 : Fu := ⟨8, [.t 2], (.sq (.rg [kG 2 (.mv (.c (.bool false)))]) (.sq (.rg [kM 3 0,
  kN 4 3,
  kF 5 4 7,
  kL 6 5,
  kG 7 (.ca 97 [.t 6]),
  kM 2 7]) .rt))⟩
theorem k20 : cF Tryz.prog Tryz.f20 = some c20 := by kernel_rfl
def c21 : Fu := ⟨13, [.t 2], (.sq (.rg [kG 2 (.mv (.c (.slice none 0 0)))]) (.sq (.sq (.rg [kM 3 0,
  kN 4 3,
  kF 5 4 8,
  kL 6 5,
  kG 7 (.en 0 false (.t 6) (.c (.pointer none)))]) (.cd (.t 7) (.sq (.rg [kG 2 (.mv (.c (.slice none 0 0)))]) .rt) .sk)) (.sq (.rg [kM 8 0,
  kN 9 8,
  kF 10 9 8,
  kL 11 10,
  kG 12 (.ca 98 [.t 11]),
  kM 2 12]) .rt)))⟩
theorem k21 : cF Tryz.prog Tryz.f21 = some c21 := by kernel_rfl
def c22 : Fu := ⟨13, [.t 2], (.sq (.rg [kG 2 (.mv (.c (.slice none 0 0)))]) (.sq (.sq (.rg [kM 3 0,
  kN 4 3,
  kF 5 4 1,
  kL 6 5,
  kG 7 (.ib .lss (.t 6) (.c (.int .i64 2)))]) (.cd (.t 7) (.sq (.rg [kG 2 (.mv (.c (.slice none 0 0)))]) .rt) .sk)) (.sq (.rg [kM 8 0,
  kN 9 8,
  kF 10 9 3,
  kL 11 10,
  kG 12 (.ca 99 [.t 11]),
  kM 2 12]) .rt)))⟩
theorem k22 : cF Tryz.prog Tryz.f22 = some c22 := by kernel_rfl
def c23 : Fu := ⟨32, [.t 4], (.sq (.rg [kG 4 (.mv (.c (.pointer none)))]) (.sq (.rg [kM 6 0,
  kM 7 1,
  kM 8 0,
  kN 9 8,
  kF 10 9 1,
  kL 11 10,
  kG 12 (.ca 100 [.t 11]),
  kG 13 (.bd [.nilFunc, .nilFunc, .nilFunc, .nilFunc, .int .i64 0, (.pointer none), (.pointer none), (.pointer none), (.pointer none)] [(5, 1, (.t 6)), (6, 1, (.t 7)), (7, 1, (.t 12))]),
  kG 14 (.bx 158 (.t 13)),
  kM 5 14]) (.sq (.rd [⟨0, 0, [5], kM 15 5⟩, ⟨1, 1, [15], kN 16 15⟩, ⟨2, 3, [16], kF 17 16 0⟩, ⟨3, 0, [5], kM 18 5⟩, ⟨4, 8, [18], kN 19 18⟩, ⟨5, 24, [19], kF 20 19 7⟩, ⟨6, 56, [20], kL 21 20⟩, ⟨7, 120, [21], kG 22 (.mf (.func 102) [.t 21] [])⟩, ⟨8, 0, [5], kM 23 5⟩, ⟨9, 256, [23], kN 24 23⟩, ⟨10, 768, [24], kF 25 24 7⟩, ⟨11, 1792, [25], kL 26 25⟩, ⟨12, 3840, [26], kG 27 (.mf (.func 103) [.t 26] [])⟩, ⟨13, 0, [5], kM 28 5⟩, ⟨14, 8192, [28], kG 29 (.mf (.func 104) [.t 28] [])⟩, ⟨15, 32767, [17, 22, 27, 29], kG 30 (.ca 101 [.t 17, .t 22, .t 27, .t 29])⟩]) (.sq (.rg [kM 31 5,
  kM 4 31]) .rt))))⟩
theorem k23 : cF Tryz.prog Tryz.f23 = some c23 := by kernel_rfl
def c24 : Fu := ⟨15, [.t 2], (.sq (.rg [kG 2 (.mv (.c (.pointer none)))]) (.sq (.rg [kM 3 0,
  kM 4 0,
  kN 5 4,
  kF 6 5 0,
  kL 7 6,
  kN 8 7,
  kF 9 8 9,
  kL 10 9,
  kG 11 (.bd [(.pointer none), .int .i64 0, (.int .u64 0), (.bool false), (.bool false)] [(0, 1, (.t 10))]),
  kG 12 (.bx 160 (.t 11)),
  kG 13 (.bd [(.pointer none), .int .i64 0, (.pointer none), (.pointer none), (.bool false), (.bool false)] [(0, 1, (.t 3)), (2, 1, (.t 12))]),
  kG 14 (.bx 72 (.t 13)),
  kM 2 14]) .rt))⟩
theorem k24 : cF Tryz.prog Tryz.f24 = some c24 := by kernel_rfl
def c25 : Fu := ⟨52, [.t 4, .t 5], (.sq (.rg [kG 4 (.mv (.c (.int .i64 0))),
  kG 5 (.mv (.c (.bool false)))]) (.sq (.rd [⟨0, 0, [0], kM 11 0⟩, ⟨1, 1, [11], kN 12 11⟩, ⟨2, 3, [12], kF 13 12 10⟩, ⟨3, 7, [13], kL 14 13⟩, ⟨4, 0, [1], kM 15 1⟩, ⟨5, 31, [14, 15], kG 16 (.ia (.t 14) (.t 15) 1)⟩, ⟨6, 63, [16], kL 17 16⟩, ⟨7, 127, [17], kG 18 (.ca 55 [.t 17])⟩, ⟨8, 0, [0], kM 19 0⟩, ⟨9, 256, [19], kN 20 19⟩, ⟨10, 768, [20], kF 21 20 12⟩, ⟨11, 1792, [21], kL 22 21⟩, ⟨12, 0, [1], kM 23 1⟩, ⟨13, 7936, [22, 23], kG 24 (.ia (.t 22) (.t 23) 1)⟩, ⟨14, 16128, [24], kL 25 24⟩, ⟨15, 32767, [25], kG 26 (.ca 74 [.t 25])⟩, ⟨16, 65535, [18], kM 6 18⟩, ⟨17, 131071, [26], kM 7 26⟩]) (.sq (.sq (.rg [kM 27 6,
  kG 28 (.en 0 false (.t 27) (.c (.pointer none)))]) (.cd (.t 28) (.sq (.rg [kG 4 (.mv (.c (.int .i64 0))),
  kG 5 (.mv (.c (.bool false)))]) .rt) .sk)) (.sq (.sq (.rg [kG 8 (.mv (.c (.int .i64 0)))]) (.bl 0 (.lp (.sq (.sq (.rg [kM 29 8,
  kG 30 (.ib .lss (.t 29) (.c (.int .i64 40)))]) (.cd (.t 30) .sk (.ex 0))) (.sq (.bl 1 (.sq (.rg [kM 33 6,
  kG 34 (.ca 57 [.t 33])]) (.rg [kM 35 7,
  kG 36 (.ca 69 [.t 35])]))) (.rg [kM 31 8,
  kG 32 (.ib .add (.t 31) (.c (.int .i64 1))),
  kM 8 32])))))) (.sq (.rg [kM 38 6,
  kG 39 (.ca 58 [.t 38]),
  kM 37 39,
  kG 40 (.ex (.t 37) 0),
  kG 41 (.ex (.t 37) 1),
  kM 9 40,
  kM 10 41]) (.sq (.rd [⟨0, 0, [9], kM 42 9⟩, ⟨1, 0, [10], kM 43 10⟩, ⟨2, 2, [43], kM 44 43⟩, ⟨3, 6, [9, 44], kH 45 44 true (.mv (.t 9))⟩, ⟨4, 6, [7, 44], kH 46 44 true (.mv (.t 7))⟩, ⟨5, 22, [46, 44], kH 47 44 true (.nc (.t 46))⟩, ⟨6, 54, [47, 44], kH 48 44 true (.fa (.t 47) 2)⟩, ⟨7, 118, [48, 44], kH 49 44 true (.ld (.t 48) 1 false)⟩, ⟨8, 254, [45, 49, 44], kH 50 44 true (.ib .eql (.t 45) (.t 49))⟩, ⟨9, 510, [44, 50], kG 51 (.pk (.t 44) (.t 50) (.c (.bool false)))⟩, ⟨10, 7, [42], kM 4 42⟩, ⟨11, 2047, [51], kM 5 51⟩]) .rt))))))⟩
theorem k25 : cF Tryz.prog Tryz.f25 = some c25 := by kernel_rfl
def c26 : Fu := ⟨17, [.t 2], (.sq (.rg [kG 2 (.mv (.c (.int .i64 0)))]) (.sq (.rd [⟨0, 0, [0], kM 3 0⟩, ⟨1, 1, [3], kN 4 3⟩, ⟨2, 3, [4], kF 5 4 0⟩, ⟨3, 7, [5], kL 6 5⟩, ⟨4, 15, [6], kN 7 6⟩, ⟨5, 31, [7], kF 8 7 0⟩, ⟨6, 63, [8], kL 9 8⟩, ⟨7, 0, [0], kM 10 0⟩, ⟨8, 128, [10], kN 11 10⟩, ⟨9, 384, [11], kF 12 11 1⟩, ⟨10, 896, [12], kL 13 12⟩, ⟨11, 2047, [9, 13], kG 14 (.ia (.t 9) (.t 13) 1)⟩, ⟨12, 4095, [14], kL 15 14⟩, ⟨13, 8191, [15], kG 16 (.ca 94 [.t 15])⟩, ⟨14, 16383, [16], kM 2 16⟩]) .rt))⟩
theorem k26 : cF Tryz.prog Tryz.f26 = some c26 := by kernel_rfl
def c27 : Fu := ⟨26, [.t 6], (.sq (.rg [kG 6 (.mv (.c (.int .i64 0)))]) (.sq (.rg [kM 10 0,
  kN 11 10,
  kF 12 11 9,
  kL 13 12,
  kM 14 1,
  kM 15 2,
  kG 16 (.ca 105 [.t 13, .t 14, .t 15]),
  kM 9 16,
  kG 17 (.ex (.t 9) 0),
  kG 18 (.ex (.t 9) 1),
  kM 7 17,
  kM 8 18]) (.sq (.rg [kM 19 0,
  kN 20 19,
  kF 21 20 8,
  kL 22 21,
  kM 23 7,
  kG 24 (.ca 106 [.t 22, .t 23])]) (.sq (.rg [kM 25 8,
  kM 6 25]) .rt))))⟩
theorem k27 : cF Tryz.prog Tryz.f27 = some c27 := by kernel_rfl
def c28 : Fu := ⟨26, [.t 6], (.sq (.rg [kG 6 (.mv (.c (.bool false)))]) (.sq (.rg [kM 10 0,
  kN 11 10,
  kF 12 11 2,
  kL 13 12,
  kM 14 1,
  kM 15 2,
  kG 16 (.ca 107 [.t 13, .t 14, .t 15]),
  kM 9 16,
  kG 17 (.ex (.t 9) 0),
  kG 18 (.ex (.t 9) 1),
  kM 7 17,
  kM 8 18]) (.sq (.rg [kM 19 0,
  kN 20 19,
  kF 21 20 1,
  kL 22 21,
  kM 23 7,
  kG 24 (.ca 31 [.t 22, .t 23])]) (.sq (.rg [kM 25 8,
  kM 6 25]) .rt))))⟩
theorem k28 : cF Tryz.prog Tryz.f28 = some c28 := by kernel_rfl
def c29 : Fu := ⟨35, [.t 4, .t 5], (.sq (.rg [kG 4 (.mv (.c (.int .i64 0))),
  kG 5 (.mv (.c (.slice none 0 0)))]) (.sq (.sq (.rg [kM 6 1,
  kG 7 (.ib .lss (.t 6) (.c (.int .i64 0))),
  kM 8 7,
  kH 9 8 false (.mv (.t 1)),
  kH 10 8 false (.ib .gtr (.t 9) (.c (.int .i64 2))),
  kG 11 (.pk (.t 8) (.c (.bool true)) (.t 10)),
  kM 12 11,
  kH 13 12 false (.mv (.t 0)),
  kH 14 12 false (.mv (.t 1)),
  kH 15 12 false (.nc (.t 13)),
  kH 16 12 false (.fa (.t 15) 3),
  kH 17 12 false (.iaa (.t 16) (.t 14) 3 1),
  kH 18 12 false (.ld (.t 17) 1 false),
  kH 19 12 false (.len (.t 18)),
  kH 20 12 false (.ib .eql (.t 19) (.c (.int .i64 0))),
  kG 21 (.pk (.t 12) (.c (.bool true)) (.t 20))]) (.cd (.t 21) (.sq (.rg [kG 4 (.mv (.c (.int .i64 0))),
  kG 5 (.mv (.c (.slice none 0 0)))]) .rt) .sk)) (.sq (.rd [⟨0, 0, [0], kM 22 0⟩, ⟨1, 0, [1], kM 23 1⟩, ⟨2, 1, [22], kN 24 22⟩, ⟨3, 5, [24], kF 25 24 0⟩, ⟨4, 15, [25, 23], kG 26 (.iaa (.t 25) (.t 23) 3 1)⟩, ⟨5, 31, [26], kL 27 26⟩, ⟨6, 0, [0], kM 28 0⟩, ⟨7, 0, [1], kM 29 1⟩, ⟨8, 64, [28], kN 30 28⟩, ⟨9, 320, [30], kF 31 30 3⟩, ⟨10, 960, [31, 29], kG 32 (.iaa (.t 31) (.t 29) 3 1)⟩, ⟨11, 1984, [32], kL 33 32⟩, ⟨12, 4032, [33], kG 34 (.ap 22 3 1 8 [.int .i64 0] (.c (.slice none 0 0)) (.t 33))⟩, ⟨13, 8191, [27], kM 4 27⟩, ⟨14, 16383, [34], kM 5 34⟩]) .rt)))⟩
theorem k29 : cF Tryz.prog Tryz.f29 = some c29 := by kernel_rfl
def c30 : Fu := ⟨10, [], (.rg [kM 4 0,
  kN 5 4,
  kF 6 5 8,
  kL 7 6,
  kM 8 1,
  kG 9 (.ca 106 [.t 7, .t 8])])⟩
theorem k30 : cF Tryz.prog Tryz.f30 = some c30 := by kernel_rfl
def c31 : Fu := ⟨14, [], (.rg [kM 4 0,
  kM 5 0,
  kN 6 5,
  kF 7 6 1,
  kL 8 7,
  kG 9 (.ap 22 3 1 8 [.int .i64 0] (.c (.slice none 0 0)) (.t 8)),
  kM 10 1,
  kG 11 (.ap 22 3 1 8 [.int .i64 0] (.t 9) (.t 10)),
  kN 12 4,
  kF 13 12 1,
  kS (.st (.t 13) (.t 11) 1)])⟩
theorem k31 : cF Tryz.prog Tryz.f31 = some c31 := by kernel_rfl
def c32 : Fu := ⟨11, [.t 2, .t 3], (.sq (.rg [kG 2 (.mv (.c (.int .u64 0))),
  kG 3 (.mv (.c (.bool false)))]) (.sq (.sq (.rg [kM 4 0,
  kG 5 (.ca 108 [.t 4, (.c (.int .i64 0)), (.c (.int .i64 4611686018427387903))]),
  kG 6 (.nt (.t 5))]) (.cd (.t 6) (.sq (.rg [kG 2 (.mv (.c (.int .u64 0))),
  kG 3 (.mv (.c (.bool false)))]) .rt) .sk)) (.sq (.rg [kM 7 0,
  kG 8 (.cv .u64 (.t 7)),
  kG 9 (.ib .mul (.c (.int .u64 2)) (.t 8)),
  kG 10 (.ib .add (.t 9) (.c (.int .u64 1))),
  kM 2 10,
  kG 3 (.mv (.c (.bool true)))]) .rt)))⟩
theorem k32 : cF Tryz.prog Tryz.f32 = some c32 := by kernel_rfl
def c33 : Fu := ⟨10, [.t 4], (.sq (.rg [kG 2 (.bx 25 (.t 0)),
  kG 4 (.mv (.c (.int .i64 0)))]) (.sq (.rg [kG 5 (.ld (.t 2) 6 true),
  kF 6 2 0,
  kL 7 6,
  kM 8 1,
  kG 9 (.ca 109 [.t 5, (.c (.int .i64 3)), .t 7, .t 8]),
  kM 4 9]) .rt))⟩
theorem k33 : cF Tryz.prog Tryz.f33 = some c33 := by kernel_rfl
def c34 : Fu := ⟨18, [.t 6], (.sq (.rg [kG 6 (.mv (.c (.int .i64 0)))]) (.sq (.sq (.rg [kM 7 0,
  kM 8 1,
  kG 9 (.ca 110 [.t 7, .t 8]),
  kG 10 (.nt (.t 9))]) (.cd (.t 10) (.sq (.rg [kG 6 (.mv (.c (.int .i64 1)))]) .rt) .sk)) (.sq (.rg [kM 11 0,
  kN 12 11,
  kF 13 12 0,
  kL 14 13,
  kM 15 1,
  kM 16 2,
  kG 17 (.ia (.t 14) (.t 15) 1),
  kS (.st (.t 17) (.t 16) 1)]) (.sq (.rg [kG 6 (.mv (.c (.int .i64 0)))]) .rt))))⟩
theorem k34 : cF Tryz.prog Tryz.f34 = some c34 := by kernel_rfl
def c35 : Fu := ⟨8, [.t 4], (.sq (.rg [kG 2 (.bx 25 (.t 0)),
  kG 4 (.mv (.c (.int .i64 0)))]) (.sq (.rg [kG 5 (.ld (.t 2) 6 true),
  kM 6 1,
  kG 7 (.ca 111 [.t 5, (.c (.int .i64 3)), .t 6]),
  kM 4 7]) .rt))⟩
theorem k35 : cF Tryz.prog Tryz.f35 = some c35 := by kernel_rfl
def c36 : Fu := ⟨154, [.t 2], (.sq (.rg [kG 2 (.mv (.c (.bool false)))]) (.sq (.sq (.rg [kG 3 (.mv (.c (.int .i64 0)))]) (.bl 0 (.lp (.sq (.sq (.rg [kM 13 3,
  kM 14 0,
  kN 15 14,
  kF 16 15 11,
  kL 17 16,
  kN 18 17,
  kF 19 18 6,
  kL 20 19,
  kN 21 20,
  kF 22 21 0,
  kL 23 22,
  kG 24 (.len (.t 23)),
  kG 25 (.ib .lss (.t 13) (.t 24))]) (.cd (.t 25) .sk (.ex 0))) (.sq (.bl 1 (.sq (.rg [kM 29 0,
  kN 30 29,
  kF 31 30 0,
  kG 32 (.ld (.t 31) 6 true),
  kM 33 3,
  kG 34 (.ca 112 [.t 32, .t 33]),
  kM 28 34,
  kG 35 (.ex (.t 28) 0),
  kG 36 (.ex (.t 28) 1),
  kG 37 (.ex (.t 28) 2),
  kM 4 35,
  kM 5 36,
  kM 6 37]) (.sq (.rd [⟨0, 0, [3], kM 38 3⟩, ⟨1, 1, [38], kG 39 (.ib .neq (.t 38) (.c (.int .i64 1)))⟩, ⟨2, 3, [39], kM 40 39⟩, ⟨3, 7, [4, 40], kH 41 40 true (.mv (.t 4))⟩, ⟨4, 15, [41, 40], kH 42 40 true (.ib .neq (.t 41) (.c (.int .i64 5)))⟩, ⟨5, 31, [40, 42], kG 43 (.pk (.t 40) (.t 42) (.c (.bool false)))⟩, ⟨6, 63, [43], kM 44 43⟩, ⟨7, 127, [0, 44], kH 45 44 true (.mv (.t 0))⟩, ⟨8, 255, [45, 44], kH 46 44 true (.nc (.t 45))⟩, ⟨9, 511, [46, 44], kH 47 44 true (.fa (.t 46) 6)⟩, ⟨10, 1023, [47, 44], kH 48 44 true (.ld (.t 47) 1 false)⟩, ⟨11, 127, [3, 44], kH 49 44 true (.mv (.t 3))⟩, ⟨12, 4095, [48, 49, 44], kH 50 44 true (.ca 81 [.t 48, .t 49])⟩, ⟨13, 127, [0, 44], kH 51 44 true (.mv (.t 0))⟩, ⟨14, 8319, [51, 44], kH 52 44 true (.nc (.t 51))⟩, ⟨15, 24703, [52, 44], kH 53 44 true (.fa (.t 52) 11)⟩, ⟨16, 57471, [53, 44], kH 54 44 true (.ld (.t 53) 1 false)⟩, ⟨17, 123007, [54, 44], kH 55 44 true (.nc (.t 54))⟩, ⟨18, 254079, [55, 44], kH 56 44 true (.fa (.t 55) 6)⟩, ⟨19, 516223, [56, 44], kH 57 44 true (.ld (.t 56) 1 false)⟩, ⟨20, 1040511, [57, 44], kH 58 44 true (.nc (.t 57))⟩, ⟨21, 2089087, [58, 44], kH 59 44 true (.fa (.t 58) 0)⟩, ⟨22, 4186239, [59, 44], kH 60 44 true (.ld (.t 59) 1 false)⟩, ⟨23, 127, [3, 44], kH 61 44 true (.mv (.t 3))⟩, ⟨24, 16769151, [60, 61, 44], kH 62 44 true (.ia (.t 60) (.t 61) 1)⟩, ⟨25, 33546367, [62, 44], kH 63 44 true (.ld (.t 62) 1 false)⟩, ⟨26, 67108863, [50, 63, 44], kH 64 44 true (.ib .neq (.t 50) (.t 63))⟩, ⟨27, 134217727, [44, 64], kG 65 (.pk (.t 44) (.t 64) (.c (.bool false)))⟩]) (.cd (.t 65) (.sq (.rg [kG 2 (.mv (.c (.bool false)))]) .rt) .sk)))) (.rg [kM 26 3,
  kG 27 (.ib .add (.t 26) (.c (.int .i64 1))),
  kM 3 27])))))) (.sq (.sq (.rg [kG 7 (.mv (.c (.int .i64 0)))]) (.bl 2 (.lp (.sq (.sq (.rg [kM 66 7,
  kM 67 0,
  kN 68 67,
  kF 69 68 10,
  kL 70 69,
  kG 71 (.len (.t 70)),
  kG 72 (.ib .lss (.t 66) (.t 71))]) (.cd (.t 72) .sk (.ex 2))) (.sq (.bl 3 (.sq (.sq (.rd [⟨0, 0, [0], kM 75 0⟩, ⟨1, 1, [75], kN 76 75⟩, ⟨2, 3, [76], kF 77 76 10⟩, ⟨3, 7, [77], kL 78 77⟩, ⟨4, 0, [7], kM 79 7⟩, ⟨5, 31, [78, 79], kG 80 (.ia (.t 78) (.t 79) 1)⟩, ⟨6, 63, [80], kL 81 80⟩, ⟨7, 127, [81], kG 82 (.ca 82 [.t 81])⟩, ⟨8, 0, [0], kM 83 0⟩, ⟨9, 256, [83], kN 84 83⟩, ⟨10, 768, [84], kF 85 84 12⟩, ⟨11, 1792, [85], kL 86 85⟩, ⟨12, 0, [7], kM 87 7⟩, ⟨13, 7936, [86, 87], kG 88 (.ia (.t 86) (.t 87) 1)⟩, ⟨14, 16128, [88], kL 89 88⟩, ⟨15, 32512, [89], kN 90 89⟩, ⟨16, 65280, [90], kF 91 90 1⟩, ⟨17, 130816, [91], kL 92 91⟩, ⟨18, 261888, [92], kN 93 92⟩, ⟨19, 524032, [93], kF 94 93 1⟩, ⟨20, 1048320, [94], kL 95 94⟩, ⟨21, 2097151, [82, 95], kG 96 (.ca 12 [.t 82, .t 95])⟩, ⟨22, 4194303, [96], kG 97 (.nt (.t 96))⟩]) (.cd (.t 97) (.sq (.rg [kG 2 (.mv (.c (.bool false)))]) .rt) .sk)) (.sq (.rg [kG 8 (.mv (.c (.int .i64 0)))]) (.bl 4 (.lp (.sq (.sq (.rg [kM 98 8,
  kG 99 (.ib .lss (.t 98) (.c (.int .i64 3)))]) (.cd (.t 99) .sk (.ex 4))) (.sq (.bl 5 (.sq (.rg [kM 103 0,
  kN 104 103,
  kF 105 104 10,
  kL 106 105,
  kM 107 7,
  kG 108 (.ia (.t 106) (.t 107) 1),
  kL 109 108,
  kM 110 8,
  kG 111 (.ca 83 [.t 109, .t 110]),
  kM 102 111,
  kG 112 (.ex (.t 102) 0),
  kG 113 (.ex (.t 102) 1),
  kM 9 112,
  kM 10 113]) (.sq (.rg [kM 115 0,
  kN 116 115,
  kF 117 116 12,
  kL 118 117,
  kM 119 7,
  kG 120 (.ia (.t 118) (.t 119) 1),
  kL 121 120,
  kN 122 121,
  kF 123 122 2,
  kL 124 123,
  kM 125 8,
  kG 126 (.ca 29 [.t 124, .t 125]),
  kM 114 126,
  kG 127 (.ex (.t 114) 0),
  kG 128 (.ex (.t 114) 1),
  kM 11 127,
  kM 12 128]) (.sq (.rg [kM 129 9,
  kM 130 11,
  kG 131 (.ib .neq (.t 129) (.t 130)),
  kM 132 131,
  kH 133 132 false (.mv (.t 10)),
  kH 134 132 false (.mv (.t 12)),
  kH 135 132 false (.ca 12 [.t 133, .t 134]),
  kH 136 132 false (.nt (.t 135)),
  kG 137 (.pk (.t 132) (.c (.bool true)) (.t 136))]) (.cd (.t 137) (.sq (.rg [kG 2 (.mv (.c (.bool false)))]) .rt) .sk))))) (.rg [kM 100 8,
  kG 101 (.ib .add (.t 100) (.c (.int .i64 1))),
  kM 8 101])))))))) (.rg [kM 73 7,
  kG 74 (.ib .add (.t 73) (.c (.int .i64 1))),
  kM 7 74])))))) (.sq (.rd [⟨0, 0, [0], kM 138 0⟩, ⟨1, 1, [138], kN 139 138⟩, ⟨2, 3, [139], kF 140 139 6⟩, ⟨3, 7, [140], kL 141 140⟩, ⟨4, 15, [141], kG 142 (.ca 60 [.t 141])⟩, ⟨5, 0, [0], kM 143 0⟩, ⟨6, 32, [143], kN 144 143⟩, ⟨7, 96, [144], kF 145 144 11⟩, ⟨8, 224, [145], kL 146 145⟩, ⟨9, 480, [146], kN 147 146⟩, ⟨10, 992, [147], kF 148 147 6⟩, ⟨11, 2016, [148], kL 149 148⟩, ⟨12, 4064, [149], kN 150 149⟩, ⟨13, 8160, [150], kF 151 150 1⟩, ⟨14, 16352, [151], kL 152 151⟩, ⟨15, 32767, [142, 152], kG 153 (.ib .eql (.t 142) (.t 152))⟩, ⟨16, 65535, [153], kM 2 153⟩]) .rt))))⟩
theorem k36 : cF Tryz.prog Tryz.f36 = some c36 := by kernel_rfl
def c53 : Fu := ⟨14, [.t 2, .t 3], (.sq (.rg [kG 2 (.mv (.c (.pointer none))),
  kG 3 (.mv (.c (.int .i64 0)))]) (.sq (.sq (.rg [kM 4 0,
  kG 5 (.ib .lss (.t 4) (.c (.int .i64 1))),
  kM 6 5,
  kH 7 6 false (.mv (.t 0)),
  kH 8 6 false (.ib .gtr (.t 7) (.c (.int .i64 8388608))),
  kG 9 (.pk (.t 6) (.c (.bool true)) (.t 8))]) (.cd (.t 9) (.sq (.rg [kG 2 (.mv (.c (.pointer none))),
  kG 3 (.mv (.c (.int .i64 1)))]) .rt) .sk)) (.sq (.rg [kM 10 0,
  kG 11 (.mk 89 1 8 [(.int .u64 0)] (.t 10) (.t 10)),
  kG 12 (.bd [(.slice none 0 0), .int .i64 0, .int .i64 0, .int .i64 0, (.int .u64 0), (.int .u64 0), (.bool false)] [(0, 1, (.t 11))]),
  kG 13 (.bx 187 (.t 12)),
  kM 2 13,
  kG 3 (.mv (.c (.int .i64 0)))]) .rt)))⟩
theorem k53 : cF Tryz.prog Tryz.f53 = some c53 := by kernel_rfl
def c54 : Fu := ⟨27, [.t 4, .t 5], (.sq (.rg [kG 3 (.bx 25 (.t 1)),
  kG 4 (.mv (.c (.pointer none))),
  kG 5 (.mv (.c (.int .i64 0)))]) (.sq (.rg [kM 9 0,
  kG 10 (.ld (.t 3) 6 true),
  kG 11 (.ca 63 [.t 9, .t 10]),
  kM 8 11,
  kG 12 (.ex (.t 8) 0),
  kG 13 (.ex (.t 8) 1),
  kM 6 12,
  kM 7 13]) (.sq (.sq (.rg [kM 14 7,
  kG 15 (.ib .neq (.t 14) (.c (.int .i64 0)))]) (.cd (.t 15) (.sq (.rg [kM 16 7,
  kG 4 (.mv (.c (.pointer none))),
  kM 5 16]) .rt) .sk)) (.sq (.rd [⟨0, 0, [0], kM 17 0⟩, ⟨1, 0, [3], kG 18 (.ld (.t 3) 6 true)⟩, ⟨2, 0, [6], kM 19 6⟩, ⟨3, 4, [19], kG 20 (.ca 64 [.t 19])⟩, ⟨4, 0, [3], kF 21 3 4⟩, ⟨5, 16, [21], kL 22 21⟩, ⟨6, 60, [22], kG 23 (.ca 143 [.t 22])⟩, ⟨7, 124, [], kG 24 (.ca 144 [])⟩, ⟨8, 255, [17, 18, 20, 23, 24], kG 25 (.bd [(.pointer none), .int .i64 0, .int .i64 0, .int .i64 0, .int .i64 0, .int .i64 0, .int .i64 0, (.pointer none), (.pointer none), (.pointer none)] [(0, 1, (.t 17)), (1, 6, (.t 18)), (7, 1, (.t 20)), (8, 1, (.t 23)), (9, 1, (.t 24))])⟩, ⟨9, 511, [25], kG 26 (.bx 176 (.t 25))⟩, ⟨10, 1023, [26], kM 4 26⟩, ⟨11, 2047, [], kG 5 (.mv (.c (.int .i64 0)))⟩]) .rt))))⟩
theorem k54 : cF Tryz.prog Tryz.f54 = some c54 := by kernel_rfl
def c55 : Fu := ⟨26, [.t 2], (.sq (.rg [kG 2 (.mv (.c (.pointer none)))]) (.sq (.rg [kM 4 0,
  kG 5 (.bd [.nilFunc, .nilFunc, .nilFunc, .nilFunc, .int .i64 0, (.pointer none), (.pointer none), .int .i64 0, .int .i64 0, (.bool false)] [(5, 1, (.t 4)), (8, 1, (.c (.int .i64 (-1))))]),
  kG 6 (.bx 239 (.t 5)),
  kM 3 6]) (.sq (.bl 0 (.sq (.rg [kM 10 3,
  kG 11 (.ca 145 [.t 10]),
  kM 9 11]) (.cd (.t 9) .sk (.sq (.rg [kM 13 0,
  kN 14 13,
  kF 15 14 9,
  kL 16 15,
  kG 17 (.ca 146 [.t 16]),
  kG 18 (.ib .gtr (.t 17) (.c (.int .i64 0))),
  kM 12 18]) (.cd (.t 12) (.rg [kM 19 3,
  kN 20 19,
  kF 21 20 0,
  kM 22 3,
  kG 23 (.mf (.func 148) [.t 22] []),
  kG 24 (.ca 147 [.t 21, .t 23])]) (.rg [kM 7 3,
  kG 8 (.ca 149 [.t 7])])))))) (.sq (.rg [kM 25 3,
  kM 2 25]) .rt))))⟩
theorem k55 : cF Tryz.prog Tryz.f55 = some c55 := by kernel_rfl
def c56 : Fu := ⟨7, [.t 2], (.sq (.rg [kG 2 (.mv (.c (.bool false)))]) (.sq (.rg [kM 3 0,
  kN 4 3,
  kF 5 4 0,
  kG 6 (.ca 96 [.t 5]),
  kM 2 6]) .rt))⟩
theorem k56 : cF Tryz.prog Tryz.f56 = some c56 := by kernel_rfl
def c57 : Fu := ⟨7, [.t 2], (.sq (.rg [kG 2 (.mv (.c (.bool false)))]) (.sq (.rg [kM 3 0,
  kN 4 3,
  kF 5 4 0,
  kG 6 (.ca 92 [.t 5]),
  kM 2 6]) .rt))⟩
theorem k57 : cF Tryz.prog Tryz.f57 = some c57 := by kernel_rfl
def c58 : Fu := ⟨15, [.t 2, .t 3], (.sq (.rg [kG 2 (.mv (.c (.int .i64 0))),
  kG 3 (.mv (.c (.bool false)))]) (.sq (.sq (.rg [kM 4 0,
  kG 5 (.ca 56 [.t 4]),
  kG 6 (.nt (.t 5))]) (.cd (.t 6) (.sq (.rg [kG 2 (.mv (.c (.int .i64 0))),
  kG 3 (.mv (.c (.bool false)))]) .rt) .sk)) (.sq (.rd [⟨0, 0, [0], kM 7 0⟩, ⟨1, 1, [7], kN 8 7⟩, ⟨2, 3, [8], kF 9 8 7⟩, ⟨3, 7, [9], kL 10 9⟩, ⟨4, 0, [0], kM 11 0⟩, ⟨5, 16, [11], kN 12 11⟩, ⟨6, 48, [12], kF 13 12 9⟩, ⟨7, 112, [13], kL 14 13⟩, ⟨8, 15, [10], kM 2 10⟩, ⟨9, 511, [14], kM 3 14⟩]) .rt)))⟩
theorem k58 : cF Tryz.prog Tryz.f58 = some c58 := by kernel_rfl
def c60 : Fu := ⟨7, [.t 2], (.sq (.rg [kG 2 (.mv (.c (.int .i64 0)))]) (.sq (.rg [kM 3 0,
  kN 4 3,
  kF 5 4 1,
  kL 6 5,
  kM 2 6]) .rt))⟩
theorem k60 : cF Tryz.prog Tryz.f60 = some c60 := by kernel_rfl
def c61 : Fu := ⟨36, [.t 4], (.sq (.rg [kG 4 (.mv (.c (.int .i64 0)))]) (.sq (.rg [kG 5 (.mv (.c (.int .i64 0)))]) (.sq (.sq (.rd [⟨0, 0, [0], kM 6 0⟩, ⟨1, 1, [6], kN 7 6⟩, ⟨2, 3, [7], kF 8 7 1⟩, ⟨3, 7, [8], kL 9 8⟩, ⟨4, 0, [0], kM 10 0⟩, ⟨5, 16, [10], kN 11 10⟩, ⟨6, 48, [11], kF 12 11 0⟩, ⟨7, 112, [12], kL 13 12⟩, ⟨8, 240, [13], kG 14 (.len (.t 13))⟩, ⟨9, 511, [9, 14], kG 15 (.ib .lss (.t 9) (.t 14))⟩]) (.cd (.t 15) (.rd [⟨0, 0, [0], kM 16 0⟩, ⟨1, 1, [16], kN 17 16⟩, ⟨2, 3, [17], kF 18 17 0⟩, ⟨3, 7, [18], kL 19 18⟩, ⟨4, 0, [0], kM 20 0⟩, ⟨5, 16, [20], kN 21 20⟩, ⟨6, 48, [21], kF 22 21 1⟩, ⟨7, 112, [22], kL 23 22⟩, ⟨8, 255, [19, 23], kG 24 (.ia (.t 19) (.t 23) 1)⟩, ⟨9, 511, [24], kL 25 24⟩, ⟨10, 1023, [25], kM 5 25⟩]) .sk)) (.sq (.rg [kM 26 0,
  kN 27 26,
  kF 28 27 1,
  kL 29 28,
  kG 30 (.ib .add (.t 29) (.c (.int .i64 1))),
  kN 31 26,
  kF 32 31 1,
  kS (.st (.t 32) (.t 30) 1)]) (.sq (.rg [kM 33 5,
  kM 34 1,
  kG 35 (.ca 10 [.t 33, .t 34]),
  kM 4 35]) .rt)))))⟩
theorem k61 : cF Tryz.prog Tryz.f61 = some c61 := by kernel_rfl
def c62 : Fu := ⟨17, [.t 2], (.sq (.rg [kG 1 (.bx 25 (.t 0)),
  kG 2 (.mv (.c (.int .i64 0)))]) (.sq (.sq (.rg [kG 5 (.ld (.t 1) 6 true),
  kG 6 (.ca 150 [.t 5]),
  kG 7 (.nt (.t 6))]) (.cd (.t 7) (.sq (.rg [kG 2 (.mv (.c (.int .i64 0)))]) .rt) .sk)) (.sq (.rg [kG 8 (.ld (.t 1) 6 true),
  kG 9 (.ca 151 [.t 8]),
  kG 3 (.al 244 [.int .i64 0, .int .i64 0, .int .i64 0, .int .i64 0, .int .i64 0, .int .i64 0, .int .i64 0, .int .i64 0, .int .i64 0, .int .i64 0, .int .i64 0, .int .i64 0, .int .i64 0, .int .i64 0, .int .i64 0]),
  kS (.st (.t 3) (.t 9) 15)]) (.sq (.rg [kG 10 (.iaa (.t 3) (.c (.int .i64 4)) 5 3),
  kG 11 (.ld (.t 10) 3 true),
  kG 4 (.al 243 [.int .i64 0, .int .i64 0, .int .i64 0]),
  kS (.st (.t 4) (.t 11) 3)]) (.sq (.rg [kF 12 4 1,
  kL 13 12,
  kF 14 4 2,
  kL 15 14,
  kG 16 (.ib .add (.t 13) (.t 15)),
  kM 2 16]) .rt)))))⟩
theorem k62 : cF Tryz.prog Tryz.f62 = some c62 := by kernel_rfl
def c63 : Fu := ⟨35, [.t 4, .t 5], (.sq (.rg [kG 3 (.bx 25 (.t 1)),
  kG 4 (.mv (.c (.pointer none))),
  kG 5 (.mv (.c (.int .i64 0)))]) (.sq (.sq (.rd [⟨0, 0, [3], kG 8 (.ld (.t 3) 6 true)⟩, ⟨1, 1, [8], kG 9 (.ca 150 [.t 8])⟩, ⟨2, 3, [9], kG 10 (.nt (.t 9))⟩, ⟨3, 7, [10], kM 11 10⟩, ⟨4, 15, [0, 11], kH 12 11 false (.mv (.t 0))⟩, ⟨5, 31, [12, 11], kH 13 11 false (.ca 152 [.t 12])⟩, ⟨6, 15, [3, 11], kH 14 11 false (.ld (.t 3) 6 true)⟩, ⟨7, 127, [14, 11], kH 15 11 false (.ca 62 [.t 14])⟩, ⟨8, 255, [13, 15, 11], kH 16 11 false (.ib .lss (.t 13) (.t 15))⟩, ⟨9, 511, [11, 16], kG 17 (.pk (.t 11) (.c (.bool true)) (.t 16))⟩]) (.cd (.t 17) (.sq (.rg [kG 4 (.mv (.c (.pointer none))),
  kG 5 (.mv (.c (.int .i64 1)))]) .rt) .sk)) (.sq (.rd [⟨0, 0, [0], kM 19 0⟩, ⟨1, 0, [3], kG 20 (.ld (.t 3) 6 true)⟩, ⟨2, 2, [20], kG 21 (.ca 154 [.t 20, (.c (.int .i64 0))])⟩, ⟨3, 0, [3], kF 22 3 1⟩, ⟨4, 8, [22], kL 23 22⟩, ⟨5, 31, [19, 21, 23], kG 24 (.ca 153 [.t 19, (.c (.int .i64 0)), .t 21, .t 23])⟩, ⟨6, 63, [24], kM 18 24⟩, ⟨7, 127, [18], kG 25 (.ex (.t 18) 0)⟩, ⟨8, 127, [18], kG 26 (.ex (.t 18) 1)⟩, ⟨9, 255, [25], kM 6 25⟩, ⟨10, 1023, [26], kM 7 26⟩]) (.sq (.sq (.rg [kM 27 7,
  kG 28 (.ib .neq (.t 27) (.c (.int .i64 0)))]) (.cd (.t 28) (.sq (.rg [kM 29 7,
  kG 4 (.mv (.c (.pointer none))),
  kM 5 29]) .rt) .sk)) (.sq (.rg [kM 30 0,
  kG 31 (.ld (.t 3) 6 true),
  kM 32 6,
  kG 33 (.bd [(.pointer none), .int .i64 0, .int .i64 0, .int .i64 0, .int .i64 0, .int .i64 0, .int .i64 0, (.pointer none)] [(0, 1, (.t 30)), (1, 6, (.t 31)), (7, 1, (.t 32))]),
  kG 34 (.bx 249 (.t 33)),
  kM 4 34,
  kG 5 (.mv (.c (.int .i64 0)))]) .rt)))))⟩
theorem k63 : cF Tryz.prog Tryz.f63 = some c63 := by kernel_rfl
def c64 : Fu := ⟨7, [.t 2], (.sq (.rg [kG 2 (.mv (.c (.pointer none)))]) (.sq (.rg [kM 3 0,
  kN 4 3,
  kF 5 4 7,
  kL 6 5,
  kM 2 6]) .rt))⟩
theorem k64 : cF Tryz.prog Tryz.f64 = some c64 := by kernel_rfl
def c65 : Fu := ⟨7, [], (.rg [kM 2 0,
  kN 3 2,
  kF 4 3 7,
  kL 5 4,
  kG 6 (.ca 155 [.t 5])])⟩
theorem k65 : cF Tryz.prog Tryz.f65 = some c65 := by kernel_rfl
def c66 : Fu := ⟨53, [.t 2], (.sq (.rg [kG 1 (.bx 25 (.t 0)),
  kG 2 (.mv (.c (.pointer none)))]) (.sq (.rg [kG 5 (.ld (.t 1) 6 true),
  kG 6 (.ca 157 [.t 5]),
  kG 7 (.ca 156 [.t 6]),
  kM 3 7]) (.sq (.rg [kG 8 (.ld (.t 1) 6 true),
  kM 9 3,
  kG 10 (.bd [.int .i64 0, .int .i64 0, .int .i64 0, .int .i64 0, .int .i64 0, .int .i64 0, (.pointer none), (.pointer none), (.pointer none), (.pointer none)] [(0, 6, (.t 8)), (6, 1, (.t 9))]),
  kG 11 (.bx 57 (.t 10)),
  kM 4 11]) (.sq (.rd [⟨0, 0, [4], kM 12 4⟩, ⟨1, 0, [3], kM 13 3⟩, ⟨2, 0, [1], kG 14 (.ld (.t 1) 6 true)⟩, ⟨3, 4, [14], kG 15 (.ca 158 [.t 14, (.c (.int .i64 0))])⟩, ⟨4, 0, [1], kF 16 1 1⟩, ⟨5, 16, [16], kL 17 16⟩, ⟨6, 62, [13, 15, 17], kG 18 (.bd [(.pointer none), .int .i64 0, .int .i64 0, .int .i64 0] [(0, 1, (.t 13)), (1, 1, (.c (.int .i64 0))), (2, 1, (.t 15)), (3, 1, (.t 17))])⟩, ⟨7, 126, [18], kG 19 (.bx 147 (.t 18))⟩, ⟨8, 255, [12], kN 20 12⟩, ⟨9, 511, [20], kF 21 20 7⟩, ⟨10, 1023, [21, 19], kS (.st (.t 21) (.t 19) 1)⟩]) (.sq (.rd [⟨0, 0, [4], kM 22 4⟩, ⟨1, 0, [3], kM 23 3⟩, ⟨2, 0, [1], kG 24 (.ld (.t 1) 6 true)⟩, ⟨3, 4, [24], kG 25 (.ca 68 [.t 24, (.c (.int .i64 0))])⟩, ⟨4, 0, [1], kF 26 1 3⟩, ⟨5, 16, [26], kL 27 26⟩, ⟨6, 62, [23, 25, 27], kG 28 (.bd [(.pointer none), .int .i64 0, .int .i64 0, .int .i64 0] [(0, 1, (.t 23)), (1, 1, (.c (.int .i64 1))), (2, 1, (.t 25)), (3, 1, (.t 27))])⟩, ⟨7, 126, [28], kG 29 (.bx 147 (.t 28))⟩, ⟨8, 255, [22], kN 30 22⟩, ⟨9, 511, [30], kF 31 30 8⟩, ⟨10, 1023, [31, 29], kS (.st (.t 31) (.t 29) 1)⟩]) (.sq (.rd [⟨0, 0, [4], kM 32 4⟩, ⟨1, 0, [3], kM 33 3⟩, ⟨2, 0, [1], kG 34 (.ld (.t 1) 6 true)⟩, ⟨3, 4, [34], kG 35 (.ca 33 [.t 34, (.c (.int .i64 0))])⟩, ⟨4, 0, [1], kF 36 1 0⟩, ⟨5, 16, [36], kL 37 36⟩, ⟨6, 62, [33, 35, 37], kG 38 (.bd [(.pointer none), .int .i64 0, .int .i64 0, .int .i64 0] [(0, 1, (.t 33)), (1, 1, (.c (.int .i64 2))), (2, 1, (.t 35)), (3, 1, (.t 37))])⟩, ⟨7, 126, [38], kG 39 (.bx 171 (.t 38))⟩, ⟨8, 255, [32], kN 40 32⟩, ⟨9, 511, [40], kF 41 40 9⟩, ⟨10, 1023, [41, 39], kS (.st (.t 41) (.t 39) 1)⟩]) (.sq (.rg [kM 42 4,
  kN 43 42,
  kF 44 43 7,
  kL 45 44,
  kG 46 (.ca 159 [.t 45])]) (.sq (.rg [kM 47 4,
  kN 48 47,
  kF 49 48 8,
  kL 50 49,
  kG 51 (.ca 159 [.t 50])]) (.sq (.rg [kM 52 4,
  kM 2 52]) .rt)))))))))⟩
theorem k66 : cF Tryz.prog Tryz.f66 = some c66 := by kernel_rfl
def c67 : Fu := ⟨13, [.t 2], (.sq (.rg [kG 2 (.mv (.c (.pointer none)))]) (.sq (.rg [kM 3 0,
  kM 4 0,
  kN 5 4,
  kF 6 5 0,
  kF 7 6 4,
  kL 8 7,
  kG 9 (.ca 160 [.t 8]),
  kG 10 (.ca 161 []),
  kG 11 (.bd [(.pointer none), (.pointer none), (.pointer none)] [(0, 1, (.t 3)), (1, 1, (.t 9)), (2, 1, (.t 10))]),
  kG 12 (.bx 85 (.t 11)),
  kM 2 12]) .rt))⟩
theorem k67 : cF Tryz.prog Tryz.f67 = some c67 := by kernel_rfl
def c68 : Fu := ⟨16, [.t 4], (.sq (.rg [kG 2 (.bx 25 (.t 0)),
  kG 4 (.mv (.c (.int .i64 0)))]) (.sq (.rg [kG 5 (.ld (.t 2) 6 true),
  kF 6 2 0,
  kL 7 6,
  kG 8 (.ib .add (.c (.int .i64 3)) (.t 7)),
  kF 9 2 3,
  kL 10 9,
  kG 11 (.ib .add (.t 8) (.t 10)),
  kF 12 2 3,
  kL 13 12,
  kM 14 1,
  kG 15 (.ca 109 [.t 5, .t 11, .t 13, .t 14]),
  kM 4 15]) .rt))⟩
theorem k68 : cF Tryz.prog Tryz.f68 = some c68 := by kernel_rfl
def c69 : Fu := ⟨86, [.t 2], (.sq (.rg [kG 2 (.mv (.c (.bool false)))]) (.sq (.sq (.rg [kM 4 0,
  kN 5 4,
  kF 6 5 5,
  kL 7 6]) (.cd (.t 7) (.sq (.rg [kG 2 (.mv (.c (.bool false)))]) .rt) .sk)) (.sq (.sq (.rg [kM 8 0,
  kN 9 8,
  kF 10 9 1,
  kL 11 10,
  kG 12 (.ib .eql (.t 11) (.c (.int .i64 0)))]) (.cd (.t 12) (.sq (.rg [kM 13 0,
  kM 14 0,
  kN 15 14,
  kF 16 15 0,
  kL 17 16,
  kN 18 17,
  kF 19 18 0,
  kL 20 19,
  kN 21 20,
  kF 22 21 6,
  kL 23 22,
  kG 24 (.ca 95 [.t 23, (.c (.int .i64 2))]),
  kG 25 (.ca 94 [.t 24]),
  kN 26 13,
  kF 27 26 3,
  kS (.st (.t 27) (.t 25) 1)]) (.sq (.rd [⟨0, 0, [0], kM 28 0⟩, ⟨1, 1, [28], kN 29 28⟩, ⟨2, 3, [29], kF 30 29 0⟩, ⟨3, 7, [30], kL 31 30⟩, ⟨4, 0, [0], kM 32 0⟩, ⟨5, 16, [32], kN 33 32⟩, ⟨6, 48, [33], kF 34 33 3⟩, ⟨7, 112, [34], kL 35 34⟩, ⟨8, 255, [31, 35], kG 36 (.ca 80 [.t 31, .t 35])⟩]) (.sq (.rg [kM 37 0,
  kG 38 (.ca 162 [.t 37])]) (.sq (.sq (.rg [kM 39 0,
  kN 40 39,
  kF 41 40 5,
  kL 42 41,
  kG 43 (.nt (.t 42))]) (.cd (.t 43) (.rg [kM 44 0,
  kG 45 (.ca 163 [.t 44])]) .sk)) (.sq (.rg [kG 2 (.mv (.c (.bool true)))]) .rt))))) .sk)) (.sq (.rg [kM 46 0,
  kN 47 46,
  kF 48 47 4,
  kL 49 48,
  kG 50 (.ca 164 [.t 49])]) (.sq (.sq (.rg [kM 51 0,
  kN 52 51,
  kF 53 52 4,
  kL 54 53,
  kN 55 54,
  kF 56 55 6,
  kL 57 56,
  kG 58 (.nt (.t 57))]) (.cd (.t 58) (.sq (.rg [kG 2 (.mv (.c (.bool true)))]) .rt) .sk)) (.sq (.rg [kM 59 0,
  kN 60 59,
  kF 61 60 4,
  kL 62 61,
  kG 63 (.ca 165 [.t 62]),
  kM 3 63]) (.sq (.sq (.rg [kM 64 3,
  kG 65 (.len (.t 64)),
  kG 66 (.ib .gtr (.t 65) (.c (.int .i64 0)))]) (.cd (.t 66) (.sq (.rg [kM 67 0,
  kM 68 3,
  kG 69 (.ia (.t 68) (.c (.int .i64 0)) 1),
  kL 70 69,
  kN 71 67,
  kF 72 71 2,
  kS (.st (.t 72) (.t 70) 1)]) (.rd [⟨0, 0, [0], kM 73 0⟩, ⟨1, 1, [73], kN 74 73⟩, ⟨2, 3, [74], kF 75 74 0⟩, ⟨3, 7, [75], kL 76 75⟩, ⟨4, 15, [76], kN 77 76⟩, ⟨5, 31, [77], kF 78 77 1⟩, ⟨6, 63, [78], kL 79 78⟩, ⟨7, 0, [3], kM 80 3⟩, ⟨8, 128, [80], kG 81 (.sl 1 (.t 80) (some (.c (.int .i64 1))) none none)⟩, ⟨9, 511, [79, 81], kG 82 (.ca 31 [.t 79, .t 81])⟩])) .sk)) (.sq (.rg [kM 83 0,
  kN 84 83,
  kF 85 84 5,
  kS (.st (.t 85) (.c (.bool true)) 1)]) (.sq (.rg [kG 2 (.mv (.c (.bool true)))]) .rt)))))))))⟩
theorem k69 : cF Tryz.prog Tryz.f69 = some c69 := by kernel_rfl
def c71 : Fu := ⟨7, [.t 2], (.sq (.rg [kG 2 (.mv (.c (.bool false)))]) (.sq (.rg [kM 3 0,
  kN 4 3,
  kF 5 4 0,
  kG 6 (.ca 92 [.t 5]),
  kM 2 6]) .rt))⟩
theorem k71 : cF Tryz.prog Tryz.f71 = some c71 := by kernel_rfl
def c72 : Fu := ⟨22, [.t 2], (.sq (.rg [kG 2 (.mv (.c (.bool false)))]) (.sq (.sq (.rg [kM 3 0,
  kN 4 3,
  kF 5 4 2,
  kL 6 5]) (.cd (.t 6) (.sq (.rg [kG 2 (.mv (.c (.bool false)))]) .rt) .sk)) (.sq (.rg [kM 7 0,
  kN 8 7,
  kF 9 8 0,
  kL 10 9,
  kG 11 (.ca 140 [.t 10])]) (.sq (.rg [kM 12 0,
  kM 13 0,
  kN 14 13,
  kF 15 14 0,
  kL 16 15,
  kN 17 16,
  kF 18 17 4,
  kL 19 18,
  kN 20 12,
  kF 21 20 2,
  kS (.st (.t 21) (.t 19) 1)]) (.sq (.rg [kG 2 (.mv (.c (.bool true)))]) .rt)))))⟩
theorem k72 : cF Tryz.prog Tryz.f72 = some c72 := by kernel_rfl
def c74 : Fu := ⟨25, [.t 2], (.sq (.rg [kG 2 (.mv (.c (.pointer none)))]) (.sq (.rg [kM 4 0,
  kG 5 (.bd [(.pointer none), .int .i64 0, .int .i64 0, .int .i64 0, (.pointer none), (.bool false)] [(0, 1, (.t 4)), (2, 1, (.c (.int .i64 (-1)))), (3, 1, (.c (.int .i64 (-1))))]),
  kG 6 (.bx 169 (.t 5)),
  kM 3 6]) (.sq (.rg [kM 7 3,
  kG 8 (.ca 162 [.t 7])]) (.sq (.sq (.rg [kM 9 3,
  kN 10 9,
  kF 11 10 5,
  kL 12 11,
  kG 13 (.nt (.t 12)),
  kM 14 13,
  kH 15 14 true (.mv (.t 0)),
  kH 16 14 true (.nc (.t 15)),
  kH 17 14 true (.fa (.t 16) 2),
  kH 18 14 true (.ld (.t 17) 1 false),
  kH 19 14 true (.ca 167 [.t 18]),
  kH 20 14 true (.ib .eql (.t 19) (.c (.int .i64 0))),
  kG 21 (.pk (.t 14) (.t 20) (.c (.bool false)))]) (.cd (.t 21) (.rg [kM 22 3,
  kG 23 (.ca 163 [.t 22])]) .sk)) (.sq (.rg [kM 24 3,
  kM 2 24]) .rt)))))⟩
theorem k74 : cF Tryz.prog Tryz.f74 = some c74 := by kernel_rfl
def c77 : Fu := ⟨10, [.t 2], (.sq (.rg [kG 2 (.mv (.c (.pointer none)))]) (.sq (.rg [kM 3 0,
  kM 4 0,
  kN 5 4,
  kF 6 5 8,
  kL 7 6,
  kG 8 (.ca 172 [.t 7]),
  kG 9 (.ca 168 [.t 3, .t 8]),
  kM 2 9]) .rt))⟩
theorem k77 : cF Tryz.prog Tryz.f77 = some c77 := by kernel_rfl
def c78 : Fu := ⟨10, [.t 2], (.sq (.rg [kG 2 (.mv (.c (.pointer none)))]) (.sq (.rg [kM 3 0,
  kM 4 0,
  kN 5 4,
  kF 6 5 1,
  kL 7 6,
  kG 8 (.ca 173 [.t 7]),
  kG 9 (.ca 170 [.t 3, .t 8]),
  kM 2 9]) .rt))⟩
theorem k78 : cF Tryz.prog Tryz.f78 = some c78 := by kernel_rfl
def c79 : Fu := ⟨20, [.t 4], (.sq (.rg [kG 4 (.mv (.c (.int .i64 0)))]) (.sq (.rg [kM 6 0,
  kN 7 6,
  kF 8 7 9,
  kL 9 8,
  kM 10 1,
  kG 11 (.ca 174 [.t 9, .t 10]),
  kM 5 11]) (.sq (.rg [kM 12 0,
  kN 13 12,
  kF 14 13 8,
  kL 15 14,
  kM 16 5,
  kG 17 (.ca 106 [.t 15, .t 16])]) (.sq (.rg [kM 18 5,
  kG 19 (.len (.t 18)),
  kM 4 19]) .rt))))⟩
theorem k79 : cF Tryz.prog Tryz.f79 = some c79 := by kernel_rfl
def c80 : Fu := ⟨20, [.t 4], (.sq (.rg [kG 4 (.mv (.c (.int .i64 0)))]) (.sq (.rg [kM 6 0,
  kN 7 6,
  kF 8 7 2,
  kL 9 8,
  kM 10 1,
  kG 11 (.ca 175 [.t 9, .t 10]),
  kM 5 11]) (.sq (.rg [kM 12 0,
  kN 13 12,
  kF 14 13 1,
  kL 15 14,
  kM 16 5,
  kG 17 (.ca 31 [.t 15, .t 16])]) (.sq (.rg [kM 18 5,
  kG 19 (.len (.t 18)),
  kM 4 19]) .rt))))⟩
theorem k80 : cF Tryz.prog Tryz.f80 = some c80 := by kernel_rfl
def c81 : Fu := ⟨16, [.t 4], (.sq (.rg [kG 4 (.mv (.c (.int .u64 0)))]) (.sq (.sq (.rg [kM 5 0,
  kM 6 1,
  kG 7 (.ca 110 [.t 5, .t 6]),
  kG 8 (.nt (.t 7))]) (.cd (.t 8) (.sq (.rg [kG 4 (.mv (.c (.int .u64 0)))]) .rt) .sk)) (.sq (.rg [kM 9 0,
  kN 10 9,
  kF 11 10 0,
  kL 12 11,
  kM 13 1,
  kG 14 (.ia (.t 12) (.t 13) 1),
  kL 15 14,
  kM 4 15]) .rt)))⟩
theorem k81 : cF Tryz.prog Tryz.f81 = some c81 := by kernel_rfl
def c82 : Fu := ⟨8, [.t 2], (.sq (.rg [kG 2 (.mv (.c (.slice none 0 0)))]) (.sq (.rg [kM 3 0,
  kN 4 3,
  kF 5 4 8,
  kL 6 5,
  kG 7 (.ca 176 [.t 6]),
  kM 2 7]) .rt))⟩
theorem k82 : cF Tryz.prog Tryz.f82 = some c82 := by kernel_rfl
def c83 : Fu := ⟨14, [.t 4, .t 5], (.sq (.rg [kG 4 (.mv (.c (.int .i64 0))),
  kG 5 (.mv (.c (.slice none 0 0)))]) (.sq (.rg [kM 6 0,
  kN 7 6,
  kF 8 7 9,
  kL 9 8,
  kM 10 1,
  kG 11 (.ca 177 [.t 9, .t 10]),
  kG 12 (.ex (.t 11) 0),
  kG 13 (.ex (.t 11) 1),
  kM 4 12,
  kM 5 13]) .rt))⟩
theorem k83 : cF Tryz.prog Tryz.f83 = some c83 := by kernel_rfl
def c84 : Fu := ⟨17, [.t 4], (.sq (.rg [kG 4 (.mv (.c (.int .i64 0)))]) (.sq (.sq (.rg [kM 6 1,
  kG 7 (.ca 178 [.t 6]),
  kG 5 (.al 260 [.int .i64 0, .int .i64 0]),
  kS (.st (.t 5) (.t 7) 2)]) (.sq (.rd [⟨0, 0, [5], kF 8 5 0⟩, ⟨1, 1, [8], kL 9 8⟩, ⟨2, 0, [0], kM 10 0⟩, ⟨3, 4, [10], kN 11 10⟩, ⟨4, 12, [11], kF 12 11 3⟩, ⟨5, 28, [12], kL 13 12⟩, ⟨6, 63, [9, 13], kG 14 (.ib .lss (.t 9) (.t 13))⟩]) (.cd (.t 14) (.sq (.rg [kF 15 5 0,
  kL 16 15,
  kM 4 16]) .rt) .sk))) (.sq (.rg [kG 4 (.mv (.c (.int .i64 (-1))))]) .rt)))⟩
theorem k84 : cF Tryz.prog Tryz.f84 = some c84 := by kernel_rfl
def c85 : Fu := ⟨15, [.t 4], (.sq (.rg [kG 4 (.mv (.c (.int .i64 0)))]) (.sq (.sq (.rg [kM 5 1,
  kM 6 0,
  kN 7 6,
  kF 8 7 3,
  kL 9 8,
  kG 10 (.cv .u64 (.t 9)),
  kG 11 (.ib .gtr (.t 5) (.t 10))]) (.cd (.t 11) (.sq (.rg [kG 4 (.mv (.c (.int .i64 (-1))))]) .rt) .sk)) (.sq (.rg [kM 12 1,
  kG 13 (.cv .i64 (.t 12)),
  kG 14 (.ib .sub (.t 13) (.c (.int .i64 1))),
  kM 4 14]) .rt)))⟩
theorem k85 : cF Tryz.prog Tryz.f85 = some c85 := by kernel_rfl
def c86 : Fu := ⟨16, [.t 4], (.sq (.rg [kG 4 (.mv (.c (.int .i64 0)))]) (.sq (.rg [kM 6 1,
  kG 7 (.ca 179 [.t 6]),
  kG 8 (.fv (.t 7) 0 1 false),
  kM 5 8]) (.sq (.sq (.rg [kM 9 5,
  kM 10 0,
  kN 11 10,
  kF 12 11 3,
  kL 13 12,
  kG 14 (.ib .geq (.t 9) (.t 13))]) (.cd (.t 14) (.sq (.rg [kG 4 (.mv (.c (.int .i64 (-1))))]) .rt) .sk)) (.sq (.rg [kM 15 5,
  kM 4 15]) .rt))))⟩
theorem k86 : cF Tryz.prog Tryz.f86 = some c86 := by kernel_rfl
def c87 : Fu := ⟨15, [.t 4], (.sq (.rg [kG 4 (.mv (.c (.int .i64 0)))]) (.sq (.sq (.rg [kM 5 1,
  kM 6 0,
  kN 7 6,
  kF 8 7 3,
  kL 9 8,
  kG 10 (.cv .u64 (.t 9)),
  kG 11 (.ib .gtr (.t 5) (.t 10))]) (.cd (.t 11) (.sq (.rg [kG 4 (.mv (.c (.int .i64 (-1))))]) .rt) .sk)) (.sq (.rg [kM 12 1,
  kG 13 (.cv .i64 (.t 12)),
  kG 14 (.ib .sub (.t 13) (.c (.int .i64 1))),
  kM 4 14]) .rt)))⟩
theorem k87 : cF Tryz.prog Tryz.f87 = some c87 := by kernel_rfl
def c88 : Fu := ⟨45, [.t 4, .t 5], (.sq (.rg [kG 4 (.mv (.c (.bool false))),
  kG 5 (.mv (.c (.int .i64 0)))]) (.sq (.rd [⟨0, 0, [0], kM 9 0⟩, ⟨1, 1, [9], kN 10 9⟩, ⟨2, 3, [10], kF 11 10 8⟩, ⟨3, 7, [11], kL 12 11⟩, ⟨4, 0, [0], kM 13 0⟩, ⟨5, 16, [13], kN 14 13⟩, ⟨6, 48, [14], kF 15 14 10⟩, ⟨7, 112, [15], kL 16 15⟩, ⟨8, 0, [1], kM 17 1⟩, ⟨9, 496, [16, 17], kG 18 (.ia (.t 16) (.t 17) 1)⟩, ⟨10, 1008, [18], kL 19 18⟩, ⟨11, 2047, [12, 19], kG 20 (.ca 23 [.t 12, .t 19])⟩, ⟨12, 4095, [20], kM 6 20⟩]) (.sq (.sq (.rg [kM 21 6,
  kG 22 (.en 0 false (.t 21) (.c (.pointer none)))]) (.cd (.t 22) (.sq (.rg [kG 4 (.mv (.c (.bool false))),
  kG 5 (.mv (.c (.int .i64 (-1))))]) .rt) .sk)) (.sq (.rg [kG 7 (.mv (.c (.int .i64 0)))]) (.sq (.sq (.rg [kG 8 (.mv (.c (.int .i64 0)))]) (.bl 0 (.lp (.sq (.sq (.rg [kM 23 8,
  kG 24 (.ib .lss (.t 23) (.c (.int .i64 400))),
  kM 25 24,
  kH 26 25 true (.mv (.t 6)),
  kH 27 25 true (.ca 17 [.t 26]),
  kG 28 (.pk (.t 25) (.t 27) (.c (.bool false)))]) (.cd (.t 28) .sk (.ex 0))) (.sq (.bl 1 (.rg [kM 31 7,
  kG 32 (.ib .add (.t 31) (.c (.int .i64 1))),
  kM 7 32])) (.rg [kM 29 8,
  kG 30 (.ib .add (.t 29) (.c (.int .i64 1))),
  kM 8 30])))))) (.sq (.sq (.rg [kM 33 6,
  kG 34 (.ca 19 [.t 33]),
  kG 35 (.nt (.t 34)),
  kM 36 35,
  kH 37 36 false (.mv (.t 6)),
  kH 38 36 false (.ca 21 [.t 37]),
  kH 39 36 false (.len (.t 38)),
  kH 40 36 false (.ib .neq (.t 39) (.c (.int .i64 0))),
  kG 41 (.pk (.t 36) (.c (.bool true)) (.t 40))]) (.cd (.t 41) (.sq (.rg [kG 4 (.mv (.c (.bool false))),
  kG 5 (.mv (.c (.int .i64 (-1))))]) .rt) .sk)) (.sq (.rg [kM 42 6,
  kG 43 (.ca 20 [.t 42]),
  kM 44 7,
  kM 4 43,
  kM 5 44]) .rt)))))))⟩
theorem k88 : cF Tryz.prog Tryz.f88 = some c88 := by kernel_rfl
def c89 : Fu := ⟨13, [.t 2], (.sq (.rg [kG 2 (.mv (.c (.int .i64 0)))]) (.sq (.rd [⟨0, 0, [0], kM 3 0⟩, ⟨1, 1, [3], kN 4 3⟩, ⟨2, 3, [4], kF 5 4 0⟩, ⟨3, 7, [5], kL 6 5⟩, ⟨4, 0, [0], kM 7 0⟩, ⟨5, 16, [7], kN 8 7⟩, ⟨6, 48, [8], kF 9 8 1⟩, ⟨7, 112, [9], kL 10 9⟩, ⟨8, 255, [6, 10], kG 11 (.ca 81 [.t 6, .t 10])⟩, ⟨9, 511, [11], kG 12 (.ca 180 [.t 11])⟩, ⟨10, 1023, [12], kM 2 12⟩]) .rt))⟩
theorem k89 : cF Tryz.prog Tryz.f89 = some c89 := by kernel_rfl
def c90 : Fu := ⟨34, [.t 4, .t 5], (.sq (.rg [kG 3 (.bx 25 (.t 1)),
  kG 4 (.mv (.c (.pointer none))),
  kG 5 (.mv (.c (.int .i64 0)))]) (.sq (.sq (.rd [⟨0, 0, [3], kG 8 (.ld (.t 3) 6 true)⟩, ⟨1, 1, [8], kG 9 (.ca 150 [.t 8])⟩, ⟨2, 3, [9], kG 10 (.nt (.t 9))⟩, ⟨3, 7, [10], kM 11 10⟩, ⟨4, 15, [0, 11], kH 12 11 false (.mv (.t 0))⟩, ⟨5, 31, [12, 11], kH 13 11 false (.ca 152 [.t 12])⟩, ⟨6, 15, [3, 11], kH 14 11 false (.ld (.t 3) 6 true)⟩, ⟨7, 127, [14, 11], kH 15 11 false (.ca 62 [.t 14])⟩, ⟨8, 255, [13, 15, 11], kH 16 11 false (.ib .lss (.t 13) (.t 15))⟩, ⟨9, 511, [11, 16], kG 17 (.pk (.t 11) (.c (.bool true)) (.t 16))⟩]) (.cd (.t 17) (.sq (.rg [kG 4 (.mv (.c (.pointer none))),
  kG 5 (.mv (.c (.int .i64 1)))]) .rt) .sk)) (.sq (.rd [⟨0, 0, [0], kM 19 0⟩, ⟨1, 0, [3], kG 20 (.ld (.t 3) 6 true)⟩, ⟨2, 2, [20], kG 21 (.ca 35 [.t 20, (.c (.int .i64 0))])⟩, ⟨3, 0, [3], kF 22 3 0⟩, ⟨4, 8, [22], kL 23 22⟩, ⟨5, 31, [19, 21, 23], kG 24 (.ca 91 [.t 19, (.c (.int .i64 2)), .t 21, .t 23])⟩, ⟨6, 63, [24], kM 18 24⟩, ⟨7, 127, [18], kG 25 (.ex (.t 18) 0)⟩, ⟨8, 127, [18], kG 26 (.ex (.t 18) 1)⟩, ⟨9, 255, [25], kM 6 25⟩, ⟨10, 1023, [26], kM 7 26⟩]) (.sq (.sq (.rg [kM 27 7,
  kG 28 (.ib .neq (.t 27) (.c (.int .i64 0)))]) (.cd (.t 28) (.sq (.rg [kM 29 7,
  kG 4 (.mv (.c (.pointer none))),
  kM 5 29]) .rt) .sk)) (.sq (.rg [kM 30 0,
  kM 31 6,
  kG 32 (.bd [(.pointer none), (.pointer none)] [(0, 1, (.t 30)), (1, 1, (.t 31))]),
  kG 33 (.bx 164 (.t 32)),
  kM 4 33,
  kG 5 (.mv (.c (.int .i64 0)))]) .rt)))))⟩
theorem k90 : cF Tryz.prog Tryz.f90 = some c90 := by kernel_rfl
def c91 : Fu := ⟨57, [.t 8, .t 9], (.sq (.rg [kG 4 (.bx 45 (.t 0)),
  kG 8 (.mv (.c (.pointer none))),
  kG 9 (.mv (.c (.int .i64 0)))]) (.sq (.rg [kG 11 (.mf (.func 181) [] [.t 4]),
  kM 10 11]) (.sq (.sq (.rg [kM 12 3,
  kG 13 (.ib .lss (.t 12) (.c (.int .i64 1))),
  kM 14 13,
  kH 15 14 false (.mv (.t 3)),
  kH 16 14 false (.ib .gtr (.t 15) (.c (.int .i64 64))),
  kG 17 (.pk (.t 14) (.c (.bool true)) (.t 16)),
  kM 18 17,
  kH 19 18 false (.mv (.t 10)),
  kH 20 18 false (.mv (.t 1)),
  kH 21 18 false (.cl (.t 19) [.t 20]),
  kH 22 18 false (.nt (.t 21)),
  kG 23 (.pk (.t 18) (.c (.bool true)) (.t 22)),
  kM 24 23,
  kH 25 24 false (.mv (.t 10)),
  kH 26 24 false (.mv (.t 2)),
  kH 27 24 false (.cl (.t 25) [.t 26]),
  kH 28 24 false (.nt (.t 27)),
  kG 29 (.pk (.t 24) (.c (.bool true)) (.t 28)),
  kM 30 29,
  kH 31 30 false (.mv (.t 10)),
  kH 32 30 false (.mv (.t 2)),
  kH 33 30 false (.mv (.t 3)),
  kH 34 30 false (.ib .add (.t 32) (.t 33)),
  kH 35 30 false (.ib .sub (.t 34) (.c (.int .i64 1))),
  kH 36 30 false (.cl (.t 31) [.t 35]),
  kH 37 30 false (.nt (.t 36)),
  kG 38 (.pk (.t 30) (.c (.bool true)) (.t 37)),
  kM 39 38,
  kH 40 39 false (.mv (.t 1)),
  kH 41 39 false (.mv (.t 2)),
  kH 42 39 false (.ib .geq (.t 40) (.t 41)),
  kH 43 39 false (.mv (.t 42)),
  kH 44 43 true (.mv (.t 1)),
  kH 45 43 true (.mv (.t 2)),
  kH 46 43 true (.mv (.t 3)),
  kH 47 43 true (.ib .add (.t 45) (.t 46)),
  kH 48 43 true (.ib .lss (.t 44) (.t 47)),
  kH 49 39 false (.pk (.t 43) (.t 48) (.c (.bool false))),
  kG 50 (.pk (.t 39) (.c (.bool true)) (.t 49))]) (.cd (.t 50) (.sq (.rg [kG 8 (.mv (.c (.pointer none))),
  kG 9 (.mv (.c (.int .i64 1)))]) .rt) .sk)) (.sq (.rg [kL 51 4,
  kM 52 1,
  kM 53 2,
  kM 54 3,
  kG 55 (.bd [(.pointer none), .int .i64 0, .int .i64 0, .int .i64 0] [(0, 1, (.t 51)), (1, 1, (.t 52)), (2, 1, (.t 53)), (3, 1, (.t 54))]),
  kG 56 (.bx 265 (.t 55)),
  kM 8 56,
  kG 9 (.mv (.c (.int .i64 0)))]) .rt))))⟩
theorem k91 : cF Tryz.prog Tryz.f91 = some c91 := by kernel_rfl
def c92 : Fu := ⟨25, [.t 2], (.sq (.rg [kG 2 (.mv (.c (.bool false)))]) (.sq (.sq (.rg [kM 4 0,
  kN 5 4,
  kF 6 5 0,
  kL 7 6,
  kG 8 (.en 2 false (.t 7) (.c .nilFunc))]) (.cd (.t 8) (.sq (.rg [kG 2 (.mv (.c (.bool false)))]) .rt) .sk)) (.sq (.rg [kM 9 0,
  kN 10 9,
  kF 11 10 0,
  kL 12 11,
  kM 3 12]) (.sq (.rg [kM 13 0,
  kN 14 13,
  kF 15 14 0,
  kS (.st (.t 15) (.c .nilFunc) 1)]) (.sq (.rg [kM 16 0,
  kN 17 16,
  kF 18 17 4,
  kL 19 18,
  kG 20 (.ib .add (.t 19) (.c (.int .i64 1))),
  kN 21 16,
  kF 22 21 4,
  kS (.st (.t 22) (.t 20) 1)]) (.sq (.rg [kM 23 3,
  kG 24 (.cl (.t 23) [])]) (.sq (.rg [kG 2 (.mv (.c (.bool true)))]) .rt)))))))⟩
theorem k92 : cF Tryz.prog Tryz.f92 = some c92 := by kernel_rfl
def c93 : Fu := ⟨111, [.t 2], (.sq (.rg [kG 2 (.mv (.c (.bool false)))]) (.sq (.sq (.rg [kM 6 0,
  kN 7 6,
  kF 8 7 4,
  kL 9 8]) (.cd (.t 9) (.sq (.rg [kG 2 (.mv (.c (.bool false)))]) .rt) .sk)) (.sq (.rg [kM 10 0,
  kN 11 10,
  kF 12 11 0,
  kL 13 12,
  kN 14 13,
  kF 15 14 0,
  kL 16 15,
  kM 3 16]) (.sq (.bl 0 (.sq (.rg [kM 42 0,
  kN 43 42,
  kF 44 43 1,
  kL 45 44,
  kG 46 (.ib .eql (.t 45) (.c (.int .i64 0))),
  kM 41 46]) (.cd (.t 41) (.rg [kM 47 0,
  kM 48 3,
  kM 49 0,
  kN 50 49,
  kF 51 50 0,
  kL 52 51,
  kN 53 52,
  kF 54 53 1,
  kL 55 54,
  kG 56 (.ca 95 [.t 48, .t 55]),
  kN 57 47,
  kF 58 57 2,
  kS (.st (.t 58) (.t 56) 1)]) (.sq (.rd [⟨0, 0, [0], kM 60 0⟩, ⟨1, 1, [60], kN 61 60⟩, ⟨2, 3, [61], kF 62 61 1⟩, ⟨3, 7, [62], kL 63 62⟩, ⟨4, 0, [0], kM 64 0⟩, ⟨5, 16, [64], kN 65 64⟩, ⟨6, 48, [65], kF 66 65 0⟩, ⟨7, 112, [66], kL 67 66⟩, ⟨8, 240, [67], kN 68 67⟩, ⟨9, 496, [68], kF 69 68 3⟩, ⟨10, 1008, [69], kL 70 69⟩, ⟨11, 2047, [63, 70], kG 71 (.ib .leq (.t 63) (.t 70))⟩, ⟨12, 4095, [71], kM 59 71⟩]) (.cd (.t 59) (.sq (.rd [⟨0, 0, [3], kM 73 3⟩, ⟨1, 0, [0], kM 74 0⟩, ⟨2, 2, [74], kN 75 74⟩, ⟨3, 6, [75], kF 76 75 0⟩, ⟨4, 14, [76], kL 77 76⟩, ⟨5, 30, [77], kN 78 77⟩, ⟨6, 62, [78], kF 79 78 2⟩, ⟨7, 126, [79], kL 80 79⟩, ⟨8, 0, [0], kM 81 0⟩, ⟨9, 256, [81], kN 82 81⟩, ⟨10, 768, [82], kF 83 82 1⟩, ⟨11, 1792, [83], kL 84 83⟩, ⟨12, 4094, [80, 84], kG 85 (.ib .add (.t 80) (.t 84))⟩, ⟨13, 8190, [85], kG 86 (.ib .sub (.t 85) (.c (.int .i64 1)))⟩, ⟨14, 16383, [73, 86], kG 87 (.ca 95 [.t 73, .t 86])⟩, ⟨15, 32767, [87], kG 88 (.ca 182 [.t 87])⟩, ⟨16, 65535, [88], kM 72 88⟩, ⟨17, 131071, [72], kG 89 (.ex (.t 72) 0)⟩, ⟨18, 131071, [72], kG 90 (.ex (.t 72) 1)⟩, ⟨19, 262143, [89], kM 4 89⟩, ⟨20, 1048575, [90], kM 5 90⟩]) (.rg [kM 91 0,
  kM 92 5,
  kM 93 92,
  kH 94 93 true (.mv (.t 4)),
  kH 95 93 true (.mv (.t 0)),
  kH 96 93 true (.nc (.t 95)),
  kH 97 93 true (.fa (.t 96) 2),
  kH 98 93 true (.ld (.t 97) 1 false),
  kH 99 93 true (.ca 94 [.t 98]),
  kH 100 93 true (.ib .neq (.t 94) (.t 99)),
  kG 101 (.pk (.t 93) (.t 100) (.c (.bool false))),
  kN 102 91,
  kF 103 102 4,
  kS (.st (.t 103) (.t 101) 1)])) (.sq (.rd [⟨0, 0, [0], kM 17 0⟩, ⟨1, 0, [3], kM 18 3⟩, ⟨2, 0, [0], kM 19 0⟩, ⟨3, 4, [19], kN 20 19⟩, ⟨4, 12, [20], kF 21 20 0⟩, ⟨5, 28, [21], kL 22 21⟩, ⟨6, 60, [22], kN 23 22⟩, ⟨7, 124, [23], kF 24 23 1⟩, ⟨8, 252, [24], kL 25 24⟩, ⟨9, 0, [0], kM 26 0⟩, ⟨10, 512, [26], kN 27 26⟩, ⟨11, 1536, [27], kF 28 27 2⟩, ⟨12, 3584, [28], kL 29 28⟩, ⟨13, 0, [0], kM 30 0⟩, ⟨14, 8192, [30], kN 31 30⟩, ⟨15, 24576, [31], kF 32 31 2⟩, ⟨16, 57344, [32], kL 33 32⟩, ⟨17, 122880, [33], kG 34 (.ib .add (.t 33) (.c (.int .u64 1)))⟩, ⟨18, 262142, [18, 25, 29, 34], kG 35 (.ca 183 [.t 18, .t 25, .t 29, .t 34])⟩, ⟨19, 524287, [17], kN 36 17⟩, ⟨20, 1048575, [36], kF 37 36 3⟩, ⟨21, 2097151, [37, 35], kS (.st (.t 37) (.t 35) 1)⟩]) (.rg [kM 38 0,
  kN 39 38,
  kF 40 39 4,
  kS (.st (.t 40) (.c (.bool true)) 1)]))))))) (.sq (.rg [kM 104 0,
  kN 105 104,
  kF 106 105 1,
  kL 107 106,
  kG 108 (.ib .add (.t 107) (.c (.int .i64 1))),
  kN 109 104,
  kF 110 109 1,
  kS (.st (.t 110) (.t 108) 1)]) (.sq (.rg [kG 2 (.mv (.c (.bool true)))]) .rt))))))⟩
theorem k93 : cF Tryz.prog Tryz.f93 = some c93 := by kernel_rfl
def c94 : Fu := ⟨7, [.t 2], (.sq (.rg [kG 2 (.mv (.c (.int .i64 0)))]) (.sq (.sq (.rg [kM 3 0,
  kG 4 (.ib .gtr (.t 3) (.c (.int .u64 4611686018427387903)))]) (.cd (.t 4) (.sq (.rg [kG 2 (.mv (.c (.int .i64 4611686018427387903)))]) .rt) .sk)) (.sq (.rg [kM 5 0,
  kG 6 (.cv .i64 (.t 5)),
  kM 2 6]) .rt)))⟩
theorem k94 : cF Tryz.prog Tryz.f94 = some c94 := by kernel_rfl
def c95 : Fu := ⟨19, [.t 4], (.sq (.rg [kG 4 (.mv (.c (.int .u64 0)))]) (.sq (.rg [kM 5 0,
  kN 6 5,
  kF 7 6 1,
  kL 8 7,
  kG 9 (.ib .add (.t 8) (.c (.int .i64 1))),
  kN 10 5,
  kF 11 10 1,
  kS (.st (.t 11) (.t 9) 1)]) (.sq (.rg [kM 12 0,
  kN 13 12,
  kF 14 13 0,
  kL 15 14,
  kM 16 1,
  kG 17 (.ia (.t 15) (.t 16) 1),
  kL 18 17,
  kM 4 18]) .rt)))⟩
theorem k95 : cF Tryz.prog Tryz.f95 = some c95 := by kernel_rfl
def c96 : Fu := ⟨8, [.t 2], (.sq (.rg [kG 2 (.mv (.c (.bool false)))]) (.sq (.rg [kM 3 0,
  kN 4 3,
  kF 5 4 0,
  kL 6 5,
  kG 7 (.en 2 false (.t 6) (.c .nilFunc)),
  kM 2 7]) .rt))⟩
theorem k96 : cF Tryz.prog Tryz.f96 = some c96 := by kernel_rfl
def c97 : Fu := ⟨7, [.t 2], (.sq (.rg [kG 2 (.mv (.c (.bool false)))]) (.sq (.rg [kM 3 0,
  kN 4 3,
  kF 5 4 8,
  kL 6 5,
  kM 2 6]) .rt))⟩
theorem k97 : cF Tryz.prog Tryz.f97 = some c97 := by kernel_rfl
def c98 : Fu := ⟨10, [.t 2], (.sq (.rg [kG 2 (.mv (.c (.slice none 0 0)))]) (.sq (.sq (.rg [kM 3 0,
  kG 4 (.ca 166 [.t 3])]) (.cd (.t 4) (.sq (.rg [kG 2 (.mv (.c (.slice none 0 0)))]) .rt) .sk)) (.sq (.rg [kM 5 0,
  kN 6 5,
  kF 7 6 5,
  kL 8 7,
  kG 9 (.ca 184 [.t 8]),
  kM 2 9]) .rt)))⟩
theorem k98 : cF Tryz.prog Tryz.f98 = some c98 := by kernel_rfl
def c99 : Fu := ⟨12, [.t 2], (.sq (.rg [kG 2 (.mv (.c (.slice none 0 0)))]) (.sq (.sq (.rg [kM 3 0,
  kN 4 3,
  kF 5 4 2,
  kL 6 5]) (.cd (.t 6) (.sq (.rg [kG 2 (.mv (.c (.slice none 0 0)))]) .rt) .sk)) (.sq (.rg [kM 7 0,
  kN 8 7,
  kF 9 8 1,
  kL 10 9,
  kG 11 (.ap 22 3 1 8 [.int .i64 0] (.c (.slice none 0 0)) (.t 10)),
  kM 2 11]) .rt)))⟩
theorem k99 : cF Tryz.prog Tryz.f99 = some c99 := by kernel_rfl
def c100 : Fu := ⟨14, [.t 2], (.sq (.rg [kG 2 (.mv (.c (.pointer none)))]) (.sq (.rg [kM 4 0,
  kG 5 (.bd [.nilFunc, .nilFunc, .nilFunc, .nilFunc, .int .i64 0, (.pointer none), (.int .u64 0), .int .i64 0, (.bool false)] [(5, 1, (.t 4))]),
  kG 6 (.bx 270 (.t 5)),
  kM 3 6]) (.sq (.rg [kM 7 3,
  kN 8 7,
  kF 9 8 0,
  kM 10 3,
  kG 11 (.mf (.func 185) [.t 10] []),
  kG 12 (.ca 147 [.t 9, .t 11])]) (.sq (.rg [kM 13 3,
  kM 2 13]) .rt))))⟩
theorem k100 : cF Tryz.prog Tryz.f100 = some c100 := by kernel_rfl
def c101 : Fu := ⟨22, [], (.sq (.rg [kM 8 0,
  kM 9 0,
  kM 10 0,
  kM 11 1,
  kM 12 2,
  kM 13 3,
  kN 14 8,
  kF 15 14 1,
  kS (.st (.t 15) (.t 11) 1),
  kN 16 9,
  kF 17 16 2,
  kS (.st (.t 17) (.t 12) 1),
  kN 18 10,
  kF 19 18 3,
  kS (.st (.t 19) (.t 13) 1)]) (.rg [kM 20 0,
  kG 21 (.ca 186 [.t 20])]))⟩
theorem k101 : cF Tryz.prog Tryz.f101 = some c101 := by kernel_rfl
def c102 : Fu := ⟨7, [.t 2], (.sq (.rg [kG 2 (.mv (.c (.bool false)))]) (.sq (.rg [kM 3 0,
  kN 4 3,
  kF 5 4 0,
  kG 6 (.ca 92 [.t 5]),
  kM 2 6]) .rt))⟩
theorem k102 : cF Tryz.prog Tryz.f102 = some c102 := by kernel_rfl
def c103 : Fu := ⟨7, [.t 2], (.sq (.rg [kG 2 (.mv (.c (.bool false)))]) (.sq (.rg [kM 3 0,
  kN 4 3,
  kF 5 4 0,
  kG 6 (.ca 96 [.t 5]),
  kM 2 6]) .rt))⟩
theorem k103 : cF Tryz.prog Tryz.f103 = some c103 := by kernel_rfl
def c104 : Fu := ⟨8, [], (.rg [kM 2 0,
  kN 3 2,
  kF 4 3 0,
  kM 5 0,
  kG 6 (.mf (.func 187) [.t 5] []),
  kG 7 (.ca 147 [.t 4, .t 6])])⟩
theorem k104 : cF Tryz.prog Tryz.f104 = some c104 := by kernel_rfl
def c105 : Fu := ⟨66, [.t 6, .t 7], (.sq (.rg [kG 6 (.mv (.c (.slice none 0 0))),
  kG 7 (.mv (.c (.int .i64 0)))]) (.sq (.sq (.rg [kM 10 2,
  kG 11 (.len (.t 10)),
  kG 12 (.ib .eql (.t 11) (.c (.int .i64 0))),
  kM 13 12,
  kH 14 13 false (.mv (.t 1)),
  kH 15 13 false (.ib .lss (.t 14) (.c (.int .i64 0))),
  kG 16 (.pk (.t 13) (.c (.bool true)) (.t 15)),
  kM 17 16,
  kH 18 17 false (.mv (.t 1)),
  kH 19 17 false (.ib .gtr (.t 18) (.c (.int .i64 4611686018427387903))),
  kG 20 (.pk (.t 17) (.c (.bool true)) (.t 19)),
  kM 21 20,
  kH 22 21 false (.mv (.t 1)),
  kH 23 21 false (.mv (.t 0)),
  kH 24 21 false (.nc (.t 23)),
  kH 25 21 false (.fa (.t 24) 6),
  kH 26 21 false (.ld (.t 25) 1 false),
  kH 27 21 false (.ib .lss (.t 22) (.t 26)),
  kG 28 (.pk (.t 21) (.c (.bool true)) (.t 27))]) (.cd (.t 28) (.sq (.rg [kG 6 (.mv (.c (.slice none 0 0))),
  kG 7 (.mv (.c (.int .i64 1)))]) .rt) .sk)) (.sq (.rg [kM 29 0,
  kM 30 1,
  kN 31 29,
  kF 32 31 6,
  kS (.st (.t 32) (.t 30) 1)]) (.sq (.rg [kM 33 0,
  kM 34 1,
  kG 35 (.ib .rem (.t 34) (.c (.int .i64 3))),
  kN 36 33,
  kF 37 36 0,
  kG 38 (.iaa (.t 37) (.t 35) 3 2),
  kM 8 38]) (.sq (.rg [kG 9 (.mv (.c (.slice none 0 0)))]) (.sq (.sq (.rg [kM 39 8,
  kN 40 39,
  kF 41 40 0,
  kL 42 41,
  kM 43 1,
  kG 44 (.ib .lss (.t 42) (.t 43))]) (.cd (.t 44) (.sq (.rg [kM 45 8,
  kN 46 45,
  kF 47 46 1,
  kL 48 47,
  kM 9 48]) (.rg [kM 49 8,
  kN 50 49,
  kF 51 50 1,
  kS (.st (.t 51) (.c (.slice none 0 0)) 1)])) .sk)) (.sq (.rg [kM 52 8,
  kM 53 1,
  kN 54 52,
  kF 55 54 0,
  kS (.st (.t 55) (.t 53) 1)]) (.sq (.rg [kM 56 8,
  kM 57 8,
  kN 58 57,
  kF 59 58 1,
  kL 60 59,
  kM 61 2,
  kG 62 (.ap 22 3 1 8 [.int .i64 0] (.t 60) (.t 61)),
  kN 63 56,
  kF 64 63 1,
  kS (.st (.t 64) (.t 62) 1)]) (.sq (.rg [kM 65 9,
  kM 6 65,
  kG 7 (.mv (.c (.int .i64 0)))]) .rt)))))))))⟩
theorem k105 : cF Tryz.prog Tryz.f105 = some c105 := by kernel_rfl
def c106 : Fu := ⟨13, [], (.rg [kM 4 0,
  kM 5 0,
  kN 6 5,
  kF 7 6 1,
  kL 8 7,
  kM 9 1,
  kG 10 (.ap 22 3 1 8 [.int .i64 0] (.t 8) (.t 9)),
  kN 11 4,
  kF 12 11 1,
  kS (.st (.t 12) (.t 10) 1)])⟩
theorem k106 : cF Tryz.prog Tryz.f106 = some c106 := by kernel_rfl
def c107 : Fu := ⟨85, [.t 6, .t 7], (.sq (.rg [kG 6 (.mv (.c (.slice none 0 0))),
  kG 7 (.mv (.c (.bool false)))]) (.sq (.sq (.rg [kM 10 2,
  kG 11 (.len (.t 10)),
  kG 12 (.ib .eql (.t 11) (.c (.int .i64 0))),
  kM 13 12,
  kH 14 13 false (.mv (.t 1)),
  kH 15 13 false (.ib .lss (.t 14) (.c (.int .i64 0))),
  kG 16 (.pk (.t 13) (.c (.bool true)) (.t 15)),
  kM 17 16,
  kH 18 17 false (.mv (.t 1)),
  kH 19 17 false (.ib .gtr (.t 18) (.c (.int .i64 4611686018427387903))),
  kG 20 (.pk (.t 17) (.c (.bool true)) (.t 19)),
  kM 21 20,
  kH 22 21 false (.mv (.t 1)),
  kH 23 21 false (.mv (.t 0)),
  kH 24 21 false (.nc (.t 23)),
  kH 25 21 false (.fa (.t 24) 6),
  kH 26 21 false (.ld (.t 25) 1 false),
  kH 27 21 false (.ib .lss (.t 22) (.t 26)),
  kG 28 (.pk (.t 21) (.c (.bool true)) (.t 27))]) (.cd (.t 28) (.sq (.rg [kG 6 (.mv (.c (.slice none 0 0))),
  kG 7 (.mv (.c (.bool false)))]) .rt) .sk)) (.sq (.rg [kM 29 0,
  kM 30 1,
  kN 31 29,
  kF 32 31 6,
  kS (.st (.t 32) (.t 30) 1)]) (.sq (.rg [kM 33 1,
  kG 34 (.ib .rem (.t 33) (.c (.int .i64 3))),
  kM 8 34]) (.sq (.rg [kG 9 (.mv (.c (.slice none 0 0)))]) (.sq (.sq (.rg [kM 35 0,
  kM 36 8,
  kN 37 35,
  kF 38 37 3,
  kG 39 (.iaa (.t 38) (.t 36) 3 1),
  kL 40 39,
  kG 41 (.len (.t 40)),
  kG 42 (.ib .gtr (.t 41) (.c (.int .i64 0))),
  kM 43 42,
  kH 44 43 true (.mv (.t 0)),
  kH 45 43 true (.mv (.t 8)),
  kH 46 43 true (.nc (.t 44)),
  kH 47 43 true (.fa (.t 46) 0),
  kH 48 43 true (.iaa (.t 47) (.t 45) 3 1),
  kH 49 43 true (.ld (.t 48) 1 false),
  kH 50 43 true (.mv (.t 1)),
  kH 51 43 true (.ib .lss (.t 49) (.t 50)),
  kG 52 (.pk (.t 43) (.t 51) (.c (.bool false)))]) (.cd (.t 52) (.sq (.rg [kM 53 0,
  kM 54 8,
  kN 55 53,
  kF 56 55 3,
  kG 57 (.iaa (.t 56) (.t 54) 3 1),
  kL 58 57,
  kM 9 58]) (.rg [kM 59 0,
  kM 60 8,
  kN 61 59,
  kF 62 61 3,
  kG 63 (.iaa (.t 62) (.t 60) 3 1),
  kS (.st (.t 63) (.c (.slice none 0 0)) 1)])) .sk)) (.sq (.rg [kM 64 0,
  kM 65 8,
  kM 66 1,
  kN 67 64,
  kF 68 67 0,
  kG 69 (.iaa (.t 68) (.t 65) 3 1),
  kS (.st (.t 69) (.t 66) 1)]) (.sq (.rd [⟨0, 0, [0], kM 70 0⟩, ⟨1, 0, [8], kM 71 8⟩, ⟨2, 0, [0], kM 72 0⟩, ⟨3, 0, [8], kM 73 8⟩, ⟨4, 4, [72], kN 74 72⟩, ⟨5, 20, [74], kF 75 74 3⟩, ⟨6, 60, [75, 73], kG 76 (.iaa (.t 75) (.t 73) 3 1)⟩, ⟨7, 124, [76], kL 77 76⟩, ⟨8, 252, [77], kG 78 (.ap 22 3 1 8 [.int .i64 0] (.c (.slice none 0 0)) (.t 77))⟩, ⟨9, 0, [2], kM 79 2⟩, ⟨10, 1020, [78, 79], kG 80 (.ap 22 3 1 8 [.int .i64 0] (.t 78) (.t 79))⟩, ⟨11, 1, [70], kN 81 70⟩, ⟨12, 2049, [81], kF 82 81 3⟩, ⟨13, 8191, [82, 71], kG 83 (.iaa (.t 82) (.t 71) 3 1)⟩, ⟨14, 16383, [83, 80], kS (.st (.t 83) (.t 80) 1)⟩]) (.sq (.rg [kM 84 9,
  kM 6 84,
  kG 7 (.mv (.c (.bool true)))]) .rt)))))))))⟩
theorem k107 : cF Tryz.prog Tryz.f107 = some c107 := by kernel_rfl
def c108 : Fu := ⟨15, [.t 6], (.sq (.rg [kG 6 (.mv (.c (.bool false)))]) (.sq (.rg [kM 7 0,
  kM 8 1,
  kG 9 (.ib .geq (.t 7) (.t 8)),
  kM 10 9,
  kH 11 10 true (.mv (.t 0)),
  kH 12 10 true (.mv (.t 2)),
  kH 13 10 true (.ib .leq (.t 11) (.t 12)),
  kG 14 (.pk (.t 10) (.t 13) (.c (.bool false))),
  kM 6 14]) .rt))⟩
theorem k108 : cF Tryz.prog Tryz.f108 = some c108 := by kernel_rfl
def c109 : Fu := ⟨24, [.t 8], (.sq (.rg [kG 4 (.bx 25 (.t 0)),
  kG 8 (.mv (.c (.int .i64 0)))]) (.sq (.sq (.rg [kG 9 (.ld (.t 4) 6 true),
  kG 10 (.ca 188 [.t 9]),
  kG 11 (.nt (.t 10)),
  kM 12 11,
  kH 13 12 false (.mv (.t 3)),
  kH 14 12 false (.ib .lss (.t 13) (.c (.int .i64 0))),
  kG 15 (.pk (.t 12) (.c (.bool true)) (.t 14)),
  kM 16 15,
  kH 17 16 false (.mv (.t 3)),
  kH 18 16 false (.mv (.t 2)),
  kH 19 16 false (.ib .geq (.t 17) (.t 18)),
  kG 20 (.pk (.t 16) (.c (.bool true)) (.t 19))]) (.cd (.t 20) (.sq (.rg [kG 8 (.mv (.c (.int .i64 (-1))))]) .rt) .sk)) (.sq (.rg [kM 21 1,
  kM 22 3,
  kG 23 (.ib .add (.t 21) (.t 22)),
  kM 8 23]) .rt)))⟩
theorem k109 : cF Tryz.prog Tryz.f109 = some c109 := by kernel_rfl
def c110 : Fu := ⟨16, [.t 4], (.sq (.rg [kG 4 (.mv (.c (.bool false)))]) (.sq (.rg [kM 5 1,
  kG 6 (.ib .geq (.t 5) (.c (.int .i64 0))),
  kM 7 6,
  kH 8 7 true (.mv (.t 1)),
  kH 9 7 true (.mv (.t 0)),
  kH 10 7 true (.nc (.t 9)),
  kH 11 7 true (.fa (.t 10) 0),
  kH 12 7 true (.ld (.t 11) 1 false),
  kH 13 7 true (.len (.t 12)),
  kH 14 7 true (.ib .lss (.t 8) (.t 13)),
  kG 15 (.pk (.t 7) (.t 14) (.c (.bool false))),
  kM 4 15]) .rt))⟩
theorem k110 : cF Tryz.prog Tryz.f110 = some c110 := by kernel_rfl
def c111 : Fu := ⟨33, [.t 6], (.sq (.rg [kG 3 (.bx 25 (.t 0)),
  kG 6 (.mv (.c (.int .i64 0)))]) (.sq (.sq (.rg [kG 9 (.ld (.t 3) 6 true),
  kG 10 (.ca 150 [.t 9]),
  kG 11 (.nt (.t 10))]) (.cd (.t 11) (.sq (.rg [kG 6 (.mv (.c (.int .i64 (-1))))]) .rt) .sk)) (.sq (.sq (.rg [kG 12 (.ld (.t 3) 6 true),
  kG 13 (.ca 151 [.t 12]),
  kG 14 (.mv (.c (.int .i64 0)))]) (.bl 0 (.lp (.sq (.rg [kG 15 (.ib .lss (.t 14) (.c (.int .i64 5)))]) (.sq (.cd (.t 15) .sk (.ex 0)) (.sq (.bl 1 (.sq (.rg [kG 16 (.iv (.t 13) (.t 14) 5 3 true),
  kG 8 (.al 243 [.int .i64 0, .int .i64 0, .int .i64 0]),
  kS (.st (.t 8) (.t 16) 3)]) (.sq (.rg [kF 17 8 0,
  kL 18 17,
  kM 19 1,
  kG 20 (.ib .eql (.t 18) (.t 19)),
  kM 21 20,
  kH 22 21 true (.mv (.t 2)),
  kH 23 21 true (.fa (.t 8) 2),
  kH 24 21 true (.ld (.t 23) 1 false),
  kH 25 21 true (.ib .sub (.t 24) (.c (.int .i64 1))),
  kH 26 21 true (.ca 189 [.t 22, (.c (.int .i64 0)), .t 25]),
  kG 27 (.pk (.t 21) (.t 26) (.c (.bool false)))]) (.cd (.t 27) (.sq (.rg [kF 28 8 1,
  kL 29 28,
  kM 30 2,
  kG 31 (.ib .add (.t 29) (.t 30)),
  kM 6 31]) .rt) .sk)))) (.rg [kG 32 (.ib .add (.t 14) (.c (.int .i64 1))),
  kM 14 32]))))))) (.sq (.rg [kG 6 (.mv (.c (.int .i64 (-1))))]) .rt))))⟩
theorem k111 : cF Tryz.prog Tryz.f111 = some c111 := by kernel_rfl
end Go.Proofs.YtggnbdeokmdjbaaGreat


namespace Go.Proofs.YtggnbdeokmdjbaaGreat
open Go
set_option maxRecDepth 100000
def c112 : Fu := ⟨67, [.t 4, .t 5, .t 6], (.sq (.rg [kG 2 (.bx 25 (.t 0)),
  kG 4 (.mv (.c (.int .i64 0))),
  kG 5 (.mv (.c (.int .i64 0))),
  kG 6 (.mv (.c (.int .i64 0)))]) (.sq (.sq (.rg [kM 8 1,
  kG 9 (.ib .lss (.t 8) (.c (.int .i64 0))),
  kM 10 9,
  kH 11 10 false (.mv (.t 1)),
  kH 12 10 false (.ld (.t 2) 6 true),
  kH 13 10 false (.ca 157 [.t 12]),
  kH 14 10 false (.ib .geq (.t 11) (.t 13)),
  kG 15 (.pk (.t 10) (.c (.bool true)) (.t 14))]) (.cd (.t 15) (.sq (.rg [kG 4 (.mv (.c (.int .i64 0))),
  kG 5 (.mv (.c (.int .i64 0))),
  kG 6 (.mv (.c (.int .i64 0)))]) .rt) .sk)) (.sq (.sq (.rg [kM 16 1,
  kG 17 (.ib .lss (.t 16) (.c (.int .i64 2)))]) (.cd (.t 17) (.sq (.rg [kM 18 1,
  kG 4 (.mv (.c (.int .i64 1))),
  kM 5 18,
  kG 6 (.mv (.c (.int .i64 0)))]) .rt) .sk)) (.sq (.sq (.rg [kM 19 1,
  kG 20 (.ib .eql (.t 19) (.c (.int .i64 2)))]) (.cd (.t 20) (.sq (.rg [kG 4 (.mv (.c (.int .i64 2))),
  kG 5 (.mv (.c (.int .i64 0))),
  kG 6 (.mv (.c (.int .i64 0)))]) .rt) .sk)) (.sq (.rg [kM 21 1,
  kG 22 (.ib .sub (.t 21) (.c (.int .i64 3))),
  kM 7 22]) (.sq (.sq (.rg [kM 23 7,
  kF 24 2 0,
  kL 25 24,
  kG 26 (.ib .lss (.t 23) (.t 25))]) (.cd (.t 26) (.sq (.rg [kM 27 7,
  kG 4 (.mv (.c (.int .i64 3))),
  kM 5 27,
  kG 6 (.mv (.c (.int .i64 0)))]) .rt) .sk)) (.sq (.rg [kM 28 7,
  kF 29 2 0,
  kL 30 29,
  kG 31 (.ib .sub (.t 28) (.t 30)),
  kM 7 31]) (.sq (.sq (.rg [kM 32 7,
  kF 33 2 3,
  kL 34 33,
  kG 35 (.ib .lss (.t 32) (.t 34))]) (.cd (.t 35) (.sq (.rg [kM 36 7,
  kG 4 (.mv (.c (.int .i64 4))),
  kM 5 36,
  kG 6 (.mv (.c (.int .i64 0)))]) .rt) .sk)) (.sq (.rg [kM 37 7,
  kF 38 2 3,
  kL 39 38,
  kG 40 (.ib .sub (.t 37) (.t 39)),
  kM 7 40]) (.sq (.sq (.rg [kM 41 7,
  kF 42 2 3,
  kL 43 42,
  kG 44 (.ib .lss (.t 41) (.t 43))]) (.cd (.t 44) (.sq (.rg [kM 45 7,
  kG 4 (.mv (.c (.int .i64 5))),
  kM 5 45,
  kG 6 (.mv (.c (.int .i64 0)))]) .rt) .sk)) (.sq (.rg [kM 46 7,
  kF 47 2 3,
  kL 48 47,
  kG 49 (.ib .sub (.t 46) (.t 48)),
  kM 7 49]) (.sq (.sq (.rg [kM 50 7,
  kF 51 2 1,
  kL 52 51,
  kG 53 (.ib .lss (.t 50) (.t 52))]) (.cd (.t 53) (.sq (.rg [kM 54 7,
  kG 4 (.mv (.c (.int .i64 6))),
  kM 5 54,
  kG 6 (.mv (.c (.int .i64 0)))]) .rt) .sk)) (.sq (.rg [kM 55 7,
  kF 56 2 1,
  kL 57 56,
  kG 58 (.ib .sub (.t 55) (.t 57)),
  kM 7 58]) (.sq (.rd [⟨0, 0, [7], kM 59 7⟩, ⟨1, 0, [2], kF 60 2 2⟩, ⟨2, 2, [60], kL 61 60⟩, ⟨3, 7, [59, 61], kG 62 (.ib .quo (.t 59) (.t 61))⟩, ⟨4, 0, [7], kM 63 7⟩, ⟨5, 0, [2], kF 64 2 2⟩, ⟨6, 32, [64], kL 65 64⟩, ⟨7, 112, [63, 65], kG 66 (.ib .rem (.t 63) (.t 65))⟩, ⟨8, 0, [], kG 4 (.mv (.c (.int .i64 7)))⟩, ⟨9, 271, [62], kM 5 62⟩, ⟨10, 1023, [66], kM 6 66⟩]) .rt))))))))))))))⟩
theorem k112 : cF Tryz.prog Tryz.f112 = some c112 := by kernel_rfl
def c140 : Fu := ⟨165, [.t 2], (.sq (.rg [kG 2 (.mv (.c (.bool false)))]) (.sq (.sq (.rg [kM 5 0,
  kN 6 5,
  kF 7 6 4,
  kL 8 7]) (.cd (.t 8) (.sq (.rg [kG 2 (.mv (.c (.bool false)))]) .rt) .sk)) (.sq (.rd [⟨0, 0, [0], kM 9 0⟩, ⟨1, 1, [9], kN 10 9⟩, ⟨2, 3, [10], kF 11 10 0⟩, ⟨3, 7, [11], kL 12 11⟩, ⟨4, 0, [0], kM 13 0⟩, ⟨5, 16, [13], kN 14 13⟩, ⟨6, 48, [14], kF 15 14 1⟩, ⟨7, 112, [15], kL 16 15⟩, ⟨8, 240, [16], kG 17 (.len (.t 16))⟩, ⟨9, 15, [12], kM 3 12⟩, ⟨10, 1023, [17], kM 4 17⟩]) (.sq (.bl 0 (.sq (.rg [kM 51 0,
  kN 52 51,
  kF 53 52 2,
  kL 54 53,
  kM 55 4,
  kG 56 (.ib .sub (.t 55) (.c (.int .i64 1))),
  kG 57 (.ib .lss (.t 54) (.t 56)),
  kM 50 57]) (.cd (.t 50) (.sq (.rd [⟨0, 0, [3], kM 58 3⟩, ⟨1, 1, [58], kN 59 58⟩, ⟨2, 3, [59], kF 60 59 0⟩, ⟨3, 7, [60], kL 61 60⟩, ⟨4, 0, [3], kM 62 3⟩, ⟨5, 16, [62], kN 63 62⟩, ⟨6, 48, [63], kF 64 63 2⟩, ⟨7, 112, [64], kL 65 64⟩, ⟨8, 0, [0], kM 66 0⟩, ⟨9, 256, [66], kN 67 66⟩, ⟨10, 768, [67], kF 68 67 1⟩, ⟨11, 1792, [68], kL 69 68⟩, ⟨12, 0, [0], kM 70 0⟩, ⟨13, 4096, [70], kN 71 70⟩, ⟨14, 12288, [71], kF 72 71 2⟩, ⟨15, 28672, [72], kL 73 72⟩, ⟨16, 65280, [69, 73], kG 74 (.ia (.t 69) (.t 73) 1)⟩, ⟨17, 130816, [74], kL 75 74⟩, ⟨18, 262128, [65, 75], kG 76 (.ib .add (.t 65) (.t 75))⟩, ⟨19, 0, [0], kM 77 0⟩, ⟨20, 524288, [77], kN 78 77⟩, ⟨21, 1572864, [78], kF 79 78 1⟩, ⟨22, 3670016, [79], kL 80 79⟩, ⟨23, 0, [0], kM 81 0⟩, ⟨24, 8388608, [81], kN 82 81⟩, ⟨25, 25165824, [82], kF 83 82 2⟩, ⟨26, 58720256, [83], kL 84 83⟩, ⟨27, 125829120, [84], kG 85 (.ib .add (.t 84) (.c (.int .i64 1)))⟩, ⟨28, 267911168, [80, 85], kG 86 (.ia (.t 80) (.t 85) 1)⟩, ⟨29, 536346624, [86], kL 87 86⟩, ⟨30, 1073217536, [87], kG 88 (.ib .add (.t 87) (.c (.int .i64 1)))⟩, ⟨31, 2146959360, [88], kG 89 (.cv .u64 (.t 88))⟩, ⟨32, 4294967295, [61, 76, 89], kG 90 (.ca 201 [.t 61, .t 76, .t 89])⟩]) (.rg [kM 91 0,
  kN 92 91,
  kF 93 92 2,
  kL 94 93,
  kG 95 (.ib .add (.t 94) (.c (.int .i64 1))),
  kN 96 91,
  kF 97 96 2,
  kS (.st (.t 97) (.t 95) 1)])) (.sq (.rg [kM 99 0,
  kN 100 99,
  kF 101 100 2,
  kL 102 101,
  kM 103 4,
  kG 104 (.ib .sub (.t 103) (.c (.int .i64 1))),
  kG 105 (.ib .eql (.t 102) (.t 104)),
  kM 98 105]) (.cd (.t 98) (.sq (.rd [⟨0, 0, [0], kM 106 0⟩, ⟨1, 0, [3], kM 107 3⟩, ⟨2, 2, [107], kN 108 107⟩, ⟨3, 6, [108], kF 109 108 0⟩, ⟨4, 14, [109], kL 110 109⟩, ⟨5, 0, [3], kM 111 3⟩, ⟨6, 32, [111], kN 112 111⟩, ⟨7, 96, [112], kF 113 112 1⟩, ⟨8, 224, [113], kL 114 113⟩, ⟨9, 510, [110, 114], kG 115 (.ca 95 [.t 110, .t 114])⟩, ⟨10, 1023, [106], kN 116 106⟩, ⟨11, 2047, [116], kF 117 116 3⟩, ⟨12, 4095, [117, 115], kS (.st (.t 117) (.t 115) 1)⟩]) (.rg [kM 118 0,
  kN 119 118,
  kF 120 119 2,
  kL 121 120,
  kG 122 (.ib .add (.t 121) (.c (.int .i64 1))),
  kN 123 118,
  kF 124 123 2,
  kS (.st (.t 124) (.t 122) 1)])) (.sq (.rg [kM 126 0,
  kN 127 126,
  kF 128 127 2,
  kL 129 128,
  kM 130 4,
  kG 131 (.ib .eql (.t 129) (.t 130)),
  kM 125 131]) (.cd (.t 125) (.sq (.rd [⟨0, 0, [3], kM 132 3⟩, ⟨1, 1, [132], kN 133 132⟩, ⟨2, 3, [133], kF 134 133 0⟩, ⟨3, 7, [134], kL 135 134⟩, ⟨4, 0, [3], kM 136 3⟩, ⟨5, 16, [136], kN 137 136⟩, ⟨6, 48, [137], kF 138 137 2⟩, ⟨7, 112, [138], kL 139 138⟩, ⟨8, 0, [0], kM 140 0⟩, ⟨9, 256, [140], kN 141 140⟩, ⟨10, 768, [141], kF 142 141 1⟩, ⟨11, 1792, [142], kL 143 142⟩, ⟨12, 0, [4], kM 144 4⟩, ⟨13, 4096, [144], kG 145 (.ib .sub (.t 144) (.c (.int .i64 1)))⟩, ⟨14, 16128, [143, 145], kG 146 (.ia (.t 143) (.t 145) 1)⟩, ⟨15, 32512, [146], kL 147 146⟩, ⟨16, 65520, [139, 147], kG 148 (.ib .add (.t 139) (.t 147))⟩, ⟨17, 0, [3], kM 149 3⟩, ⟨18, 0, [0], kM 150 0⟩, ⟨19, 262144, [150], kN 151 150⟩, ⟨20, 786432, [151], kF 152 151 3⟩, ⟨21, 1835008, [152], kL 153 152⟩, ⟨22, 4063232, [149, 153], kG 154 (.ca 86 [.t 149, .t 153])⟩, ⟨23, 8257536, [154], kG 155 (.ib .add (.t 154) (.c (.int .i64 1)))⟩, ⟨24, 16646144, [155], kG 156 (.cv .u64 (.t 155))⟩, ⟨25, 33554431, [135, 148, 156], kG 157 (.ca 201 [.t 135, .t 148, .t 156])⟩]) (.rg [kM 158 0,
  kN 159 158,
  kF 160 159 2,
  kL 161 160,
  kG 162 (.ib .add (.t 161) (.c (.int .i64 1))),
  kN 163 158,
  kF 164 163 2,
  kS (.st (.t 164) (.t 162) 1)])) (.sq (.rd [⟨0, 0, [0], kM 18 0⟩, ⟨1, 0, [3], kM 19 3⟩, ⟨2, 2, [19], kN 20 19⟩, ⟨3, 6, [20], kF 21 20 0⟩, ⟨4, 14, [21], kL 22 21⟩, ⟨5, 0, [3], kM 23 3⟩, ⟨6, 32, [23], kN 24 23⟩, ⟨7, 96, [24], kF 25 24 1⟩, ⟨8, 224, [25], kL 26 25⟩, ⟨9, 0, [0], kM 27 0⟩, ⟨10, 512, [27], kN 28 27⟩, ⟨11, 1536, [28], kF 29 28 3⟩, ⟨12, 3584, [29], kL 30 29⟩, ⟨13, 0, [0], kM 31 0⟩, ⟨14, 8192, [31], kN 32 31⟩, ⟨15, 24576, [32], kF 33 32 3⟩, ⟨16, 57344, [33], kL 34 33⟩, ⟨17, 0, [0], kM 35 0⟩, ⟨18, 131072, [35], kN 36 35⟩, ⟨19, 393216, [36], kF 37 36 1⟩, ⟨20, 917504, [37], kL 38 37⟩, ⟨21, 1966080, [38], kG 39 (.ia (.t 38) (.c (.int .i64 0)) 1)⟩, ⟨22, 4063232, [39], kL 40 39⟩, ⟨23, 8380416, [34, 40], kG 41 (.ca 218 [.t 34, .t 40])⟩, ⟨24, 16777214, [22, 26, 30, 41], kG 42 (.ca 183 [.t 22, .t 26, .t 30, .t 41])⟩, ⟨25, 33554431, [18], kN 43 18⟩, ⟨26, 67108863, [43], kF 44 43 4⟩, ⟨27, 134217727, [44, 42], kS (.st (.t 44) (.t 42) 1)⟩]) (.rg [kM 45 0,
  kM 46 4,
  kG 47 (.ib .sub (.t 46) (.c (.int .i64 1))),
  kN 48 45,
  kF 49 48 2,
  kS (.st (.t 49) (.t 47) 1)]))))))))) (.sq (.rg [kG 2 (.mv (.c (.bool true)))]) .rt)))))⟩
theorem k140 : cF Tryz.prog Tryz.f140 = some c140 := by kernel_rfl
def c143 : Fu := ⟨8, [.t 2], (.sq (.rg [kG 2 (.mv (.c (.pointer none)))]) (.sq (.rg [kM 3 0,
  kG 4 (.mm true (.t 3) (.c (.int .i64 0))),
  kG 5 (.mm false (.t 4) (.c (.int .i64 64))),
  kG 6 (.bd [.int .i64 0, (.slice none 0 0)] [(0, 1, (.t 5))]),
  kG 7 (.bx 279 (.t 6)),
  kM 2 7]) .rt))⟩
theorem k143 : cF Tryz.prog Tryz.f143 = some c143 := by kernel_rfl
def c144 : Fu := ⟨3, [.t 0], (.sq (.rg [kG 0 (.mv (.c (.pointer none)))]) (.sq (.rg [kG 1 (.bd [.int .i64 0, (.slice none 0 0), .int .i64 0, (.slice none 0 0), .int .i64 0, (.slice none 0 0), .int .i64 0] []),
  kG 2 (.bx 276 (.t 1)),
  kM 0 2]) .rt))⟩
theorem k144 : cF Tryz.prog Tryz.f144 = some c144 := by kernel_rfl
def c145 : Fu := ⟨24, [.t 2], (.sq (.rg [kG 2 (.mv (.c (.bool false)))]) (.sq (.rg [kM 4 0,
  kM 5 0,
  kM 6 0,
  kN 7 6,
  kF 8 7 5,
  kL 9 8,
  kN 10 9,
  kF 11 10 8,
  kL 12 11,
  kG 13 (.ca 221 [.t 12]),
  kM 3 13,
  kG 14 (.ex (.t 3) 0),
  kG 15 (.ex (.t 3) 1),
  kN 16 4,
  kF 17 16 7,
  kS (.st (.t 17) (.t 14) 1),
  kN 18 5,
  kF 19 18 9,
  kS (.st (.t 19) (.t 15) 1)]) (.sq (.rg [kM 20 0,
  kN 21 20,
  kF 22 21 9,
  kL 23 22,
  kM 2 23]) .rt)))⟩
theorem k145 : cF Tryz.prog Tryz.f145 = some c145 := by kernel_rfl
def c146 : Fu := ⟨20, [.t 2], (.sq (.rg [kG 2 (.mv (.c (.int .i64 0)))]) (.sq (.rg [kG 3 (.mv (.c (.int .i64 0)))]) (.sq (.sq (.rg [kM 6 0,
  kN 7 6,
  kF 8 7 0,
  kG 9 (.ld (.t 8) 6 true),
  kG 10 (.mv (.c (.int .i64 0)))]) (.bl 0 (.lp (.sq (.rg [kG 11 (.ib .lss (.t 10) (.c (.int .i64 3)))]) (.sq (.cd (.t 11) .sk (.ex 0)) (.sq (.bl 1 (.sq (.rg [kG 12 (.iv (.t 9) (.t 10) 3 2 true),
  kG 5 (.al 273 [.int .i64 0, (.slice none 0 0)]),
  kS (.st (.t 5) (.t 12) 2)]) (.rg [kM 13 3,
  kF 14 5 1,
  kL 15 14,
  kG 16 (.len (.t 15)),
  kG 17 (.ib .add (.t 13) (.t 16)),
  kM 3 17]))) (.rg [kG 18 (.ib .add (.t 10) (.c (.int .i64 1))),
  kM 10 18]))))))) (.sq (.rg [kM 19 3,
  kM 2 19]) .rt))))⟩
theorem k146 : cF Tryz.prog Tryz.f146 = some c146 := by kernel_rfl
def c147 : Fu := ⟨8, [], (.rg [kM 4 0,
  kM 5 1,
  kN 6 4,
  kF 7 6 0,
  kS (.st (.t 7) (.t 5) 1)])⟩
theorem k147 : cF Tryz.prog Tryz.f147 = some c147 := by kernel_rfl
def c148 : Fu := ⟨34, [], (.sq (.rg [kM 5 0,
  kN 6 5,
  kF 7 6 5,
  kL 8 7,
  kN 9 8,
  kF 10 9 0,
  kL 11 10,
  kG 12 (.ca 222 [.t 11, (.c (.int .i64 2))]),
  kM 4 12,
  kG 13 (.ex (.t 4) 0),
  kG 14 (.ex (.t 4) 1),
  kM 2 13,
  kM 3 14]) (.sq (.rg [kM 15 0,
  kM 16 2,
  kG 17 (.ca 180 [.t 16]),
  kN 18 15,
  kF 19 18 8,
  kS (.st (.t 19) (.t 17) 1)]) (.sq (.rd [⟨0, 0, [0], kM 20 0⟩, ⟨1, 1, [20], kN 21 20⟩, ⟨2, 3, [21], kF 22 21 5⟩, ⟨3, 7, [22], kL 23 22⟩, ⟨4, 0, [0], kM 24 0⟩, ⟨5, 16, [24], kN 25 24⟩, ⟨6, 48, [25], kF 26 25 8⟩, ⟨7, 112, [26], kL 27 26⟩, ⟨8, 255, [23, 27], kG 28 (.ca 79 [.t 23, .t 27])⟩]) (.sq (.rg [kM 29 0,
  kG 30 (.ca 145 [.t 29]),
  kG 31 (.nt (.t 30))]) (.cd (.t 31) (.rg [kM 32 0,
  kG 33 (.ca 149 [.t 32])]) .sk)))))⟩
theorem k148 : cF Tryz.prog Tryz.f148 = some c148 := by kernel_rfl
def c149 : Fu := ⟨37, [], (.sq (.rd [⟨0, 0, [0], kM 2 0⟩, ⟨1, 0, [0], kM 3 0⟩, ⟨2, 2, [3], kN 4 3⟩, ⟨3, 6, [4], kF 5 4 5⟩, ⟨4, 14, [5], kL 6 5⟩, ⟨5, 30, [6], kN 7 6⟩, ⟨6, 62, [7], kF 8 7 7⟩, ⟨7, 126, [8], kL 9 8⟩, ⟨8, 0, [0], kM 10 0⟩, ⟨9, 256, [10], kN 11 10⟩, ⟨10, 768, [11], kF 12 11 5⟩, ⟨11, 1792, [12], kL 13 12⟩, ⟨12, 3840, [13], kN 14 13⟩, ⟨13, 7936, [14], kF 15 14 1⟩, ⟨14, 16128, [15], kF 16 15 5⟩, ⟨15, 32512, [16], kL 17 16⟩, ⟨16, 65534, [9, 17], kG 18 (.ca 192 [.t 9, .t 17])⟩, ⟨17, 131071, [2], kN 19 2⟩, ⟨18, 262143, [19], kF 20 19 6⟩, ⟨19, 524287, [20, 18], kS (.st (.t 20) (.t 18) 1)⟩]) (.rd [⟨0, 0, [0], kM 21 0⟩, ⟨1, 1, [21], kN 22 21⟩, ⟨2, 3, [22], kF 23 22 0⟩, ⟨3, 0, [0], kM 24 0⟩, ⟨4, 8, [24], kN 25 24⟩, ⟨5, 24, [25], kF 26 25 6⟩, ⟨6, 56, [26], kL 27 26⟩, ⟨7, 120, [27], kG 28 (.mf (.func 193) [.t 27] [])⟩, ⟨8, 0, [0], kM 29 0⟩, ⟨9, 256, [29], kN 30 29⟩, ⟨10, 768, [30], kF 31 30 6⟩, ⟨11, 1792, [31], kL 32 31⟩, ⟨12, 3840, [32], kG 33 (.mf (.func 194) [.t 32] [])⟩, ⟨13, 0, [0], kM 34 0⟩, ⟨14, 8192, [34], kG 35 (.mf (.func 223) [.t 34] [])⟩, ⟨15, 32767, [23, 28, 33, 35], kG 36 (.ca 101 [.t 23, .t 28, .t 33, .t 35])⟩]))⟩
theorem k149 : cF Tryz.prog Tryz.f149 = some c149 := by kernel_rfl
def c150 : Fu := ⟨37, [.t 2], (.sq (.rg [kG 1 (.bx 25 (.t 0)),
  kG 2 (.mv (.c (.bool false)))]) (.sq (.rg [kF 3 1 0,
  kL 4 3,
  kG 5 (.ca 189 [.t 4, (.c (.int .i64 1)), (.c (.int .i64 64))]),
  kM 6 5,
  kH 7 6 true (.fa (.t 1) 1),
  kH 8 6 true (.ld (.t 7) 1 false),
  kH 9 6 true (.ca 189 [.t 8, (.c (.int .i64 1)), (.c (.int .i64 4096))]),
  kG 10 (.pk (.t 6) (.t 9) (.c (.bool false))),
  kM 11 10,
  kH 12 11 true (.fa (.t 1) 2),
  kH 13 11 true (.ld (.t 12) 1 false),
  kH 14 11 true (.ca 189 [.t 13, (.c (.int .i64 8)), (.c (.int .i64 1024))]),
  kG 15 (.pk (.t 11) (.t 14) (.c (.bool false))),
  kM 16 15,
  kH 17 16 true (.fa (.t 1) 2),
  kH 18 16 true (.ld (.t 17) 1 false),
  kH 19 16 true (.ib .rem (.t 18) (.c (.int .i64 8))),
  kH 20 16 true (.ib .eql (.t 19) (.c (.int .i64 0))),
  kG 21 (.pk (.t 16) (.t 20) (.c (.bool false))),
  kM 22 21,
  kH 23 22 true (.fa (.t 1) 3),
  kH 24 22 true (.ld (.t 23) 1 false),
  kH 25 22 true (.ca 189 [.t 24, (.c (.int .i64 1)), (.c (.int .i64 4096))]),
  kG 26 (.pk (.t 22) (.t 25) (.c (.bool false))),
  kM 27 26,
  kH 28 27 true (.fa (.t 1) 4),
  kH 29 27 true (.ld (.t 28) 1 false),
  kH 30 27 true (.ca 189 [.t 29, (.c (.int .i64 0)), (.c (.int .i64 64))]),
  kG 31 (.pk (.t 27) (.t 30) (.c (.bool false))),
  kM 32 31,
  kH 33 32 true (.fa (.t 1) 5),
  kH 34 32 true (.ld (.t 33) 1 false),
  kH 35 32 true (.ca 189 [.t 34, (.c (.int .i64 1)), (.c (.int .i64 8))]),
  kG 36 (.pk (.t 32) (.t 35) (.c (.bool false))),
  kM 2 36]) .rt))⟩
theorem k150 : cF Tryz.prog Tryz.f150 = some c150 := by kernel_rfl
def c151 : Fu := ⟨40, [.c 2 15 true], (.sq (.rg [kG 1 (.bx 25 (.t 0)),
  kG 2 (.al 244 [.int .i64 0, .int .i64 0, .int .i64 0, .int .i64 0, .int .i64 0, .int .i64 0, .int .i64 0, .int .i64 0, .int .i64 0, .int .i64 0, .int .i64 0, .int .i64 0, .int .i64 0, .int .i64 0, .int .i64 0])]) (.sq (.rg [kF 6 1 0,
  kL 7 6,
  kG 8 (.bd [.int .i64 0, .int .i64 0, .int .i64 0] [(0, 1, (.c (.int .i64 3))), (2, 1, (.t 7))]),
  kF 9 1 3,
  kL 10 9,
  kG 11 (.bd [.int .i64 0, .int .i64 0, .int .i64 0] [(0, 1, (.c (.int .i64 4))), (2, 1, (.t 10))]),
  kF 12 1 3,
  kL 13 12,
  kG 14 (.bd [.int .i64 0, .int .i64 0, .int .i64 0] [(0, 1, (.c (.int .i64 5))), (2, 1, (.t 13))]),
  kF 15 1 1,
  kL 16 15,
  kG 17 (.bd [.int .i64 0, .int .i64 0, .int .i64 0] [(0, 1, (.c (.int .i64 6))), (2, 1, (.t 16))]),
  kF 18 1 1,
  kL 19 18,
  kF 20 1 2,
  kL 21 20,
  kG 22 (.ib .mul (.t 19) (.t 21)),
  kG 23 (.bd [.int .i64 0, .int .i64 0, .int .i64 0] [(0, 1, (.c (.int .i64 7))), (2, 1, (.t 22))]),
  kG 24 (.bd [.int .i64 0, .int .i64 0, .int .i64 0, .int .i64 0, .int .i64 0, .int .i64 0, .int .i64 0, .int .i64 0, .int .i64 0, .int .i64 0, .int .i64 0, .int .i64 0, .int .i64 0, .int .i64 0, .int .i64 0] [(0, 3, (.t 8)), (3, 3, (.t 11)), (6, 3, (.t 14)), (9, 3, (.t 17)), (12, 3, (.t 23))]),
  kG 3 (.al 244 [.int .i64 0, .int .i64 0, .int .i64 0, .int .i64 0, .int .i64 0, .int .i64 0, .int .i64 0, .int .i64 0, .int .i64 0, .int .i64 0, .int .i64 0, .int .i64 0, .int .i64 0, .int .i64 0, .int .i64 0]),
  kS (.st (.t 3) (.t 24) 15)]) (.sq (.rg [kG 4 (.mv (.c (.int .i64 3)))]) (.sq (.sq (.rg [kG 25 (.mv (.c (.int .i64 0)))]) (.bl 0 (.lp (.sq (.rg [kG 26 (.ib .lss (.t 25) (.c (.int .i64 5)))]) (.sq (.cd (.t 26) .sk (.ex 0)) (.sq (.bl 1 (.sq (.rg [kM 27 25,
  kM 5 27]) (.sq (.rg [kM 28 5,
  kM 29 4,
  kG 30 (.iaa (.t 3) (.t 28) 5 3),
  kF 31 30 1,
  kS (.st (.t 31) (.t 29) 1)]) (.rg [kM 32 4,
  kM 33 5,
  kG 34 (.iaa (.t 3) (.t 33) 5 3),
  kF 35 34 2,
  kL 36 35,
  kG 37 (.ib .add (.t 32) (.t 36)),
  kM 4 37])))) (.rg [kG 38 (.ib .add (.t 25) (.c (.int .i64 1))),
  kM 25 38]))))))) (.sq (.rg [kG 39 (.ld (.t 3) 15 true),
  kS (.st (.t 2) (.t 39) 15)]) .rt)))))⟩
theorem k151 : cF Tryz.prog Tryz.f151 = some c151 := by kernel_rfl
def c152 : Fu := ⟨8, [.t 2], (.sq (.rg [kG 2 (.mv (.c (.int .i64 0)))]) (.sq (.rg [kM 3 0,
  kN 4 3,
  kF 5 4 0,
  kL 6 5,
  kG 7 (.len (.t 6)),
  kM 2 7]) .rt))⟩
theorem k152 : cF Tryz.prog Tryz.f152 = some c152 := by kernel_rfl
def c153 : Fu := ⟨57, [.t 8, .t 9], (.sq (.rg [kG 4 (.bx 45 (.t 0)),
  kG 8 (.mv (.c (.pointer none))),
  kG 9 (.mv (.c (.int .i64 0)))]) (.sq (.rg [kG 11 (.mf (.func 224) [] [.t 4]),
  kM 10 11]) (.sq (.sq (.rg [kM 12 3,
  kG 13 (.ib .lss (.t 12) (.c (.int .i64 1))),
  kM 14 13,
  kH 15 14 false (.mv (.t 3)),
  kH 16 14 false (.ib .gtr (.t 15) (.c (.int .i64 4096))),
  kG 17 (.pk (.t 14) (.c (.bool true)) (.t 16)),
  kM 18 17,
  kH 19 18 false (.mv (.t 10)),
  kH 20 18 false (.mv (.t 1)),
  kH 21 18 false (.cl (.t 19) [.t 20]),
  kH 22 18 false (.nt (.t 21)),
  kG 23 (.pk (.t 18) (.c (.bool true)) (.t 22)),
  kM 24 23,
  kH 25 24 false (.mv (.t 10)),
  kH 26 24 false (.mv (.t 2)),
  kH 27 24 false (.cl (.t 25) [.t 26]),
  kH 28 24 false (.nt (.t 27)),
  kG 29 (.pk (.t 24) (.c (.bool true)) (.t 28)),
  kM 30 29,
  kH 31 30 false (.mv (.t 10)),
  kH 32 30 false (.mv (.t 2)),
  kH 33 30 false (.mv (.t 3)),
  kH 34 30 false (.ib .add (.t 32) (.t 33)),
  kH 35 30 false (.ib .sub (.t 34) (.c (.int .i64 1))),
  kH 36 30 false (.cl (.t 31) [.t 35]),
  kH 37 30 false (.nt (.t 36)),
  kG 38 (.pk (.t 30) (.c (.bool true)) (.t 37)),
  kM 39 38,
  kH 40 39 false (.mv (.t 1)),
  kH 41 39 false (.mv (.t 2)),
  kH 42 39 false (.ib .geq (.t 40) (.t 41)),
  kH 43 39 false (.mv (.t 42)),
  kH 44 43 true (.mv (.t 1)),
  kH 45 43 true (.mv (.t 2)),
  kH 46 43 true (.mv (.t 3)),
  kH 47 43 true (.ib .add (.t 45) (.t 46)),
  kH 48 43 true (.ib .lss (.t 44) (.t 47)),
  kH 49 39 false (.pk (.t 43) (.t 48) (.c (.bool false))),
  kG 50 (.pk (.t 39) (.c (.bool true)) (.t 49))]) (.cd (.t 50) (.sq (.rg [kG 8 (.mv (.c (.pointer none))),
  kG 9 (.mv (.c (.int .i64 1)))]) .rt) .sk)) (.sq (.rg [kL 51 4,
  kM 52 1,
  kM 53 2,
  kM 54 3,
  kG 55 (.bd [(.pointer none), .int .i64 0, .int .i64 0, .int .i64 0] [(0, 1, (.t 51)), (1, 1, (.t 52)), (2, 1, (.t 53)), (3, 1, (.t 54))]),
  kG 56 (.bx 145 (.t 55)),
  kM 8 56,
  kG 9 (.mv (.c (.int .i64 0)))]) .rt))))⟩
theorem k153 : cF Tryz.prog Tryz.f153 = some c153 := by kernel_rfl
def c154 : Fu := ⟨8, [.t 4], (.sq (.rg [kG 2 (.bx 25 (.t 0)),
  kG 4 (.mv (.c (.int .i64 0)))]) (.sq (.rg [kG 5 (.ld (.t 2) 6 true),
  kM 6 1,
  kG 7 (.ca 111 [.t 5, (.c (.int .i64 6)), .t 6]),
  kM 4 7]) .rt))⟩
theorem k154 : cF Tryz.prog Tryz.f154 = some c154 := by kernel_rfl
def c155 : Fu := ⟨57, [], (.sq (.sq (.rg [kM 5 0,
  kN 6 5,
  kF 7 6 3,
  kL 8 7,
  kG 9 (.mv (.c (.int .i64 0)))]) (.bl 0 (.lp (.sq (.rg [kG 10 (.ib .lss (.t 9) (.t 8))]) (.sq (.cd (.t 10) .sk (.ex 0)) (.sq (.bl 1 (.sq (.rg [kM 11 9,
  kM 2 11]) (.rd [⟨0, 0, [0], kM 12 0⟩, ⟨1, 1, [12], kN 13 12⟩, ⟨2, 3, [13], kF 14 13 0⟩, ⟨3, 7, [14], kL 15 14⟩, ⟨4, 0, [0], kM 16 0⟩, ⟨5, 16, [16], kN 17 16⟩, ⟨6, 48, [17], kF 18 17 2⟩, ⟨7, 112, [18], kL 19 18⟩, ⟨8, 0, [2], kM 20 2⟩, ⟨9, 496, [19, 20], kG 21 (.ib .add (.t 19) (.t 20))⟩, ⟨10, 0, [2], kM 22 2⟩, ⟨11, 1024, [22], kG 23 (.ib .add (.t 22) (.c (.int .i64 2)))⟩, ⟨12, 3072, [23], kG 24 (.cv .u64 (.t 23))⟩, ⟨13, 8191, [15, 21, 24], kG 25 (.ca 34 [.t 15, .t 21, .t 24])⟩]))) (.rg [kG 26 (.ib .add (.t 9) (.c (.int .i64 1))),
  kM 9 26]))))))) (.sq (.rd [⟨0, 0, [0], kM 27 0⟩, ⟨1, 1, [27], kN 28 27⟩, ⟨2, 3, [28], kF 29 28 0⟩, ⟨3, 7, [29], kL 30 29⟩, ⟨4, 0, [0], kM 31 0⟩, ⟨5, 16, [31], kN 32 31⟩, ⟨6, 48, [32], kF 33 32 2⟩, ⟨7, 112, [33], kL 34 33⟩, ⟨8, 0, [0], kM 35 0⟩, ⟨9, 256, [35], kN 36 35⟩, ⟨10, 768, [36], kF 37 36 3⟩, ⟨11, 1792, [37], kL 38 37⟩, ⟨12, 4080, [34, 38], kG 39 (.ib .add (.t 34) (.t 38))⟩, ⟨13, 8176, [39], kG 40 (.ib .sub (.t 39) (.c (.int .i64 1)))⟩, ⟨14, 16383, [30, 40], kG 41 (.ca 34 [.t 30, .t 40, (.c (.int .u64 0))])⟩]) (.sq (.rg [kG 43 (.bd [.int .i64 0, .int .i64 0] []),
  kG 44 (.ca 225 [.t 43]),
  kM 42 44,
  kG 45 (.ex (.t 42) 0),
  kG 46 (.ex (.t 42) 1),
  kM 3 45,
  kM 4 46]) (.rd [⟨0, 0, [0], kM 47 0⟩, ⟨1, 1, [47], kN 48 47⟩, ⟨2, 3, [48], kF 49 48 0⟩, ⟨3, 7, [49], kL 50 49⟩, ⟨4, 0, [0], kM 51 0⟩, ⟨5, 16, [51], kN 52 51⟩, ⟨6, 48, [52], kF 53 52 1⟩, ⟨7, 112, [53], kL 54 53⟩, ⟨8, 0, [3], kM 55 3⟩, ⟨9, 511, [50, 54, 55], kG 56 (.ca 34 [.t 50, .t 54, .t 55])⟩]))))⟩
theorem k155 : cF Tryz.prog Tryz.f155 = some c155 := by kernel_rfl
def c156 : Fu := ⟨7, [.t 2], (.sq (.rg [kG 2 (.mv (.c (.pointer none)))]) (.sq (.rg [kM 3 0,
  kG 4 (.mk 89 1 8 [(.int .u64 0)] (.t 3) (.t 3)),
  kG 5 (.bd [(.slice none 0 0), .int .i64 0] [(0, 1, (.t 4))]),
  kG 6 (.bx 94 (.t 5)),
  kM 2 6]) .rt))⟩
theorem k156 : cF Tryz.prog Tryz.f156 = some c156 := by kernel_rfl
def c157 : Fu := ⟨22, [.t 2], (.sq (.rg [kG 1 (.bx 25 (.t 0)),
  kG 2 (.mv (.c (.int .i64 0)))]) (.sq (.sq (.rg [kG 3 (.ld (.t 1) 6 true),
  kG 4 (.ca 188 [.t 3]),
  kG 5 (.nt (.t 4))]) (.cd (.t 5) (.sq (.rg [kG 2 (.mv (.c (.int .i64 0)))]) .rt) .sk)) (.sq (.rg [kF 6 1 0,
  kL 7 6,
  kG 8 (.ib .add (.c (.int .i64 3)) (.t 7)),
  kF 9 1 3,
  kL 10 9,
  kG 11 (.ib .mul (.c (.int .i64 2)) (.t 10)),
  kG 12 (.ib .add (.t 8) (.t 11)),
  kF 13 1 1,
  kL 14 13,
  kG 15 (.ib .add (.t 12) (.t 14)),
  kF 16 1 1,
  kL 17 16,
  kF 18 1 2,
  kL 19 18,
  kG 20 (.ib .mul (.t 17) (.t 19)),
  kG 21 (.ib .add (.t 15) (.t 20)),
  kM 2 21]) .rt)))⟩
theorem k157 : cF Tryz.prog Tryz.f157 = some c157 := by kernel_rfl
def c158 : Fu := ⟨17, [.t 4], (.sq (.rg [kG 2 (.bx 25 (.t 0)),
  kG 4 (.mv (.c (.int .i64 0)))]) (.sq (.rg [kG 5 (.ld (.t 2) 6 true),
  kF 6 2 0,
  kL 7 6,
  kG 8 (.ib .add (.c (.int .i64 3)) (.t 7)),
  kF 9 2 3,
  kL 10 9,
  kG 11 (.ib .mul (.c (.int .i64 2)) (.t 10)),
  kG 12 (.ib .add (.t 8) (.t 11)),
  kF 13 2 1,
  kL 14 13,
  kM 15 1,
  kG 16 (.ca 109 [.t 5, .t 12, .t 14, .t 15]),
  kM 4 16]) .rt))⟩
theorem k158 : cF Tryz.prog Tryz.f158 = some c158 := by kernel_rfl
def c159 : Fu := ⟨75, [], (.sq (.rg [kG 6 (.bd [.int .i64 0, .int .i64 0] [(0, 1, (.c (.int .i64 0)))]),
  kG 7 (.ca 226 [.t 6]),
  kM 5 7,
  kG 8 (.ex (.t 5) 0),
  kG 9 (.ex (.t 5) 1),
  kM 2 8,
  kM 3 9]) (.sq (.rd [⟨0, 0, [0], kM 10 0⟩, ⟨1, 1, [10], kN 11 10⟩, ⟨2, 3, [11], kF 12 11 0⟩, ⟨3, 7, [12], kL 13 12⟩, ⟨4, 15, [13], kN 14 13⟩, ⟨5, 31, [14], kF 15 14 0⟩, ⟨6, 63, [15], kL 16 15⟩, ⟨7, 0, [0], kM 17 0⟩, ⟨8, 128, [17], kN 18 17⟩, ⟨9, 384, [18], kF 19 18 1⟩, ⟨10, 896, [19], kL 20 19⟩, ⟨11, 0, [2], kM 21 2⟩, ⟨12, 4095, [16, 20], kG 22 (.ia (.t 16) (.t 20) 1)⟩, ⟨13, 8191, [22, 21], kS (.st (.t 22) (.t 21) 1)⟩]) (.sq (.rg [kG 4 (.mv (.c (.int .i64 0)))]) (.bl 0 (.lp (.sq (.sq (.rg [kM 23 4,
  kM 24 0,
  kN 25 24,
  kF 26 25 3,
  kL 27 26,
  kG 28 (.ib .lss (.t 23) (.t 27))]) (.cd (.t 28) .sk (.ex 0))) (.sq (.bl 1 (.sq (.rd [⟨0, 0, [0], kM 31 0⟩, ⟨1, 1, [31], kN 32 31⟩, ⟨2, 3, [32], kF 33 32 0⟩, ⟨3, 7, [33], kL 34 33⟩, ⟨4, 15, [34], kN 35 34⟩, ⟨5, 31, [35], kF 36 35 0⟩, ⟨6, 63, [36], kL 37 36⟩, ⟨7, 0, [0], kM 38 0⟩, ⟨8, 128, [38], kN 39 38⟩, ⟨9, 384, [39], kF 40 39 2⟩, ⟨10, 896, [40], kL 41 40⟩, ⟨11, 0, [4], kM 42 4⟩, ⟨12, 3968, [41, 42], kG 43 (.ib .add (.t 41) (.t 42))⟩, ⟨13, 0, [4], kM 44 4⟩, ⟨14, 8192, [44], kG 45 (.ib .add (.t 44) (.c (.int .i64 2)))⟩, ⟨15, 0, [0], kM 46 0⟩, ⟨16, 32768, [46], kN 47 46⟩, ⟨17, 98304, [47], kF 48 47 3⟩, ⟨18, 229376, [48], kL 49 48⟩, ⟨19, 491520, [49], kG 50 (.ib .add (.t 49) (.c (.int .i64 1)))⟩, ⟨20, 1040384, [45, 50], kG 51 (.ib .rem (.t 45) (.t 50))⟩, ⟨21, 2088960, [51], kG 52 (.cv .u64 (.t 51))⟩, ⟨22, 4194303, [37, 43], kG 53 (.ia (.t 37) (.t 43) 1)⟩, ⟨23, 8388607, [53, 52], kS (.st (.t 53) (.t 52) 1)⟩]) (.sq (.rg [kM 54 4,
  kM 55 0,
  kN 56 55,
  kF 57 56 3,
  kL 58 57,
  kG 59 (.ib .sub (.t 58) (.c (.int .i64 1))),
  kG 60 (.ib .eql (.t 54) (.t 59))]) (.cd (.t 60) (.rd [⟨0, 0, [0], kM 61 0⟩, ⟨1, 1, [61], kN 62 61⟩, ⟨2, 3, [62], kF 63 62 0⟩, ⟨3, 7, [63], kL 64 63⟩, ⟨4, 15, [64], kN 65 64⟩, ⟨5, 31, [65], kF 66 65 0⟩, ⟨6, 63, [66], kL 67 66⟩, ⟨7, 0, [0], kM 68 0⟩, ⟨8, 128, [68], kN 69 68⟩, ⟨9, 384, [69], kF 70 69 2⟩, ⟨10, 896, [70], kL 71 70⟩, ⟨11, 0, [4], kM 72 4⟩, ⟨12, 3968, [71, 72], kG 73 (.ib .add (.t 71) (.t 72))⟩, ⟨13, 8191, [67, 73], kG 74 (.ia (.t 67) (.t 73) 1)⟩, ⟨14, 16383, [74], kS (.st (.t 74) (.c (.int .u64 0)) 1)⟩]) .sk)))) (.rg [kM 29 4,
  kG 30 (.ib .add (.t 29) (.c (.int .i64 1))),
  kM 4 30]))))))))⟩
theorem k159 : cF Tryz.prog Tryz.f159 = some c159 := by kernel_rfl
def c160 : Fu := ⟨8, [.t 2], (.sq (.rg [kG 2 (.mv (.c (.pointer none)))]) (.sq (.rg [kM 3 0,
  kG 4 (.mm true (.t 3) (.c (.int .i64 0))),
  kG 5 (.mm false (.t 4) (.c (.int .i64 64))),
  kG 6 (.bd [.int .i64 0, (.slice none 0 0)] [(0, 1, (.t 5))]),
  kG 7 (.bx 142 (.t 6)),
  kM 2 7]) .rt))⟩
theorem k160 : cF Tryz.prog Tryz.f160 = some c160 := by kernel_rfl
def c161 : Fu := ⟨3, [.t 0], (.sq (.rg [kG 0 (.mv (.c (.pointer none)))]) (.sq (.rg [kG 1 (.bd [.int .i64 0, .int .i64 0, .int .i64 0, (.slice none 0 0), (.slice none 0 0), (.slice none 0 0), .int .i64 0] [(6, 1, (.c (.int .i64 (-1))))]),
  kG 2 (.bx 181 (.t 1)),
  kM 0 2]) .rt))⟩
theorem k161 : cF Tryz.prog Tryz.f161 = some c161 := by kernel_rfl
def c162 : Fu := ⟨23, [], (.sq (.rg [kM 5 0,
  kN 6 5,
  kF 7 6 0,
  kL 8 7,
  kN 9 8,
  kF 10 9 1,
  kL 11 10,
  kG 12 (.ca 227 [.t 11]),
  kM 4 12,
  kG 13 (.ex (.t 4) 0),
  kG 14 (.ex (.t 4) 1),
  kM 2 13,
  kM 3 14]) (.sq (.rg [kM 15 3]) (.cd (.t 15) (.rg [kM 16 0,
  kM 17 0,
  kM 18 2,
  kN 19 16,
  kF 20 19 2,
  kS (.st (.t 20) (.t 18) 1),
  kN 21 17,
  kF 22 21 5,
  kS (.st (.t 22) (.c (.bool true)) 1)]) .sk)))⟩
theorem k162 : cF Tryz.prog Tryz.f162 = some c162 := by kernel_rfl
def c163 : Fu := ⟨30, [], (.rd [⟨0, 0, [0], kM 2 0⟩, ⟨1, 0, [0], kM 3 0⟩, ⟨2, 0, [0], kM 4 0⟩, ⟨3, 4, [4], kN 5 4⟩, ⟨4, 12, [5], kF 6 5 0⟩, ⟨5, 28, [6], kL 7 6⟩, ⟨6, 60, [7], kN 8 7⟩, ⟨7, 124, [8], kF 9 8 0⟩, ⟨8, 252, [9], kL 10 9⟩, ⟨9, 508, [10], kN 11 10⟩, ⟨10, 1020, [11], kF 12 11 7⟩, ⟨11, 2044, [12], kL 13 12⟩, ⟨12, 0, [0], kM 14 0⟩, ⟨13, 4096, [14], kN 15 14⟩, ⟨14, 12288, [15], kF 16 15 0⟩, ⟨15, 28672, [16], kL 17 16⟩, ⟨16, 61440, [17], kN 18 17⟩, ⟨17, 126976, [18], kF 19 18 0⟩, ⟨18, 258048, [19], kL 20 19⟩, ⟨19, 520192, [20], kN 21 20⟩, ⟨20, 1044480, [21], kF 22 21 0⟩, ⟨21, 2093056, [22], kF 23 22 5⟩, ⟨22, 4190208, [23], kL 24 23⟩, ⟨23, 8388604, [13, 24], kG 25 (.ca 196 [.t 13, .t 24])⟩, ⟨24, 16777213, [2], kN 26 2⟩, ⟨25, 33554429, [26], kF 27 26 1⟩, ⟨26, 67108861, [27], kS (.st (.t 27) (.c (.int .i64 1)) 1)⟩, ⟨27, 134217727, [3], kN 28 3⟩, ⟨28, 268435455, [28], kF 29 28 4⟩, ⟨29, 536870911, [29, 25], kS (.st (.t 29) (.t 25) 1)⟩])⟩
theorem k163 : cF Tryz.prog Tryz.f163 = some c163 := by kernel_rfl
def c164 : Fu := ⟨148, [.t 2], (.sq (.rg [kG 2 (.mv (.c (.bool false)))]) (.sq (.sq (.rg [kM 5 0,
  kN 6 5,
  kF 7 6 6,
  kL 8 7]) (.cd (.t 8) (.sq (.rg [kG 2 (.mv (.c (.bool false)))]) .rt) .sk)) (.sq (.rg [kM 9 0,
  kN 10 9,
  kF 11 10 0,
  kL 12 11,
  kM 3 12]) (.sq (.sq (.rg [kM 13 0,
  kN 14 13,
  kF 15 14 2,
  kL 16 15]) (.bl 0 (.sq (.rg [kG 46 (.ib .eql (.t 16) (.c (.int .i64 0))),
  kM 45 46]) (.cd (.t 45) (.sq (.rd [⟨0, 0, [0], kM 47 0⟩, ⟨1, 0, [3], kM 48 3⟩, ⟨2, 2, [48], kN 49 48⟩, ⟨3, 6, [49], kF 50 49 0⟩, ⟨4, 14, [50], kL 51 50⟩, ⟨5, 0, [3], kM 52 3⟩, ⟨6, 32, [52], kN 53 52⟩, ⟨7, 96, [53], kF 54 53 1⟩, ⟨8, 224, [54], kL 55 54⟩, ⟨9, 510, [51, 55], kG 56 (.ca 95 [.t 51, .t 55])⟩, ⟨10, 1023, [47], kN 57 47⟩, ⟨11, 2047, [57], kF 58 57 4⟩, ⟨12, 4095, [58, 56], kS (.st (.t 58) (.t 56) 1)⟩]) (.sq (.rg [kM 59 0,
  kN 60 59,
  kF 61 60 5,
  kS (.st (.t 61) (.c (.slice none 0 0)) 1)]) (.sq (.rg [kM 62 3,
  kM 63 0,
  kN 64 63,
  kF 65 64 4,
  kL 66 65,
  kG 67 (.ca 86 [.t 62, .t 66]),
  kM 4 67]) (.sq (.rg [kM 68 4,
  kG 69 (.ib .lss (.t 68) (.c (.int .i64 0)))]) (.cd (.t 69) (.rg [kM 70 0,
  kN 71 70,
  kF 72 71 6,
  kS (.st (.t 72) (.c (.bool true)) 1)]) (.rg [kM 73 0,
  kM 74 0,
  kM 75 0,
  kN 76 75,
  kF 77 76 5,
  kL 78 77,
  kM 79 4,
  kG 80 (.bs 3 1 [.int .i64 0] [(0, 1, (.t 79))]),
  kG 81 (.ap 22 3 1 8 [.int .i64 0] (.t 78) (.t 80)),
  kN 82 73,
  kF 83 82 5,
  kS (.st (.t 83) (.t 81) 1),
  kN 84 74,
  kF 85 84 2,
  kS (.st (.t 85) (.c (.int .i64 1)) 1)])))))) (.sq (.rg [kG 87 (.ib .eql (.t 16) (.c (.int .i64 1))),
  kM 86 87]) (.cd (.t 86) (.sq (.rd [⟨0, 0, [0], kM 88 0⟩, ⟨1, 0, [3], kM 89 3⟩, ⟨2, 0, [3], kM 90 3⟩, ⟨3, 4, [90], kN 91 90⟩, ⟨4, 12, [91], kF 92 91 0⟩, ⟨5, 28, [92], kL 93 92⟩, ⟨6, 0, [3], kM 94 3⟩, ⟨7, 64, [94], kN 95 94⟩, ⟨8, 192, [95], kF 96 95 2⟩, ⟨9, 448, [96], kL 97 96⟩, ⟨10, 0, [0], kM 98 0⟩, ⟨11, 1024, [98], kN 99 98⟩, ⟨12, 3072, [99], kF 100 99 5⟩, ⟨13, 7168, [100], kL 101 100⟩, ⟨14, 0, [0], kM 102 0⟩, ⟨15, 16384, [102], kN 103 102⟩, ⟨16, 49152, [103], kF 104 103 5⟩, ⟨17, 114688, [104], kL 105 104⟩, ⟨18, 245760, [105], kG 106 (.len (.t 105))⟩, ⟨19, 507904, [106], kG 107 (.ib .sub (.t 106) (.c (.int .i64 1)))⟩, ⟨20, 1047552, [101, 107], kG 108 (.ia (.t 101) (.t 107) 1)⟩, ⟨21, 2096128, [108], kL 109 108⟩, ⟨22, 4194240, [97, 109], kG 110 (.ib .add (.t 97) (.t 109))⟩, ⟨23, 8388604, [93, 110], kG 111 (.ca 95 [.t 93, .t 110])⟩, ⟨24, 16777214, [89, 111], kG 112 (.ca 87 [.t 89, .t 111])⟩, ⟨25, 33554431, [88], kN 113 88⟩, ⟨26, 67108863, [113], kF 114 113 3⟩, ⟨27, 134217727, [114, 112], kS (.st (.t 114) (.t 112) 1)⟩]) (.sq (.rd [⟨0, 0, [0], kM 115 0⟩, ⟨1, 1, [115], kN 116 115⟩, ⟨2, 3, [116], kF 117 116 3⟩, ⟨3, 7, [117], kL 118 117⟩, ⟨4, 15, [118], kG 119 (.ib .geq (.t 118) (.c (.int .i64 0)))⟩, ⟨5, 31, [119], kM 120 119⟩, ⟨6, 63, [0, 120], kH 121 120 true (.mv (.t 0))⟩, ⟨7, 127, [121, 120], kH 122 120 true (.nc (.t 121))⟩, ⟨8, 255, [122, 120], kH 123 120 true (.fa (.t 122) 5)⟩, ⟨9, 511, [123, 120], kH 124 120 true (.ld (.t 123) 1 false)⟩, ⟨10, 1023, [124, 120], kH 125 120 true (.len (.t 124))⟩, ⟨11, 63, [0, 120], kH 126 120 true (.mv (.t 0))⟩, ⟨12, 2111, [126, 120], kH 127 120 true (.nc (.t 126))⟩, ⟨13, 6207, [127, 120], kH 128 120 true (.fa (.t 127) 1)⟩, ⟨14, 14399, [128, 120], kH 129 120 true (.ld (.t 128) 1 false)⟩, ⟨15, 32767, [125, 129, 120], kH 130 120 true (.ib .lss (.t 125) (.t 129))⟩, ⟨16, 65535, [120, 130], kG 131 (.pk (.t 120) (.t 130) (.c (.bool false)))⟩]) (.cd (.t 131) (.rd [⟨0, 0, [0], kM 132 0⟩, ⟨1, 0, [0], kM 133 0⟩, ⟨2, 2, [133], kN 134 133⟩, ⟨3, 6, [134], kF 135 134 5⟩,
  ⟨4, 14, [135], kL 136 135⟩, ⟨5, 0, [0], kM 137 0⟩, ⟨6, 32, [137], kN 138 137⟩, ⟨7, 96, [138], kF 139 138 3⟩, ⟨8, 224, [139], kL 140 139⟩, ⟨9, 480, [140], kG 141 (.bs 3 1 [.int .i64 0] [(0, 1, (.t 140))])⟩, ⟨10, 1022, [136, 141], kG 142 (.ap 22 3 1 8 [.int .i64 0] (.t 136) (.t 141))⟩, ⟨11, 2047, [132], kN 143 132⟩, ⟨12, 4095, [143], kF 144 143 5⟩, ⟨13, 8191, [144, 142], kS (.st (.t 144) (.t 142) 1)⟩]) (.rg [kM 145 0,
  kN 146 145,
  kF 147 146 2,
  kS (.st (.t 147) (.c (.int .i64 2)) 1)])))) (.sq (.rd [⟨0, 0, [0], kM 17 0⟩, ⟨1, 0, [3], kM 18 3⟩, ⟨2, 2, [18], kN 19 18⟩, ⟨3, 6, [19], kF 20 19 0⟩, ⟨4, 14, [20], kL 21 20⟩, ⟨5, 0, [3], kM 22 3⟩, ⟨6, 32, [22], kN 23 22⟩, ⟨7, 96, [23], kF 24 23 1⟩, ⟨8, 224, [24], kL 25 24⟩, ⟨9, 0, [0], kM 26 0⟩, ⟨10, 512, [26], kN 27 26⟩, ⟨11, 1536, [27], kF 28 27 4⟩, ⟨12, 3584, [28], kL 29 28⟩, ⟨13, 0, [0], kM 30 0⟩, ⟨14, 8192, [30], kN 31 30⟩, ⟨15, 24576, [31], kF 32 31 4⟩, ⟨16, 57344, [32], kL 33 32⟩, ⟨17, 0, [0], kM 34 0⟩, ⟨18, 131072, [34], kN 35 34⟩, ⟨19, 393216, [35], kF 36 35 3⟩, ⟨20, 917504, [36], kL 37 36⟩, ⟨21, 2088960, [33, 37], kG 38 (.ca 218 [.t 33, .t 37])⟩, ⟨22, 4194302, [21, 25, 29, 38], kG 39 (.ca 183 [.t 21, .t 25, .t 29, .t 38])⟩, ⟨23, 8388607, [17], kN 40 17⟩, ⟨24, 16777215, [40], kF 41 40 6⟩, ⟨25, 33554431, [41, 39], kS (.st (.t 41) (.t 39) 1)⟩]) (.rg [kM 42 0,
  kN 43 42,
  kF 44 43 2,
  kS (.st (.t 44) (.c (.int .i64 0)) 1)])))))))) (.sq (.rg [kG 2 (.mv (.c (.bool true)))]) .rt)))))⟩
theorem k164 : cF Tryz.prog Tryz.f164 = some c164 := by kernel_rfl
def c165 : Fu := ⟨13, [.t 2], (.sq (.rg [kG 2 (.mv (.c (.slice none 0 0)))]) (.sq (.sq (.rg [kM 3 0,
  kN 4 3,
  kF 5 4 6,
  kL 6 5,
  kG 7 (.nt (.t 6))]) (.cd (.t 7) (.sq (.rg [kG 2 (.mv (.c (.slice none 0 0)))]) .rt) .sk)) (.sq (.rg [kM 8 0,
  kN 9 8,
  kF 10 9 5,
  kL 11 10,
  kG 12 (.ap 22 3 1 8 [.int .i64 0] (.c (.slice none 0 0)) (.t 11)),
  kM 2 12]) .rt)))⟩
theorem k165 : cF Tryz.prog Tryz.f165 = some c165 := by kernel_rfl
def c166 : Fu := ⟨7, [.t 2], (.sq (.rg [kG 2 (.mv (.c (.bool false)))]) (.sq (.rg [kM 3 0,
  kN 4 3,
  kF 5 4 0,
  kG 6 (.ca 96 [.t 5]),
  kM 2 6]) .rt))⟩
theorem k166 : cF Tryz.prog Tryz.f166 = some c166 := by kernel_rfl
def c167 : Fu := ⟨23, [.t 2], (.sq (.rg [kG 2 (.mv (.c (.int .i64 0)))]) (.sq (.rd [⟨0, 0, [0], kM 3 0⟩, ⟨1, 1, [3], kN 4 3⟩, ⟨2, 3, [4], kF 5 4 3⟩, ⟨3, 7, [5], kG 6 (.iaa (.t 5) (.c (.int .i64 0)) 3 1)⟩, ⟨4, 15, [6], kL 7 6⟩, ⟨5, 31, [7], kG 8 (.len (.t 7))⟩, ⟨6, 0, [0], kM 9 0⟩, ⟨7, 64, [9], kN 10 9⟩, ⟨8, 192, [10], kF 11 10 3⟩, ⟨9, 448, [11], kG 12 (.iaa (.t 11) (.c (.int .i64 1)) 3 1)⟩, ⟨10, 960, [12], kL 13 12⟩, ⟨11, 1984, [13], kG 14 (.len (.t 13))⟩, ⟨12, 4095, [8, 14], kG 15 (.ib .add (.t 8) (.t 14))⟩, ⟨13, 0, [0], kM 16 0⟩, ⟨14, 8192, [16], kN 17 16⟩, ⟨15, 24576, [17], kF 18 17 3⟩, ⟨16, 57344, [18], kG 19 (.iaa (.t 18) (.c (.int .i64 2)) 3 1)⟩, ⟨17, 122880, [19], kL 20 19⟩, ⟨18, 253952, [20], kG 21 (.len (.t 20))⟩, ⟨19, 524287, [15, 21], kG 22 (.ib .add (.t 15) (.t 21))⟩, ⟨20, 1048575, [22], kM 2 22⟩]) .rt))⟩
theorem k167 : cF Tryz.prog Tryz.f167 = some c167 := by kernel_rfl
def c168 : Fu := ⟨33, [.t 4], (.sq (.rg [kG 4 (.mv (.c (.pointer none)))]) (.sq (.rg [kM 8 1,
  kG 9 (.bd [.nilFunc, .nilFunc, .nilFunc, .nilFunc, .int .i64 0, (.slice none 0 0)] [(5, 1, (.t 8))]),
  kG 10 (.bx 256 (.t 9)),
  kM 5 10]) (.sq (.sq (.rg [kM 12 0,
  kN 13 12,
  kF 14 13 7,
  kL 15 14,
  kM 16 1,
  kG 17 (.ca 228 [.t 15, .t 16]),
  kM 11 17,
  kG 18 (.ex (.t 11) 0),
  kG 19 (.ex (.t 11) 1),
  kM 6 18,
  kM 7 19]) (.sq (.rg [kM 20 7,
  kG 21 (.ib .eql (.t 20) (.c (.int .i64 0)))]) (.cd (.t 21) (.rg [kM 22 5,
  kN 23 22,
  kF 24 23 0,
  kM 25 6,
  kG 26 (.mf (.func 229) [.t 25] []),
  kM 27 6,
  kG 28 (.mf (.func 230) [.t 27] []),
  kM 29 5,
  kG 30 (.mf (.func 231) [.t 29] []),
  kG 31 (.ca 101 [.t 24, .t 26, .t 28, .t 30])]) .sk))) (.sq (.rg [kM 32 5,
  kM 4 32]) .rt))))⟩
theorem k168 : cF Tryz.prog Tryz.f168 = some c168 := by kernel_rfl
def c170 : Fu := ⟨21, [.t 4], (.sq (.rg [kG 4 (.mv (.c (.pointer none)))]) (.sq (.rg [kM 5 0,
  kN 6 5,
  kF 7 6 0,
  kL 8 7,
  kN 9 8,
  kF 10 9 7,
  kL 11 10,
  kM 12 1,
  kG 13 (.ca 217 [.t 11, .t 12]),
  kM 14 1,
  kG 15 (.ap 22 3 1 8 [.int .i64 0] (.c (.slice none 0 0)) (.t 14)),
  kM 16 1,
  kG 17 (.len (.t 16)),
  kG 18 (.ib .eql (.t 17) (.c (.int .i64 0))),
  kG 19 (.bd [(.pointer none), (.slice none 0 0), (.bool false)] [(0, 1, (.t 13)), (1, 1, (.t 15)), (2, 1, (.t 18))]),
  kG 20 (.bx 162 (.t 19)),
  kM 4 20]) .rt))⟩
theorem k170 : cF Tryz.prog Tryz.f170 = some c170 := by kernel_rfl
def c172 : Fu := ⟨10, [.t 2], (.sq (.rg [kG 2 (.mv (.c (.slice none 0 0)))]) (.sq (.rg [kM 3 0,
  kM 4 0,
  kN 5 4,
  kF 6 5 1,
  kL 7 6,
  kG 8 (.len (.t 7)),
  kG 9 (.ca 232 [.t 3, .t 8]),
  kM 2 9]) .rt))⟩
theorem k172 : cF Tryz.prog Tryz.f172 = some c172 := by kernel_rfl
def c173 : Fu := ⟨12, [.t 2], (.sq (.rg [kG 2 (.mv (.c (.slice none 0 0)))]) (.sq (.rg [kM 4 0,
  kN 5 4,
  kF 6 5 1,
  kL 7 6,
  kM 3 7]) (.sq (.rg [kM 8 0,
  kN 9 8,
  kF 10 9 1,
  kS (.st (.t 10) (.c (.slice none 0 0)) 1)]) (.sq (.rg [kM 11 3,
  kM 2 11]) .rt))))⟩
theorem k173 : cF Tryz.prog Tryz.f173 = some c173 := by kernel_rfl
def c174 : Fu := ⟨51, [.t 4], (.sq (.rg [kG 4 (.mv (.c (.slice none 0 0)))]) (.sq (.rg [kG 5 (.mv (.c (.slice none 0 0)))]) (.sq (.bl 0 (.lp (.sq (.sq (.rg [kM 9 1,
  kG 10 (.ib .geq (.t 9) (.c (.int .i64 2)))]) (.cd (.t 10) .sk (.ex 0))) (.bl 1 (.sq (.rg [kG 6 (.mv (.c (.pointer none)))]) (.sq (.sq (.rg [kG 11 (.mv (.c (.int .i64 0)))]) (.bl 2 (.lp (.sq (.rg [kG 12 (.ib .lss (.t 11) (.c (.int .i64 3)))]) (.sq (.cd (.t 12) .sk (.ex 2)) (.sq (.bl 3 (.sq (.rg [kM 13 11,
  kM 7 13]) (.sq (.rg [kM 14 0,
  kM 15 7,
  kN 16 14,
  kF 17 16 0,
  kG 18 (.iaa (.t 17) (.t 15) 3 2),
  kM 8 18]) (.sq (.rd [⟨0, 0, [8], kM 19 8⟩, ⟨1, 0, [1], kM 20 1⟩, ⟨2, 3, [19, 20], kG 21 (.ca 233 [.t 19, .t 20])⟩, ⟨3, 7, [21], kM 22 21⟩, ⟨4, 15, [6, 22], kH 23 22 true (.mv (.t 6))⟩, ⟨5, 31, [23, 22], kH 24 22 true (.en 0 false (.t 23) (.c (.pointer none)))⟩, ⟨6, 63, [24, 22], kH 25 22 true (.mv (.t 24))⟩, ⟨7, 127, [8, 25], kH 26 25 false (.mv (.t 8))⟩, ⟨8, 255, [26, 25], kH 27 25 false (.nc (.t 26))⟩, ⟨9, 511, [27, 25], kH 28 25 false (.fa (.t 27) 0)⟩, ⟨10, 1023, [28, 25], kH 29 25 false (.ld (.t 28) 1 false)⟩, ⟨11, 127, [6, 25], kH 30 25 false (.mv (.t 6))⟩, ⟨12, 2175, [30, 25], kH 31 25 false (.nc (.t 30))⟩, ⟨13, 6271, [31, 25], kH 32 25 false (.fa (.t 31) 0)⟩, ⟨14, 14463, [32, 25], kH 33 25 false (.ld (.t 32) 1 false)⟩, ⟨15, 32767, [29, 33, 25], kH 34 25 false (.ib .lss (.t 29) (.t 33))⟩, ⟨16, 65535, [25, 34, 22], kH 35 22 true (.pk (.t 25) (.c (.bool true)) (.t 34))⟩, ⟨17, 131071, [22, 35], kG 36 (.pk (.t 22) (.t 35) (.c (.bool false)))⟩]) (.cd (.t 36) (.rg [kM 37 8,
  kM 6 37]) .sk))))) (.rg [kG 38 (.ib .add (.t 11) (.c (.int .i64 1))),
  kM 11 38]))))))) (.sq (.sq (.rg [kM 39 6,
  kG 40 (.en 0 false (.t 39) (.c (.pointer none)))]) (.cd (.t 40) (.ex 0) .sk)) (.sq (.rg [kM 41 5,
  kM 42 6,
  kN 43 42,
  kF 44 43 1,
  kL 45 44,
  kG 46 (.ap 22 3 1 8 [.int .i64 0] (.t 41) (.t 45)),
  kM 5 46]) (.rg [kM 47 6,
  kG 48 (.bd [.int .i64 0, (.slice none 0 0)] []),
  kN 49 47,
  kS (.st (.t 49) (.t 48) 2)]))))))))) (.sq (.rg [kM 50 5,
  kM 4 50]) .rt))))⟩
theorem k174 : cF Tryz.prog Tryz.f174 = some c174 := by kernel_rfl
def c175 : Fu := ⟨27, [.t 4], (.sq (.rg [kG 4 (.mv (.c (.slice none 0 0)))]) (.sq (.rg [kG 5 (.mv (.c (.slice none 0 0)))]) (.sq (.bl 0 (.lp (.sq (.sq (.rg [kM 7 0,
  kM 8 1,
  kG 9 (.ca 234 [.t 7, .t 8])]) (.cd (.t 9) .sk (.ex 0))) (.bl 1 (.sq (.rg [kM 10 0,
  kM 11 1,
  kG 12 (.ca 235 [.t 10, .t 11]),
  kM 6 12]) (.sq (.rg [kM 13 5,
  kM 14 0,
  kM 15 6,
  kN 16 14,
  kF 17 16 3,
  kG 18 (.iaa (.t 17) (.t 15) 3 1),
  kL 19 18,
  kG 20 (.ap 22 3 1 8 [.int .i64 0] (.t 13) (.t 19)),
  kM 5 20]) (.rg [kM 21 0,
  kM 22 6,
  kN 23 21,
  kF 24 23 3,
  kG 25 (.iaa (.t 24) (.t 22) 3 1),
  kS (.st (.t 25) (.c (.slice none 0 0)) 1)]))))))) (.sq (.rg [kM 26 5,
  kM 4 26]) .rt))))⟩
theorem k175 : cF Tryz.prog Tryz.f175 = some c175 := by kernel_rfl
def c176 : Fu := ⟨8, [.t 2], (.sq (.rg [kG 2 (.mv (.c (.slice none 0 0)))]) (.sq (.rg [kM 3 0,
  kN 4 3,
  kF 5 4 1,
  kL 6 5,
  kG 7 (.ca 184 [.t 6]),
  kM 2 7]) .rt))⟩
theorem k176 : cF Tryz.prog Tryz.f176 = some c176 := by kernel_rfl
def c177 : Fu := ⟨38, [.t 4, .t 5], (.sq (.rg [kG 4 (.mv (.c (.int .i64 0))),
  kG 5 (.mv (.c (.slice none 0 0)))]) (.sq (.sq (.rg [kM 6 1,
  kG 7 (.ib .lss (.t 6) (.c (.int .i64 0))),
  kM 8 7,
  kH 9 8 false (.mv (.t 1)),
  kH 10 8 false (.ib .geq (.t 9) (.c (.int .i64 3))),
  kG 11 (.pk (.t 8) (.c (.bool true)) (.t 10)),
  kM 12 11,
  kH 13 12 false (.mv (.t 0)),
  kH 14 12 false (.mv (.t 1)),
  kH 15 12 false (.nc (.t 13)),
  kH 16 12 false (.fa (.t 15) 0),
  kH 17 12 false (.iaa (.t 16) (.t 14) 3 2),
  kH 18 12 false (.fa (.t 17) 1),
  kH 19 12 false (.ld (.t 18) 1 false),
  kH 20 12 false (.len (.t 19)),
  kH 21 12 false (.ib .eql (.t 20) (.c (.int .i64 0))),
  kG 22 (.pk (.t 12) (.c (.bool true)) (.t 21))]) (.cd (.t 22) (.sq (.rg [kG 4 (.mv (.c (.int .i64 0))),
  kG 5 (.mv (.c (.slice none 0 0)))]) .rt) .sk)) (.sq (.rd [⟨0, 0, [0], kM 23 0⟩, ⟨1, 0, [1], kM 24 1⟩, ⟨2, 1, [23], kN 25 23⟩, ⟨3, 5, [25], kF 26 25 0⟩, ⟨4, 15, [26, 24], kG 27 (.iaa (.t 26) (.t 24) 3 2)⟩, ⟨5, 31, [27], kF 28 27 0⟩, ⟨6, 63, [28], kL 29 28⟩, ⟨7, 0, [0], kM 30 0⟩, ⟨8, 0, [1], kM 31 1⟩, ⟨9, 128, [30], kN 32 30⟩, ⟨10, 640, [32], kF 33 32 0⟩, ⟨11, 1920, [33, 31], kG 34 (.iaa (.t 33) (.t 31) 3 2)⟩, ⟨12, 3968, [34], kF 35 34 1⟩, ⟨13, 8064, [35], kL 36 35⟩, ⟨14, 16256, [36], kG 37 (.ca 184 [.t 36])⟩, ⟨15, 32767, [29], kM 4 29⟩, ⟨16, 65535, [37], kM 5 37⟩]) .rt)))⟩
theorem k177 : cF Tryz.prog Tryz.f177 = some c177 := by kernel_rfl
def c178 : Fu := ⟨11, [.c 2 2 true], (.sq (.rg [kG 2 (.al 260 [.int .i64 0, .int .i64 0])]) (.sq (.rg [kM 3 0,
  kG 4 (.ca 236 [.t 3, (.c (.int .i64 0)), (.c (.int .i64 32))]),
  kG 5 (.cv .i64 (.t 4)),
  kG 6 (.ib .sub (.t 5) (.c (.int .i64 1))),
  kM 7 0,
  kG 8 (.ca 236 [.t 7, (.c (.int .i64 32)), (.c (.int .i64 32))]),
  kG 9 (.cv .i64 (.t 8)),
  kG 10 (.bd [.int .i64 0, .int .i64 0] [(0, 1, (.t 6)), (1, 1, (.t 9))]),
  kS (.st (.t 2) (.t 10) 2)]) .rt))⟩
theorem k178 : cF Tryz.prog Tryz.f178 = some c178 := by kernel_rfl
def c179 : Fu := ⟨11, [.c 2 2 true], (.sq (.rg [kG 2 (.al 262 [.int .i64 0, .int .i64 0])]) (.sq (.rg [kM 3 0,
  kG 4 (.ib .rem (.t 3) (.c (.int .u64 4294967296))),
  kG 5 (.cv .i64 (.t 4)),
  kG 6 (.ib .sub (.t 5) (.c (.int .i64 1))),
  kM 7 0,
  kG 8 (.ib .quo (.t 7) (.c (.int .u64 4294967296))),
  kG 9 (.cv .i64 (.t 8)),
  kG 10 (.bd [.int .i64 0, .int .i64 0] [(0, 1, (.t 6)), (1, 1, (.t 9))]),
  kS (.st (.t 2) (.t 10) 2)]) .rt))⟩
theorem k179 : cF Tryz.prog Tryz.f179 = some c179 := by kernel_rfl
def c180 : Fu := ⟨6, [.t 2], (.sq (.rg [kG 2 (.mv (.c (.int .i64 0)))]) (.sq (.rg [kM 3 0,
  kG 4 (.mm false (.t 3) (.c (.int .u64 4611686018427387903))),
  kG 5 (.cv .i64 (.t 4)),
  kM 2 5]) .rt))⟩
theorem k180 : cF Tryz.prog Tryz.f180 = some c180 := by kernel_rfl
def c181 : Fu := ⟨12, [.t 3], (.sq (.rg [kG 3 (.mv (.c (.bool false)))]) (.sq (.rg [kM 4 0,
  kG 5 (.ib .geq (.t 4) (.c (.int .i64 0))),
  kM 6 5,
  kH 7 6 true (.mv (.t 0)),
  kH 8 6 true (.ld (.t 1) 1 false),
  kH 9 6 true (.ca 152 [.t 8]),
  kH 10 6 true (.ib .lss (.t 7) (.t 9)),
  kG 11 (.pk (.t 6) (.t 10) (.c (.bool false))),
  kM 3 11]) .rt))⟩
theorem k181 : cF Tryz.prog Tryz.f181 = some c181 := by kernel_rfl
def c182 : Fu := ⟨10, [.t 2, .t 3], (.sq (.rg [kG 2 (.mv (.c (.int .i64 0))),
  kG 3 (.mv (.c (.bool false)))]) (.sq (.sq (.rg [kM 4 0,
  kG 5 (.ib .rem (.t 4) (.c (.int .u64 2))),
  kG 6 (.ib .eql (.t 5) (.c (.int .u64 0)))]) (.cd (.t 6) (.sq (.rg [kG 2 (.mv (.c (.int .i64 0))),
  kG 3 (.mv (.c (.bool false)))]) .rt) .sk)) (.sq (.rg [kM 7 0,
  kG 8 (.ib .quo (.t 7) (.c (.int .u64 2))),
  kG 9 (.cv .i64 (.t 8)),
  kM 2 9,
  kG 3 (.mv (.c (.bool true)))]) .rt)))⟩
theorem k182 : cF Tryz.prog Tryz.f182 = some c182 := by kernel_rfl
def c183 : Fu := ⟨32, [.t 8], (.sq (.rg [kG 8 (.mv (.c (.bool false)))]) (.sq (.rg [kM 9 0,
  kN 10 9,
  kF 11 10 1,
  kL 12 11,
  kG 13 (.ib .add (.t 12) (.c (.int .i64 1))),
  kN 14 9,
  kF 15 14 1,
  kS (.st (.t 15) (.t 13) 1)]) (.sq (.sq (.rg [kM 16 0,
  kN 17 16,
  kF 18 17 0,
  kL 19 18,
  kM 20 1,
  kG 21 (.ia (.t 19) (.t 20) 1),
  kL 22 21,
  kM 23 2,
  kG 24 (.ib .neq (.t 22) (.t 23))]) (.cd (.t 24) (.sq (.rg [kG 8 (.mv (.c (.bool false)))]) .rt) .sk)) (.sq (.rg [kM 25 0,
  kN 26 25,
  kF 27 26 0,
  kL 28 27,
  kM 29 1,
  kM 30 3,
  kG 31 (.ia (.t 28) (.t 29) 1),
  kS (.st (.t 31) (.t 30) 1)]) (.sq (.rg [kG 8 (.mv (.c (.bool true)))]) .rt)))))⟩
theorem k183 : cF Tryz.prog Tryz.f183 = some c183 := by kernel_rfl
def c184 : Fu := ⟨8, [.t 2], (.sq (.rg [kG 2 (.mv (.c (.slice none 0 0)))]) (.sq (.sq (.rg [kM 3 0,
  kG 4 (.en 1 false (.t 3) (.c (.slice none 0 0)))]) (.cd (.t 4) (.sq (.rg [kG 2 (.mv (.c (.slice none 0 0)))]) .rt) .sk)) (.sq (.rg [kG 5 (.bs 3 0 [] []),
  kM 6 0,
  kG 7 (.ap 22 3 1 8 [.int .i64 0] (.t 5) (.t 6)),
  kM 2 7]) .rt)))⟩
theorem k184 : cF Tryz.prog Tryz.f184 = some c184 := by kernel_rfl
def c185 : Fu := ⟨29, [], (.sq (.rd [⟨0, 0, [0], kM 3 0⟩, ⟨1, 0, [0], kM 4 0⟩, ⟨2, 2, [4], kN 5 4⟩, ⟨3, 6, [5], kF 6 5 5⟩, ⟨4, 14, [6], kL 7 6⟩, ⟨5, 30, [7], kN 8 7⟩, ⟨6, 62, [8], kF 9 8 0⟩, ⟨7, 126, [9], kL 10 9⟩, ⟨8, 0, [0], kM 11 0⟩, ⟨9, 256, [11], kN 12 11⟩, ⟨10, 768, [12], kF 13 12 5⟩, ⟨11, 1792, [13], kL 14 13⟩, ⟨12, 3840, [14], kN 15 14⟩, ⟨13, 7936, [15], kF 16 15 1⟩, ⟨14, 16128, [16], kL 17 16⟩, ⟨15, 32766, [10, 17], kG 18 (.ca 222 [.t 10, .t 17])⟩, ⟨16, 65534, [18], kM 2 18⟩, ⟨17, 131070, [2], kG 19 (.ex (.t 2) 0)⟩, ⟨18, 131070, [2], kG 20 (.ex (.t 2) 1)⟩, ⟨19, 262143, [3], kN 21 3⟩, ⟨20, 786431, [21], kF 22 21 6⟩, ⟨21, 1835007, [22, 19], kS (.st (.t 22) (.t 19) 1)⟩]) (.rg [kM 23 0,
  kN 24 23,
  kF 25 24 0,
  kM 26 0,
  kG 27 (.mf (.func 237) [.t 26] []),
  kG 28 (.ca 147 [.t 25, .t 27])]))⟩
theorem k185 : cF Tryz.prog Tryz.f185 = some c185 := by kernel_rfl
def c186 : Fu := ⟨17, [], (.sq (.sq (.rg [kM 2 0,
  kN 3 2,
  kF 4 3 2,
  kL 5 4,
  kG 6 (.cl (.t 5) [])]) (.cd (.t 6) (.sq (.rg [kM 7 0,
  kN 8 7,
  kF 9 8 3,
  kL 10 9,
  kG 11 (.cl (.t 10) [])]) .rt) .sk)) (.rg [kM 12 0,
  kM 13 0,
  kG 14 (.mf (.func 238) [.t 13] []),
  kN 15 12,
  kF 16 15 0,
  kS (.st (.t 16) (.t 14) 1)]))⟩
theorem k186 : cF Tryz.prog Tryz.f186 = some c186 := by kernel_rfl
def c187 : Fu := ⟨46, [], (.sq (.rg [kM 5 0,
  kN 6 5,
  kF 7 6 5,
  kL 8 7,
  kN 9 8,
  kF 10 9 0,
  kL 11 10,
  kG 12 (.ca 222 [.t 11, (.c (.int .i64 2))]),
  kM 4 12,
  kG 13 (.ex (.t 4) 0),
  kG 14 (.ex (.t 4) 1),
  kM 2 13,
  kM 3 14]) (.sq (.rd [⟨0, 0, [0], kM 15 0⟩, ⟨1, 1, [15], kN 16 15⟩, ⟨2, 3, [16], kF 17 16 6⟩, ⟨3, 7, [17], kL 18 17⟩, ⟨4, 0, [2], kM 19 2⟩, ⟨5, 16, [19], kG 20 (.ca 180 [.t 19])⟩, ⟨6, 63, [18, 20], kG 21 (.ca 79 [.t 18, .t 20])⟩]) (.sq (.rg [kM 22 0,
  kM 23 0,
  kN 24 23,
  kF 25 24 6,
  kL 26 25,
  kG 27 (.ca 77 [.t 26]),
  kN 28 22,
  kF 29 28 8,
  kS (.st (.t 29) (.t 27) 1)]) (.rd [⟨0, 0, [0], kM 30 0⟩, ⟨1, 1, [30], kN 31 30⟩, ⟨2, 3, [31], kF 32 31 0⟩, ⟨3, 0, [0], kM 33 0⟩, ⟨4, 8, [33], kN 34 33⟩, ⟨5, 24, [34], kF 35 34 8⟩, ⟨6, 56, [35], kL 36 35⟩, ⟨7, 120, [36], kG 37 (.mf (.func 71) [.t 36] [])⟩, ⟨8, 0, [0], kM 38 0⟩, ⟨9, 256, [38], kN 39 38⟩, ⟨10, 768, [39], kF 40 39 8⟩, ⟨11, 1792, [40], kL 41 40⟩, ⟨12, 3840, [41], kG 42 (.mf (.func 166) [.t 41] [])⟩, ⟨13, 0, [0], kM 43 0⟩, ⟨14, 8192, [43], kG 44 (.mf (.func 239) [.t 43] [])⟩, ⟨15, 32767, [32, 37, 42, 44], kG 45 (.ca 101 [.t 32, .t 37, .t 42, .t 44])⟩]))))⟩
theorem k187 : cF Tryz.prog Tryz.f187 = some c187 := by kernel_rfl
def c188 : Fu := ⟨37, [.t 2], (.sq (.rg [kG 1 (.bx 25 (.t 0)),
  kG 2 (.mv (.c (.bool false)))]) (.sq (.rg [kF 3 1 0,
  kL 4 3,
  kG 5 (.ca 108 [.t 4, (.c (.int .i64 1)), (.c (.int .i64 64))]),
  kM 6 5,
  kH 7 6 true (.fa (.t 1) 1),
  kH 8 6 true (.ld (.t 7) 1 false),
  kH 9 6 true (.ca 108 [.t 8, (.c (.int .i64 1)), (.c (.int .i64 4096))]),
  kG 10 (.pk (.t 6) (.t 9) (.c (.bool false))),
  kM 11 10,
  kH 12 11 true (.fa (.t 1) 2),
  kH 13 11 true (.ld (.t 12) 1 false),
  kH 14 11 true (.ca 108 [.t 13, (.c (.int .i64 8)), (.c (.int .i64 1024))]),
  kG 15 (.pk (.t 11) (.t 14) (.c (.bool false))),
  kM 16 15,
  kH 17 16 true (.fa (.t 1) 2),
  kH 18 16 true (.ld (.t 17) 1 false),
  kH 19 16 true (.ib .rem (.t 18) (.c (.int .i64 8))),
  kH 20 16 true (.ib .eql (.t 19) (.c (.int .i64 0))),
  kG 21 (.pk (.t 16) (.t 20) (.c (.bool false))),
  kM 22 21,
  kH 23 22 true (.fa (.t 1) 3),
  kH 24 22 true (.ld (.t 23) 1 false),
  kH 25 22 true (.ca 108 [.t 24, (.c (.int .i64 1)), (.c (.int .i64 4096))]),
  kG 26 (.pk (.t 22) (.t 25) (.c (.bool false))),
  kM 27 26,
  kH 28 27 true (.fa (.t 1) 4),
  kH 29 27 true (.ld (.t 28) 1 false),
  kH 30 27 true (.ca 108 [.t 29, (.c (.int .i64 0)), (.c (.int .i64 64))]),
  kG 31 (.pk (.t 27) (.t 30) (.c (.bool false))),
  kM 32 31,
  kH 33 32 true (.fa (.t 1) 5),
  kH 34 32 true (.ld (.t 33) 1 false),
  kH 35 32 true (.ca 108 [.t 34, (.c (.int .i64 1)), (.c (.int .i64 8))]),
  kG 36 (.pk (.t 32) (.t 35) (.c (.bool false))),
  kM 2 36]) .rt))⟩
theorem k188 : cF Tryz.prog Tryz.f188 = some c188 := by kernel_rfl
def c189 : Fu := ⟨15, [.t 6], (.sq (.rg [kG 6 (.mv (.c (.bool false)))]) (.sq (.rg [kM 7 0,
  kM 8 1,
  kG 9 (.ib .geq (.t 7) (.t 8)),
  kM 10 9,
  kH 11 10 true (.mv (.t 0)),
  kH 12 10 true (.mv (.t 2)),
  kH 13 10 true (.ib .leq (.t 11) (.t 12)),
  kG 14 (.pk (.t 10) (.t 13) (.c (.bool false))),
  kM 6 14]) .rt))⟩
theorem k189 : cF Tryz.prog Tryz.f189 = some c189 := by kernel_rfl
def c192 : Fu := ⟨19, [.t 4], (.sq (.rg [kG 4 (.mv (.c (.pointer none)))]) (.sq (.rg [kM 6 0,
  kM 7 1,
  kG 8 (.mm true (.t 7) (.c (.int .i64 1))),
  kG 9 (.mm false (.t 8) (.c (.int .i64 8))),
  kG 10 (.bd [.nilFunc, .nilFunc, .nilFunc, .nilFunc, .int .i64 0, (.pointer none), .int .i64 0, .int .i64 0, (.int .u64 0), (.slice none 0 0)] [(5, 1, (.t 6)), (6, 1, (.t 9))]),
  kG 11 (.bx 310 (.t 10)),
  kM 5 11]) (.sq (.rg [kM 12 5,
  kN 13 12,
  kF 14 13 0,
  kM 15 5,
  kG 16 (.mf (.func 240) [.t 15] []),
  kG 17 (.ca 147 [.t 14, .t 16])]) (.sq (.rg [kM 18 5,
  kM 4 18]) .rt))))⟩
theorem k192 : cF Tryz.prog Tryz.f192 = some c192 := by kernel_rfl
def c193 : Fu := ⟨7, [.t 2], (.sq (.rg [kG 2 (.mv (.c (.bool false)))]) (.sq (.rg [kM 3 0,
  kN 4 3,
  kF 5 4 0,
  kG 6 (.ca 92 [.t 5]),
  kM 2 6]) .rt))⟩
theorem k193 : cF Tryz.prog Tryz.f193 = some c193 := by kernel_rfl
def c194 : Fu := ⟨7, [.t 2], (.sq (.rg [kG 2 (.mv (.c (.bool false)))]) (.sq (.rg [kM 3 0,
  kN 4 3,
  kF 5 4 0,
  kG 6 (.ca 96 [.t 5]),
  kM 2 6]) .rt))⟩
theorem k194 : cF Tryz.prog Tryz.f194 = some c194 := by kernel_rfl
def c196 : Fu := ⟨11, [.t 4], (.sq (.rg [kG 4 (.mv (.c (.pointer none)))]) (.sq (.rg [kM 5 0,
  kM 6 1,
  kG 7 (.mm true (.t 6) (.c (.int .i64 1))),
  kG 8 (.mm false (.t 7) (.c (.int .i64 8))),
  kG 9 (.bd [(.pointer none), .int .i64 0, .int .i64 0, .int .i64 0, (.int .u64 0), (.slice none 0 0), (.bool false)] [(0, 1, (.t 5)), (1, 1, (.t 8))]),
  kG 10 (.bx 254 (.t 9)),
  kM 4 10]) .rt))⟩
theorem k196 : cF Tryz.prog Tryz.f196 = some c196 := by kernel_rfl
def c201 : Fu := ⟨20, [], (.sq (.rg [kM 6 0,
  kN 7 6,
  kF 8 7 1,
  kL 9 8,
  kG 10 (.ib .add (.t 9) (.c (.int .i64 1))),
  kN 11 6,
  kF 12 11 1,
  kS (.st (.t 12) (.t 10) 1)]) (.rg [kM 13 0,
  kN 14 13,
  kF 15 14 0,
  kL 16 15,
  kM 17 1,
  kM 18 2,
  kG 19 (.ia (.t 16) (.t 17) 1),
  kS (.st (.t 19) (.t 18) 1)]))⟩
theorem k201 : cF Tryz.prog Tryz.f201 = some c201 := by kernel_rfl
def c217 : Fu := ⟨13, [.t 4], (.sq (.rg [kG 4 (.mv (.c (.pointer none)))]) (.sq (.rg [kM 5 0,
  kM 6 1,
  kG 7 (.ap 22 3 1 8 [.int .i64 0] (.c (.slice none 0 0)) (.t 6)),
  kM 8 1,
  kG 9 (.len (.t 8)),
  kG 10 (.ib .eql (.t 9) (.c (.int .i64 0))),
  kG 11 (.bd [(.pointer none), (.slice none 0 0), .int .i64 0, (.int .u64 0), (.bool false)] [(0, 1, (.t 5)), (1, 1, (.t 7)), (4, 1, (.t 10))]),
  kG 12 (.bx 233 (.t 11)),
  kM 4 12]) .rt))⟩
theorem k217 : cF Tryz.prog Tryz.f217 = some c217 := by kernel_rfl
def c218 : Fu := ⟨16, [.t 4], (.sq (.rg [kG 4 (.mv (.c (.int .u64 0)))]) (.sq (.rg [kM 8 0,
  kG 9 (.ca 179 [.t 8]),
  kM 10 1,
  kG 11 (.ca 264 [.t 9, .t 10]),
  kG 12 (.ca 226 [.t 11]),
  kM 7 12,
  kG 13 (.ex (.t 7) 0),
  kG 14 (.ex (.t 7) 1),
  kM 5 13,
  kM 6 14]) (.sq (.rg [kM 15 5,
  kM 4 15]) .rt)))⟩
theorem k218 : cF Tryz.prog Tryz.f218 = some c218 := by kernel_rfl
def c221 : Fu := ⟨35, [.t 2, .t 3], (.sq (.rg [kG 2 (.mv (.c (.int .i64 0))),
  kG 3 (.mv (.c (.bool false)))]) (.sq (.sq (.rg [kM 6 0,
  kN 7 6,
  kF 8 7 1,
  kL 9 8,
  kG 10 (.len (.t 9)),
  kG 11 (.ib .eql (.t 10) (.c (.int .i64 0)))]) (.cd (.t 11) (.sq (.rg [kG 2 (.mv (.c (.int .i64 0))),
  kG 3 (.mv (.c (.bool false)))]) .rt) .sk)) (.sq (.rg [kM 12 0,
  kN 13 12,
  kF 14 13 1,
  kL 15 14,
  kG 16 (.len (.t 15)),
  kG 17 (.ib .sub (.t 16) (.c (.int .i64 1))),
  kM 4 17]) (.sq (.rg [kM 18 0,
  kN 19 18,
  kF 20 19 1,
  kL 21 20,
  kM 22 4,
  kG 23 (.ia (.t 21) (.t 22) 1),
  kL 24 23,
  kM 5 24]) (.sq (.rg [kM 25 0,
  kM 26 0,
  kN 27 26,
  kF 28 27 1,
  kL 29 28,
  kM 30 4,
  kG 31 (.sl 1 (.t 29) none (some (.t 30)) none),
  kN 32 25,
  kF 33 32 1,
  kS (.st (.t 33) (.t 31) 1)]) (.sq (.rg [kM 34 5,
  kM 2 34,
  kG 3 (.mv (.c (.bool true)))]) .rt))))))⟩
theorem k221 : cF Tryz.prog Tryz.f221 = some c221 := by kernel_rfl
def c222 : Fu := ⟨20, [.t 4, .t 5], (.sq (.rg [kG 4 (.mv (.c (.int .u64 0))),
  kG 5 (.mv (.c (.int .i64 0)))]) (.sq (.sq (.rg [kM 6 0,
  kM 7 1,
  kG 8 (.ca 110 [.t 6, .t 7]),
  kG 9 (.nt (.t 8))]) (.cd (.t 9) (.sq (.rg [kG 4 (.mv (.c (.int .u64 0))),
  kG 5 (.mv (.c (.int .i64 1)))]) .rt) .sk)) (.sq (.rg [kM 10 0,
  kM 11 1,
  kM 12 0,
  kN 13 12,
  kF 14 13 0,
  kL 15 14,
  kM 16 1,
  kG 17 (.ia (.t 15) (.t 16) 1),
  kL 18 17,
  kG 19 (.ca 265 [.t 10, (.c (.int .i64 1)), .t 11, .t 18, (.c (.bool true))]),
  kM 4 19,
  kG 5 (.mv (.c (.int .i64 0)))]) .rt)))⟩
theorem k222 : cF Tryz.prog Tryz.f222 = some c222 := by kernel_rfl
def c223 : Fu := ⟨27, [], (.sq (.rg [kM 3 0,
  kN 4 3,
  kF 5 4 6,
  kL 6 5,
  kG 7 (.ca 241 [.t 6]),
  kM 2 7]) (.sq (.rg [kM 8 2,
  kG 9 (.len (.t 8)),
  kG 10 (.ib .gtr (.t 9) (.c (.int .i64 0)))]) (.cd (.t 10) (.sq (.rg [kM 11 0,
  kM 12 0,
  kM 13 2,
  kG 14 (.ia (.t 13) (.c (.int .i64 0)) 1),
  kL 15 14,
  kN 16 11,
  kF 17 16 7,
  kS (.st (.t 17) (.t 15) 1),
  kN 18 12,
  kF 19 18 9,
  kS (.st (.t 19) (.c (.bool true)) 1)]) (.rd [⟨0, 0, [0], kM 20 0⟩, ⟨1, 1, [20], kN 21 20⟩, ⟨2, 3, [21], kF 22 21 5⟩, ⟨3, 7, [22], kL 23 22⟩, ⟨4, 0, [2], kM 24 2⟩, ⟨5, 16, [24], kG 25 (.sl 1 (.t 24) (some (.c (.int .i64 1))) none none)⟩, ⟨6, 63, [23, 25], kG 26 (.ca 30 [.t 23, .t 25])⟩])) .sk)))⟩
theorem k223 : cF Tryz.prog Tryz.f223 = some c223 := by kernel_rfl
def c224 : Fu := ⟨12, [.t 3], (.sq (.rg [kG 3 (.mv (.c (.bool false)))]) (.sq (.rg [kM 4 0,
  kG 5 (.ib .geq (.t 4) (.c (.int .i64 0))),
  kM 6 5,
  kH 7 6 true (.mv (.t 0)),
  kH 8 6 true (.ld (.t 1) 1 false),
  kH 9 6 true (.ca 152 [.t 8]),
  kH 10 6 true (.ib .lss (.t 7) (.t 9)),
  kG 11 (.pk (.t 6) (.t 10) (.c (.bool false))),
  kM 3 11]) .rt))⟩
theorem k224 : cF Tryz.prog Tryz.f224 = some c224 := by kernel_rfl
def c225 : Fu := ⟨31, [.t 2, .t 3], (.sq (.rg [kG 1 (.bx 260 (.t 0)),
  kG 2 (.mv (.c (.int .u64 0))),
  kG 3 (.mv (.c (.bool false)))]) (.sq (.sq (.rg [kF 6 1 0,
  kL 7 6,
  kG 8 (.ca 266 [.t 7, (.c (.int .i64 (-1))), (.c (.int .i64 4294967294))]),
  kG 9 (.nt (.t 8)),
  kM 10 9,
  kH 11 10 false (.fa (.t 1) 1),
  kH 12 10 false (.ld (.t 11) 1 false),
  kH 13 10 false (.ca 266 [.t 12, (.c (.int .i64 0)), (.c (.int .i64 4294967295))]),
  kH 14 10 false (.nt (.t 13)),
  kG 15 (.pk (.t 10) (.c (.bool true)) (.t 14))]) (.cd (.t 15) (.sq (.rg [kG 2 (.mv (.c (.int .u64 0))),
  kG 3 (.mv (.c (.bool false)))]) .rt) .sk)) (.sq (.rg [kF 17 1 0,
  kL 18 17,
  kG 19 (.ib .add (.t 18) (.c (.int .i64 1))),
  kG 20 (.cv .u64 (.t 19)),
  kG 21 (.ca 267 [(.c (.int .u64 0)), (.c (.int .i64 0)), (.c (.int .i64 32)), .t 20]),
  kM 16 21,
  kG 22 (.ex (.t 16) 0),
  kG 23 (.ex (.t 16) 1),
  kM 4 22,
  kM 5 23]) (.sq (.rg [kM 24 4,
  kF 25 1 1,
  kL 26 25,
  kG 27 (.cv .u64 (.t 26)),
  kG 28 (.ca 267 [.t 24, (.c (.int .i64 32)), (.c (.int .i64 32)), .t 27]),
  kG 29 (.ex (.t 28) 0),
  kG 30 (.ex (.t 28) 1),
  kM 2 29,
  kM 3 30]) .rt))))⟩
theorem k225 : cF Tryz.prog Tryz.f225 = some c225 := by kernel_rfl
def c226 : Fu := ⟨31, [.t 2, .t 3], (.sq (.rg [kG 1 (.bx 262 (.t 0)),
  kG 2 (.mv (.c (.int .u64 0))),
  kG 3 (.mv (.c (.bool false)))]) (.sq (.sq (.rg [kF 4 1 0,
  kL 5 4,
  kG 6 (.ib .lss (.t 5) (.c (.int .i64 (-1)))),
  kM 7 6,
  kH 8 7 false (.fa (.t 1) 0),
  kH 9 7 false (.ld (.t 8) 1 false),
  kH 10 7 false (.ib .geq (.t 9) (.c (.int .i64 4294967295))),
  kG 11 (.pk (.t 7) (.c (.bool true)) (.t 10)),
  kM 12 11,
  kH 13 12 false (.fa (.t 1) 1),
  kH 14 12 false (.ld (.t 13) 1 false),
  kH 15 12 false (.ib .lss (.t 14) (.c (.int .i64 0))),
  kG 16 (.pk (.t 12) (.c (.bool true)) (.t 15)),
  kM 17 16,
  kH 18 17 false (.fa (.t 1) 1),
  kH 19 17 false (.ld (.t 18) 1 false),
  kH 20 17 false (.ib .gtr (.t 19) (.c (.int .i64 4294967295))),
  kG 21 (.pk (.t 17) (.c (.bool true)) (.t 20))]) (.cd (.t 21) (.sq (.rg [kG 2 (.mv (.c (.int .u64 0))),
  kG 3 (.mv (.c (.bool false)))]) .rt) .sk)) (.sq (.rg [kF 22 1 1,
  kL 23 22,
  kG 24 (.cv .u64 (.t 23)),
  kG 25 (.ib .mul (.t 24) (.c (.int .u64 4294967296))),
  kF 26 1 0,
  kL 27 26,
  kG 28 (.ib .add (.t 27) (.c (.int .i64 1))),
  kG 29 (.cv .u64 (.t 28)),
  kG 30 (.ib .add (.t 25) (.t 29)),
  kM 2 30,
  kG 3 (.mv (.c (.bool true)))]) .rt)))⟩
theorem k226 : cF Tryz.prog Tryz.f226 = some c226 := by kernel_rfl
def c227 : Fu := ⟨33, [.t 2, .t 3], (.sq (.rg [kG 2 (.mv (.c (.int .i64 0))),
  kG 3 (.mv (.c (.bool false)))]) (.sq (.rg [kM 6 0,
  kN 7 6,
  kF 8 7 1,
  kL 9 8,
  kG 10 (.len (.t 9)),
  kM 4 10]) (.sq (.sq (.rg [kM 11 4,
  kG 12 (.ib .eql (.t 11) (.c (.int .i64 0)))]) (.cd (.t 12) (.sq (.rg [kG 2 (.mv (.c (.int .i64 0))),
  kG 3 (.mv (.c (.bool false)))]) .rt) .sk)) (.sq (.rg [kM 13 0,
  kN 14 13,
  kF 15 14 1,
  kL 16 15,
  kM 17 4,
  kG 18 (.ib .sub (.t 17) (.c (.int .i64 1))),
  kG 19 (.ia (.t 16) (.t 18) 1),
  kL 20 19,
  kM 5 20]) (.sq (.rg [kM 21 0,
  kM 22 0,
  kN 23 22,
  kF 24 23 1,
  kL 25 24,
  kM 26 4,
  kG 27 (.ib .sub (.t 26) (.c (.int .i64 1))),
  kG 28 (.sl 1 (.t 25) none (some (.t 27)) none),
  kG 29 (.ap 22 3 1 8 [.int .i64 0] (.c (.slice none 0 0)) (.t 28)),
  kN 30 21,
  kF 31 30 1,
  kS (.st (.t 31) (.t 29) 1)]) (.sq (.rg [kM 32 5,
  kM 2 32,
  kG 3 (.mv (.c (.bool true)))]) .rt))))))⟩
theorem k227 : cF Tryz.prog Tryz.f227 = some c227 := by kernel_rfl
def c228 : Fu := ⟨58, [.t 4, .t 5], (.sq (.rg [kG 4 (.mv (.c (.pointer none))),
  kG 5 (.mv (.c (.int .i64 0)))]) (.sq (.sq (.rg [kM 9 1,
  kG 10 (.len (.t 9)),
  kG 11 (.mv (.c (.int .i64 0)))]) (.bl 0 (.lp (.sq (.rg [kG 12 (.ib .lss (.t 11) (.t 10))]) (.sq (.cd (.t 12) .sk (.ex 0)) (.sq (.bl 1 (.sq (.rg [kM 13 11,
  kG 14 (.ia (.t 9) (.t 11) 1),
  kL 15 14,
  kM 6 13,
  kM 7 15]) (.sq (.rg [kM 16 7,
  kG 17 (.ib .lss (.t 16) (.c (.int .i64 0))),
  kM 18 17,
  kH 19 18 false (.mv (.t 7)),
  kH 20 18 false (.mv (.t 0)),
  kH 21 18 false (.nc (.t 20)),
  kH 22 18 false (.fa (.t 21) 3),
  kH 23 18 false (.ld (.t 22) 1 false),
  kH 24 18 false (.ib .geq (.t 19) (.t 23)),
  kG 25 (.pk (.t 18) (.c (.bool true)) (.t 24)),
  kM 26 25,
  kH 27 26 false (.mv (.t 1)),
  kH 28 26 false (.mv (.t 6)),
  kH 29 26 false (.sl 1 (.t 27) none (some (.t 28)) none),
  kH 30 26 false (.mv (.t 7)),
  kH 31 26 false (.ca 268 [.t 29, .t 30]),
  kG 32 (.pk (.t 26) (.c (.bool true)) (.t 31))]) (.cd (.t 32) (.sq (.rg [kG 4 (.mv (.c (.pointer none))),
  kG 5 (.mv (.c (.int .i64 1)))]) .rt) .sk)))) (.rg [kG 33 (.ib .add (.t 11) (.c (.int .i64 1))),
  kM 11 33]))))))) (.sq (.rg [kM 34 0,
  kM 35 1,
  kG 36 (.ca 184 [.t 35]),
  kG 37 (.bd [.nilFunc, .nilFunc, .nilFunc, .nilFunc, .int .i64 0, (.pointer none), (.slice none 0 0), .int .i64 0, (.int .u64 0)] [(5, 1, (.t 34)), (6, 1, (.t 36))]),
  kG 38 (.bx 325 (.t 37)),
  kM 8 38]) (.sq (.sq (.rg [kM 39 1,
  kG 40 (.len (.t 39))]) (.bl 2 (.sq (.rg [kG 48 (.ib .eql (.t 40) (.c (.int .i64 0))),
  kM 47 48]) (.cd (.t 47) .sk (.sq (.rg [kG 50 (.ib .eql (.t 40) (.c (.int .i64 1))),
  kM 49 50]) (.cd (.t 49) (.rg [kM 51 8,
  kN 52 51,
  kF 53 52 0,
  kM 54 8,
  kG 55 (.mf (.func 269) [.t 54] []),
  kG 56 (.ca 147 [.t 53, .t 55])]) (.rg [kM 41 8,
  kN 42 41,
  kF 43 42 0,
  kM 44 8,
  kG 45 (.mf (.func 270) [.t 44] []),
  kG 46 (.ca 147 [.t 43, .t 45])]))))))) (.sq (.rg [kM 57 8,
  kM 4 57,
  kG 5 (.mv (.c (.int .i64 0)))]) .rt)))))⟩
theorem k228 : cF Tryz.prog Tryz.f228 = some c228 := by kernel_rfl
def c229 : Fu := ⟨7, [.t 2], (.sq (.rg [kG 2 (.mv (.c (.bool false)))]) (.sq (.rg [kM 3 0,
  kN 4 3,
  kF 5 4 0,
  kG 6 (.ca 92 [.t 5]),
  kM 2 6]) .rt))⟩
theorem k229 : cF Tryz.prog Tryz.f229 = some c229 := by kernel_rfl
def c230 : Fu := ⟨7, [.t 2], (.sq (.rg [kG 2 (.mv (.c (.bool false)))]) (.sq (.rg [kM 3 0,
  kN 4 3,
  kF 5 4 0,
  kG 6 (.ca 96 [.t 5]),
  kM 2 6]) .rt))⟩
theorem k230 : cF Tryz.prog Tryz.f230 = some c230 := by kernel_rfl
def c231 : Fu := ⟨2, [], .sk⟩
theorem k231 : cF Tryz.prog Tryz.f231 = some c231 := by kernel_rfl
def c232 : Fu := ⟨24, [.t 4], (.sq (.rg [kG 4 (.mv (.c (.slice none 0 0)))]) (.sq (.rg [kM 6 0,
  kN 7 6,
  kF 8 7 1,
  kL 9 8,
  kM 10 1,
  kG 11 (.sl 1 (.t 9) none (some (.t 10)) none),
  kG 12 (.ca 184 [.t 11]),
  kM 5 12]) (.sq (.rg [kM 13 0,
  kM 14 0,
  kN 15 14,
  kF 16 15 1,
  kL 17 16,
  kM 18 1,
  kG 19 (.sl 1 (.t 17) (some (.t 18)) none none),
  kG 20 (.ca 184 [.t 19]),
  kN 21 13,
  kF 22 21 1,
  kS (.st (.t 22) (.t 20) 1)]) (.sq (.rg [kM 23 5,
  kM 4 23]) .rt))))⟩
theorem k232 : cF Tryz.prog Tryz.f232 = some c232 := by kernel_rfl
def c233 : Fu := ⟨20, [.t 4], (.sq (.rg [kG 4 (.mv (.c (.bool false)))]) (.sq (.rg [kM 5 0,
  kN 6 5,
  kF 7 6 1,
  kL 8 7,
  kG 9 (.len (.t 8)),
  kG 10 (.ib .gtr (.t 9) (.c (.int .i64 0))),
  kM 11 10,
  kH 12 11 true (.mv (.t 0)),
  kH 13 11 true (.nc (.t 12)),
  kH 14 11 true (.fa (.t 13) 0),
  kH 15 11 true (.ld (.t 14) 1 false),
  kH 16 11 true (.mv (.t 1)),
  kH 17 11 true (.ib .sub (.t 16) (.c (.int .i64 2))),
  kH 18 11 true (.ib .leq (.t 15) (.t 17)),
  kG 19 (.pk (.t 11) (.t 18) (.c (.bool false))),
  kM 4 19]) .rt))⟩
theorem k233 : cF Tryz.prog Tryz.f233 = some c233 := by kernel_rfl
def c234 : Fu := ⟨13, [.t 4], (.sq (.rg [kG 4 (.mv (.c (.bool false)))]) (.sq (.rg [kM 5 1,
  kG 6 (.ib .geq (.t 5) (.c (.int .i64 2))),
  kM 7 6,
  kH 8 7 true (.mv (.t 0)),
  kH 9 7 true (.mv (.t 1)),
  kH 10 7 true (.ca 235 [.t 8, .t 9]),
  kH 11 7 true (.ib .geq (.t 10) (.c (.int .i64 0))),
  kG 12 (.pk (.t 7) (.t 11) (.c (.bool false))),
  kM 4 12]) .rt))⟩
theorem k234 : cF Tryz.prog Tryz.f234 = some c234 := by kernel_rfl
def c235 : Fu := ⟨51, [.t 4], (.sq (.rg [kG 4 (.mv (.c (.int .i64 0)))]) (.sq (.rg [kG 5 (.mv (.c (.int .i64 (-1))))]) (.sq (.sq (.rg [kG 6 (.mv (.c (.int .i64 0)))]) (.bl 0 (.lp (.sq (.sq (.rg [kM 7 6,
  kG 8 (.ib .lss (.t 7) (.c (.int .i64 3)))]) (.cd (.t 8) .sk (.ex 0))) (.sq (.bl 1 (.sq (.rd [⟨0, 0, [0], kM 11 0⟩, ⟨1, 0, [6], kM 12 6⟩, ⟨2, 1, [11], kN 13 11⟩, ⟨3, 5, [13], kF 14 13 3⟩, ⟨4, 15, [14, 12], kG 15 (.iaa (.t 14) (.t 12) 3 1)⟩, ⟨5, 31, [15], kL 16 15⟩, ⟨6, 63, [16], kG 17 (.len (.t 16))⟩, ⟨7, 127, [17], kG 18 (.ib .gtr (.t 17) (.c (.int .i64 0)))⟩, ⟨8, 255, [18], kM 19 18⟩, ⟨9, 511, [0, 19], kH 20 19 true (.mv (.t 0))⟩, ⟨10, 511, [6, 19], kH 21 19 true (.mv (.t 6))⟩, ⟨11, 1023, [20, 19], kH 22 19 true (.nc (.t 20))⟩, ⟨12, 3071, [22, 19], kH 23 19 true (.fa (.t 22) 0)⟩, ⟨13, 8191, [23, 21, 19], kH 24 19 true (.iaa (.t 23) (.t 21) 3 1)⟩, ⟨14, 16383, [24, 19], kH 25 19 true (.ld (.t 24) 1 false)⟩, ⟨15, 511, [1, 19], kH 26 19 true (.mv (.t 1))⟩, ⟨16, 33279, [26, 19], kH 27 19 true (.ib .sub (.t 26) (.c (.int .i64 2)))⟩, ⟨17, 131071, [25, 27, 19], kH 28 19 true (.ib .leq (.t 25) (.t 27))⟩, ⟨18, 262143, [19, 28], kG 29 (.pk (.t 19) (.t 28) (.c (.bool false)))⟩, ⟨19, 524287, [29], kM 30 29⟩, ⟨20, 1048575, [5, 30], kH 31 30 true (.mv (.t 5))⟩, ⟨21, 2097151, [31, 30], kH 32 30 true (.ib .lss (.t 31) (.c (.int .i64 0)))⟩, ⟨22, 4194303, [32, 30], kH 33 30 true (.mv (.t 32))⟩, ⟨23, 8388607, [0, 33], kH 34 33 false (.mv (.t 0))⟩, ⟨24, 8388607, [6, 33], kH 35 33 false (.mv (.t 6))⟩, ⟨25, 16777215, [34, 33], kH 36 33 false (.nc (.t 34))⟩, ⟨26, 50331647, [36, 33], kH 37 33 false (.fa (.t 36) 0)⟩, ⟨27, 134217727, [37, 35, 33], kH 38 33 false (.iaa (.t 37) (.t 35) 3 1)⟩, ⟨28, 268435455, [38, 33], kH 39 33 false (.ld (.t 38) 1 false)⟩, ⟨29, 8388607, [0, 33], kH 40 33 false (.mv (.t 0))⟩, ⟨30, 8388607, [5, 33], kH 41 33 false (.mv (.t 5))⟩, ⟨31, 545259519, [40, 33], kH 42 33 false (.nc (.t 40))⟩, ⟨32, 2692743167, [42, 33], kH 43 33 false (.fa (.t 42) 0)⟩, ⟨33, 8061452287, [43, 41, 33], kH 44 33 false (.iaa (.t 43) (.t 41) 3 1)⟩, ⟨34, 16651386879, [44, 33], kH 45 33 false (.ld (.t 44) 1 false)⟩, ⟨35, 34359738367, [39, 45, 33], kH 46 33 false (.ib .lss (.t 39) (.t 45))⟩, ⟨36, 68719476735, [33, 46, 30], kH 47 30 true (.pk (.t 33) (.c (.bool true)) (.t 46))⟩,
  ⟨37, 137438953471, [30, 47], kG 48 (.pk (.t 30) (.t 47) (.c (.bool false)))⟩]) (.cd (.t 48) (.rg [kM 49 6,
  kM 5 49]) .sk))) (.rg [kM 9 6,
  kG 10 (.ib .add (.t 9) (.c (.int .i64 1))),
  kM 6 10])))))) (.sq (.rg [kM 50 5,
  kM 4 50]) .rt))))⟩
theorem k235 : cF Tryz.prog Tryz.f235 = some c235 := by kernel_rfl
def c236 : Fu := ⟨17, [.t 6], (.sq (.rg [kG 6 (.mv (.c (.int .u64 0)))]) (.sq (.sq (.rg [kM 7 1,
  kM 8 2,
  kG 9 (.ca 271 [.t 7, .t 8]),
  kG 10 (.nt (.t 9))]) (.cd (.t 10) (.sq (.rg [kG 6 (.mv (.c (.int .u64 0)))]) .rt) .sk)) (.sq (.rd [⟨0, 0, [0], kM 11 0⟩, ⟨1, 0, [1], kM 12 1⟩, ⟨2, 3, [11, 12], kG 13 (.ib .shr (.t 11) (.t 12))⟩, ⟨3, 0, [2], kM 14 2⟩, ⟨4, 8, [14], kG 15 (.ca 272 [.t 14])⟩, ⟨5, 31, [13, 15], kG 16 (.ib .and (.t 13) (.t 15))⟩, ⟨6, 63, [16], kM 6 16⟩]) .rt)))⟩
theorem k236 : cF Tryz.prog Tryz.f236 = some c236 := by kernel_rfl
def c237 : Fu := ⟨75, [], (.sq (.rd [⟨0, 0, [0], kM 7 0⟩, ⟨1, 1, [7], kN 8 7⟩, ⟨2, 3, [8], kF 9 8 5⟩, ⟨3, 7, [9], kL 10 9⟩, ⟨4, 15, [10], kN 11 10⟩, ⟨5, 31, [11], kF 12 11 0⟩, ⟨6, 63, [12], kL 13 12⟩, ⟨7, 0, [0], kM 14 0⟩, ⟨8, 128, [14], kN 15 14⟩, ⟨9, 384, [15], kF 16 15 5⟩, ⟨10, 896, [16], kL 17 16⟩, ⟨11, 1920, [17], kN 18 17⟩, ⟨12, 3968, [18], kF 19 18 2⟩, ⟨13, 8064, [19], kL 20 19⟩, ⟨14, 0, [0], kM 21 0⟩, ⟨15, 16384, [21], kN 22 21⟩, ⟨16, 49152, [22], kF 23 22 7⟩, ⟨17, 114688, [23], kL 24 23⟩, ⟨18, 262016, [20, 24], kG 25 (.ib .add (.t 20) (.t 24))⟩, ⟨19, 524287, [13, 25], kG 26 (.ca 222 [.t 13, .t 25])⟩, ⟨20, 1048575, [26], kM 6 26⟩, ⟨21, 2097151, [6], kG 27 (.ex (.t 6) 0)⟩, ⟨22, 2097151, [6], kG 28 (.ex (.t 6) 1)⟩, ⟨23, 4194303, [27], kM 2 27⟩, ⟨24, 16777215, [28], kM 3 28⟩]) (.sq (.sq (.rg [kM 30 2,
  kG 31 (.ca 273 [.t 30]),
  kM 29 31,
  kG 32 (.ex (.t 29) 0),
  kG 33 (.ex (.t 29) 1),
  kM 4 32,
  kM 5 33]) (.sq (.rg [kM 34 5,
  kM 35 34,
  kH 36 35 true (.mv (.t 4)),
  kH 37 35 true (.mv (.t 0)),
  kH 38 35 true (.nc (.t 37)),
  kH 39 35 true (.fa (.t 38) 6),
  kH 40 35 true (.ld (.t 39) 1 false),
  kH 41 35 true (.ca 180 [.t 40]),
  kH 42 35 true (.ib .neq (.t 36) (.t 41)),
  kG 43 (.pk (.t 35) (.t 42) (.c (.bool false)))]) (.cd (.t 43) .rt .sk))) (.sq (.rg [kM 44 0,
  kN 45 44,
  kF 46 45 7,
  kL 47 46,
  kG 48 (.ib .add (.t 47) (.c (.int .i64 1))),
  kN 49 44,
  kF 50 49 7,
  kS (.st (.t 50) (.t 48) 1)]) (.sq (.rd [⟨0, 0, [0], kM 51 0⟩, ⟨1, 1, [51], kN 52 51⟩, ⟨2, 3, [52], kF 53 52 7⟩, ⟨3, 7, [53], kL 54 53⟩, ⟨4, 0, [0], kM 55 0⟩, ⟨5, 16, [55], kN 56 55⟩, ⟨6, 48, [56], kF 57 56 5⟩, ⟨7, 112, [57], kL 58 57⟩, ⟨8, 240, [58], kN 59 58⟩, ⟨9, 496, [59], kF 60 59 3⟩, ⟨10, 1008, [60], kL 61 60⟩, ⟨11, 2047, [54, 61], kG 62 (.ib .lss (.t 54) (.t 61))⟩]) (.cd (.t 62) (.rg [kM 63 0,
  kN 64 63,
  kF 65 64 0,
  kM 66 0,
  kG 67 (.mf (.func 237) [.t 66] []),
  kG 68 (.ca 147 [.t 65, .t 67])]) (.rg [kM 69 0,
  kN 70 69,
  kF 71 70 0,
  kM 72 0,
  kG 73 (.mf (.func 274) [.t 72] []),
  kG 74 (.ca 147 [.t 71, .t 73])]))))))⟩
theorem k237 : cF Tryz.prog Tryz.f237 = some c237 := by kernel_rfl
def c238 : Fu := ⟨9, [], (.sq (.rg [kM 2 0,
  kN 3 2,
  kF 4 3 1,
  kL 5 4,
  kG 6 (.cl (.t 5) [])]) (.rg [kM 7 0,
  kG 8 (.ca 186 [.t 7])]))⟩
theorem k238 : cF Tryz.prog Tryz.f238 = some c238 := by kernel_rfl
def c239 : Fu := ⟨2, [], .sk⟩
theorem k239 : cF Tryz.prog Tryz.f239 = some c239 := by kernel_rfl
def c240 : Fu := ⟨54, [], (.sq (.rd [⟨0, 0, [0], kM 4 0⟩, ⟨1, 0, [0], kM 5 0⟩, ⟨2, 2, [5], kN 6 5⟩, ⟨3, 6, [6], kF 7 6 5⟩, ⟨4, 14, [7], kL 8 7⟩, ⟨5, 30, [8], kN 9 8⟩, ⟨6, 62, [9], kF 10 9 0⟩, ⟨7, 126, [10], kL 11 10⟩, ⟨8, 0, [0], kM 12 0⟩, ⟨9, 256, [12], kN 13 12⟩, ⟨10, 768, [13], kF 14 13 5⟩, ⟨11, 1792, [14], kL 15 14⟩, ⟨12, 3840, [15], kN 16 15⟩, ⟨13, 7936, [16], kF 17 16 1⟩, ⟨14, 16128, [17], kL 18 17⟩, ⟨15, 32766, [11, 18], kG 19 (.ca 222 [.t 11, .t 18])⟩, ⟨16, 65534, [19], kM 3 19⟩, ⟨17, 131070, [3], kG 20 (.ex (.t 3) 0)⟩, ⟨18, 131070, [3], kG 21 (.ex (.t 3) 1)⟩, ⟨19, 262143, [4], kN 22 4⟩, ⟨20, 786431, [22], kF 23 22 8⟩, ⟨21, 1835007, [23, 20], kS (.st (.t 23) (.t 20) 1)⟩]) (.sq (.rg [kM 24 0,
  kN 25 24,
  kF 26 25 9,
  kS (.st (.t 26) (.c (.slice none 0 0)) 1)]) (.sq (.rd [⟨0, 0, [0], kM 27 0⟩, ⟨1, 1, [27], kN 28 27⟩, ⟨2, 3, [28], kF 29 28 5⟩, ⟨3, 7, [29], kL 30 29⟩, ⟨4, 0, [0], kM 31 0⟩, ⟨5, 16, [31], kN 32 31⟩, ⟨6, 48, [32], kF 33 32 8⟩, ⟨7, 112, [33], kL 34 33⟩, ⟨8, 255, [30, 34], kG 35 (.ca 84 [.t 30, .t 34])⟩, ⟨9, 511, [35], kM 2 35⟩]) (.sq (.rg [kM 36 2,
  kG 37 (.ib .geq (.t 36) (.c (.int .i64 0)))]) (.cd (.t 37) (.sq (.rg [kM 38 0,
  kM 39 0,
  kN 40 39,
  kF 41 40 9,
  kL 42 41,
  kM 43 2,
  kG 44 (.bs 3 1 [.int .i64 0] [(0, 1, (.t 43))]),
  kG 45 (.ap 22 3 1 8 [.int .i64 0] (.t 42) (.t 44)),
  kN 46 38,
  kF 47 46 9,
  kS (.st (.t 47) (.t 45) 1)]) (.rg [kM 48 0,
  kN 49 48,
  kF 50 49 0,
  kM 51 0,
  kG 52 (.mf (.func 275) [.t 51] []),
  kG 53 (.ca 147 [.t 50, .t 52])])) .sk)))))⟩
theorem k240 : cF Tryz.prog Tryz.f240 = some c240 := by kernel_rfl
def c241 : Fu := ⟨11, [.t 2], (.sq (.rg [kG 2 (.mv (.c (.slice none 0 0)))]) (.sq (.sq (.rg [kM 3 0,
  kG 4 (.ca 194 [.t 3]),
  kG 5 (.nt (.t 4))]) (.cd (.t 5) (.sq (.rg [kG 2 (.mv (.c (.slice none 0 0)))]) .rt) .sk)) (.sq (.rg [kM 6 0,
  kN 7 6,
  kF 8 7 9,
  kL 9 8,
  kG 10 (.ca 184 [.t 9]),
  kM 2 10]) .rt)))⟩
theorem k241 : cF Tryz.prog Tryz.f241 = some c241 := by kernel_rfl
def c264 : Fu := ⟨20, [.c 4 2 true], (.sq (.rg [kG 2 (.bx 262 (.t 0)),
  kG 4 (.al 262 [.int .i64 0, .int .i64 0])]) (.sq (.sq (.rg [kF 5 2 1,
  kL 6 5,
  kG 7 (.ib .lss (.t 6) (.c (.int .i64 0))),
  kM 8 7,
  kH 9 8 false (.fa (.t 2) 1),
  kH 10 8 false (.ld (.t 9) 1 false),
  kH 11 8 false (.ib .geq (.t 10) (.c (.int .i64 4294967295))),
  kG 12 (.pk (.t 8) (.c (.bool true)) (.t 11))]) (.cd (.t 12) (.sq (.rg [kM 13 1,
  kG 14 (.bd [.int .i64 0, .int .i64 0] [(0, 1, (.t 13)), (1, 1, (.c (.int .i64 0)))]),
  kS (.st (.t 4) (.t 14) 2)]) .rt) .sk)) (.sq (.rg [kM 15 1,
  kF 16 2 1,
  kL 17 16,
  kG 18 (.ib .add (.t 17) (.c (.int .i64 1))),
  kG 19 (.bd [.int .i64 0, .int .i64 0] [(0, 1, (.t 15)), (1, 1, (.t 18))]),
  kS (.st (.t 4) (.t 19) 2)]) .rt)))⟩
theorem k264 : cF Tryz.prog Tryz.f264 = some c264 := by kernel_rfl
def c265 : Fu := ⟨43, [.t 10], (.sq (.rg [kG 10 (.mv (.c (.int .u64 0)))]) (.sq (.rg [kM 12 0,
  kN 13 12,
  kF 14 13 0,
  kL 15 14,
  kM 16 2,
  kG 17 (.ia (.t 15) (.t 16) 1),
  kL 18 17,
  kM 11 18]) (.sq (.rg [kM 19 0,
  kN 20 19,
  kF 21 20 0,
  kL 22 21,
  kM 23 2,
  kM 24 3,
  kG 25 (.ia (.t 22) (.t 23) 1),
  kS (.st (.t 25) (.t 24) 1)]) (.sq (.rg [kM 26 0,
  kN 27 26,
  kF 28 27 1,
  kL 29 28,
  kG 30 (.ib .add (.t 29) (.c (.int .i64 1))),
  kN 31 26,
  kF 32 31 1,
  kS (.st (.t 32) (.t 30) 1)]) (.sq (.rg [kM 33 0,
  kM 34 1,
  kM 35 2,
  kM 36 11,
  kM 37 3,
  kM 38 4,
  kG 39 (.bd [.int .i64 0, .int .i64 0, (.int .u64 0), (.int .u64 0), (.bool false)] [(0, 1, (.t 34)), (1, 1, (.t 35)), (2, 1, (.t 36)), (3, 1, (.t 37)), (4, 1, (.t 38))]),
  kN 40 33,
  kF 41 40 2,
  kS (.st (.t 41) (.t 39) 5)]) (.sq (.rg [kM 42 11,
  kM 10 42]) .rt))))))⟩
theorem k265 : cF Tryz.prog Tryz.f265 = some c265 := by kernel_rfl
def c266 : Fu := ⟨15, [.t 6], (.sq (.rg [kG 6 (.mv (.c (.bool false)))]) (.sq (.rg [kM 7 0,
  kM 8 1,
  kG 9 (.ib .geq (.t 7) (.t 8)),
  kM 10 9,
  kH 11 10 true (.mv (.t 0)),
  kH 12 10 true (.mv (.t 2)),
  kH 13 10 true (.ib .leq (.t 11) (.t 12)),
  kG 14 (.pk (.t 10) (.t 13) (.c (.bool false))),
  kM 6 14]) .rt))⟩
theorem k266 : cF Tryz.prog Tryz.f266 = some c266 := by kernel_rfl
end Go.Proofs.YtggnbdeokmdjbaaGreat


namespace Go.Proofs.YtggnbdeokmdjbaaGreat
open Go
set_option maxRecDepth 100000
def c267 : Fu := ⟨30, [.t 8, .t 9], (.sq (.rg [kG 8 (.mv (.c (.int .u64 0))),
  kG 9 (.mv (.c (.bool false)))]) (.sq (.sq (.rg [kM 10 1,
  kM 11 2,
  kG 12 (.ca 271 [.t 10, .t 11]),
  kG 13 (.nt (.t 12)),
  kM 14 13,
  kH 15 14 false (.mv (.t 3)),
  kH 16 14 false (.mv (.t 2)),
  kH 17 14 false (.ca 291 [.t 15, .t 16]),
  kH 18 14 false (.nt (.t 17)),
  kG 19 (.pk (.t 14) (.c (.bool true)) (.t 18))]) (.cd (.t 19) (.sq (.rg [kG 8 (.mv (.c (.int .u64 0))),
  kG 9 (.mv (.c (.bool false)))]) .rt) .sk)) (.sq (.rd [⟨0, 0, [0], kM 20 0⟩, ⟨1, 0, [2], kM 21 2⟩, ⟨2, 2, [21], kG 22 (.ca 272 [.t 21])⟩, ⟨3, 0, [1], kM 23 1⟩, ⟨4, 14, [22, 23], kG 24 (.ib .shl (.t 22) (.t 23))⟩, ⟨5, 31, [20, 24], kG 25 (.ib .andNot (.t 20) (.t 24))⟩, ⟨6, 0, [3], kM 26 3⟩, ⟨7, 0, [1], kM 27 1⟩, ⟨8, 192, [26, 27], kG 28 (.ib .shl (.t 26) (.t 27))⟩, ⟨9, 511, [25, 28], kG 29 (.ib .or (.t 25) (.t 28))⟩, ⟨10, 1023, [29], kM 8 29⟩, ⟨11, 2047, [], kG 9 (.mv (.c (.bool true)))⟩]) .rt)))⟩
theorem k267 : cF Tryz.prog Tryz.f267 = some c267 := by kernel_rfl
def c268 : Fu := ⟨9, [.t 4], (.sq (.rg [kG 4 (.mv (.c (.bool false)))]) (.sq (.rg [kM 5 0,
  kM 6 1,
  kG 7 (.ca 292 [.t 5, .t 6]),
  kG 8 (.ib .geq (.t 7) (.c (.int .i64 0))),
  kM 4 8]) .rt))⟩
theorem k268 : cF Tryz.prog Tryz.f268 = some c268 := by kernel_rfl
def c269 : Fu := ⟨29, [], (.sq (.rd [⟨0, 0, [0], kM 3 0⟩, ⟨1, 0, [0], kM 4 0⟩, ⟨2, 2, [4], kN 5 4⟩, ⟨3, 6, [5], kF 6 5 5⟩, ⟨4, 14, [6], kL 7 6⟩, ⟨5, 30, [7], kN 8 7⟩, ⟨6, 62, [8], kF 9 8 0⟩, ⟨7, 126, [9], kL 10 9⟩, ⟨8, 0, [0], kM 11 0⟩, ⟨9, 256, [11], kN 12 11⟩, ⟨10, 768, [12], kF 13 12 5⟩, ⟨11, 1792, [13], kL 14 13⟩, ⟨12, 3840, [14], kN 15 14⟩, ⟨13, 7936, [15], kF 16 15 1⟩, ⟨14, 16128, [16], kL 17 16⟩, ⟨15, 32766, [10, 17], kG 18 (.ca 222 [.t 10, .t 17])⟩, ⟨16, 65534, [18], kM 2 18⟩, ⟨17, 131070, [2], kG 19 (.ex (.t 2) 0)⟩, ⟨18, 131070, [2], kG 20 (.ex (.t 2) 1)⟩, ⟨19, 262143, [3], kN 21 3⟩, ⟨20, 786431, [21], kF 22 21 8⟩, ⟨21, 1835007, [22, 19], kS (.st (.t 22) (.t 19) 1)⟩]) (.rg [kM 23 0,
  kN 24 23,
  kF 25 24 0,
  kM 26 0,
  kG 27 (.mf (.func 293) [.t 26] []),
  kG 28 (.ca 147 [.t 25, .t 27])]))⟩
theorem k269 : cF Tryz.prog Tryz.f269 = some c269 := by kernel_rfl
def c270 : Fu := ⟨71, [], (.sq (.rd [⟨0, 0, [0], kM 2 0⟩, ⟨1, 1, [2], kN 3 2⟩, ⟨2, 3, [3], kF 4 3 5⟩, ⟨3, 7, [4], kL 5 4⟩, ⟨4, 15, [5], kN 6 5⟩, ⟨5, 31, [6], kF 7 6 0⟩, ⟨6, 63, [7], kL 8 7⟩, ⟨7, 0, [0], kM 9 0⟩, ⟨8, 128, [9], kN 10 9⟩, ⟨9, 384, [10], kF 11 10 5⟩, ⟨10, 896, [11], kL 12 11⟩, ⟨11, 1920, [12], kN 13 12⟩, ⟨12, 3968, [13], kF 14 13 2⟩, ⟨13, 8064, [14], kL 15 14⟩, ⟨14, 0, [0], kM 16 0⟩, ⟨15, 16384, [16], kN 17 16⟩, ⟨16, 49152, [17], kF 18 17 6⟩, ⟨17, 114688, [18], kL 19 18⟩, ⟨18, 0, [0], kM 20 0⟩, ⟨19, 262144, [20], kN 21 20⟩, ⟨20, 786432, [21], kF 22 21 7⟩, ⟨21, 1835008, [22], kL 23 22⟩, ⟨22, 4177920, [19, 23], kG 24 (.ia (.t 19) (.t 23) 1)⟩, ⟨23, 8372224, [24], kL 25 24⟩, ⟨24, 16777088, [15, 25], kG 26 (.ib .add (.t 15) (.t 25))⟩, ⟨25, 0, [0], kM 27 0⟩, ⟨26, 33554432, [27], kN 28 27⟩, ⟨27, 100663296, [28], kF 29 28 6⟩, ⟨28, 234881024, [29], kL 30 29⟩, ⟨29, 0, [0], kM 31 0⟩, ⟨30, 536870912, [31], kN 32 31⟩, ⟨31, 1610612736, [32], kF 33 32 7⟩, ⟨32, 3758096384, [33], kL 34 33⟩, ⟨33, 8053063680, [34], kG 35 (.ib .add (.t 34) (.c (.int .i64 1)))⟩, ⟨34, 17146314752, [30, 35], kG 36 (.ia (.t 30) (.t 35) 1)⟩, ⟨35, 34326183936, [36], kL 37 36⟩, ⟨36, 68685922304, [37], kG 38 (.ib .add (.t 37) (.c (.int .i64 1)))⟩, ⟨37, 137405399040, [38], kG 39 (.cv .u64 (.t 38))⟩, ⟨38, 274877906943, [8, 26, 39], kG 40 (.ca 283 [.t 8, .t 26, .t 39])⟩]) (.sq (.rg [kM 41 0,
  kN 42 41,
  kF 43 42 7,
  kL 44 43,
  kG 45 (.ib .add (.t 44) (.c (.int .i64 1))),
  kN 46 41,
  kF 47 46 7,
  kS (.st (.t 47) (.t 45) 1)]) (.sq (.rd [⟨0, 0, [0], kM 48 0⟩, ⟨1, 1, [48], kN 49 48⟩, ⟨2, 3, [49], kF 50 49 7⟩, ⟨3, 7, [50], kL 51 50⟩, ⟨4, 0, [0], kM 52 0⟩, ⟨5, 16, [52], kN 53 52⟩, ⟨6, 48, [53], kF 54 53 6⟩, ⟨7, 112, [54], kL 55 54⟩, ⟨8, 240, [55], kG 56 (.len (.t 55))⟩, ⟨9, 496, [56], kG 57 (.ib .sub (.t 56) (.c (.int .i64 1)))⟩, ⟨10, 1023, [51, 57], kG 58 (.ib .lss (.t 51) (.t 57))⟩]) (.cd (.t 58) (.rg [kM 59 0,
  kN 60 59,
  kF 61 60 0,
  kM 62 0,
  kG 63 (.mf (.func 270) [.t 62] []),
  kG 64 (.ca 147 [.t 61, .t 63])]) (.rg [kM 65 0,
  kN 66 65,
  kF 67 66 0,
  kM 68 0,
  kG 69 (.mf (.func 269) [.t 68] []),
  kG 70 (.ca 147 [.t 67, .t 69])])))))⟩
theorem k270 : cF Tryz.prog Tryz.f270 = some c270 := by kernel_rfl
def c271 : Fu := ⟨21, [.t 4], (.sq (.rg [kG 4 (.mv (.c (.bool false)))]) (.sq (.rg [kM 5 1,
  kG 6 (.ib .geq (.t 5) (.c (.int .i64 0))),
  kM 7 6,
  kH 8 7 true (.mv (.t 1)),
  kH 9 7 true (.ib .leq (.t 8) (.c (.int .i64 64))),
  kG 10 (.pk (.t 7) (.t 9) (.c (.bool false))),
  kM 11 10,
  kH 12 11 true (.mv (.t 0)),
  kH 13 11 true (.ib .geq (.t 12) (.c (.int .i64 0))),
  kG 14 (.pk (.t 11) (.t 13) (.c (.bool false))),
  kM 15 14,
  kH 16 15 true (.mv (.t 0)),
  kH 17 15 true (.mv (.t 1)),
  kH 18 15 true (.ib .sub (.c (.int .i64 64)) (.t 17)),
  kH 19 15 true (.ib .leq (.t 16) (.t 18)),
  kG 20 (.pk (.t 15) (.t 19) (.c (.bool false))),
  kM 4 20]) .rt))⟩
theorem k271 : cF Tryz.prog Tryz.f271 = some c271 := by kernel_rfl
def c272 : Fu := ⟨8, [.t 2], (.sq (.rg [kG 2 (.mv (.c (.int .u64 0)))]) (.sq (.rg [kM 3 0,
  kG 4 (.mm true (.t 3) (.c (.int .i64 0))),
  kG 5 (.mm false (.t 4) (.c (.int .i64 64))),
  kG 6 (.ib .shl (.c (.int .u64 1)) (.t 5)),
  kG 7 (.ib .sub (.t 6) (.c (.int .u64 1))),
  kM 2 7]) .rt))⟩
theorem k272 : cF Tryz.prog Tryz.f272 = some c272 := by kernel_rfl
def c273 : Fu := ⟨10, [.t 2, .t 3], (.sq (.rg [kG 2 (.mv (.c (.int .i64 0))),
  kG 3 (.mv (.c (.bool false)))]) (.sq (.sq (.rg [kM 4 0,
  kG 5 (.ca 236 [.t 4, (.c (.int .i64 0)), (.c (.int .i64 1))]),
  kG 6 (.ib .eql (.t 5) (.c (.int .u64 0)))]) (.cd (.t 6) (.sq (.rg [kG 2 (.mv (.c (.int .i64 0))),
  kG 3 (.mv (.c (.bool false)))]) .rt) .sk)) (.sq (.rg [kM 7 0,
  kG 8 (.ca 236 [.t 7, (.c (.int .i64 1)), (.c (.int .i64 63))]),
  kG 9 (.cv .i64 (.t 8)),
  kM 2 9,
  kG 3 (.mv (.c (.bool true)))]) .rt)))⟩
theorem k273 : cF Tryz.prog Tryz.f273 = some c273 := by kernel_rfl
def c274 : Fu := ⟨32, [], (.rd [⟨0, 0, [0], kM 3 0⟩, ⟨1, 0, [0], kM 4 0⟩, ⟨2, 2, [4], kN 5 4⟩, ⟨3, 6, [5], kF 6 5 5⟩, ⟨4, 14, [6], kL 7 6⟩, ⟨5, 30, [7], kN 8 7⟩, ⟨6, 62, [8], kF 9 8 0⟩, ⟨7, 126, [9], kL 10 9⟩, ⟨8, 0, [0], kM 11 0⟩, ⟨9, 256, [11], kN 12 11⟩, ⟨10, 768, [12], kF 13 12 5⟩, ⟨11, 1792, [13], kL 14 13⟩, ⟨12, 3840, [14], kN 15 14⟩, ⟨13, 7936, [15], kF 16 15 1⟩, ⟨14, 16128, [16], kL 17 16⟩, ⟨15, 0, [0], kM 18 0⟩, ⟨16, 32768, [18], kN 19 18⟩, ⟨17, 98304, [19], kF 20 19 6⟩, ⟨18, 229376, [20], kL 21 20⟩, ⟨19, 0, [0], kM 22 0⟩, ⟨20, 524288, [22], kN 23 22⟩, ⟨21, 1572864, [23], kF 24 23 6⟩, ⟨22, 3670016, [24], kL 25 24⟩, ⟨23, 7864320, [25], kG 26 (.ib .add (.t 25) (.c (.int .u64 1)))⟩, ⟨24, 16777214, [10, 17, 21, 26], kG 27 (.ca 287 [.t 10, .t 17, .t 21, .t 26])⟩, ⟨25, 33554430, [27], kM 2 27⟩, ⟨26, 67108862, [2], kG 28 (.ex (.t 2) 0)⟩, ⟨27, 67108862, [2], kG 29 (.ex (.t 2) 1)⟩, ⟨28, 134217727, [3], kN 30 3⟩, ⟨29, 402653183, [30], kF 31 30 8⟩, ⟨30, 939524095, [31, 28], kS (.st (.t 31) (.t 28) 1)⟩])⟩
theorem k274 : cF Tryz.prog Tryz.f274 = some c274 := by kernel_rfl
def c275 : Fu := ⟨86, [], (.sq (.rd [⟨0, 0, [0], kM 5 0⟩, ⟨1, 1, [5], kN 6 5⟩, ⟨2, 3, [6], kF 7 6 5⟩, ⟨3, 7, [7], kL 8 7⟩, ⟨4, 15, [8], kN 9 8⟩, ⟨5, 31, [9], kF 10 9 0⟩, ⟨6, 63, [10], kL 11 10⟩, ⟨7, 0, [0], kM 12 0⟩, ⟨8, 128, [12], kN 13 12⟩, ⟨9, 384, [13], kF 14 13 5⟩, ⟨10, 896, [14], kL 15 14⟩, ⟨11, 1920, [15], kN 16 15⟩, ⟨12, 3968, [16], kF 17 16 2⟩, ⟨13, 8064, [17], kL 18 17⟩, ⟨14, 0, [0], kM 19 0⟩, ⟨15, 16384, [19], kN 20 19⟩, ⟨16, 49152, [20], kF 21 20 9⟩, ⟨17, 114688, [21], kL 22 21⟩, ⟨18, 0, [0], kM 23 0⟩, ⟨19, 262144, [23], kN 24 23⟩, ⟨20, 786432, [24], kF 25 24 9⟩, ⟨21, 1835008, [25], kL 26 25⟩, ⟨22, 3932160, [26], kG 27 (.len (.t 26))⟩, ⟨23, 8126464, [27], kG 28 (.ib .sub (.t 27) (.c (.int .i64 1)))⟩, ⟨24, 16760832, [22, 28], kG 29 (.ia (.t 22) (.t 28) 1)⟩, ⟨25, 33538048, [29], kL 30 29⟩, ⟨26, 67108736, [18, 30], kG 31 (.ib .add (.t 18) (.t 30))⟩, ⟨27, 134217727, [11, 31], kG 32 (.ca 222 [.t 11, .t 31])⟩, ⟨28, 268435455, [32], kM 4 32⟩, ⟨29, 536870911, [4], kG 33 (.ex (.t 4) 0)⟩, ⟨30, 536870911, [4], kG 34 (.ex (.t 4) 1)⟩, ⟨31, 1073741823, [33], kM 2 33⟩, ⟨32, 4294967295, [34], kM 3 34⟩]) (.sq (.rg [kM 35 0,
  kM 36 0,
  kN 37 36,
  kF 38 37 5,
  kL 39 38,
  kM 40 2,
  kG 41 (.ca 85 [.t 39, .t 40]),
  kN 42 35,
  kF 43 42 7,
  kS (.st (.t 43) (.t 41) 1)]) (.sq (.rd [⟨0, 0, [0], kM 44 0⟩, ⟨1, 1, [44], kN 45 44⟩, ⟨2, 3, [45], kF 46 45 7⟩, ⟨3, 7, [46], kL 47 46⟩, ⟨4, 15, [47], kG 48 (.ib .geq (.t 47) (.c (.int .i64 0)))⟩, ⟨5, 31, [48], kM 49 48⟩, ⟨6, 63, [0, 49], kH 50 49 true (.mv (.t 0))⟩, ⟨7, 127, [50, 49], kH 51 49 true (.nc (.t 50))⟩, ⟨8, 255, [51, 49], kH 52 49 true (.fa (.t 51) 9)⟩, ⟨9, 511, [52, 49], kH 53 49 true (.ld (.t 52) 1 false)⟩, ⟨10, 1023, [53, 49], kH 54 49 true (.len (.t 53))⟩, ⟨11, 63, [0, 49], kH 55 49 true (.mv (.t 0))⟩, ⟨12, 2111, [55, 49], kH 56 49 true (.nc (.t 55))⟩, ⟨13, 6207, [56, 49], kH 57 49 true (.fa (.t 56) 6)⟩, ⟨14, 14399, [57, 49], kH 58 49 true (.ld (.t 57) 1 false)⟩, ⟨15, 32767, [54, 58, 49], kH 59 49 true (.ib .lss (.t 54) (.t 58))⟩, ⟨16, 65535, [49, 59], kG 60 (.pk (.t 49) (.t 59) (.c (.bool false)))⟩]) (.cd (.t 60) (.sq (.rd [⟨0, 0, [0], kM 61 0⟩, ⟨1, 0, [0], kM 62 0⟩, ⟨2, 2, [62], kN 63 62⟩, ⟨3, 6, [63], kF 64 63 9⟩, ⟨4, 14, [64], kL 65 64⟩, ⟨5, 0, [0], kM 66 0⟩, ⟨6, 32, [66], kN 67 66⟩, ⟨7, 96, [67], kF 68 67 7⟩, ⟨8, 224, [68], kL 69 68⟩, ⟨9, 480, [69], kG 70 (.bs 3 1 [.int .i64 0] [(0, 1, (.t 69))])⟩, ⟨10, 1022, [65, 70], kG 71 (.ap 22 3 1 8 [.int .i64 0] (.t 65) (.t 70))⟩, ⟨11, 2047, [61], kN 72 61⟩, ⟨12, 4095, [72], kF 73 72 9⟩, ⟨13, 8191, [73, 71], kS (.st (.t 73) (.t 71) 1)⟩]) (.rg [kM 74 0,
  kN 75 74,
  kF 76 75 0,
  kM 77 0,
  kG 78 (.mf (.func 275) [.t 77] []),
  kG 79 (.ca 147 [.t 76, .t 78])])) (.rg [kM 80 0,
  kN 81 80,
  kF 82 81 0,
  kM 83 0,
  kG 84 (.mf (.func 294) [.t 83] []),
  kG 85 (.ca 147 [.t 82, .t 84])])))))⟩
theorem k275 : cF Tryz.prog Tryz.f275 = some c275 := by kernel_rfl
def c283 : Fu := ⟨15, [.t 6], (.sq (.rg [kG 6 (.mv (.c (.int .i64 0)))]) (.sq (.sq (.rg [kM 7 0,
  kM 8 1,
  kG 9 (.ca 110 [.t 7, .t 8]),
  kG 10 (.nt (.t 9))]) (.cd (.t 10) (.sq (.rg [kG 6 (.mv (.c (.int .i64 1)))]) .rt) .sk)) (.sq (.rg [kM 11 0,
  kM 12 1,
  kM 13 2,
  kG 14 (.ca 265 [.t 11, (.c (.int .i64 2)), .t 12, .t 13, (.c (.bool true))])]) (.sq (.rg [kG 6 (.mv (.c (.int .i64 0)))]) .rt))))⟩
theorem k283 : cF Tryz.prog Tryz.f283 = some c283 := by kernel_rfl
def c287 : Fu := ⟨37, [.t 8, .t 9], (.sq (.rg [kG 8 (.mv (.c (.bool false))),
  kG 9 (.mv (.c (.int .i64 0)))]) (.sq (.sq (.rg [kM 10 0,
  kM 11 1,
  kG 12 (.ca 110 [.t 10, .t 11]),
  kG 13 (.nt (.t 12))]) (.cd (.t 13) (.sq (.rg [kG 8 (.mv (.c (.bool false))),
  kG 9 (.mv (.c (.int .i64 1)))]) .rt) .sk)) (.sq (.sq (.rg [kM 14 0,
  kN 15 14,
  kF 16 15 0,
  kL 17 16,
  kM 18 1,
  kG 19 (.ia (.t 17) (.t 18) 1),
  kL 20 19,
  kM 21 2,
  kG 22 (.ib .neq (.t 20) (.t 21))]) (.cd (.t 22) (.sq (.rg [kM 23 0,
  kM 24 1,
  kM 25 0,
  kN 26 25,
  kF 27 26 0,
  kL 28 27,
  kM 29 1,
  kG 30 (.ia (.t 28) (.t 29) 1),
  kL 31 30,
  kG 32 (.ca 265 [.t 23, (.c (.int .i64 3)), .t 24, .t 31, (.c (.bool false))])]) (.sq (.rg [kG 8 (.mv (.c (.bool false))),
  kG 9 (.mv (.c (.int .i64 0)))]) .rt)) .sk)) (.sq (.rg [kM 33 0,
  kM 34 1,
  kM 35 3,
  kG 36 (.ca 265 [.t 33, (.c (.int .i64 3)), .t 34, .t 35, (.c (.bool true))])]) (.sq (.rg [kG 8 (.mv (.c (.bool true))),
  kG 9 (.mv (.c (.int .i64 0)))]) .rt)))))⟩
theorem k287 : cF Tryz.prog Tryz.f287 = some c287 := by kernel_rfl
def c291 : Fu := ⟨10, [.t 4], (.sq (.rg [kG 4 (.mv (.c (.bool false)))]) (.sq (.rg [kM 5 0,
  kM 6 1,
  kG 7 (.ca 272 [.t 6]),
  kG 8 (.ib .andNot (.t 5) (.t 7)),
  kG 9 (.ib .eql (.t 8) (.c (.int .u64 0))),
  kM 4 9]) .rt))⟩
theorem k291 : cF Tryz.prog Tryz.f291 = some c291 := by kernel_rfl
def c292 : Fu := ⟨19, [.t 4], (.sq (.rg [kG 4 (.mv (.c (.int .i64 0)))]) (.sq (.sq (.rg [kM 6 0,
  kG 7 (.len (.t 6)),
  kG 8 (.mv (.c (.int .i64 0)))]) (.bl 0 (.lp (.sq (.rg [kG 9 (.ib .lss (.t 8) (.t 7))]) (.sq (.cd (.t 9) .sk (.ex 0)) (.sq (.bl 1 (.sq (.rg [kM 10 8,
  kM 5 10]) (.sq (.rg [kM 11 1,
  kM 12 0,
  kM 13 5,
  kG 14 (.ia (.t 12) (.t 13) 1),
  kL 15 14,
  kG 16 (.ib .eql (.t 11) (.t 15))]) (.cd (.t 16) (.sq (.rg [kM 17 5,
  kM 4 17]) .rt) .sk)))) (.rg [kG 18 (.ib .add (.t 8) (.c (.int .i64 1))),
  kM 8 18]))))))) (.sq (.rg [kG 4 (.mv (.c (.int .i64 (-1))))]) .rt)))⟩
theorem k292 : cF Tryz.prog Tryz.f292 = some c292 := by kernel_rfl
def c293 : Fu := ⟨47, [], (.sq (.rd [⟨0, 0, [0], kM 2 0⟩, ⟨1, 1, [2], kN 3 2⟩, ⟨2, 3, [3], kF 4 3 5⟩, ⟨3, 7, [4], kL 5 4⟩, ⟨4, 15, [5], kN 6 5⟩, ⟨5, 31, [6], kF 7 6 0⟩, ⟨6, 63, [7], kL 8 7⟩, ⟨7, 0, [0], kM 9 0⟩, ⟨8, 128, [9], kN 10 9⟩, ⟨9, 384, [10], kF 11 10 5⟩, ⟨10, 896, [11], kL 12 11⟩, ⟨11, 1920, [12], kN 13 12⟩, ⟨12, 3968, [13], kF 14 13 2⟩, ⟨13, 8064, [14], kL 15 14⟩, ⟨14, 0, [0], kM 16 0⟩, ⟨15, 16384, [16], kN 17 16⟩, ⟨16, 49152, [17], kF 18 17 6⟩, ⟨17, 114688, [18], kL 19 18⟩, ⟨18, 0, [0], kM 20 0⟩, ⟨19, 262144, [20], kN 21 20⟩, ⟨20, 786432, [21], kF 22 21 6⟩, ⟨21, 1835008, [22], kL 23 22⟩, ⟨22, 3932160, [23], kG 24 (.len (.t 23))⟩, ⟨23, 8126464, [24], kG 25 (.ib .sub (.t 24) (.c (.int .i64 1)))⟩, ⟨24, 16760832, [19, 25], kG 26 (.ia (.t 19) (.t 25) 1)⟩, ⟨25, 33538048, [26], kL 27 26⟩, ⟨26, 67108736, [15, 27], kG 28 (.ib .add (.t 15) (.t 27))⟩, ⟨27, 0, [0], kM 29 0⟩, ⟨28, 134217728, [29], kN 30 29⟩, ⟨29, 402653184, [30], kF 31 30 5⟩, ⟨30, 939524096, [31], kL 32 31⟩, ⟨31, 0, [0], kM 33 0⟩, ⟨32, 2147483648, [33], kN 34 33⟩, ⟨33, 6442450944, [34], kF 35 34 8⟩, ⟨34, 15032385536, [35], kL 36 35⟩, ⟨35, 34225520640, [32, 36], kG 37 (.ca 84 [.t 32, .t 36])⟩, ⟨36, 68585259008, [37], kG 38 (.ib .add (.t 37) (.c (.int .i64 1)))⟩, ⟨37, 137304735744, [38], kG 39 (.cv .u64 (.t 38))⟩, ⟨38, 274877906943, [8, 28, 39], kG 40 (.ca 283 [.t 8, .t 28, .t 39])⟩]) (.rg [kM 41 0,
  kN 42 41,
  kF 43 42 0,
  kM 44 0,
  kG 45 (.mf (.func 297) [.t 44] []),
  kG 46 (.ca 147 [.t 43, .t 45])]))⟩
theorem k293 : cF Tryz.prog Tryz.f293 = some c293 := by kernel_rfl
def c294 : Fu := ⟨22, [], (.sq (.rd [⟨0, 0, [0], kM 2 0⟩, ⟨1, 1, [2], kN 3 2⟩, ⟨2, 3, [3], kF 4 3 5⟩, ⟨3, 7, [4], kL 5 4⟩, ⟨4, 0, [0], kM 6 0⟩, ⟨5, 16, [6], kN 7 6⟩, ⟨6, 48, [7], kF 8 7 8⟩, ⟨7, 112, [8], kL 9 8⟩, ⟨8, 0, [0], kM 10 0⟩, ⟨9, 256, [10], kN 11 10⟩, ⟨10, 768, [11], kF 12 11 7⟩, ⟨11, 1792, [12], kL 13 12⟩, ⟨12, 4095, [5, 9, 13], kG 14 (.ca 298 [.t 5, .t 9, .t 13])⟩, ⟨13, 8191, [14], kG 15 (.nt (.t 14))⟩]) (.cd (.t 15) (.rg [kM 16 0,
  kN 17 16,
  kF 18 17 0,
  kM 19 0,
  kG 20 (.mf (.func 240) [.t 19] []),
  kG 21 (.ca 147 [.t 18, .t 20])]) .sk))⟩
theorem k294 : cF Tryz.prog Tryz.f294 = some c294 := by kernel_rfl
def c297 : Fu := ⟨24, [], (.sq (.rd [⟨0, 0, [0], kM 2 0⟩, ⟨1, 1, [2], kN 3 2⟩, ⟨2, 3, [3], kF 4 3 5⟩, ⟨3, 7, [4], kL 5 4⟩, ⟨4, 0, [0], kM 6 0⟩, ⟨5, 16, [6], kN 7 6⟩, ⟨6, 48, [7], kF 8 7 8⟩, ⟨7, 112, [8], kL 9 8⟩, ⟨8, 0, [0], kM 10 0⟩, ⟨9, 256, [10], kN 11 10⟩, ⟨10, 768, [11], kF 12 11 6⟩, ⟨11, 1792, [12], kL 13 12⟩, ⟨12, 3840, [13], kG 14 (.ia (.t 13) (.c (.int .i64 0)) 1)⟩, ⟨13, 7936, [14], kL 15 14⟩, ⟨14, 16383, [5, 9, 15], kG 16 (.ca 298 [.t 5, .t 9, .t 15])⟩, ⟨15, 32767, [16], kG 17 (.nt (.t 16))⟩]) (.cd (.t 17) (.rg [kM 18 0,
  kN 19 18,
  kF 20 19 0,
  kM 21 0,
  kG 22 (.mf (.func 269) [.t 21] []),
  kG 23 (.ca 147 [.t 20, .t 22])]) .sk))⟩
theorem k297 : cF Tryz.prog Tryz.f297 = some c297 := by kernel_rfl
def c298 : Fu := ⟨34, [.t 6], (.sq (.rg [kG 6 (.mv (.c (.bool false)))]) (.sq (.rg [kM 12 1,
  kG 13 (.ca 178 [.t 12]),
  kM 14 2,
  kG 15 (.ca 299 [.t 13, .t 14]),
  kG 16 (.ca 225 [.t 15]),
  kM 11 16,
  kG 17 (.ex (.t 11) 0),
  kG 18 (.ex (.t 11) 1),
  kM 7 17,
  kM 8 18]) (.sq (.rd [⟨0, 0, [0], kM 20 0⟩, ⟨1, 1, [20], kN 21 20⟩, ⟨2, 3, [21], kF 22 21 0⟩, ⟨3, 7, [22], kL 23 22⟩, ⟨4, 0, [0], kM 24 0⟩, ⟨5, 16, [24], kN 25 24⟩, ⟨6, 48, [25], kF 26 25 1⟩, ⟨7, 112, [26], kL 27 26⟩, ⟨8, 0, [1], kM 28 1⟩, ⟨9, 0, [7], kM 29 7⟩, ⟨10, 1023, [23, 27, 28, 29], kG 30 (.ca 287 [.t 23, .t 27, .t 28, .t 29])⟩, ⟨11, 2047, [30], kM 19 30⟩, ⟨12, 4095, [19], kG 31 (.ex (.t 19) 0)⟩, ⟨13, 4095, [19], kG 32 (.ex (.t 19) 1)⟩, ⟨14, 8191, [31], kM 9 31⟩, ⟨15, 32767, [32], kM 10 32⟩]) (.sq (.rg [kM 33 9,
  kM 6 33]) .rt))))⟩
theorem k298 : cF Tryz.prog Tryz.f298 = some c298 := by kernel_rfl
def c299 : Fu := ⟨15, [.c 4 2 true], (.sq (.rg [kG 2 (.bx 260 (.t 0)),
  kG 4 (.al 260 [.int .i64 0, .int .i64 0])]) (.sq (.rg [kG 5 (.mv (.c (.int .i64 0)))]) (.sq (.sq (.rg [kF 6 2 1,
  kL 7 6,
  kG 8 (.ca 266 [.t 7, (.c (.int .i64 0)), (.c (.int .i64 4294967294))])]) (.cd (.t 8) (.rg [kF 9 2 1,
  kL 10 9,
  kG 11 (.ib .add (.t 10) (.c (.int .i64 1))),
  kM 5 11]) .sk)) (.sq (.rg [kM 12 1,
  kM 13 5,
  kG 14 (.bd [.int .i64 0, .int .i64 0] [(0, 1, (.t 12)), (1, 1, (.t 13))]),
  kS (.st (.t 4) (.t 14) 2)]) .rt))))⟩
theorem k299 : cF Tryz.prog Tryz.f299 = some c299 := by kernel_rfl
end Go.Proofs.YtggnbdeokmdjbaaGreat


namespace Go.Proofs.YtggnbdeokmdjbaaGreat
end Go.Proofs.YtggnbdeokmdjbaaGreat


namespace Go.Proofs.YtggnbdeokmdjbaaGreat
open Go
attribute [local irreducible] Sx Cx Rx Fx Krg Ksq Kbl Klp Kr
def ints (xs : List Int) : List Value := xs.map (Value.int .i64)
theorem length_ints (xs : List Int) : (ints xs).length = xs.length := by simp [ints]
theorem ones_ints (xs : List Int) : ones (ints xs) = true := by simp [ones, ints, Value.oneCell']
theorem ints_append (xs ys : List Int) : ints (xs ++ ys) = ints xs ++ ints ys := by simp [ints]
theorem ints_take (xs : List Int) (n : Nat) : (ints xs).take n = ints (xs.take n) := by simp [ints, List.map_take]
theorem ints_drop (xs : List Int) (n : Nat) : (ints xs).drop n = ints (xs.drop n) := by simp [ints, List.map_drop]
section
variable {L F : St}
theorem Ent.rownil (E sz : Nat) : Ent L (pt none (Row E sz 0 0 []) :: L) := .of fun h H =>
 ⟨Hp.no, h, fun _ => .inl rfl, by funext k; simp [Hp.join, Hp.no], ⟨by simp, .inl ⟨rfl, rfl, rfl, rfl⟩⟩, H⟩
theorem Row.shrink {E sz n cap m : Nat} {xs : List Value} {a : Option Addr} (hm : m ≤ n) : ∀ g, pt a (Row E sz n cap xs) g → pt a (Row E sz m cap (xs.take (m * sz))) g := by
 rintro h ⟨hx, hh⟩
 have hms : m * sz ≤ n * sz := Nat.mul_le_mul_right _ hm
 refine ⟨by rw [List.length_take, hx]; omega, ?_⟩
 rcases hh with ⟨h1, h2, h3, h4⟩ | ⟨g, cur, h1, h2, h3, h4, h5, h6⟩
 ·exact .inl ⟨h1, by omega, h3, h4⟩
 ·refine .inr ⟨g, cur, h1, h2, by omega, h4, h5, ?_⟩
  rw [← h6, List.take_take, Nat.min_eq_left hms]
theorem clone {a : Option Addr} {m c : Nat} {vs : List Value} (hr : Rd L 1 a m vs) (h1 : ones vs = true) (hm : m ≤ 1000000000) :
  Fx Tryz.prog 184 [.slice a m c] L (fun v L' => ∃ a' c', v = .slice a' m c' ∧ L' = pt a' (Row 3 1 m c' vs) :: L) := by
 refine Fx.mk Tryz.func184 k184 nb_ ?_
 dsimp only [c184, kG, kS, kH, kM, kN, kF, kL, envOf, Nat.reduceAdd]
 cases a with
 | none =>
   refine go ?_
   have hm0 : m = 0 := by
    rcases hr.2 with h | ⟨b, o, h, _⟩
    ·exact h
    ·cases h
   subst hm0
   have hv : vs = [] := List.eq_nil_of_length_eq_zero (by simpa using hr.1)
   subst hv
   exact Kr.one (.inr rfl) rfl (Ent.rownil _ _) ⟨none, 0, rfl, rfl⟩
 | some a =>
   refine go ?_
   refine Sx.bs (sz := 1) rfl rfl fun g => ?_
   refine go ?_
   refine Sx.ap rfl rfl (hr.ent Ent.drop) h1 (by simp [maxLen]; omega) (by omega) fun ra ca hc => ?_
   refine go ?_
   refine Kr.one (.inr rfl) rfl (Ent.refl _) ⟨ra, ca, ?_, ?_⟩
   ·simp
   ·simp
def StashT (T : TypeId) (most : Int) (xs : List Int) (a : Option Addr) : As :=
 exs fun (y : Option Addr × Nat) => [pt a (Blk T [.int .i64 most, .slice y.1 xs.length y.2]), pt y.1 (Row 3 1 xs.length y.2 (ints xs))]
abbrev StashO := StashT 279
theorem StashO.close {T : TypeId} {most : Int} {xs : List Int} {a r : Option Addr} {cap n : Nat} {v : Value} {vs : List Value} {F G : St} [t : Take L a (Blk T [v, .slice r n cap]) F] [u : Take F r (Row 3 1 n cap vs) G]
  (hn : n = xs.length) (hv : v = .int .i64 most) (hvs : vs = ints xs) : Ent L (pt a (StashT T most xs) :: G) := by
 subst hn; subst hv; subst hvs
 exact (Ent.take1 (t := t) (Ent.of u.out)).trans (Ent.close (f := fun (y : Option Addr × Nat) => [pt a (Blk T [.int .i64 most, .slice y.1 xs.length y.2]), pt y.1 (Row 3 1 xs.length y.2 (ints xs))]) rfl (r, cap))
theorem stashNew (m : Int) : Fx Tryz.prog 143 [.int .i64 m] L (fun v L' => ∃ g, v = .pointer (some ⟨g, 0, none⟩) ∧ L' = pt (some ⟨g, 0, none⟩) (StashO (min (max m 0) 64) []) :: L) := by
 refine Fx.mk Tryz.func143 k143 nb_ ?_
 dsimp only [c143, kG, kS, kH, kM, kN, kF, kL, envOf, Nat.reduceAdd]
 refine go ?_
 refine Sx.bx rfl rfl fun g => ?_
 refine go ?_
 refine Kr.one (.inr rfl) rfl (Ent.trans (Ent.rownil 3 1) (StashO.close (xs := []) rfl ?_ rfl)) ⟨g, rfl, rfl⟩
 simp only [cond_true, cond_false]
 congr 1
 omega
theorem stashGive {b : Nat} {most : Int} {xs ys : List Int} {ya : Option Addr} {m c : Nat} {F : St} [t : Take L (some ⟨b, 0, none⟩) (StashO most xs) F] (hr : Rd F 1 ya m (ints ys)) (hb : xs.length + m ≤ 1000000000) :
  Fx Tryz.prog 106 [.pointer (some ⟨b, 0, none⟩), .slice ya m c] L (fun v L' => v = .tuple #[] ∧ L' = pt (some ⟨b, 0, none⟩) (StashO most (xs ++ ys)) :: F) := by
 refine Fx.mk Tryz.func106 k106 nb_ ?_
 dsimp only [c106, kG, kS, kH, kM, kN, kF, kL, envOf, Nat.reduceAdd]
 refine Cx.openp (t := t) rfl ?_
 rintro ⟨r, cap⟩
 simp only [List.cons_append, List.nil_append]
 refine go ?_
 refine Sx.ap rfl rfl (hr.ent (Ent.drop.trans Ent.drop)) (ones_ints ys) (by simp [maxLen]; omega) (by omega) fun ra ca hc => ?_
 refine go ?_
 have hm : m = ys.length := by have := hr.1; simp [length_ints] at this; omega
 exact Kr.none (.inl rfl) (StashO.close (by simp [hm]) rfl (by simp [ints])) ⟨rfl, rfl⟩
theorem stashTakeNone {b : Nat} {most : Int} {F : St} [t : Take L (some ⟨b, 0, none⟩) (StashO most []) F] :
  Fx Tryz.prog 221 [.pointer (some ⟨b, 0, none⟩)] L (fun v L' => v = .tuple #[.int .i64 0, .bool false] ∧ L' = pt (some ⟨b, 0, none⟩) (StashO most []) :: F) := by
 refine Fx.mk Tryz.func221 k221 nb_ ?_
 dsimp only [c221, kG, kS, kH, kM, kN, kF, kL, envOf, Nat.reduceAdd]
 refine Cx.openp (t := t) rfl ?_
 rintro ⟨r, cap⟩
 simp only [List.cons_append, List.nil_append]
 refine go ?_
 exact Kr.two (.inr rfl) rfl rfl (StashO.close rfl rfl rfl) ⟨rfl, rfl⟩
theorem stashTakeSome {b : Nat} {most : Int} {xs : List Int} {x : Int} {F : St} [t : Take L (some ⟨b, 0, none⟩) (StashO most (xs ++ [x])) F] (hb : xs.length ≤ 1000000000) :
  Fx Tryz.prog 221 [.pointer (some ⟨b, 0, none⟩)] L (fun v L' => v = .tuple #[.int .i64 x, .bool true] ∧ L' = pt (some ⟨b, 0, none⟩) (StashO most xs) :: F) := by
 refine Fx.mk Tryz.func221 k221 nb_ ?_
 dsimp only [c221, kG, kS, kH, kM, kN, kF, kL, envOf, Nat.reduceAdd]
 refine Cx.openp (t := t) rfl ?_
 rintro ⟨r, cap⟩
 simp only [List.cons_append, List.nil_append]
 generalize hn : (xs ++ [x]).length = n
 have hn' : n = xs.length + 1 := by simp at hn; omega
 clear hn
 refine Cx.rowkey (a := r) fun _ hnc _ hk => ?_
 obtain ⟨g, rfl⟩ : ∃ g, r = some ⟨g, 0, none⟩ := by
  rcases hk with h | h
  ·exfalso; omega
  ·exact h
 have hw : IntKind.i64.wrap ((n : Int) - 1) = (xs.length : Int) := by rw [w64 (by omega) (by omega)]; omega
 refine go ?_
 refine Cx.cno rfl (by simp; omega) ?_
 refine go ?_
 rw [hw]
 refine go ?_
 refine Sx.pv rfl ⟨by omega, by omega⟩ ?_
 refine Sx.ldr rfl (v := .int .i64 x) ?_ ?_
 ·simp [ints]
 refine go ?_
 refine Sx.pv rfl ⟨by omega, by omega⟩ ?_
 refine go ?_
 refine Kr.two (.inr rfl) rfl rfl ?_ ⟨rfl, rfl⟩
 refine Ent.trans (Ent.take1 (a := some ⟨g, 0, none⟩) (Ent.refl _)) (Ent.trans (Ent.head (Row.shrink (m := xs.length) (by omega))) ?_)
 refine StashO.close (by simp) rfl ?_
 simp [ints]
theorem Rd.prefix_ {a : Option Addr} {E sz n cap m : Nat} {xs : List Value} [t : Take L a (Row E sz n cap xs) F] (hx : xs.length = n * sz) (hk : (a = none ∧ n = 0 ∧ cap = 0) ∨ ∃ g, a = some ⟨g, 0, none⟩) (hm : m ≤ n) : Rd L sz a m (xs.take (m * sz)) := by
 have hms : m * sz ≤ n * sz := Nat.mul_le_mul_right _ hm
 refine ⟨by rw [List.length_take]; omega, ?_⟩
 rcases hk with ⟨_, h, _⟩ | ⟨g, rfl⟩
 ·left; omega
 ·right
  have h := Has.row (L := L) (b := g) (E := E) (sz := sz) (n := n) (cap := cap) (xs := xs) (off := 0) (m := m * sz)
  rw [List.drop_zero] at h
  exact ⟨g, 0, rfl, h⟩
theorem Rd.suffix_ {g : Nat} {E sz n cap i : Nat} {xs : List Value} [t : Take L (some ⟨g, 0, none⟩) (Row E sz n cap xs) F] (hx : xs.length = n * sz) (hn : n ≤ cap) (hi : i ≤ n) : Rd L sz (some ⟨g, 0 + skp cap i sz, none⟩) (n - i) (xs.drop (i * sz)) := by
 have hms : i * sz ≤ n * sz := Nat.mul_le_mul_right _ hi
 refine ⟨by rw [List.length_drop, hx, Nat.sub_mul], ?_⟩
 by_cases hc : cap = i
 ·left; omega
 ·right
  refine ⟨g, 0 + skp cap i sz, rfl, ?_⟩
  have h := Has.row (L := L) (b := g) (E := E) (sz := sz) (n := n) (cap := cap) (xs := xs) (off := i * sz) (m := (xs.drop (i * sz)).length)
  rw [List.take_length] at h
  simp only [skp, hc, if_false, Nat.zero_add]
  exact h
theorem stashCut {b : Nat} {most : Int} {xs : List Int} {k : Nat} {F : St} [t : Take L (some ⟨b, 0, none⟩) (StashO most xs) F] (hb : xs.length ≤ 1000000000) (hk : k ≤ xs.length) :
  Fx Tryz.prog 232 [.pointer (some ⟨b, 0, none⟩), .int .i64 k] L (fun v L' => ∃ a c, v = .slice a k c ∧ L' = pt a (Row 3 1 k c (ints (xs.take k))) :: pt (some ⟨b, 0, none⟩) (StashO most (xs.drop k)) :: F) := by
 refine Fx.mk Tryz.func232 k232 nb_ ?_
 dsimp only [c232, kG, kS, kH, kM, kN, kF, kL, envOf, Nat.reduceAdd]
 refine Cx.openp (t := t) rfl ?_
 rintro ⟨r, cap⟩
 simp only [List.cons_append, List.nil_append]
 refine Cx.rowkey (a := r) fun hx hnc _ hkey => ?_
 refine go ?_
 refine Sx.pv rfl ⟨by omega, by omega⟩ ?_
 have h1 := Rd.prefix_ (L := pt (some ⟨b, 0, none⟩) (Blk 279 [.int .i64 most, .slice r xs.length cap]) :: pt r (Row 3 1 xs.length cap (ints xs)) :: F) (a := r) hx hkey hk
 simp only [Nat.mul_one, ints_take] at h1
 refine Sx.ca rfl (clone (by simpa using h1) (ones_ints _) (by omega)) ?_
 rintro v L' ⟨a1, c1, rfl, rfl⟩
 refine go ?_
 rcases hkey with ⟨rfl, h0, rfl⟩ | ⟨g, rfl⟩
 ·have hx0 : xs = [] := List.eq_nil_of_length_eq_zero h0
  subst hx0
  have hk0 : k = 0 := by simpa using hk
  subst hk0
  refine Sx.pv rfl (by simp) ?_
  refine Sx.ca rfl (clone (vs := []) (Rd.nil _ _ _) rfl (by omega)) ?_
  rintro v L' ⟨a2, c2, rfl, rfl⟩
  refine go ?_
  refine Kr.one (.inr rfl) rfl ?_ ⟨a1, c1, rfl, rfl⟩
  refine Ent.trans (StashO.close (a := some ⟨b, 0, none⟩) (r := a2) (xs := []) rfl rfl rfl) ?_
  simp only [Int.toNat_natCast, List.take_nil, List.drop_nil, ints, List.map_nil]
  exact ent
 ·refine Sx.pv rfl ⟨by omega, by omega⟩ ?_
  have h2 := Rd.suffix_ (L := pt a1 (Row 3 1 k c1 (ints (xs.take k))) :: pt (some ⟨b, 0, none⟩) (Blk 279 [.int .i64 most, .slice (some ⟨g, 0, none⟩) xs.length cap]) :: pt (some ⟨g, 0, none⟩) (Row 3 1 xs.length cap (ints xs)) :: F) (g := g) hx hnc hk
  simp only [Nat.mul_one, ints_drop] at h2
  refine Sx.ca rfl (clone (vs := ints (xs.drop k)) (by simpa using h2) (ones_ints _) (by omega)) ?_
  rintro v L' ⟨a2, c2, rfl, rfl⟩
  refine go ?_
  refine Kr.one (.inr rfl) rfl ?_ ⟨a1, c1, rfl, rfl⟩
  refine Ent.trans (StashO.close (a := some ⟨b, 0, none⟩) (r := a2) (xs := xs.drop k) (by simp) rfl rfl) ?_
  simp only [Int.toNat_natCast]
  exact ent
theorem stashAll {b : Nat} {most : Int} {xs : List Int} {F : St} [t : Take L (some ⟨b, 0, none⟩) (StashO most xs) F] (hb : xs.length ≤ 1000000000) :
  Fx Tryz.prog 172 [.pointer (some ⟨b, 0, none⟩)] L (fun v L' => ∃ a c, v = .slice a xs.length c ∧ L' = pt a (Row 3 1 xs.length c (ints xs)) :: pt (some ⟨b, 0, none⟩) (StashO most []) :: F) := by
 refine Fx.mk Tryz.func172 k172 nb_ ?_
 dsimp only [c172, kG, kS, kH, kM, kN, kF, kL, envOf, Nat.reduceAdd]
 refine Cx.openp (t := t) rfl ?_
 rintro ⟨r, cap⟩
 simp only [List.cons_append, List.nil_append]
 refine go ?_
 refine Sx.ent (StashO.close (a := some ⟨b, 0, none⟩) (r := r) (xs := xs) rfl rfl rfl) ?_
 refine Sx.ca rfl (stashCut (b := b) (most := most) (xs := xs) (k := xs.length) hb (Nat.le_refl _)) ?_
 rintro v L' ⟨a, c, rfl, rfl⟩
 refine go ?_
 refine Kr.one (.inr rfl) rfl ?_ ⟨a, c, rfl, rfl⟩
 simp only [List.take_length, List.drop_length]
 exact Ent.refl _
theorem stashList {b : Nat} {most : Int} {xs : List Int} {F : St} [t : Take L (some ⟨b, 0, none⟩) (StashO most xs) F] (hb : xs.length ≤ 1000000000) :
  Fx Tryz.prog 176 [.pointer (some ⟨b, 0, none⟩)] L (fun v L' => ∃ a c, v = .slice a xs.length c ∧ L' = pt a (Row 3 1 xs.length c (ints xs)) :: pt (some ⟨b, 0, none⟩) (StashO most xs) :: F) := by
 refine Fx.mk Tryz.func176 k176 nb_ ?_
 dsimp only [c176, kG, kS, kH, kM, kN, kF, kL, envOf, Nat.reduceAdd]
 refine Cx.openp (t := t) rfl ?_
 rintro ⟨r, cap⟩
 simp only [List.cons_append, List.nil_append]
 refine Cx.rowkey (a := r) fun hx hnc _ hkey => ?_
 refine go ?_
 have h1 := Rd.prefix_ (L := pt (some ⟨b, 0, none⟩) (Blk 279 [.int .i64 most, .slice r xs.length cap]) :: pt r (Row 3 1 xs.length cap (ints xs)) :: F) (a := r) hx hkey (Nat.le_refl _)
 simp only [Nat.mul_one, ints_take, List.take_length] at h1
 refine Sx.ca rfl (clone h1 (ones_ints _) (by omega)) ?_
 rintro v L' ⟨a1, c1, rfl, rfl⟩
 refine go ?_
 refine Kr.one (.inr rfl) rfl ?_ ⟨a1, c1, rfl, rfl⟩
 refine Ent.trans (StashO.close (a := some ⟨b, 0, none⟩) (r := r) (xs := xs) rfl rfl rfl) ?_
 exact ent
def overK (most : Int) (xs : List Int) : Nat := (max ((xs.length : Int) - most) 0).toNat
end
end Go.Proofs.YtggnbdeokmdjbaaGreat


namespace Go.Proofs.YtggnbdeokmdjbaaGreat
open Go
attribute [local irreducible] Sx Cx Rx Fx Krg Ksq Kbl Klp Kr
section
variable {P : Program} {N : Nat} {e : En} {K : En → St → Prop} {L F : St} {l : List G}
theorem Sx.apn {d : Option Nat} {T E sz by_ : Nat} {z : List Value} {x y : X} {ya : Option Addr} {m c : Nat} {ys : List Value}
  (hx : x.get e = some (.slice none 0 0)) (hy : y.get e = some (.slice ya m c)) (hr : Rd L sz ya m ys) (h1 : ones ys = true) (hm : m ≤ maxLen) (hb : m * by_ ≤ 140737488355328)
  (k : ∀ ra' cap', m ≤ cap' → Sx P N l (e.put d (.slice ra' m cap')) K (pt ra' (Row E sz m cap' ys) :: L)) : Sx P N (⟨d, none, .ap T E sz by_ z x y⟩ :: l) e K L := by
 refine Sx.ent (Ent.rownil E sz) ?_
 refine Sx.ap (ra := none) (n := 0) (cap := 0) (xs := []) hx hy (hr.ent Ent.drop) h1 (by omega) (by simpa using hb) fun ra ca hc => ?_
 simp only [Nat.zero_add, List.nil_append] at hc ⊢
 exact k ra ca hc
theorem Has.at_ {b o i : Nat} {vs : List Value} {v : Value} (h : Has L b o vs) (hv : vs[i]? = some v) : Has L b (o + i) [v] := by
 have := Has.sub (i := i) (n := 1) h
 rwa [take_one hv] at this
end
section
variable {L F : St}
theorem number (v n : Int) (hn : 0 < n) (hn2 : n ≤ 4611686018427387904) : Fx Tryz.prog 10 [.int .i64 v, .int .i64 n] L (fun r L' => r = .int .i64 (v % n) ∧ L = L') := by
 have h1 := Int.tmod_lt_of_pos v hn
 have h2 : v % n = if v.tmod n < 0 then v.tmod n + n else v.tmod n := by
  rw [Int.tmod_eq_emod]
  have h3 := Int.emod_nonneg v (show n ≠ 0 by omega)
  have h4 := Int.emod_lt_of_pos v hn
  have h5 : (n.natAbs : Int) = n := by omega
  split <;> split <;> omega
 have h6 : -n < v.tmod n := by
  rw [Int.tmod_eq_emod]
  have h3 := Int.emod_nonneg v (show n ≠ 0 by omega)
  have h4 := Int.emod_lt_of_pos v hn
  have h5 : (n.natAbs : Int) = n := by omega
  split <;> omega
 refine Fx.mk Tryz.func10 k10 nb_ ?_
 dsimp only [c10, kG, kS, kH, kM, kN, kF, kL, envOf, Nat.reduceAdd]
 refine go ?_
 refine Sx.pv rfl (by omega) ?_
 refine go ?_
 refine Cx.ifp rfl (fun h => ?_) (fun h => ?_)
 ·refine go ?_
  refine Kr.one (.inr rfl) rfl (Ent.refl _) ⟨?_, rfl⟩
  rw [w64 (by omega) (by omega), h2, if_pos h]
 ·refine go ?_
  refine Kr.one (.inr rfl) rfl (Ent.refl _) ⟨?_, rfl⟩
  rw [h2, if_neg h]
theorem sameInts {xs ys : List Int} {a b : Option Addr} {n m c d : Nat} (h1 : Rd L 1 a n (ints xs)) (h2 : Rd L 1 b m (ints ys)) (hb : n ≤ 1000000000) :
  Fx Tryz.prog 12 [.slice a n c, .slice b m d] L (fun v L' => v = .bool (decide (xs = ys)) ∧ L = L') := by
 have hn : n = xs.length := by have := h1.1; simp [ints] at this; omega
 have hm : m = ys.length := by have := h2.1; simp [ints] at this; omega
 refine Fx.mk Tryz.func12 k12 nb_ ?_
 dsimp only [c12, kG, kS, kH, kM, kN, kF, kL, envOf, Nat.reduceAdd]
 refine go ?_
 refine Cx.ifn rfl (fun h => ?_) (fun h => ?_)
 ·refine go ?_
  have hne : xs ≠ ys := fun he => h (by rw [hn, hm, he])
  exact Kr.one (.inr rfl) rfl (Ent.refl _) ⟨by simp [hne], rfl⟩
 ·refine go ?_
  have hnm : n = m := by omega
  refine Cx.lp (α := {i : Nat // i ≤ n ∧ xs.take i = ys.take i}) (fun i => [(0, .slice a n c), (1, .slice b m d), (5, .int .i64 i.1)]) (fun _ => L) (fun i => n - i.1) ⟨0, by omega, rfl⟩ (sub.cons rfl (sub.cons rfl (sub.cons rfl sub.nil))) (Ent.refl _) ?_
  rintro ⟨i, hi, heq⟩
  dsimp only
  refine go ?_
  refine Cx.ifp rfl (fun h => ?_) (fun h => ?_)
  ·have hlt : i < n := by omega
   obtain ⟨_, h0 | ⟨ga, oa, rfl, ha⟩⟩ := h1
   ·omega
   obtain ⟨_, h0 | ⟨gb, ob, rfl, hbb⟩⟩ := h2
   ·omega
   have hx : (ints xs)[i]? = some (.int .i64 xs[i]) := by simp [ints]
   have hy : (ints ys)[i]? = some (.int .i64 ys[i]) := by simp [ints]
   refine go ?_
   refine Cx.rd ?_
   refine Rx.pvs rfl ?_
   refine Rx.pv 0 rfl rfl rfl ⟨by omega, by omega⟩ rfl rfl ?_
   refine Rx.pv 1 rfl rfl rfl ⟨by omega, by omega⟩ rfl rfl ?_
   refine Rx.ldS 0 rfl rfl rfl (by simpa using ha.at_ hx) rfl rfl rfl ?_
   refine Rx.ldS 0 rfl rfl rfl (by simpa using hbb.at_ hy) rfl rfl rfl ?_
   refine Rx.pvs rfl ?_
   refine Rx.nil ?_
   refine go ?_
   refine Cx.ifn rfl (fun hne => ?_) (fun he => ?_)
   ·refine go ?_
    have hxy : xs ≠ ys := fun he => by subst he; exact hne rfl
    exact Kr.one (.inr rfl) rfl (Ent.refl _) ⟨by simp [hxy], rfl⟩
   ·refine go ?_
    rw [w64 (by omega) (by omega)]
    refine Klp.nm ⟨i + 1, by omega, ?_⟩ (sub.cons rfl (sub.cons rfl (sub.cons (by simp [En.get, En.put]) sub.nil))) (Ent.refl _) (by simp; omega)
    rw [List.take_succ_eq_append_getElem (by omega), List.take_succ_eq_append_getElem (by omega), heq, he]
  ·refine go ?_
   have hin : i = n := by omega
   subst hin
   have hxy : xs = ys := by
    rw [hn, List.take_length] at heq
    rw [heq, ← hn, hnm, hm, List.take_length]
   exact Kr.one (.inr rfl) rfl (Ent.refl _) ⟨by simp [hxy], rfl⟩
abbrev RefO := StashT 142
theorem refNew (m : Int) : Fx Tryz.prog 160 [.int .i64 m] L (fun v L' => ∃ g, v = .pointer (some ⟨g, 0, none⟩) ∧ L' = pt (some ⟨g, 0, none⟩) (RefO (min (max m 0) 64) []) :: L) := by
 refine Fx.mk Tryz.func160 k160 nb_ ?_
 dsimp only [c160, kG, kS, kH, kM, kN, kF, kL, envOf, Nat.reduceAdd]
 refine go ?_
 refine Sx.bx rfl rfl fun g => ?_
 refine go ?_
 refine Kr.one (.inr rfl) rfl (Ent.trans (Ent.rownil 3 1) (StashO.close (xs := []) rfl ?_ rfl)) ⟨g, rfl, rfl⟩
 simp only [cond_true, cond_false]
 congr 1
 omega
theorem refGive {b : Nat} {most : Int} {xs ys : List Int} {ya : Option Addr} {m c : Nat} [t : Take L (some ⟨b, 0, none⟩) (RefO most xs) F] (hr : Rd F 1 ya m (ints ys)) (hb : xs.length + m ≤ 1000000000) :
  Fx Tryz.prog 31 [.pointer (some ⟨b, 0, none⟩), .slice ya m c] L (fun v L' => v = .tuple #[] ∧ L' = pt (some ⟨b, 0, none⟩) (RefO most (xs ++ ys)) :: F) := by
 refine Fx.mk Tryz.func31 k31 nb_ ?_
 dsimp only [c31, kG, kS, kH, kM, kN, kF, kL, envOf, Nat.reduceAdd]
 refine Cx.openp (t := t) rfl ?_
 rintro ⟨r, cap⟩
 simp only [List.cons_append, List.nil_append]
 refine Cx.rowkey (a := r) fun hx hnc _ hkey => ?_
 refine go ?_
 refine Sx.apn rfl rfl (Rd.any (a := r) hx (hkey.imp (fun h => h.2.1) id)) (ones_ints xs) (by simp [maxLen]; omega) (by omega) fun r1 c1 h1 => ?_
 refine go ?_
 refine Sx.ap rfl rfl (hr.ent (Ent.drop.trans (Ent.drop.trans Ent.drop))) (ones_ints ys) (by simp [maxLen]; omega) (by omega) fun r2 c2 h2 => ?_
 refine go ?_
 have hm : m = ys.length := by have := hr.1; simp [length_ints] at this; omega
 refine Kr.none (.inl rfl) ?_ ⟨rfl, rfl⟩
 refine Ent.trans (StashO.close (a := some ⟨b, 0, none⟩) (r := r2) (xs := xs ++ ys) (by simp [hm]) rfl (by simp [ints])) ?_
 exact ent
theorem refTakeNone {b : Nat} {most : Int} [t : Take L (some ⟨b, 0, none⟩) (RefO most []) F] :
  Fx Tryz.prog 227 [.pointer (some ⟨b, 0, none⟩)] L (fun v L' => v = .tuple #[.int .i64 0, .bool false] ∧ L' = pt (some ⟨b, 0, none⟩) (RefO most []) :: F) := by
 refine Fx.mk Tryz.func227 k227 nb_ ?_
 dsimp only [c227, kG, kS, kH, kM, kN, kF, kL, envOf, Nat.reduceAdd]
 refine Cx.openp (t := t) rfl ?_
 rintro ⟨r, cap⟩
 simp only [List.cons_append, List.nil_append]
 refine go ?_
 exact Kr.two (.inr rfl) rfl rfl (StashO.close rfl rfl rfl) ⟨rfl, rfl⟩
theorem refTakeSome {b : Nat} {most : Int} {xs : List Int} {x : Int} [t : Take L (some ⟨b, 0, none⟩) (RefO most (xs ++ [x])) F] (hb : xs.length ≤ 100000000) :
  Fx Tryz.prog 227 [.pointer (some ⟨b, 0, none⟩)] L (fun v L' => v = .tuple #[.int .i64 x, .bool true] ∧ L' = pt (some ⟨b, 0, none⟩) (RefO most xs) :: F) := by
 refine Fx.mk Tryz.func227 k227 nb_ ?_
 dsimp only [c227, kG, kS, kH, kM, kN, kF, kL, envOf, Nat.reduceAdd]
 refine Cx.openp (t := t) rfl ?_
 rintro ⟨r, cap⟩
 simp only [List.cons_append, List.nil_append]
 generalize hn : (xs ++ [x]).length = n
 have hn' : n = xs.length + 1 := by simp at hn; omega
 clear hn
 refine Cx.rowkey (a := r) fun hx hnc _ hk => ?_
 obtain ⟨g, rfl⟩ : ∃ g, r = some ⟨g, 0, none⟩ := by
  rcases hk with h | h
  ·exfalso; omega
  ·exact h
 have hw : IntKind.i64.wrap ((n : Int) - 1) = (xs.length : Int) := by rw [w64 (by omega) (by omega)]; omega
 refine go ?_
 refine Cx.cno rfl (by simp; omega) ?_
 refine go ?_
 rw [hw]
 refine go ?_
 refine Sx.pv rfl ⟨by omega, by omega⟩ ?_
 refine Sx.ldr rfl (v := .int .i64 x) ?_ ?_
 ·simp [ints]
 refine go ?_
 rw [hw]
 refine go ?_
 refine Sx.pv rfl ⟨by omega, by omega⟩ ?_
 have h1 := Rd.prefix_ (L := pt (some ⟨b, 0, none⟩) (Blk 142 [.int .i64 most, .slice (some ⟨g, 0, none⟩) n cap]) :: pt (some ⟨g, 0, none⟩) (Row 3 1 n cap (ints (xs ++ [x]))) :: F) (m := xs.length) (a := some ⟨g, 0, none⟩) hx (.inr ⟨g, rfl⟩) (by omega)
 have h2 : (ints (xs ++ [x])).take (xs.length * 1) = ints xs := by simp [ints]
 rw [h2] at h1
 refine Sx.apn rfl rfl (by simpa using h1) (ones_ints xs) (by simp [maxLen]; omega) (by omega) fun r1 c1 h3 => ?_
 refine go ?_
 refine Kr.two (.inr rfl) rfl rfl ?_ ⟨rfl, rfl⟩
 refine Ent.trans (StashO.close (a := some ⟨b, 0, none⟩) (r := r1) (xs := xs) (by simp) rfl rfl) ?_
 exact ent
theorem refAll {b : Nat} {most : Int} {xs : List Int} [t : Take L (some ⟨b, 0, none⟩) (RefO most xs) F] :
  Fx Tryz.prog 173 [.pointer (some ⟨b, 0, none⟩)] L (fun v L' => ∃ a c, v = .slice a xs.length c ∧ L' = pt a (Row 3 1 xs.length c (ints xs)) :: pt (some ⟨b, 0, none⟩) (RefO most []) :: F) := by
 refine Fx.mk Tryz.func173 k173 nb_ ?_
 dsimp only [c173, kG, kS, kH, kM, kN, kF, kL, envOf, Nat.reduceAdd]
 refine Cx.openp (t := t) rfl ?_
 rintro ⟨r, cap⟩
 simp only [List.cons_append, List.nil_append]
 refine go ?_
 refine Kr.one (.inr rfl) rfl ?_ ⟨r, cap, rfl, rfl⟩
 refine Ent.trans (Ent.rownil 3 1) ?_
 refine Ent.trans (StashO.close (a := some ⟨b, 0, none⟩) (r := none) (xs := []) rfl rfl rfl) ?_
 exact ent
end
end Go.Proofs.YtggnbdeokmdjbaaGreat


namespace Go.Proofs.YtggnbdeokmdjbaaGreat
open Go
section
variable {P : Program} {N : Nat} {L M F : St}
theorem Fx.kept {f : FuncId} {vs : List Value} {v : Value} {a : Option Addr} {R : Option Addr → As} [t : Take L a R F] (h : Fx P f vs L (fun v' L' => v' = v ∧ L' = pt a R :: F)) : Fx P f vs L (fun v' L' => v' = v ∧ L = L') :=
 fun w0 w s => (h w0 w s).mono fun en w' ⟨v', L', he, ⟨hv, hL⟩, hS⟩ => ⟨v', L, he, ⟨hv, rfl⟩, hS.ent (by subst hL; exact Ent.of t.back)⟩
theorem Fx.pure {f : FuncId} {vs : List Value} {R : Value → St → Prop} (x : Fx P f vs L R) {p : Value → St → Prop} (hp : ∀ v L', R v L' → ∀ h, holds L' h → p v L') : Fx P f vs L (fun v L' => R v L' ∧ p v L') :=
 fun w0 w s => (x w0 w s).mono fun en w' ⟨v, L', he, hR, hS⟩ => by
  obtain ⟨h, hh, _⟩ := hS.heap
  exact ⟨v, L', he, ⟨hR, hp v L' hR h hh⟩, hS⟩
class Mono (Kf : En → St → Prop) : Prop where
 le : ∀ e e' L, sub e e' → Kf e L → Kf e' L
instance Mono.cx {c : C} {K : Kx} : Mono (fun e L => Cx P N c e K L) := ⟨fun _ _ _ hs h => Cx.less hs h⟩
instance Mono.sq {c : C} {K : Kx} : Mono (fun e L => Ksq P N c K .nm e L) := ⟨fun _ _ _ hs h => Cx.less hs h⟩
instance Mono.bl {K : Kx} {i : Nat} [m : Mono (fun e L => K .nm e L)] : Mono (fun e L => Kbl i K .nm e L) := ⟨fun e e' L hs h => m.le e e' L hs h⟩
instance Mono.lp {α : Type _} {K : Kx} {T : α → En} {S : α → St} {μ : α → Nat} {x : α} : Mono (fun e L => Klp K T S μ x .nm e L) := ⟨fun _ _ _ hs h => Klp.mono _ _ hs h⟩
instance Mono.jn {β : Type _} {K : Kx} {T : β → En} {S : β → St} : Mono (fun e L => Kjn K T S .nm e L) := ⟨fun _ _ _ hs h => Kjn.mono _ _ hs h⟩
instance Mono.kr {rs : List RV} {R : Value → St → Prop} : Mono (fun e L => Kr P N rs R .nm e L) := ⟨fun e e' L hs ⟨h1, v, L', h2, h3, h4⟩ => ⟨h1, v, L', fun fn a w0 w hr ok s => h2 fn a w0 w hr (ok.sub hs) s, h3, h4⟩⟩
theorem Ev.same {Kf : En → St → Prop} {rem : List It} {ms : List (Nat × (St → Prop))} {e : En} {L : St} (h : Ev P N Kf rem ms e L) : ∀ {rem2 : List It}, (∀ x, x ∈ rem2 ↔ x ∈ rem) → Ev P N Kf rem2 ms e L := by
 induction h with
 | nil h =>
   intro rem2 hm
   cases rem2 with
   | nil => exact .nil h
   | cons x r => exact absurd ((hm x).1 (by simp)) (by simp)
 | free x hx v h k ih => exact fun hm => .free x ((hm x).2 hx) v h (ih fun y => by rw [mem_without, mem_without, hm])
 | looks x hx v Φ hΦ h k ih => exact fun hm => .looks x ((hm x).2 hx) v Φ hΦ h (ih fun y => by rw [mem_without, mem_without, hm])
 | turns x hx R h1 h2 h k ih =>
   intro rem2 hm
   refine .turns x ((hm x).2 hx) R (List.all_eq_true.2 fun y hy => List.all_eq_true.1 h1 y ?_) h2 h fun v L' hR => ih v L' hR fun y => by rw [mem_without, mem_without, hm]
   rw [mem_without] at hy ⊢
   exact ⟨(hm y).1 hy.1, hy.2⟩
def pull : Nat → List It → Option (It × List It)
 | _, [] => none
 | 0, x :: r => some (x, r)
 | n + 1, x :: r => match pull n r with
   | some (y, k) => some (y, x :: k)
   | none => none
theorem pull_mem : ∀ {n : Nat} {l : List It} {x : It} {r : List It}, pull n l = some (x, r) → ∀ y, y ∈ l ↔ y ∈ x :: r
 | 0, [], _, _, h, _ => by cases h
 | n + 1, [], _, _, h, _ => by cases h
 | 0, a :: l, x, r, h, y => by cases h; rfl
 | n + 1, a :: l, x, r, h, y => by
   simp only [pull] at h
   split at h
   ·rename_i z k hz
    cases h
    have := pull_mem hz y
    simp only [List.mem_cons] at this ⊢
    rw [this]
    constructor
    ·rintro (h | h | h) <;> simp [h]
    ·rintro (h | h | h) <;> simp [h]
   ·cases h
section
variable {Kf : En → St → Prop} {e : En} {rem rem' r : List It} {ms : List (Nat × (St → Prop))} {i ds sz : Nat} {rs : List Nat} {d : Option Nat} {g : Option (Nat × Bool)}
theorem Ev.bring (j : Nat) {x : It} (h : pull j rem = some (x, r)) (k : Ev P N Kf (x :: r) ms e L) : Ev P N Kf rem ms e L := k.same fun y => pull_mem h y
def dist : List It → Bool
 | [] => true
 | x :: l => l.all (fun y => !(Nat.beq y.i x.i)) && dist l
theorem without_head {x : It} (h : r.all (fun y => !(Nat.beq y.i x.i)) = true) : without (x :: r) x.i = r := by
 unfold without
 rw [List.filter_cons]
 simp only [Nat.beq_refl, Bool.not_true, Bool.false_eq_true, if_false]
 rw [List.filter_eq_self]
 exact fun y hy => List.all_eq_true.1 h y hy
theorem dist_move {x : It} {r : List It} : ∀ {pre : List It}, dist (pre ++ x :: r) = true → dist (x :: (pre ++ r)) = true
 | [], hd => hd
 | y :: pre, hd => by
   simp only [List.cons_append, dist, Bool.and_eq_true, List.all_append, List.all_cons] at hd
   obtain ⟨⟨h1, h2, h3⟩, h4⟩ := hd
   have := dist_move h4
   simp only [List.cons_append, dist, Bool.and_eq_true, List.all_append, List.all_cons] at this ⊢
   refine ⟨⟨?_, this.1⟩, ⟨h1, h3⟩, this.2⟩
   simp only [Bool.not_eq_true'] at h2 ⊢
   cases hb : Nat.beq y.i x.i with
   | false => rfl
   | true => rw [Nat.eq_of_beq_eq_true hb] at h2; simp at h2
def pass : Nat → List It → En → Option (List It × En)
 | _, [], _ => none
 | n, x :: r, e => match stepM x e with
   | some v => match x.g.d with
     | some t => match pass n r ((t, v) :: e) with
       | some q => some q
       | none => some (r, (t, v) :: e)
     | none => match pass n r e with
       | some q => some q
       | none => some (r, e)
   | none => match n with
     | 0 => none
     | n + 1 => match pass n r e with
       | some (k, e') => some (x :: k, e')
       | none => none
theorem pass_ev : ∀ {n : Nat} {r : List It} {e : En} {rem' : List It} {e' : En}, pass n r e = some (rem', e') → ∀ pre : List It, dist (pre ++ r) = true → Ev P N Kf (pre ++ rem') ms e' L → Ev P N Kf (pre ++ r) ms e L
 | _, [], _, _, _, h, _, _, _ => by cases h
 | n, x :: r, e, rem', e', h, pre, hd, k => by
   have hd' : dist (x :: (pre ++ r)) = true := dist_move hd
   have hd2 : (pre ++ r).all (fun y => !(Nat.beq y.i x.i)) = true ∧ dist (pre ++ r) = true := by simpa [dist] using hd'
   rw [pass.eq_def] at h
   simp only at h
   have tell : ∀ {v : Value}, stepM x e = some v → Ev P N Kf (pre ++ r) ms (e.put x.g.d v) L → Ev P N Kf (pre ++ x :: r) ms e L := by
    intro v hv k
    refine Ev.same (rem := x :: (pre ++ r)) (Ev.stp (x := x) (by simp) hv ?_) fun y => by simp only [List.mem_append, List.mem_cons]; constructor <;> (rintro (h | h | h) <;> simp [h])
    rw [without_head hd2.1]
    exact k
   split at h
   ·rename_i v hv
    refine tell hv ?_
    split at h
    ·rename_i t ht
     rw [ht]
     split at h
     ·rename_i q hq
      cases h
      exact pass_ev hq pre hd2.2 k
     ·cases h
      exact k
    ·rename_i ht
     rw [ht]
     split at h
     ·rename_i q hq
      cases h
      exact pass_ev hq pre hd2.2 k
     ·cases h
      exact k
   ·cases n with
    | zero => cases h
    | succ n =>
      simp only at h
      split at h
      ·rename_i kk ee hq
       cases h
       have := pass_ev hq (pre ++ [x]) (by simpa using hd) (by simpa using k)
       simpa using this
      ·cases h
theorem Ev.pass (n : Nat) {e' : En} (h : Proofs.YtggnbdeokmdjbaaGreat.pass n rem e = some (rem', e')) (hd : dist rem = true) (k : Ev P N Kf rem' ms e' L) : Ev P N Kf rem ms e L := pass_ev h [] hd k
theorem Ev.stpH {x : It} {v : Value} {e' : En} (hd : dist (x :: r) = true) (h : stepM x e = some v) (he : (match x.g.d with | some t => (t, v) :: e | none => e) = e') (k : Ev P N Kf r ms e' L) : Ev P N Kf (x :: r) ms e L := by
 refine Ev.stp (x := x) (by simp) h ?_
 rw [without_head (by simp only [dist, Bool.and_eq_true] at hd; exact hd.1)]
 subst he
 cases hx : x.g.d with
 | none => rw [hx] at k; exact k
 | some t => rw [hx] at k; exact k
theorem only_sub {T e : En} (hs : sub T e) (rs : List Nat) : sub (T.only rs) (e.only rs) := by
 intro t u h
 have ⟨hm, hu⟩ := only_get h
 have hu' := hs t u hu
 clear h hu hs
 induction rs with
 | nil => cases hm
 | cons a r ih =>
   unfold En.only
   by_cases hat : a = t
   ·subst hat
    rw [hu']
    simp [En.get]
   ·have hm' : t ∈ r := by
     rcases List.mem_cons.1 hm with h | h
     ·exact absurd h.symm hat
     ·exact h
    have hb : Nat.beq a t = false := by
     cases hb : Nat.beq a t with
     | false => rfl
     | true => exact absurd (Nat.eq_of_beq_eq_true hb) hat
    split
    ·simp only [En.get, hb, cond_false]; exact ih hm'
    ·exact ih hm'
theorem sub.trans {a b c : En} (h : sub a b) (k : sub b c) : sub a c := fun i v x => k i v (h i v x)
theorem sub.put {a b : En} (h : sub a b) (d : Option Nat) (v : Value) : sub (a.put d v) (b.put d v) := by
 intro i u hi
 cases d with
 | none => exact h i u hi
 | some t =>
   simp only [En.put, En.get] at hi ⊢
   cases hb : Nat.beq t i with
   | true => simp only [hb, cond_true] at hi ⊢; exact hi
   | false => simp only [hb, cond_false] at hi ⊢; exact h i u hi
theorem Ev.less {T : En} (hK : ∀ e e' L, sub e e' → Kf e L → Kf e' L) (h : Ev P N Kf rem ms T L) : ∀ {e : En}, sub T e → Ev P N Kf rem ms e L := by
 induction h with
 | nil h => exact fun hs => .nil (hK _ _ _ hs h)
 | free x hx v h k ih => exact fun hs => .free x hx v (fun L e' he => h L e' ((only_sub hs _).trans he)) (ih (hs.put _ _))
 | looks x hx v Φ hΦ h k ih => exact fun hs => .looks x hx v Φ hΦ (fun M hM e' he => h M hM e' ((only_sub hs _).trans he)) (ih (hs.put _ _))
 | turns x hx R h1 h2 h k ih => exact fun hs => .turns x hx R h1 h2 (fun e' he => h e' ((only_sub hs _).trans he)) fun v L' hR => ih v L' hR (hs.put _ _)
theorem sub_learn {t : Nat} {p q : Value} (h : e.get t = some p) (hq : p = q) : sub ((t, q) :: e) e := by
 subst hq
 intro i u hi
 simp only [En.get] at hi
 cases hb : Nat.beq t i with
 | true => rw [hb, cond_true] at hi; rw [← Nat.eq_of_beq_eq_true hb, h]; exact hi
 | false => rw [hb, cond_false] at hi; exact hi
theorem Ev.learn [hK : Mono Kf] (t : Nat) {p q : Value} (h : e.get t = some p) (hq : p = q) (k : Ev P N Kf rem ms ((t, q) :: e) L) : Ev P N Kf rem ms e L := Ev.less hK.le k (sub_learn h hq)
theorem Ev.yes [hK : Mono Kf] (t : Nat) {p : Bool} (h : e.get t = some (.bool p)) (hp : p = true) (k : Ev P N Kf rem ms ((t, .bool true) :: e) L) : Ev P N Kf rem ms e L := .learn t h (by rw [hp]) k
theorem Ev.no [hK : Mono Kf] (t : Nat) {p : Bool} (h : e.get t = some (.bool p)) (hp : p = false) (k : Ev P N Kf rem ms ((t, .bool false) :: e) L) : Ev P N Kf rem ms e L := .learn t h (by rw [hp]) k
theorem Ev.fin (h : Kf e L) : Ev P N Kf [] ms e L := .nil h
def clr (ds : List Nat) : En → Option En
 | [] => some []
 | (i, v) :: r => match clr ds r with
   | some q => bif ds.any (Nat.beq i) then some q else some ((i, v) :: q)
   | none => none
def dsts : List It → List Nat
 | [] => []
 | x :: r => match x.g.d with | some d => d :: dsts r | none => dsts r
theorem clr_any {l : List It} {i : Nat} : (dsts l).any (Nat.beq i) = true → ∃ y ∈ l, y.g.d = some i := by
 induction l with
 | nil => intro h; cases h
 | cons x r ih =>
   intro h
   unfold dsts at h
   split at h
   ·rename_i d hd
    simp only [List.any_cons, Bool.or_eq_true] at h
    rcases h with h | h
    ·exact ⟨x, by simp, by rw [hd, Nat.eq_of_beq_eq_true h]⟩
    ·obtain ⟨y, hy, he⟩ := ih h; exact ⟨y, by simp [hy], he⟩
   ·obtain ⟨y, hy, he⟩ := ih h; exact ⟨y, by simp [hy], he⟩
theorem clr_eq {l : List It} : ∀ {e q : En}, clr (dsts l) e = some q → q = e.clear l
 | [], q, h => by cases h; rfl
 | (i, v) :: r, q, h => by
   simp only [clr] at h
   split at h
   ·rename_i q' hq
    have ih := clr_eq hq
    subst ih
    unfold En.clear
    rw [List.filter_cons]
    cases hb : (dsts l).any (Nat.beq i) with
    | true =>
      rw [hb, cond_true] at h; cases h
      obtain ⟨y, hy, he⟩ := clr_any hb
      rw [if_neg]
      ·rfl
      ·intro hh
       have := List.all_eq_true.1 hh y hy
       rw [he] at this; simp at this
    | false =>
      rw [hb, cond_false] at h; cases h
      rw [if_pos]
      ·rfl
      ·refine List.all_eq_true.2 fun y hy => ?_
       cases hyd : y.g.d with
       | none => rfl
       | some d =>
         simp only [Bool.not_eq_true']
         cases hdi : Nat.beq d i with
         | false => rfl
         | true =>
           exfalso
           rw [Nat.eq_of_beq_eq_true hdi] at hyd
           have : (dsts l).any (Nat.beq i) = true := by
            clear hb hq
            induction l with
            | nil => cases hy
            | cons x l ih =>
              unfold dsts
              rcases List.mem_cons.1 hy with rfl | hy
              ·rw [hyd]; simp
              ·split
               ·simp only [List.any_cons, Bool.or_eq_true]; exact .inr (ih hy)
               ·exact ih hy
           rw [hb] at this; cases this
   ·cases h
theorem Cx.ordc {l : List It} {e q : En} {d : C} {K : Kx} (hq : clr (dsts l) e = some q) (hc : chkO l = true) (h : Ev P N (fun fin L => Cx P N d fin K L) l [] q L) : Cx P N (.rd l) e (Ksq P N d K) L := by
 refine Cx.ord hc ?_
 rw [← clr_eq hq]
 exact h
theorem Cx.orde {l : List It} {e q : En} {K : Kx} [hK : Mono (fun e L => K .nm e L)] (hq : clr (dsts l) e = some q) (hc : chkO l = true) (h : Ev P N (fun fin L => K .nm fin L) l [] q L) : Cx P N (.rd l) e K L := by
 rw [clr_eq hq] at h
 simp only [chkO, Bool.and_eq_true] at hc
 refine Cx.rd ?_
 refine ev_run (Kf := Krg K) hc.1 hc.2.1 hc.2.2 hK.le l.length l [] (e.clear l) L h [] l e rfl (fun _ h => h) (fun x => by simp) (fun _ h => by cases h) (fun _ h => by cases h) (fun y hy d hyd => ?_) (fun t u ht _ => clear_sub ht)
 cases hg : (e.clear l).get d with
 | none => rfl
 | some u => exact absurd hyd ((clear_get hg).1 y hy)
def lastOne (l : List It) (y : It) : Bool := l.all fun x => bit y.ds x.i && !(Nat.beq y.i x.i)
theorem Cx.ordl {l : List It} {y : It} {e q : En} {K : Kx} [hK : Mono (fun e L => K .nm e L)] (hq : clr (dsts l) e = some q) (hc : chkO l = true) (hy : lastOne l y = true)
  (h : Ev P N (fun fin L => Sx P N [y.g] fin (fun e L => K .nm e L) L) l [] q L) : Cx P N (.rd (l ++ [y])) e K L := by
 rw [clr_eq hq] at h
 simp only [chkO, Bool.and_eq_true] at hc
 refine Cx.rd ?_
 refine ev_runT (Kf := fun fin L => Sx P N [y.g] fin (fun e L => K .nm e L) L) (Kt := Krg K) hc.1 hc.2.1 hc.2.2 (fun z hz x hx => ?_) (fun e e' L hs hk => ?_) l.length l [] (e.clear l) L h [] l e rfl (fun _ h => h) (fun x => by simp) (fun _ h => by cases h) (fun _ h => by cases h) (fun y hy d hyd => ?_) (fun t u ht _ => clear_sub ht)
 ·have : z = y := by simpa using hz
  subst this
  simp only [lastOne, List.all_eq_true, Bool.and_eq_true] at hy
  refine ⟨(hy x hx).1, fun e => ?_⟩
  have := (hy x hx).2
  rw [e] at this; simp at this
 ·refine Rx.all (fun h => by cases h) fun x hx => ⟨by simp, ?_⟩
  have hxy : x = y := by
   have : x ∈ [y] := (List.mem_filter.1 hx).1
   simpa using this
  subst hxy
  intro ops os Q a w0 w hc2 ok s kk
  refine hk ops os Q a w0 w hc2 (ok.sub hs) s fun a' w' e2 L2 h2 => kk a' w' e2 L2 ⟨trivial, ?_⟩
  have hw : without [x] x.i = [] := by simp [without]
  rw [hw]
  exact Rx.nil h2
 ·cases hg : (e.clear l).get d with
  | none => rfl
  | some u => exact absurd hyd ((clear_get hg).1 y hy)
def unsnoc : List It → Option (List It × It)
 | [] => none
 | x :: r => match r with
   | [] => some ([], x)
   | _ :: _ => match unsnoc r with
     | some (l, y) => some (x :: l, y)
     | none => none
theorem unsnoc_eq : ∀ {l0 l : List It} {y : It}, unsnoc l0 = some (l, y) → l0 = l ++ [y]
 | [], _, _, h => by cases h
 | [x], l, y, h => by cases h; rfl
 | x :: z :: r, l, y, h => by
   have ih := @unsnoc_eq (z :: r)
   unfold unsnoc at h
   simp only at h
   split at h
   ·rename_i l' y' hq
    cases h
    rw [ih hq]; rfl
   ·cases h
theorem Cx.ordu {l0 l : List It} {y : It} {e q : En} {K : Kx} [hK : Mono (fun e L => K .nm e L)] (hu : unsnoc l0 = some (l, y)) (hq : clr (dsts l) e = some q) (hc : chkO l = true) (hy : lastOne l y = true)
  (h : Ev P N (fun fin L => Sx P N [y.g] fin (fun e L => K .nm e L) L) l [] q L) : Cx P N (.rd l0) e K L := by
 rw [unsnoc_eq hu]
 exact Cx.ordl hq hc hy h
theorem Ev.lookH {s : S} {v : Value} (Φ : St → Prop) (hd : dist (⟨i, ds, rs, ⟨d, g, s⟩⟩ :: r) = true) (hg : gon (e.only rs) g = true) (hΦ : Φ L) (h : ∀ M, Φ M → ∀ e', sub (e.only rs) e' → Sc P N ⟨d, none, s⟩ e' v M)
  (k : Ev P N Kf r ((i, Φ) :: ms) (e.put d v) L) : Ev P N Kf (⟨i, ds, rs, ⟨d, g, s⟩⟩ :: r) ms e L :=
 .looks ⟨i, ds, rs, ⟨d, g, s⟩⟩ (by simp) v Φ hΦ (fun M hM e' hs => .gon hg hs (h M hM e' hs)) (by
  rw [show without (⟨i, ds, rs, ⟨d, g, s⟩⟩ :: r) i = r from without_head (x := ⟨i, ds, rs, ⟨d, g, s⟩⟩) (by simp only [dist, Bool.and_eq_true] at hd; exact hd.1)]
  exact k)
theorem Ev.ldH {x : X} {n b off : Nat} {ag : Bool} {vs : List Value} {v : Value} (hd : dist (⟨i, ds, rs, ⟨d, g, .ld x n ag⟩⟩ :: r) = true) (hg : gon (e.only rs) g = true) (hx : x.get (e.only rs) = some (.pointer (some ⟨b, off, none⟩))) (hh : Has L b off vs) (hv : ldv n ag vs = some v)
  (k : Ev P N Kf r ((i, fun M => Has M b off vs) :: ms) (e.put d v) L) : Ev P N Kf (⟨i, ds, rs, ⟨d, g, .ld x n ag⟩⟩ :: r) ms e L :=
 .lookH (fun M => Has M b off vs) hd hg hh (fun M hM e' hs K k => Sx.ld (X.get_sub hx hs) hM hv (Sx.nil k)) k
theorem Ev.ldbH {x : X} {b off : Nat} {T : TypeId} {cs : List Value} {v : Value} [t : Take L (some ⟨b, 0, none⟩) (Blk T cs) F] (hd : dist (⟨i, ds, rs, ⟨d, g, .ld x 1 false⟩⟩ :: r) = true) (hg : gon (e.only rs) g = true) (hx : x.get (e.only rs) = some (.pointer (some ⟨b, off, none⟩)))
  (hv : cs[off]? = some v) (k : Ev P N Kf r ((i, fun M => Has M b off [v]) :: ms) (e.put d v) L) : Ev P N Kf (⟨i, ds, rs, ⟨d, g, .ld x 1 false⟩⟩ :: r) ms e L :=
 .ldH hd hg hx ((Has.blk (T := T) (cs := cs) (n := 1)).one (take_one hv)) rfl k
theorem Ev.ldrH {x : X} {b off E sz n cap : Nat} {xs : List Value} {v : Value} [t : Take L (some ⟨b, 0, none⟩) (Row E sz n cap xs) F] (hd : dist (⟨i, ds, rs, ⟨d, g, .ld x 1 false⟩⟩ :: r) = true) (hg : gon (e.only rs) g = true) (hx : x.get (e.only rs) = some (.pointer (some ⟨b, off, none⟩)))
  (hv : xs[off]? = some v) (k : Ev P N Kf r ((i, fun M => Has M b off [v]) :: ms) (e.put d v) L) : Ev P N Kf (⟨i, ds, rs, ⟨d, g, .ld x 1 false⟩⟩ :: r) ms e L :=
 .ldH hd hg hx ((Has.row (E := E) (sz := sz) (n := n) (cap := cap) (xs := xs) (m := 1)).one (take_one hv)) rfl k
theorem Ev.ldbsH {x : X} {b off n : Nat} {T : TypeId} {cs : List Value} [t : Take L (some ⟨b, 0, none⟩) (Blk T cs) F] (hd : dist (⟨i, ds, rs, ⟨d, g, .ld x n true⟩⟩ :: r) = true) (hg : gon (e.only rs) g = true) (hx : x.get (e.only rs) = some (.pointer (some ⟨b, off, none⟩)))
  (hn : Nat.ble (off + n) cs.length = true) (k : Ev P N Kf r ((i, fun M => Has M b off ((cs.drop off).take n)) :: ms) (e.put d (.agg ((cs.drop off).take n).toArray)) L) : Ev P N Kf (⟨i, ds, rs, ⟨d, g, .ld x n true⟩⟩ :: r) ms e L := by
 refine .ldH hd hg hx (Has.blk (T := T) (cs := cs) (n := n)) ?_ k
 have h1 := Nat.le_of_ble_eq_true hn
 have h2 : ((cs.drop off).take n).length = n := by simp; omega
 simp [ldv, h2]
theorem Ev.pvH {s : S} {φ : Prop} {v : Value} (hd : dist (⟨i, ds, rs, ⟨d, g, s⟩⟩ :: r) = true) (hg : gon (e.only rs) g = true) (hp : Proofs.YtggnbdeokmdjbaaGreat.pv (e.only rs) s = some (φ, v)) (hφ : φ) (k : Ev P N Kf r ms (e.put d v) L) :
  Ev P N Kf (⟨i, ds, rs, ⟨d, g, s⟩⟩ :: r) ms e L :=
 .free ⟨i, ds, rs, ⟨d, g, s⟩⟩ (by simp) v (fun L e' hs => .gon hg hs (.pv hp hφ hs)) (by
  rw [without_head (x := ⟨i, ds, rs, ⟨d, g, s⟩⟩) (by simp only [dist, Bool.and_eq_true] at hd; exact hd.1)]
  exact k)
theorem Ev.cakH {f : FuncId} {xs : List X} {vs : List Value} {v : Value} (hd : dist (⟨i, ds, rs, ⟨d, g, .ca f xs⟩⟩ :: r) = true) (hg : gon (e.only rs) g = true) (hx : gets (e.only rs) xs = some vs) (hf : Fx P f vs L (fun v' L' => v' = v ∧ L = L'))
  (k : Ev P N Kf r ((i, fun M => Fx P f vs M (fun v' L' => v' = v ∧ M = L')) :: ms) (e.put d v) L) : Ev P N Kf (⟨i, ds, rs, ⟨d, g, .ca f xs⟩⟩ :: r) ms e L :=
 .lookH (fun M => Fx P f vs M (fun v' L' => v' = v ∧ M = L')) hd hg hf (fun M hM e' hs K k => Sx.ca (gets_sub hs hx) hM fun v' L' h => by
  obtain ⟨rfl, rfl⟩ := h
  exact Sx.nil k) k
theorem Se.gon {T e' : En} {s : S} {R : Value → St → Prop} (hg : Proofs.YtggnbdeokmdjbaaGreat.gon T g = true) (hs : sub T e') (h : Se P N ⟨d, none, s⟩ e' L R) : Se P N ⟨d, g, s⟩ e' L R := by
 unfold Proofs.YtggnbdeokmdjbaaGreat.gon at hg
 split at hg
 ·exact h
 ·rename_i t b
  split at hg
  ·rename_i c hc
   have hcb : c = b := by simpa using hg
   subst hcb
   exact fun K k => Sx.on (hs _ _ hc) (h K k)
  ·cases hg
def lastly (i : Nat) (r : List It) : Bool := r.all fun y => !(Nat.beq y.i i) && bit y.ds i
theorem lastly_all {i : Nat} {r : List It} (h : lastly i r = true) : r.all (fun y => bit y.ds i) = true ∧ r.all (fun y => !(Nat.beq y.i i)) = true := by
 simp only [lastly, Bool.and_eq_true, List.all_eq_true] at h ⊢
 exact ⟨fun y hy => (h y hy).2, fun y hy => (h y hy).1⟩
inductive Pres (ds : Nat) (R : Value → St → Prop) : List (Nat × (St → Prop)) → Prop
 | nil : Pres ds R []
 | dep {m : Nat} {Φ : St → Prop} {l : List (Nat × (St → Prop))} (h : bit ds m = true) (k : Pres ds R l) : Pres ds R ((m, Φ) :: l)
 | keep {m : Nat} {Φ : St → Prop} {l : List (Nat × (St → Prop))} (h : ∀ v L', R v L' → Φ L') (k : Pres ds R l) : Pres ds R ((m, Φ) :: l)
theorem Pres.all {ds : Nat} {R : Value → St → Prop} {ms : List (Nat × (St → Prop))} (h : Pres ds R ms) : ∀ q ∈ ms, bit ds q.1 = true ∨ ∀ v L', R v L' → q.2 L' := by
 induction h with
 | nil => intro q hq; cases hq
 | dep h k ih =>
   intro q hq
   rcases List.mem_cons.1 hq with rfl | hq
   ·exact .inl h
   ·exact ih q hq
 | keep h k ih =>
   intro q hq
   rcases List.mem_cons.1 hq with rfl | hq
   ·exact .inr h
   ·exact ih q hq
theorem Pres.deps {ds : Nat} {R : Value → St → Prop} : ∀ {ms : List (Nat × (St → Prop))}, (ms.all fun q => bit ds q.1) = true → Pres ds R ms
 | [], _ => .nil
 | q :: l, h => by
   simp only [List.all_cons, Bool.and_eq_true] at h
   exact .dep h.1 (Pres.deps h.2)
theorem Ev.genH {s : S} {R : Value → St → Prop} (hd : lastly i r = true) (hp : Pres ds R ms) (hg : gon (e.only rs) g = true) (h : ∀ e', sub (e.only rs) e' → Se P N ⟨d, none, s⟩ e' L R)
  (k : ∀ v L', R v L' → Ev P N Kf r ms (e.put d v) L') : Ev P N Kf (⟨i, ds, rs, ⟨d, g, s⟩⟩ :: r) ms e L := by
 have hw := without_head (x := ⟨i, ds, rs, ⟨d, g, s⟩⟩) (lastly_all hd).2
 refine .turns ⟨i, ds, rs, ⟨d, g, s⟩⟩ (by simp) R ?_ hp.all (fun e' hs => .gon hg hs (h e' hs)) fun v L' hR => ?_
 ·rw [show without (_ :: r) i = r from hw]; exact (lastly_all hd).1
 ·rw [show without (_ :: r) i = r from hw]; exact k v L' hR
theorem Ev.caH {f : FuncId} {xs : List X} {vs : List Value} {R : Value → St → Prop} (hd : lastly i r = true) (hg : gon (e.only rs) g = true) (hx : gets (e.only rs) xs = some vs) (hf : Fx P f vs L R) (hp : Pres ds R ms)
  (k : ∀ v L', R v L' → Ev P N Kf r ms (e.put d v) L') : Ev P N Kf (⟨i, ds, rs, ⟨d, g, .ca f xs⟩⟩ :: r) ms e L :=
 .genH hd hp hg (fun e' hs K kk => Sx.ca (gets_sub hs hx) hf fun v' L' h => Sx.nil (kk v' L' h)) k
theorem Ev.apH {T E sz by_ : Nat} {z : List Value} {x y : X} {ra ya : Option Addr} {n cap m c : Nat} {xs ys : List Value} [t : Take L ra (Row E sz n cap xs) F] (hd : lastly i r = true) (hg : gon (e.only rs) g = true)
  (hx : x.get (e.only rs) = some (.slice ra n cap)) (hy : y.get (e.only rs) = some (.slice ya m c)) (hr : Rd L sz ya m ys) (h1 : ones ys = true) (hm : n + m ≤ maxLen) (hb : (n + m) * by_ ≤ 140737488355328)
  (hp : Pres ds (fun v L' => ∃ ra' cap', n + m ≤ cap' ∧ (n + m = 0 ∨ ∃ g, ra' = some ⟨g, 0, none⟩) ∧ v = .slice ra' (n + m) cap' ∧ L' = pt ra' (Row E sz (n + m) cap' (xs ++ ys)) :: F) ms)
  (k : ∀ ra' cap', n + m ≤ cap' → (n + m = 0 ∨ ∃ g, ra' = some ⟨g, 0, none⟩) → Ev P N Kf r ms (e.put d (.slice ra' (n + m) cap')) (pt ra' (Row E sz (n + m) cap' (xs ++ ys)) :: F)) : Ev P N Kf (⟨i, ds, rs, ⟨d, g, .ap T E sz by_ z x y⟩⟩ :: r) ms e L :=
 .genH hd hp hg (fun e' hs K kk => Sx.ap (t := t) (X.get_sub hx hs) (X.get_sub hy hs) hr h1 hm hb fun ra' cap' hc => Sx.rowkey (a := ra') fun _ _ _ hk => Sx.nil (kk _ _ ⟨ra', cap', hc, hk.imp (fun h => h.2.1) id, rfl, rfl⟩))
  (fun v L' ⟨ra', cap', hc, hk, e1, e2⟩ => by subst e1; subst e2; exact k ra' cap' hc hk)
theorem Ev.apnH {T E sz by_ : Nat} {z : List Value} {x y : X} {ya : Option Addr} {m c : Nat} {ys : List Value} (hd : lastly i r = true) (hg : gon (e.only rs) g = true)
  (hx : x.get (e.only rs) = some (.slice none 0 0)) (hy : y.get (e.only rs) = some (.slice ya m c)) (hr : Rd L sz ya m ys) (h1 : ones ys = true) (hm : m ≤ maxLen) (hb : m * by_ ≤ 140737488355328)
  (hp : Pres ds (fun v L' => ∃ ra' cap', m ≤ cap' ∧ (m = 0 ∨ ∃ g, ra' = some ⟨g, 0, none⟩) ∧ v = .slice ra' m cap' ∧ L' = pt ra' (Row E sz m cap' ys) :: L) ms)
  (k : ∀ ra' cap', m ≤ cap' → (m = 0 ∨ ∃ g, ra' = some ⟨g, 0, none⟩) → Ev P N Kf r ms (e.put d (.slice ra' m cap')) (pt ra' (Row E sz m cap' ys) :: L)) : Ev P N Kf (⟨i, ds, rs, ⟨d, g, .ap T E sz by_ z x y⟩⟩ :: r) ms e L :=
 .genH hd hp hg (fun e' hs K kk => Sx.apn (X.get_sub hx hs) (X.get_sub hy hs) hr h1 hm hb fun ra' cap' hc => Sx.rowkey (a := ra') fun _ _ _ hk => Sx.nil (kk _ _ ⟨ra', cap', hc, hk.imp (fun h => h.2.1) id, rfl, rfl⟩))
  (fun v L' ⟨ra', cap', hc, hk, e1, e2⟩ => by subst e1; subst e2; exact k ra' cap' hc hk)
theorem fills_sub {T e' : En} (hs : sub T e') : ∀ {ps : List (Nat × Nat × X)} {z cs : List Value}, fills T z ps = some cs → fills e' z ps = some cs
 | [], _, _, h => h
 | (off, sz, x) :: l, z, cs, h => by
   unfold fills at h ⊢
   split at h
   ·rename_i v hv
    rw [X.get_sub hv hs]
    split at h
    ·rename_i vs hvs
     simp only [hvs]
     cases hb : (Nat.beq vs.length sz && Nat.ble (off + sz) z.length) with
     | true => rw [hb, cond_true] at h; rw [cond_true]; exact fills_sub hs h
     | false => rw [hb, cond_false] at h; cases h
    ·cases h
   ·cases h
theorem Ev.bsH {E len : Nat} {z : List Value} {ps : List (Nat × Nat × X)} {cs : List Value} (hd : lastly i r = true) (hg : gon (e.only rs) g = true) (hf : fills (e.only rs) z ps = some cs) (hl : z.length = len * sz)
  (hp : Pres ds (fun v L' => ∃ q, v = .slice (some ⟨q, 0, none⟩) len len ∧ L' = pt (some ⟨q, 0, none⟩) (Row E sz len len cs) :: L) ms)
  (k : ∀ q, Ev P N Kf r ms (e.put d (.slice (some ⟨q, 0, none⟩) len len)) (pt (some ⟨q, 0, none⟩) (Row E sz len len cs) :: L)) : Ev P N Kf (⟨i, ds, rs, ⟨d, g, .bs E len z ps⟩⟩ :: r) ms e L :=
 .genH hd hp hg (fun e' hs K kk => Sx.bs (sz := sz) (fills_sub hs hf) hl fun q => Sx.nil (kk _ _ ⟨q, rfl, rfl⟩))
  (fun v L' ⟨q, e1, e2⟩ => by subst e1; subst e2; exact k q)
theorem Ev.bxH {E : TypeId} {x : X} {u : Value} {vs : List Value} (hd : lastly i r = true) (hg : gon (e.only rs) g = true) (hx : x.get (e.only rs) = some u) (hu : cellsOf u = some vs)
  (hp : Pres ds (fun v L' => ∃ q, v = .pointer (some ⟨q, 0, none⟩) ∧ L' = pt (some ⟨q, 0, none⟩) (Blk E vs) :: L) ms)
  (k : ∀ q, Ev P N Kf r ms (e.put d (.pointer (some ⟨q, 0, none⟩))) (pt (some ⟨q, 0, none⟩) (Blk E vs) :: L)) : Ev P N Kf (⟨i, ds, rs, ⟨d, g, .bx E x⟩⟩ :: r) ms e L :=
 .genH hd hp hg (fun e' hs K kk => Sx.bx (X.get_sub hx hs) hu fun q => Sx.nil (kk _ _ ⟨q, rfl, rfl⟩))
  (fun v L' ⟨q, e1, e2⟩ => by subst e1; subst e2; exact k q)
theorem Ev.stbH {x v : X} {b off : Nat} {T : TypeId} {cs ds' : List Value} {u : Value} [t : Take L (some ⟨b, 0, none⟩) (Blk T cs) F] (hd : lastly i r = true) (hg : gon (e.only rs) g = true)
  (hx : x.get (e.only rs) = some (.pointer (some ⟨b, off, none⟩))) (hv : v.get (e.only rs) = some u) (hu : cellsOf u = some [u]) (h1 : u.oneCell' = true) (hl : Nat.blt off cs.length = true) (hds : cs.set off u = ds')
  (hp : Pres ds (fun v L' => v = undef ∧ L' = pt (some ⟨b, 0, none⟩) (Blk T ds') :: F) ms)
  (k : Ev P N Kf r ms (e.put d undef) (pt (some ⟨b, 0, none⟩) (Blk T ds') :: F)) : Ev P N Kf (⟨i, ds, rs, ⟨d, g, .st x v 1⟩⟩ :: r) ms e L :=
 .genH hd hp hg (fun e' hs K kk => Sx.stb (t := t) (X.get_sub hx hs) (X.get_sub hv hs) hu h1 hl hds (Sx.nil (kk _ _ ⟨rfl, rfl⟩)))
  (fun v L' ⟨e1, e2⟩ => by subst e1; subst e2; exact k)
end
end
abbrev Ze0 := @Ev.pass
abbrev Ze1 := @Ev.stpH
abbrev Ze2 := @Ev.done
abbrev Ze3 := @Ev.fin
abbrev Ze4 := @Ev.ldbH
abbrev Ze5 := @Ev.ldbsH
theorem ge {A B : Prop} (k : B) (h : Wrap B → A := by intro r; (repeat (first|refine Ze0 0 rfl kr_ ?_|refine Ze1 kr_ rfl rfl ?_|refine Ze2 ?_|refine Ze3 ?_|refine Ze4 kr_ rfl rfl (by rfl) ?_|refine Ze5 kr_ rfl rfl rfl ?_|refine Ev.pvH kr_ rfl rfl ⟨by omega, by omega⟩ ?_|refine Ev.pvH kr_ rfl rfl (by decide) ?_|fail)); exact r.out) : A := h ⟨k⟩
end Go.Proofs.YtggnbdeokmdjbaaGreat


namespace Go.Proofs.YtggnbdeokmdjbaaGreat
structure Mm where
 ws : List Nat
 n : Nat
def Mm.at_ (m : Mm) (i : Nat) : Nat := m.ws.getD i 0
def Mm.tick (m : Mm) : Mm := ⟨m.ws, m.n + 1⟩
def Mm.put (m : Mm) (i v : Nat) : Mm := ⟨m.ws.set i v, m.n + 1⟩
def Mm.lay (m : Mm) (i v : Nat) : Mm := ⟨m.ws.set i v, m.n⟩
def Mm.cas (m : Mm) (i o v : Nat) : Mm := if m.at_ i = o then m.put i v else m.tick
def Mm.ok (m : Mm) : Prop := ∀ w ∈ m.ws, w < 18446744073709551616
theorem Mm.at_lt {m : Mm} (h : m.ok) (i : Nat) : m.at_ i < 18446744073709551616 := by
 unfold Mm.at_
 rw [List.getD_eq_getElem?_getD]
 cases hg : m.ws[i]? with
 | none => simp
 | some w => exact h w (List.mem_of_getElem? hg)
theorem Mm.get {m : Mm} {i : Nat} (h : i < m.ws.length) : m.ws[i]? = some (m.at_ i) := by
 unfold Mm.at_
 rw [List.getD_eq_getElem?_getD, List.getElem?_eq_getElem h]; rfl
theorem Mm.at_lay {m : Mm} {i v : Nat} (j : Nat) (h : i < m.ws.length) : (m.lay i v).at_ j = if i = j then v else m.at_ j := by
 unfold Mm.at_ Mm.lay
 simp only [List.getD_eq_getElem?_getD, List.getElem?_set]
 split <;> simp_all
theorem Mm.at_put {m : Mm} {i v : Nat} (j : Nat) (h : i < m.ws.length) : (m.put i v).at_ j = if i = j then v else m.at_ j := Mm.at_lay j h
theorem Mm.len_put {m : Mm} {i v : Nat} : (m.put i v).ws.length = m.ws.length := by simp [Mm.put]
theorem Mm.len_lay {m : Mm} {i v : Nat} : (m.lay i v).ws.length = m.ws.length := by simp [Mm.lay]
theorem Mm.len_cas {m : Mm} {i o v : Nat} : (m.cas i o v).ws.length = m.ws.length := by unfold Mm.cas; split <;> simp [Mm.put, Mm.tick]
theorem Mm.ok_lay {m : Mm} {i v : Nat} (h : m.ok) (hv : v < 18446744073709551616) : (m.lay i v).ok := by
 intro w hw
 rcases List.mem_or_eq_of_mem_set hw with h1 | rfl
 ·exact h w h1
 ·exact hv
theorem Mm.ok_put {m : Mm} {i v : Nat} (h : m.ok) (hv : v < 18446744073709551616) : (m.put i v).ok := Mm.ok_lay (m := m) h hv
theorem Mm.ok_tick {m : Mm} (h : m.ok) : m.tick.ok := h
theorem Mm.ok_cas {m : Mm} {i o v : Nat} (h : m.ok) (hv : v < 18446744073709551616) : (m.cas i o v).ok := by
 unfold Mm.cas; split
 ·exact Mm.ok_put h hv
 ·exact Mm.ok_tick h
def hdI (w : Nat) : Int := (w % 4294967296 : Nat) - 1
def hdT (w : Nat) : Nat := w / 4294967296
def laterT (t : Nat) : Nat := if t < 4294967295 then t + 1 else 0
def nextW (w : Nat) (i : Int) : Nat := laterT (hdT w) * 4294967296 + (i + 1).toNat
theorem hdT_lt {w : Nat} (h : w < 18446744073709551616) : hdT w < 4294967296 := by unfold hdT; omega
theorem laterT_lt {t : Nat} (h : t < 4294967296) : laterT t < 4294967296 := by unfold laterT; split <;> omega
theorem nextW_lt {w : Nat} {i : Int} (h : w < 18446744073709551616) (hi : i < 4294967295) : nextW w i < 18446744073709551616 := by
 have := laterT_lt (hdT_lt h)
 unfold nextW; omega
theorem hdI_next {w : Nat} {i : Int} (h1 : -1 ≤ i) (h2 : i < 4294967295) : hdI (nextW w i) = i := by unfold hdI nextW; omega
theorem hdT_next {w : Nat} {i : Int} (h1 : -1 ≤ i) (h2 : i < 4294967295) : hdT (nextW w i) = laterT (hdT w) := by
 have h : (i + 1).toNat < 4294967296 := by omega
 show (laterT (hdT w) * 4294967296 + (i + 1).toNat) / 4294967296 = laterT (hdT w)
 omega
structure Sk where
 head : Nat
 links : Nat
 n : Nat
structure Sk.ok (k : Sk) (len : Nat) : Prop where
 n1 : 1 ≤ k.n
 n2 : k.n ≤ 4096
 h : k.head < len
 l : k.links + k.n ≤ len
 a : k.head < k.links ∨ k.links + k.n ≤ k.head
 z : len ≤ 8388608
def Sk.top (k : Sk) (w : Nat) : Int := if hdI w < k.n then hdI w else -1
def Sk.below (k : Sk) (w : Nat) : Int := if k.n < w then -1 else (w : Int) - 1
theorem Sk.top_ge (k : Sk) (w : Nat) : -1 ≤ k.top w := by unfold Sk.top hdI; split <;> omega
theorem Sk.top_lt (k : Sk) (w : Nat) : k.top w < k.n := by unfold Sk.top; split <;> omega
theorem Sk.below_ge (k : Sk) (w : Nat) : -1 ≤ k.below w := by unfold Sk.below; split <;> omega
theorem Sk.below_lt (k : Sk) (w : Nat) : k.below w < k.n := by unfold Sk.below; split <;> omega
structure PopS where
 most : Int
 at_ : Nat
 under : Int
 was : Nat
 got : List Int
 done : Bool
def PopS.init (most : Int) : PopS := ⟨min (max most 1) 8, 0, 0, 0, [], false⟩
def lastI (l : List Int) : Int := l.getLastD 0
def popStep (k : Sk) (m : Mm) (q : PopS) : PopS × Mm :=
 if q.done then (q, m) else
 match q.at_ with
 | 0 => if 0 ≤ k.top (m.at_ k.head) then ({ q with was := m.at_ k.head, got := [k.top (m.at_ k.head)], at_ := 1 }, m.tick) else ({ q with was := m.at_ k.head, got := [], done := true }, m.tick)
 | 1 => if 0 ≤ k.below (m.at_ (k.links + (lastI q.got).toNat)) ∧ (q.got.length : Int) < q.most then
   ({ q with under := k.below (m.at_ (k.links + (lastI q.got).toNat)), got := q.got ++ [k.below (m.at_ (k.links + (lastI q.got).toNat))] }, m.tick)
   else ({ q with under := k.below (m.at_ (k.links + (lastI q.got).toNat)), at_ := 2 }, m.tick)
 | _ => ({ q with at_ := 0, done := decide (m.at_ k.head = q.was) }, m.cas k.head q.was (nextW q.was q.under))
structure PopS.ok (k : Sk) (q : PopS) : Prop where
 m1 : 1 ≤ q.most
 m2 : q.most ≤ 8
 a : q.at_ ≤ 2
 u1 : -1 ≤ q.under
 u2 : q.under < k.n
 w : q.was < 18446744073709551616
 g : ∀ x ∈ q.got, 0 ≤ x ∧ x < k.n
 ne : q.done = false → q.at_ ≠ 0 → q.got ≠ []
 len : q.got.length ≤ 8
theorem PopS.ok_init {k : Sk} (h : 1 ≤ k.n) (most : Int) : (PopS.init most).ok k := by
 unfold PopS.init
 refine ⟨by dsimp only; omega, by dsimp only; omega, by simp, by simp, by simp; omega, by simp, by simp, by simp, by simp⟩
theorem lastI_mem {l : List Int} (h : l ≠ []) : lastI l ∈ l := by
 unfold lastI
 rw [List.getLastD_eq_getLast?, List.getLast?_eq_some_getLast h]
 exact List.getLast_mem h
theorem popStep_ok {k : Sk} {m : Mm} {q : PopS} {len : Nat} (hk : k.ok len) (hm : m.ok) (h : q.ok k) : (popStep k m q).1.ok k := by
 have t1 := k.top_ge (m.at_ k.head)
 have t2 := k.top_lt (m.at_ k.head)
 have hw := Mm.at_lt hm k.head
 have hn := hk.n1
 unfold popStep
 split
 ·exact h
 ·rename_i hd
  split
  ·split
   ·rename_i h0
    exact ⟨h.m1, h.m2, by simp, h.u1, h.u2, hw, fun x hx => by simp only [List.mem_singleton] at hx; omega, by simp, by simp⟩
   ·exact ⟨h.m1, h.m2, h.a, h.u1, h.u2, hw, by simp, by simp, by simp⟩
  ·rename_i ha
   have b1 := k.below_ge (m.at_ (k.links + (lastI q.got).toNat))
   have b2 := k.below_lt (m.at_ (k.links + (lastI q.got).toNat))
   have hl := h.len
   have hne := h.ne (by simpa using hd) (by omega)
   split
   ·rename_i h0
    have := h.m2
    exact ⟨h.m1, h.m2, h.a, b1, b2, h.w, fun x hx => by
     rcases List.mem_append.1 hx with hx | hx
     ·exact h.g x hx
     ·simp only [List.mem_singleton] at hx; omega, by simp, by simp only [List.length_append, List.length_singleton]; omega⟩
   ·exact ⟨h.m1, h.m2, by simp, b1, b2, h.w, h.g, fun _ _ => hne, hl⟩
  ·exact ⟨h.m1, h.m2, by simp, h.u1, h.u2, h.w, h.g, by simp, h.len⟩
theorem popStep_mem {k : Sk} {m : Mm} {q : PopS} {len : Nat} (hk : k.ok len) (hm : m.ok) (h : q.ok k) : (popStep k m q).2.ok ∧ (popStep k m q).2.ws.length = m.ws.length := by
 have := h.u2
 have h2 := hk.n2
 unfold popStep
 split
 ·exact ⟨hm, rfl⟩
 ·split
  ·split <;> exact ⟨hm, rfl⟩
  ·split <;> exact ⟨hm, rfl⟩
  ·exact ⟨Mm.ok_cas hm (nextW_lt h.w (by omega)), Mm.len_cas⟩
structure PushS where
 l : List Int
 at_ : Nat
 was : Nat
 done : Bool
def PushS.init (l : List Int) : PushS := ⟨l, 0, 0, decide (l = [])⟩
def itI (l : List Int) (i : Nat) : Int := l.getD i 0
def pushStep (k : Sk) (m : Mm) (p : PushS) : PushS × Mm :=
 if p.done then (p, m) else
 if p.at_ + 1 < p.l.length then ({ p with at_ := p.at_ + 1 }, m.put (k.links + (itI p.l p.at_).toNat) (itI p.l (p.at_ + 1) + 1).toNat)
 else if p.at_ + 1 = p.l.length then ({ p with at_ := p.at_ + 1, was := m.at_ k.head }, m.tick)
 else if p.at_ = p.l.length then ({ p with at_ := p.at_ + 1 }, m.put (k.links + (itI p.l (p.l.length - 1)).toNat) (k.top p.was + 1).toNat)
 else ({ p with at_ := p.l.length - 1, done := decide (m.at_ k.head = p.was) }, m.cas k.head p.was (nextW p.was (itI p.l 0)))
structure PushS.ok (k : Sk) (p : PushS) : Prop where
 w : p.was < 18446744073709551616
 g : ∀ x ∈ p.l, 0 ≤ x ∧ x < k.n
 ne : p.done = false → p.l ≠ []
 a : p.at_ ≤ p.l.length + 1
theorem PushS.ok_init {k : Sk} {l : List Int} (h : ∀ x ∈ l, 0 ≤ x ∧ x < k.n) : (PushS.init l).ok k :=
 ⟨by simp [PushS.init], h, by simp [PushS.init], by simp [PushS.init]⟩
theorem itI_mem {l : List Int} {i : Nat} (h : i < l.length) : itI l i ∈ l := by
 unfold itI
 rw [List.getD_eq_getElem?_getD, List.getElem?_eq_getElem h]
 exact List.getElem_mem h
theorem pushStep_ok {k : Sk} {m : Mm} {p : PushS} (hm : m.ok) (h : p.ok k) : (pushStep k m p).1.ok k := by
 have ha := h.a
 unfold pushStep
 split
 ·exact h
 ·rename_i hd
  have hne := h.ne (by simpa using hd)
  have hl := List.length_pos_iff.2 hne
  split
  ·exact ⟨h.w, h.g, h.ne, by dsimp only; omega⟩
  ·split
   ·exact ⟨Mm.at_lt hm _, h.g, h.ne, by dsimp only; omega⟩
   ·split
    ·exact ⟨h.w, h.g, h.ne, by dsimp only; omega⟩
    ·exact ⟨h.w, h.g, fun _ => hne, by dsimp only; omega⟩
theorem pushStep_mem {k : Sk} {m : Mm} {p : PushS} {len : Nat} (hk : k.ok len) (hm : m.ok) (h : p.ok k) : (pushStep k m p).2.ok ∧ (pushStep k m p).2.ws.length = m.ws.length := by
 have h2 := hk.n2
 have ht := k.top_lt p.was
 unfold pushStep
 split
 ·exact ⟨hm, rfl⟩
 ·rename_i hd
  have hl := List.length_pos_iff.2 (h.ne (by simpa using hd))
  split
  ·have := h.g _ (itI_mem (l := p.l) (i := p.at_ + 1) (by omega))
   exact ⟨Mm.ok_put hm (by omega), Mm.len_put⟩
  ·split
   ·exact ⟨hm, rfl⟩
   ·split
    ·exact ⟨Mm.ok_put hm (by omega), Mm.len_put⟩
    ·have := h.g _ (itI_mem (l := p.l) (i := 0) (by omega))
     exact ⟨Mm.ok_cas hm (nextW_lt h.w (by omega)), Mm.len_cas⟩
end Go.Proofs.YtggnbdeokmdjbaaGreat


namespace Go.Proofs.YtggnbdeokmdjbaaGreat
open Go
attribute [local irreducible] Sx Cx Rx Fx Krg Ksq Kbl Klp Kr
abbrev wd (n : Nat) : Value := .int .u64 (n : Int)
theorem bv64 (a : Nat) : BitVec.ofInt 64 (a : Int) = BitVec.ofNat 64 a := by
 apply BitVec.eq_of_toNat_eq
 simp [BitVec.toNat_ofInt]
theorem wrap64 {n : Nat} (h : n < 18446744073709551616) : IntKind.u64.wrap (n : Int) = (n : Int) := wu64 (by omega) (by omega)
theorem and64 (a b : Nat) (ha : a < 18446744073709551616) (hb : b < 18446744073709551616) : bitsOf .and .u64 a b = ((a &&& b : Nat) : Int) := by
 show IntKind.u64.wrap (((BitVec.ofInt 64 (a : Int) &&& BitVec.ofInt 64 (b : Int)).toNat : Nat) : Int) = _
 rw [bv64, bv64, BitVec.toNat_and, BitVec.toNat_ofNat, BitVec.toNat_ofNat, Nat.mod_eq_of_lt ha, Nat.mod_eq_of_lt hb]
 exact wrap64 (Nat.lt_of_le_of_lt Nat.and_le_left ha)
theorem or64 (a b : Nat) (ha : a < 18446744073709551616) (hb : b < 18446744073709551616) : bitsOf .or .u64 a b = ((a ||| b : Nat) : Int) := by
 show IntKind.u64.wrap (((BitVec.ofInt 64 (a : Int) ||| BitVec.ofInt 64 (b : Int)).toNat : Nat) : Int) = _
 rw [bv64, bv64, BitVec.toNat_or, BitVec.toNat_ofNat, BitVec.toNat_ofNat, Nat.mod_eq_of_lt ha, Nat.mod_eq_of_lt hb]
 exact wrap64 (Nat.or_lt_two_pow (n := 64) ha hb)
theorem andNot64 (a b c : Nat) (hc : c < 18446744073709551616) (h : ∀ i, i < 64 → c.testBit i = (a.testBit i && !b.testBit i)) : bitsOf .andNot .u64 a b = (c : Int) := by
 show IntKind.u64.wrap (((BitVec.ofInt 64 (a : Int) &&& ~~~(BitVec.ofInt 64 (b : Int))).toNat : Nat) : Int) = _
 have e : BitVec.ofNat 64 a &&& ~~~(BitVec.ofNat 64 b) = BitVec.ofNat 64 c := by
  apply BitVec.eq_of_getLsbD_eq
  intro i hi
  rw [BitVec.getLsbD_and, BitVec.getLsbD_not, BitVec.getLsbD_ofNat, BitVec.getLsbD_ofNat, BitVec.getLsbD_ofNat, h i hi]
  simp [hi]
 rw [bv64, bv64, e, BitVec.toNat_ofNat, Nat.mod_eq_of_lt hc]
 exact wrap64 hc
theorem pow64 {a : Nat} (h : a ≤ 63) : (2 : Nat) ^ a < 18446744073709551616 := Nat.lt_of_le_of_lt (Nat.pow_le_pow_right (by omega) h) (by decide)
section
variable {L F : St}
theorem bitsField (a w : Nat) (h : a + w ≤ 64) : Fx Tryz.prog 271 [.int .i64 a, .int .i64 w] L (fun v L' => v = .bool true ∧ L = L') := by
 refine Fx.mk Tryz.func271 k271 nb_ ?_
 dsimp only [c271, kG, kS, kH, kM, kN, kF, kL, envOf, Nat.reduceAdd]
 refine go ?_
 iterate 3 (try (refine Sx.gyes rfl (decide_eq_true (by omega)) ?_; refine go ?_))
 rw [w64 (n := 64 - (w : Int)) (by omega) (by omega), decide_eq_true (show (a : Int) ≤ 64 - w by omega)]
 exact Kr.one (.inr rfl) rfl (Ent.refl _) ⟨rfl, rfl⟩
theorem bitsMask (w : Nat) (h : w ≤ 63) : Fx Tryz.prog 272 [.int .i64 w] L (fun v L' => v = wd (2 ^ w - 1) ∧ L = L') := by
 refine Fx.mk Tryz.func272 k272 nb_ ?_
 dsimp only [c272, kG, kS, kH, kM, kN, kF, kL, envOf, Nat.reduceAdd]
 have hp := pow64 h
 have h1 : 1 ≤ 2 ^ w := Nat.one_le_two_pow
 refine go ?_
 have e1 : (bif true then (if (w : Int) < 0 then (0 : Int) else (w : Int)) else (if (0 : Int) < (w : Int) then (0 : Int) else (w : Int))) = w := by
  rw [cond_true, if_neg (by omega)]
 have e2 : (bif false then (if (w : Int) < 64 then (64 : Int) else (w : Int)) else (if (64 : Int) < (w : Int) then (64 : Int) else (w : Int))) = w := by
  rw [cond_false, if_neg (by omega)]
 rw [e1, e2]
 refine Sx.pv rfl (by omega) ?_
 have e3 : min (w : Int).toNat IntKind.u64.bits = w := by rw [Int.toNat_natCast]; exact Nat.min_eq_left (by show w ≤ 64; omega)
 rw [e3, show (1 : Int) * 2 ^ w = ((2 ^ w : Nat) : Int) by push_cast; omega, wrap64 hp]
 refine go ?_
 rw [show ((2 ^ w : Nat) : Int) - 1 = ((2 ^ w - 1 : Nat) : Int) by omega, wrap64 (by omega)]
 exact Kr.one (.inr rfl) rfl (Ent.refl _) ⟨rfl, rfl⟩
theorem bitsGet (x a w : Nat) (hx : x < 18446744073709551616) (h : a + w ≤ 64) (hw : w ≤ 63) : Fx Tryz.prog 236 [wd x, .int .i64 a, .int .i64 w] L (fun v L' => v = wd (x / 2 ^ a % 2 ^ w) ∧ L = L') := by
 refine Fx.mk Tryz.func236 k236 nb_ ?_
 dsimp only [c236, kG, kS, kH, kM, kN, kF, kL, envOf, Nat.reduceAdd]
 have hp := pow64 hw
 have h1 : 1 ≤ 2 ^ w := Nat.one_le_two_pow
 refine go ?_
 refine Sx.ca rfl (bitsField a w h) ?_
 rintro v L' ⟨rfl, rfl⟩
 refine go ?_
 refine Cx.ordc rfl kr_ ?_
 repeat' (first|refine Ze0 0 rfl kr_ ?_|refine Ze1 kr_ rfl rfl ?_|refine Ze2 ?_|refine Ze3 ?_|refine Ze4 kr_ rfl rfl (by rfl) ?_|refine Ze5 kr_ rfl rfl rfl ?_)
 refine Ev.pvH kr_ rfl rfl (by omega) ?_
 have e3 : min (a : Int).toNat IntKind.u64.bits = a := by rw [Int.toNat_natCast]; exact Nat.min_eq_left (by show a ≤ 64; omega)
 have e4 : (x : Int).fdiv (2 ^ a) = ((x / 2 ^ a : Nat) : Int) := by
  rw [show (2 : Int) ^ a = ((2 ^ a : Nat) : Int) by push_cast; rfl, Int.fdiv_eq_ediv_of_nonneg _ (Int.natCast_nonneg _)]; rfl
 rw [e3, e4]
 repeat' (first|refine Ze0 0 rfl kr_ ?_|refine Ze1 kr_ rfl rfl ?_|refine Ze2 ?_|refine Ze3 ?_|refine Ze4 kr_ rfl rfl (by rfl) ?_|refine Ze5 kr_ rfl rfl rfl ?_)
 refine Ev.cakH kr_ rfl rfl (bitsMask w hw) ?_
 repeat' (first|refine Ze0 0 rfl kr_ ?_|refine Ze1 kr_ rfl rfl ?_|refine Ze2 ?_|refine Ze3 ?_|refine Ze4 kr_ rfl rfl (by rfl) ?_|refine Ze5 kr_ rfl rfl rfl ?_)
 rw [and64 _ _ (Nat.lt_of_le_of_lt (Nat.div_le_self _ _) hx) (by omega), Nat.and_two_pow_sub_one_eq_mod]
 refine go ?_
 exact Kr.one (.inr rfl) rfl (Ent.refl _) ⟨rfl, rfl⟩
theorem bitsFits (x w : Nat) (hx : x < 2 ^ w) (hw : w ≤ 63) : Fx Tryz.prog 291 [wd x, .int .i64 w] L (fun v L' => v = .bool true ∧ L = L') := by
 refine Fx.mk Tryz.func291 k291 nb_ ?_
 dsimp only [c291, kG, kS, kH, kM, kN, kF, kL, envOf, Nat.reduceAdd]
 refine go ?_
 refine Sx.ca rfl (bitsMask w hw) ?_
 rintro v L' ⟨rfl, rfl⟩
 refine go ?_
 rw [andNot64 x (2 ^ w - 1) 0 (by omega) (fun i hi => by
  rw [Nat.zero_testBit, Nat.testBit_two_pow_sub_one]
  by_cases hiw : i < w
  ·simp [hiw]
  ·rw [Nat.testBit_lt_two_pow (Nat.lt_of_lt_of_le hx (Nat.pow_le_pow_right (by omega) (by omega)))]; rfl)]
 exact Kr.one (.inr rfl) rfl (Ent.refl _) ⟨rfl, rfl⟩
theorem bitsPut (x a w y : Nat) (hx : x < 2 ^ a) (hy : y < 2 ^ w) (h : a + w ≤ 64) (hw : w ≤ 63) : Fx Tryz.prog 267 [wd x, .int .i64 a, .int .i64 w, wd y] L (fun v L' => v = .tuple #[wd (y * 2 ^ a + x), .bool true] ∧ L = L') := by
 have hp := pow64 hw
 have h1 : 1 ≤ 2 ^ w := Nat.one_le_two_pow
 have hb : 2 ^ w * 2 ^ a ≤ 18446744073709551616 := by rw [← Nat.pow_add, Nat.add_comm]; exact Nat.pow_le_pow_right (n := 2) (i := a + w) (j := 64) (by omega) h
 have h2 : 1 ≤ 2 ^ a := Nat.one_le_two_pow
 have hmx : (2 ^ w - 1) * 2 ^ a + 2 ^ a = 2 ^ w * 2 ^ a := by rw [← Nat.succ_mul]; congr 1; omega
 have hyx : y * 2 ^ a + 2 ^ a ≤ 2 ^ w * 2 ^ a := by rw [← Nat.succ_mul]; exact Nat.mul_le_mul_right _ hy
 refine Fx.mk Tryz.func267 k267 nb_ ?_
 dsimp only [c267, kG, kS, kH, kM, kN, kF, kL, envOf, Nat.reduceAdd]
 refine go ?_
 refine Sx.ca rfl (bitsField a w h) ?_
 rintro v L' ⟨rfl, rfl⟩
 refine go ?_
 refine Sx.ca rfl (bitsFits y w hy hw) ?_
 rintro v L' ⟨rfl, rfl⟩
 refine go ?_
 refine Cx.ordc rfl kr_ ?_
 repeat' (first|refine Ze0 0 rfl kr_ ?_|refine Ze1 kr_ rfl rfl ?_|refine Ze2 ?_|refine Ze3 ?_|refine Ze4 kr_ rfl rfl (by rfl) ?_|refine Ze5 kr_ rfl rfl rfl ?_)
 refine Ev.cakH kr_ rfl rfl (bitsMask w hw) ?_
 have e3 : min (a : Int).toNat IntKind.u64.bits = a := by rw [Int.toNat_natCast]; exact Nat.min_eq_left (by show a ≤ 64; omega)
 repeat' (first|refine Ze0 0 rfl kr_ ?_|refine Ze1 kr_ rfl rfl ?_|refine Ze2 ?_|refine Ze3 ?_|refine Ze4 kr_ rfl rfl (by rfl) ?_|refine Ze5 kr_ rfl rfl rfl ?_)
 refine Ev.pvH kr_ rfl rfl (by omega) ?_
 rw [e3, show ((2 ^ w - 1 : Nat) : Int) * 2 ^ a = (((2 ^ w - 1) * 2 ^ a : Nat) : Int) by push_cast; rfl, wrap64 (by omega)]
 repeat' (first|refine Ze0 0 rfl kr_ ?_|refine Ze1 kr_ rfl rfl ?_|refine Ze2 ?_|refine Ze3 ?_|refine Ze4 kr_ rfl rfl (by rfl) ?_|refine Ze5 kr_ rfl rfl rfl ?_)
 refine Ev.pvH kr_ rfl rfl (by omega) ?_
 rw [e3, show (y : Int) * 2 ^ a = ((y * 2 ^ a : Nat) : Int) by push_cast; rfl, wrap64 (by omega)]
 rw [andNot64 x ((2 ^ w - 1) * 2 ^ a) x (by omega) (fun i hi => by
  rw [Nat.mul_comm, Nat.testBit_two_pow_mul]
  by_cases hia : i < a
  ·simp [show ¬ a ≤ i by omega]
  ·rw [Nat.testBit_lt_two_pow (Nat.lt_of_lt_of_le hx (Nat.pow_le_pow_right (by omega) (by omega)))]; rfl)]
 repeat' (first|refine Ze0 0 rfl kr_ ?_|refine Ze1 kr_ rfl rfl ?_|refine Ze2 ?_|refine Ze3 ?_|refine Ze4 kr_ rfl rfl (by rfl) ?_|refine Ze5 kr_ rfl rfl rfl ?_)
 rw [or64 _ _ (by omega) (by omega)]
 have e5 : x ||| y * 2 ^ a = y * 2 ^ a + x := by
  rw [Nat.or_comm, Nat.mul_comm y, Nat.two_pow_add_eq_or_of_lt hx y]
 rw [e5]
 refine go ?_
 exact Kr.two (.inr rfl) rfl rfl (Ent.refl _) ⟨rfl, rfl⟩
end
end Go.Proofs.YtggnbdeokmdjbaaGreat
