/-
  The program's code, resolved, and its shallow form (printed by a program). No condition.
-/
import Derived.Test.YtoecohcpkicdaaaXC
import Derived.Test.YtoecohcpkicdaaaXCl
import Derived.KernelRfl
set_option linter.unusedVariables false
set_option linter.unusedSimpArgs false
set_option linter.unnecessarySimpa false
namespace Go.Ab
/-- strongroom/strongroomlaw19.RaftOdd -/
def c_strongroomlaw19_RaftOdd : AFunc := .mk 2 90 [.t 4] <|
  .seq (.reg [q 2 (.box (.t 0)), q 3 (.box (.t 1)), q 4 (.mv (.c (.b false)))]) <|
  .seq (.reg [qs 13 (.call 5 []), q 5 (.mv (.t 13))]) <|
  .seq (.reg [q 14 (.load (.t 2) 10 true), q 15 (.call 6 [(.t 14)]), q 6 (.mv (.t 15))]) <|
  .seq (.seq (.reg [qs 16 (.mv (.t 5)), q 17 (.un .not (.t 16)), q 18 (.mv (.t 17)), qg 19 false 18 false (.mv (.t 6)), qg 20 true 18 false (.bin .ptr .eql (.t 19) (.c (.nilp))), q 21 (.pick (.t 18) (.c (.b true)) (.t 20))]) <|
  .cond (.t 21) (.seq (.reg [q 4 (.mv (.c (.b false)))]) <|
  .ret) <|
  .skip) <|
  .seq (.reg [q 22 (.load (.t 3) 11 true), q 23 (.call 7 [(.t 22)]), qn (.store (.t 3) (.t 23) 11)]) <|
  .seq (.reg [q 24 (.mv (.t 6)), q 25 (.call 8 [(.t 24)]), q 7 (.alloc [.n .i64 0, .n .i64 0, .n .i64 0, .n .i64 0, .n .i64 0, .n .i64 0, .n .i64 0, .l 1 [] .nil]), qn (.store (.t 7) (.t 25) 8)]) <|
  .seq (.seq (.reg [q 8 (.mv (.c (.n .i64 0)))]) <|
  .block 0 <|
  .loop [8] [2, 3, 6, 7] <|
  .seq (.seq (.reg [q 26 (.mv (.t 8)), qs 27 (.bin .num .lss (.t 26) (.c (.n .i64 6)))]) <|
  .cond (.t 27) (.skip) <|
  .exit 0) <|
  .seq (.block 1 <|
  .seq (.reg [q 30 (.load (.t 3) 11 true), q 9 (.alloc [.n .i64 0, .n .i64 0, .n .i64 0, .n .i64 0, .n .i64 0, .n .i64 0, .n .i64 0, .b false, .l 4 [] .nil, .l 1 [] .nil, .l 1 [] .nil]), qn (.store (.t 9) (.t 30) 11)]) <|
  .seq (.seq (.reg [q 31 (.mv (.t 8))]) <|
  .block 2 <|
  .seq (.reg [qs 33 (.bin .num .eql (.t 31) (.c (.n .i64 0))), q 32 (.mv (.t 33))]) <|
  .cond (.t 32) (.reg [q 34 (.fa (.t 9) 0 1 false), qn (.store (.t 34) (.c (.n .i64 9)) 1)]) <|
  .seq (.reg [qs 36 (.bin .num .eql (.t 31) (.c (.n .i64 1))), q 35 (.mv (.t 36))]) <|
  .cond (.t 35) (.reg [q 37 (.fa (.t 9) 1 1 false), qn (.store (.t 37) (.c (.n .i64 0)) 1)]) <|
  .seq (.reg [qs 39 (.bin .num .eql (.t 31) (.c (.n .i64 2))), q 38 (.mv (.t 39))]) <|
  .cond (.t 38) (.reg [q 40 (.fa (.t 9) 1 1 false), qn (.store (.t 40) (.c (.n .i64 8)) 1)]) <|
  .seq (.reg [qs 42 (.bin .num .eql (.t 31) (.c (.n .i64 3))), q 41 (.mv (.t 42))]) <|
  .cond (.t 41) (.reg [q 43 (.fa (.t 2) 0 1 false), q 44 (.load (.t 43) 1 false), q 45 (.bin .num .xor (.t 44) (.c (.n .i64 1))), q 46 (.fa (.t 9) 2 1 false), qn (.store (.t 46) (.t 45) 1)]) <|
  .seq (.reg [qs 48 (.bin .num .eql (.t 31) (.c (.n .i64 4))), q 47 (.mv (.t 48))]) <|
  .cond (.t 47) (.reg [q 49 (.fa (.t 9) 3 1 false), qn (.store (.t 49) (.c (.n .i64 (-1))) 1)]) <|
  .seq (.reg [qs 51 (.bin .num .eql (.t 31) (.c (.n .i64 5))), q 50 (.mv (.t 51))]) <|
  .cond (.t 50) (.reg [q 52 (.fa (.t 9) 6 1 false), qn (.store (.t 52) (.c (.n .i64 (-1))) 1)]) <|
  .skip) <|
  .seq (.reg [q 53 (.mv (.t 6)), q 54 (.load (.t 9) 11 true), q 55 (.call 9 [(.t 53), (.t 54)]), q 10 (.alloc [.n .i64 0, .n .i64 0, .b false, .n .i64 0, .n .i64 0, .l 1 [] .nil, .l 1 [] .nil, .n .i64 0, .l 4 [] .nil, .l 11 [] .nil]), qn (.store (.t 10) (.t 55) 10)]) <|
  .seq (.reg [q 56 (.mv (.t 6)), q 57 (.call 8 [(.t 56)]), q 11 (.alloc [.n .i64 0, .n .i64 0, .n .i64 0, .n .i64 0, .n .i64 0, .n .i64 0, .n .i64 0, .l 1 [] .nil]), qn (.store (.t 11) (.t 57) 8)]) <|
  .seq (.reg [q 58 (.load (.t 7) 8 true), q 59 (.load (.t 11) 8 true), qs 60 (.call 10 [(.t 58), (.t 59)]), q 12 (.mv (.t 60))]) <|
  .seq (.reg [qs 61 (.mv (.t 12)), q 62 (.un .not (.t 61)), q 63 (.mv (.t 62)), qg 64 false 63 false (.fa (.t 10) 2 1 false), qg 65 true 63 false (.load (.t 64) 1 false), q 66 (.pick (.t 63) (.c (.b true)) (.t 65)), q 67 (.mv (.t 66)), qg 68 false 67 false (.fa (.t 10) 7 1 false), qg 69 false 67 false (.load (.t 68) 1 false), qg 70 true 67 false (.bin .num .neq (.t 69) (.c (.n .i64 0))), q 71 (.pick (.t 67) (.c (.b true)) (.t 70)), q 72 (.mv (.t 71)), qg 73 false 72 false (.fa (.t 10) 9 1 false), qg 74 false 72 false (.load (.t 73) 1 false), qg 75 false 72 false (.len (.t 74)), qg 76 true 72 false (.bin .num .gtr (.t 75) (.c (.n .i64 0))), q 77 (.pick (.t 72) (.c (.b true)) (.t 76)), q 78 (.mv (.t 77)), qg 79 false 78 false (.fa (.t 10) 8 1 false), qg 80 false 78 false (.load (.t 79) 1 false), qg 81 false 78 false (.len (.t 80)), qg 82 true 78 false (.bin .num .gtr (.t 81) (.c (.n .i64 0))), q 83 (.pick (.t 78) (.c (.b true)) (.t 82)), q 84 (.mv (.t 83)), qg 85 false 84 false (.fa (.t 10) 3 4 true), qg 86 false 84 false (.fa (.t 85) 0 1 false), qg 87 false 84 false (.load (.t 86) 1 false), qg 88 true 84 false (.bin .num .neq (.t 87) (.c (.n .i64 0))), q 89 (.pick (.t 84) (.c (.b true)) (.t 88))]) <|
  .cond (.t 89) (.seq (.reg [q 4 (.mv (.c (.b false)))]) <|
  .ret) <|
  .skip) <|
  .reg [q 28 (.mv (.t 8)), q 29 (.bin .num .add (.t 28) (.c (.n .i64 1))), q 8 (.mv (.t 29))]) <|
  .seq (.reg [q 4 (.mv (.c (.b true)))]) <|
  .ret

/-- strongroom/strongroomlaw19.RaftOdd -/
def p_strongroomlaw19_RaftOdd (E : Env) (a0 a1 : V) (s : St) (K : V → St → Prop) : Prop :=
 optW (boxV a0 s) fun v0 s1 =>
 optW (boxV a1 s1) fun v2 s3 =>
 ACalls E 5 [] s3 fun v4 s5 =>
 splitP v4 (
 optP (ldV v0 10 true s5) s5 fun v6 s7 =>
 ACalls E 6 [v6] s7 fun v8 s9 =>
 let k10 : St → Prop := (fun s11 =>
 K (.b false) s11);
 splitP (.b true) (
 optP (binV .ptr .eql v8 (.nilp)) s9 fun v12 s13 =>
 splitP v12 (
 k10 s13) (
 optP (ldV v2 11 true s13) s13 fun v14 s15 =>
 ACalls E 7 [v14] s15 fun v16 s17 =>
 optW (storeV v2 v16 11 s17) fun v18 s19 =>
 ACalls E 8 [v8] s19 fun v20 s21 =>
 optW (allocW [.n .i64 0, .n .i64 0, .n .i64 0, .n .i64 0, .n .i64 0, .n .i64 0, .n .i64 0, .l 1 [] .nil] s21) fun v22 s23 =>
 optW (storeV v22 v20 8 s23) fun v24 s25 =>
 ∃ I26 : Nat → List V → St → Prop, (∃ n27, I26 n27 [(.n .i64 0)] s25) ∧ ∀ n27, ∀ x29 : V, ∀ s28, I26 n27 [x29] s28 →
 optP (binV .num .lss x29 (.n .i64 6)) s28 fun v31 s32 =>
 splitP v31 (
 let k33 : St → Prop := (fun s34 =>
 optP (binV .num .add x29 (.n .i64 1)) s34 fun v35 s36 =>
 (v0 : V) = v0 ∧ (v2 : V) = v2 ∧ (v8 : V) = v8 ∧ (v22 : V) = v22 ∧ ∃ n30, n30 < n27 ∧ I26 n30 [v35] s36);
 optP (ldV v2 11 true s32) s32 fun v37 s38 =>
 optW (allocW [.n .i64 0, .n .i64 0, .n .i64 0, .n .i64 0, .n .i64 0, .n .i64 0, .n .i64 0, .b false, .l 4 [] .nil, .l 1 [] .nil, .l 1 [] .nil] s38) fun v39 s40 =>
 optW (storeV v39 v37 11 s40) fun v41 s42 =>
 let k43 : St → Prop := (fun s44 =>
 optP (ldV v39 11 true s44) s44 fun v45 s46 =>
 ACalls E 9 [v8, v45] s46 fun v47 s48 =>
 optW (allocW [.n .i64 0, .n .i64 0, .b false, .n .i64 0, .n .i64 0, .l 1 [] .nil, .l 1 [] .nil, .n .i64 0, .l 4 [] .nil, .l 11 [] .nil] s48) fun v49 s50 =>
 optW (storeV v49 v47 10 s50) fun v51 s52 =>
 ACalls E 8 [v8] s52 fun v53 s54 =>
 optW (allocW [.n .i64 0, .n .i64 0, .n .i64 0, .n .i64 0, .n .i64 0, .n .i64 0, .n .i64 0, .l 1 [] .nil] s54) fun v55 s56 =>
 optW (storeV v55 v53 8 s56) fun v57 s58 =>
 optP (ldV v22 8 true s58) s58 fun v59 s60 =>
 optP (ldV v55 8 true s60) s60 fun v61 s62 =>
 ACalls E 10 [v59, v61] s62 fun v63 s64 =>
 splitP v63 (
 let k65 : St → Prop := (fun s66 =>
 K (.b false) s66);
 splitP (.b true) (
 optP (faV v49 2 1 false) s64 fun v67 s68 =>
 optP (ldV v67 1 false s68) s68 fun v69 s70 =>
 splitP v69 (
 k65 s70) (
 optP (faV v49 7 1 false) s70 fun v71 s72 =>
 optP (ldV v71 1 false s72) s72 fun v73 s74 =>
 optP (binV .num .neq v73 (.n .i64 0)) s74 fun v75 s76 =>
 splitP v75 (
 k65 s76) (
 optP (faV v49 9 1 false) s76 fun v77 s78 =>
 optP (ldV v77 1 false s78) s78 fun v79 s80 =>
 optP (lenV v79) s80 fun v81 s82 =>
 optP (binV .num .gtr v81 (.n .i64 0)) s82 fun v83 s84 =>
 splitP v83 (
 k65 s84) (
 optP (faV v49 8 1 false) s84 fun v85 s86 =>
 optP (ldV v85 1 false s86) s86 fun v87 s88 =>
 optP (lenV v87) s88 fun v89 s90 =>
 optP (binV .num .gtr v89 (.n .i64 0)) s90 fun v91 s92 =>
 splitP v91 (
 k65 s92) (
 optP (faV v49 3 4 true) s92 fun v93 s94 =>
 optP (faV v93 0 1 false) s94 fun v95 s96 =>
 optP (ldV v95 1 false s96) s96 fun v97 s98 =>
 optP (binV .num .neq v97 (.n .i64 0)) s98 fun v99 s100 =>
 splitP v99 (
 k65 s100) (
 k33 s100)))))) (
 k65 s64)) (
 let k101 : St → Prop := (fun s102 =>
 K (.b false) s102);
 splitP (.b false) (
 optP (faV v49 2 1 false) s64 fun v103 s104 =>
 optP (ldV v103 1 false s104) s104 fun v105 s106 =>
 splitP v105 (
 k101 s106) (
 optP (faV v49 7 1 false) s106 fun v107 s108 =>
 optP (ldV v107 1 false s108) s108 fun v109 s110 =>
 optP (binV .num .neq v109 (.n .i64 0)) s110 fun v111 s112 =>
 splitP v111 (
 k101 s112) (
 optP (faV v49 9 1 false) s112 fun v113 s114 =>
 optP (ldV v113 1 false s114) s114 fun v115 s116 =>
 optP (lenV v115) s116 fun v117 s118 =>
 optP (binV .num .gtr v117 (.n .i64 0)) s118 fun v119 s120 =>
 splitP v119 (
 k101 s120) (
 optP (faV v49 8 1 false) s120 fun v121 s122 =>
 optP (ldV v121 1 false s122) s122 fun v123 s124 =>
 optP (lenV v123) s124 fun v125 s126 =>
 optP (binV .num .gtr v125 (.n .i64 0)) s126 fun v127 s128 =>
 splitP v127 (
 k101 s128) (
 optP (faV v49 3 4 true) s128 fun v129 s130 =>
 optP (faV v129 0 1 false) s130 fun v131 s132 =>
 optP (ldV v131 1 false s132) s132 fun v133 s134 =>
 optP (binV .num .neq v133 (.n .i64 0)) s134 fun v135 s136 =>
 splitP v135 (
 k101 s136) (
 k33 s136)))))) (
 k101 s64)));
 optP (binV .num .eql x29 (.n .i64 0)) s42 fun v137 s138 =>
 splitP v137 (
 optP (faV v39 0 1 false) s138 fun v139 s140 =>
 optW (storeV v139 (.n .i64 9) 1 s140) fun v141 s142 =>
 k43 s142) (
 optP (binV .num .eql x29 (.n .i64 1)) s138 fun v143 s144 =>
 splitP v143 (
 optP (faV v39 1 1 false) s144 fun v145 s146 =>
 optW (storeV v145 (.n .i64 0) 1 s146) fun v147 s148 =>
 k43 s148) (
 optP (binV .num .eql x29 (.n .i64 2)) s144 fun v149 s150 =>
 splitP v149 (
 optP (faV v39 1 1 false) s150 fun v151 s152 =>
 optW (storeV v151 (.n .i64 8) 1 s152) fun v153 s154 =>
 k43 s154) (
 optP (binV .num .eql x29 (.n .i64 3)) s150 fun v155 s156 =>
 splitP v155 (
 optP (faV v0 0 1 false) s156 fun v157 s158 =>
 optP (ldV v157 1 false s158) s158 fun v159 s160 =>
 optP (binV .num .xor v159 (.n .i64 1)) s160 fun v161 s162 =>
 optP (faV v39 2 1 false) s162 fun v163 s164 =>
 optW (storeV v163 v161 1 s164) fun v165 s166 =>
 k43 s166) (
 optP (binV .num .eql x29 (.n .i64 4)) s156 fun v167 s168 =>
 splitP v167 (
 optP (faV v39 3 1 false) s168 fun v169 s170 =>
 optW (storeV v169 (.n .i64 (-1)) 1 s170) fun v171 s172 =>
 k43 s172) (
 optP (binV .num .eql x29 (.n .i64 5)) s168 fun v173 s174 =>
 splitP v173 (
 optP (faV v39 6 1 false) s174 fun v175 s176 =>
 optW (storeV v175 (.n .i64 (-1)) 1 s176) fun v177 s178 =>
 k43 s178) (
 k43 s174))))))) (
 K (.b true) s32))) (
 k10 s9)) (
 optP (ldV v0 10 true s5) s5 fun v179 s180 =>
 ACalls E 6 [v179] s180 fun v181 s182 =>
 let k183 : St → Prop := (fun s184 =>
 K (.b false) s184);
 splitP (.b false) (
 optP (binV .ptr .eql v181 (.nilp)) s182 fun v185 s186 =>
 splitP v185 (
 k183 s186) (
 optP (ldV v2 11 true s186) s186 fun v187 s188 =>
 ACalls E 7 [v187] s188 fun v189 s190 =>
 optW (storeV v2 v189 11 s190) fun v191 s192 =>
 ACalls E 8 [v181] s192 fun v193 s194 =>
 optW (allocW [.n .i64 0, .n .i64 0, .n .i64 0, .n .i64 0, .n .i64 0, .n .i64 0, .n .i64 0, .l 1 [] .nil] s194) fun v195 s196 =>
 optW (storeV v195 v193 8 s196) fun v197 s198 =>
 ∃ I199 : Nat → List V → St → Prop, (∃ n200, I199 n200 [(.n .i64 0)] s198) ∧ ∀ n200, ∀ x202 : V, ∀ s201, I199 n200 [x202] s201 →
 optP (binV .num .lss x202 (.n .i64 6)) s201 fun v204 s205 =>
 splitP v204 (
 let k206 : St → Prop := (fun s207 =>
 optP (binV .num .add x202 (.n .i64 1)) s207 fun v208 s209 =>
 (v0 : V) = v0 ∧ (v2 : V) = v2 ∧ (v181 : V) = v181 ∧ (v195 : V) = v195 ∧ ∃ n203, n203 < n200 ∧ I199 n203 [v208] s209);
 optP (ldV v2 11 true s205) s205 fun v210 s211 =>
 optW (allocW [.n .i64 0, .n .i64 0, .n .i64 0, .n .i64 0, .n .i64 0, .n .i64 0, .n .i64 0, .b false, .l 4 [] .nil, .l 1 [] .nil, .l 1 [] .nil] s211) fun v212 s213 =>
 optW (storeV v212 v210 11 s213) fun v214 s215 =>
 let k216 : St → Prop := (fun s217 =>
 optP (ldV v212 11 true s217) s217 fun v218 s219 =>
 ACalls E 9 [v181, v218] s219 fun v220 s221 =>
 optW (allocW [.n .i64 0, .n .i64 0, .b false, .n .i64 0, .n .i64 0, .l 1 [] .nil, .l 1 [] .nil, .n .i64 0, .l 4 [] .nil, .l 11 [] .nil] s221) fun v222 s223 =>
 optW (storeV v222 v220 10 s223) fun v224 s225 =>
 ACalls E 8 [v181] s225 fun v226 s227 =>
 optW (allocW [.n .i64 0, .n .i64 0, .n .i64 0, .n .i64 0, .n .i64 0, .n .i64 0, .n .i64 0, .l 1 [] .nil] s227) fun v228 s229 =>
 optW (storeV v228 v226 8 s229) fun v230 s231 =>
 optP (ldV v195 8 true s231) s231 fun v232 s233 =>
 optP (ldV v228 8 true s233) s233 fun v234 s235 =>
 ACalls E 10 [v232, v234] s235 fun v236 s237 =>
 splitP v236 (
 let k238 : St → Prop := (fun s239 =>
 K (.b false) s239);
 splitP (.b true) (
 optP (faV v222 2 1 false) s237 fun v240 s241 =>
 optP (ldV v240 1 false s241) s241 fun v242 s243 =>
 splitP v242 (
 k238 s243) (
 optP (faV v222 7 1 false) s243 fun v244 s245 =>
 optP (ldV v244 1 false s245) s245 fun v246 s247 =>
 optP (binV .num .neq v246 (.n .i64 0)) s247 fun v248 s249 =>
 splitP v248 (
 k238 s249) (
 optP (faV v222 9 1 false) s249 fun v250 s251 =>
 optP (ldV v250 1 false s251) s251 fun v252 s253 =>
 optP (lenV v252) s253 fun v254 s255 =>
 optP (binV .num .gtr v254 (.n .i64 0)) s255 fun v256 s257 =>
 splitP v256 (
 k238 s257) (
 optP (faV v222 8 1 false) s257 fun v258 s259 =>
 optP (ldV v258 1 false s259) s259 fun v260 s261 =>
 optP (lenV v260) s261 fun v262 s263 =>
 optP (binV .num .gtr v262 (.n .i64 0)) s263 fun v264 s265 =>
 splitP v264 (
 k238 s265) (
 optP (faV v222 3 4 true) s265 fun v266 s267 =>
 optP (faV v266 0 1 false) s267 fun v268 s269 =>
 optP (ldV v268 1 false s269) s269 fun v270 s271 =>
 optP (binV .num .neq v270 (.n .i64 0)) s271 fun v272 s273 =>
 splitP v272 (
 k238 s273) (
 k206 s273)))))) (
 k238 s237)) (
 let k274 : St → Prop := (fun s275 =>
 K (.b false) s275);
 splitP (.b false) (
 optP (faV v222 2 1 false) s237 fun v276 s277 =>
 optP (ldV v276 1 false s277) s277 fun v278 s279 =>
 splitP v278 (
 k274 s279) (
 optP (faV v222 7 1 false) s279 fun v280 s281 =>
 optP (ldV v280 1 false s281) s281 fun v282 s283 =>
 optP (binV .num .neq v282 (.n .i64 0)) s283 fun v284 s285 =>
 splitP v284 (
 k274 s285) (
 optP (faV v222 9 1 false) s285 fun v286 s287 =>
 optP (ldV v286 1 false s287) s287 fun v288 s289 =>
 optP (lenV v288) s289 fun v290 s291 =>
 optP (binV .num .gtr v290 (.n .i64 0)) s291 fun v292 s293 =>
 splitP v292 (
 k274 s293) (
 optP (faV v222 8 1 false) s293 fun v294 s295 =>
 optP (ldV v294 1 false s295) s295 fun v296 s297 =>
 optP (lenV v296) s297 fun v298 s299 =>
 optP (binV .num .gtr v298 (.n .i64 0)) s299 fun v300 s301 =>
 splitP v300 (
 k274 s301) (
 optP (faV v222 3 4 true) s301 fun v302 s303 =>
 optP (faV v302 0 1 false) s303 fun v304 s305 =>
 optP (ldV v304 1 false s305) s305 fun v306 s307 =>
 optP (binV .num .neq v306 (.n .i64 0)) s307 fun v308 s309 =>
 splitP v308 (
 k274 s309) (
 k206 s309)))))) (
 k274 s237)));
 optP (binV .num .eql x202 (.n .i64 0)) s215 fun v310 s311 =>
 splitP v310 (
 optP (faV v212 0 1 false) s311 fun v312 s313 =>
 optW (storeV v312 (.n .i64 9) 1 s313) fun v314 s315 =>
 k216 s315) (
 optP (binV .num .eql x202 (.n .i64 1)) s311 fun v316 s317 =>
 splitP v316 (
 optP (faV v212 1 1 false) s317 fun v318 s319 =>
 optW (storeV v318 (.n .i64 0) 1 s319) fun v320 s321 =>
 k216 s321) (
 optP (binV .num .eql x202 (.n .i64 2)) s317 fun v322 s323 =>
 splitP v322 (
 optP (faV v212 1 1 false) s323 fun v324 s325 =>
 optW (storeV v324 (.n .i64 8) 1 s325) fun v326 s327 =>
 k216 s327) (
 optP (binV .num .eql x202 (.n .i64 3)) s323 fun v328 s329 =>
 splitP v328 (
 optP (faV v0 0 1 false) s329 fun v330 s331 =>
 optP (ldV v330 1 false s331) s331 fun v332 s333 =>
 optP (binV .num .xor v332 (.n .i64 1)) s333 fun v334 s335 =>
 optP (faV v212 2 1 false) s335 fun v336 s337 =>
 optW (storeV v336 v334 1 s337) fun v338 s339 =>
 k216 s339) (
 optP (binV .num .eql x202 (.n .i64 4)) s329 fun v340 s341 =>
 splitP v340 (
 optP (faV v212 3 1 false) s341 fun v342 s343 =>
 optW (storeV v342 (.n .i64 (-1)) 1 s343) fun v344 s345 =>
 k216 s345) (
 optP (binV .num .eql x202 (.n .i64 5)) s341 fun v346 s347 =>
 splitP v346 (
 optP (faV v212 6 1 false) s347 fun v348 s349 =>
 optW (storeV v348 (.n .i64 (-1)) 1 s349) fun v350 s351 =>
 k216 s351) (
 k216 s347))))))) (
 K (.b true) s205))) (
 k183 s182))
theorem e_strongroomlaw19_RaftOdd (E : Env) (a0 a1 : V) (s : St) (K : V → St → Prop) : axF E c_strongroomlaw19_RaftOdd [a0, a1] s K = p_strongroomlaw19_RaftOdd E a0 a1 s K := by kernel_rfl
theorem g_strongroomlaw19_RaftOdd {E : Env} {a0 a1 : V} {s : St} {K : V → St → Prop} (h : chkF E.P E.m (E.m 1) c_strongroomlaw19_RaftOdd = true) (hp : p_strongroomlaw19_RaftOdd E a0 a1 s K) : ACalls E 1 [a0, a1] s K :=
  acalls h rfl (by rw [e_strongroomlaw19_RaftOdd]; exact hp)

/-- strongroom/strongroomlaw19.RaftVotes -/
def c_strongroomlaw19_RaftVotes : AFunc := .mk 2 119 [.t 4] <|
  .seq (.reg [q 4 (.mv (.c (.b false)))]) <|
  .seq (.reg [qs 13 (.call 5 []), q 5 (.mv (.t 13))]) <|
  .seq (.reg [q 14 (.mv (.t 0)), q 15 (.call 11 [(.t 14), (.c (.n .i64 100))]), q 16 (.bin .num .add (.c (.n .i64 1)) (.t 15)), q 6 (.mv (.t 16))]) <|
  .seq (.reg [q 17 (.mks 1 [(.c (.n .i64 1)), (.c (.n .i64 2)), (.c (.n .i64 3)), (.c (.n .i64 4)), (.c (.n .i64 5)), (.c (.n .i64 6)), (.c (.n .i64 7))]), q 18 (.build [.n .i64 0, .n .i64 0] []), q 19 (.build [.n .i64 0, .n .i64 0, .l 1 [] .nil, .l 1 [] .nil] []), q 20 (.call 12 [(.c (.n .i64 1)), (.t 17), (.t 18), (.t 19), (.c (.l 4 [] .nil)), (.c (.n .i64 10))]), q 7 (.mv (.t 20))]) <|
  .seq (.seq (.reg [qs 21 (.mv (.t 5)), q 22 (.un .not (.t 21)), q 23 (.mv (.t 22)), qg 24 false 23 false (.mv (.t 7)), qg 25 true 23 false (.bin .ptr .eql (.t 24) (.c (.nilp))), q 26 (.pick (.t 23) (.c (.b true)) (.t 25))]) <|
  .cond (.t 26) (.seq (.reg [q 4 (.mv (.c (.b false)))]) <|
  .ret) <|
  .skip) <|
  .seq (.reg [q 8 (.mv (.c (.n .i64 0)))]) <|
  .seq (.seq (.reg [q 9 (.mv (.c (.n .i64 0)))]) <|
  .block 0 <|
  .loop [8, 9] [1, 6, 7] <|
  .seq (.seq (.reg [q 27 (.mv (.t 9)), q 28 (.mv (.t 1)), q 29 (.len (.t 28)), qs 30 (.bin .num .lss (.t 27) (.t 29)), q 31 (.mv (.t 30)), qg 32 false 31 true (.mv (.t 9)), qg 33 true 31 true (.bin .num .lss (.t 32) (.c (.n .i64 30))), q 34 (.pick (.t 31) (.t 33) (.c (.b false)))]) <|
  .cond (.t 34) (.skip) <|
  .exit 0) <|
  .seq (.block 1 <|
  .seq (.reg [q 37 (.mv (.t 1)), q 38 (.mv (.t 9)), q 39 (.ias (.t 37) (.t 38) 1), q 40 (.load (.t 39) 1 false), q 41 (.call 11 [(.t 40), (.c (.n .i64 6))]), q 42 (.bin .num .add (.c (.n .i64 2)) (.t 41)), q 10 (.mv (.t 42))]) <|
  .seq (.reg [q 43 (.mv (.t 7)), q 44 (.mv (.t 10)), q 45 (.mv (.t 6)), q 46 (.mv (.t 1)), q 47 (.mv (.t 9)), q 48 (.ias (.t 46) (.t 47) 1), q 49 (.load (.t 48) 1 false), q 50 (.call 11 [(.t 49), (.c (.n .i64 50))]), q 51 (.mv (.t 6)), q 52 (.bin .num .sub (.t 51) (.c (.n .i64 1))), q 53 (.build [.n .i64 0, .n .i64 0, .n .i64 0, .n .i64 0, .n .i64 0, .n .i64 0, .n .i64 0, .b false, .l 4 [] .nil, .l 1 [] .nil, .l 1 [] .nil] [(0, 1, (.c (.n .i64 3))), (1, 1, (.t 44)), (2, 1, (.c (.n .i64 1))), (3, 1, (.t 45)), (4, 1, (.t 50)), (5, 1, (.t 52))]), q 54 (.call 9 [(.t 43), (.t 53)]), q 11 (.alloc [.n .i64 0, .n .i64 0, .b false, .n .i64 0, .n .i64 0, .l 1 [] .nil, .l 1 [] .nil, .n .i64 0, .l 4 [] .nil, .l 11 [] .nil]), qn (.store (.t 11) (.t 54) 10)]) <|
  .seq (.seq (.reg [q 55 (.fa (.t 11) 9 1 false), q 56 (.load (.t 55) 1 false), q 57 (.len (.t 56)), qs 58 (.bin .num .neq (.t 57) (.c (.n .i64 1))), q 59 (.mv (.t 58)), qg 60 false 59 false (.fa (.t 11) 9 1 false), qg 61 false 59 false (.load (.t 60) 1 false), qg 62 false 59 false (.ias (.t 61) (.c (.n .i64 0)) 11), qg 63 false 59 false (.fa (.t 62) 0 1 false), qg 64 false 59 false (.load (.t 63) 1 false), qg 65 true 59 false (.bin .num .neq (.t 64) (.c (.n .i64 4))), q 66 (.pick (.t 59) (.c (.b true)) (.t 65)), q 67 (.mv (.t 66)), qg 68 false 67 false (.fa (.t 11) 9 1 false), qg 69 false 67 false (.load (.t 68) 1 false), qg 70 false 67 false (.ias (.t 69) (.c (.n .i64 0)) 11), qg 71 false 67 false (.fa (.t 70) 2 1 false), qg 72 false 67 false (.load (.t 71) 1 false), qg 73 false 67 false (.mv (.t 10)), qg 74 true 67 false (.bin .num .neq (.t 72) (.t 73)), q 75 (.pick (.t 67) (.c (.b true)) (.t 74)), q 76 (.mv (.t 75)), qg 77 false 76 false (.fa (.t 11) 9 1 false), qg 78 false 76 false (.load (.t 77) 1 false), qg 79 false 76 false (.ias (.t 78) (.c (.n .i64 0)) 11), qg 80 false 76 false (.fa (.t 79) 3 1 false), qg 81 false 76 false (.load (.t 80) 1 false), qg 82 false 76 false (.mv (.t 6)), qg 83 true 76 false (.bin .num .neq (.t 81) (.t 82)), q 84 (.pick (.t 76) (.c (.b true)) (.t 83))]) <|
  .cond (.t 84) (.seq (.reg [q 4 (.mv (.c (.b false)))]) <|
  .ret) <|
  .skip) <|
  .seq (.reg [q 85 (.fa (.t 11) 9 1 false), q 86 (.load (.t 85) 1 false), q 87 (.ias (.t 86) (.c (.n .i64 0)) 11), q 88 (.fa (.t 87) 7 1 false), qs 89 (.load (.t 88) 1 false)]) <|
  .cond (.t 89) (.seq (.seq (.reg [q 90 (.mv (.t 8)), qs 91 (.bin .num .neq (.t 90) (.c (.n .i64 0))), q 92 (.mv (.t 91)), qg 93 false 92 true (.mv (.t 8)), qg 94 false 92 true (.mv (.t 10)), qg 95 true 92 true (.bin .num .neq (.t 93) (.t 94)), q 96 (.pick (.t 92) (.t 95) (.c (.b false)))]) <|
  .cond (.t 96) (.seq (.reg [q 4 (.mv (.c (.b false)))]) <|
  .ret) <|
  .skip) <|
  .reg [q 97 (.mv (.t 10)), q 8 (.mv (.t 97))]) <|
  .skip) <|
  .reg [q 35 (.mv (.t 9)), q 36 (.bin .num .add (.t 35) (.c (.n .i64 1))), q 9 (.mv (.t 36))]) <|
  .seq (.reg [q 98 (.mv (.t 7)), q 99 (.call 8 [(.t 98)]), q 12 (.alloc [.n .i64 0, .n .i64 0, .n .i64 0, .n .i64 0, .n .i64 0, .n .i64 0, .n .i64 0, .l 1 [] .nil]), qn (.store (.t 12) (.t 99) 8)]) <|
  .seq (.reg [q 100 (.fa (.t 12) 3 1 false), q 101 (.load (.t 100) 1 false), q 102 (.mv (.t 8)), qs 103 (.bin .num .eql (.t 101) (.t 102)), q 104 (.mv (.t 103)), qg 105 false 104 true (.mv (.t 1)), qg 106 false 104 true (.len (.t 105)), qg 107 true 104 true (.bin .num .eql (.t 106) (.c (.n .i64 0))), qg 108 false 104 true (.mv (.t 107)), qg 109 false 108 false (.mv (.t 8)), qg 110 true 108 false (.bin .num .neq (.t 109) (.c (.n .i64 0))), qg 111 false 108 false (.mv (.t 110)), qg 112 false 111 true (.fa (.t 12) 2 1 false), qg 113 false 111 true (.load (.t 112) 1 false), qg 114 false 111 true (.mv (.t 6)), qg 115 true 111 true (.bin .num .eql (.t 113) (.t 114)), qg 116 false 108 false (.pick (.t 111) (.t 115) (.c (.b false))), qg 117 false 104 true (.pick (.t 108) (.c (.b true)) (.t 116)), q 118 (.pick (.t 104) (.t 117) (.c (.b false))), q 4 (.mv (.t 118))]) <|
  .ret

/-- strongroom/strongroomlaw19.RaftVotes -/
def p_strongroomlaw19_RaftVotes (E : Env) (a0 a1 : V) (s : St) (K : V → St → Prop) : Prop :=
 ACalls E 5 [] s fun v0 s1 =>
 splitP v0 (
 ACalls E 11 [a0, (.n .i64 100)] s1 fun v2 s3 =>
 optP (binV .num .add (.n .i64 1) v2) s3 fun v4 s5 =>
 optP (mksV 1 [(.n .i64 1), (.n .i64 2), (.n .i64 3), (.n .i64 4), (.n .i64 5), (.n .i64 6), (.n .i64 7)]) s5 fun v6 s7 =>
 optP (buildV [.n .i64 0, .n .i64 0] []) s7 fun v8 s9 =>
 optP (buildV [.n .i64 0, .n .i64 0, .l 1 [] .nil, .l 1 [] .nil] []) s9 fun v10 s11 =>
 ACalls E 12 [(.n .i64 1), v6, v8, v10, (.l 4 [] .nil), (.n .i64 10)] s11 fun v12 s13 =>
 let k14 : St → Prop := (fun s15 =>
 K (.b false) s15);
 splitP (.b true) (
 optP (binV .ptr .eql v12 (.nilp)) s13 fun v16 s17 =>
 splitP v16 (
 k14 s17) (
 ∃ I18 : Nat → List V → St → Prop, (∃ n19, I18 n19 [(.n .i64 0), (.n .i64 0)] s17) ∧ ∀ n19, ∀ x21 : V, ∀ x22 : V, ∀ s20, I18 n19 [x21, x22] s20 →
 let k24 : St → Prop := (fun s25 =>
 ACalls E 8 [v12] s25 fun v26 s27 =>
 optW (allocW [.n .i64 0, .n .i64 0, .n .i64 0, .n .i64 0, .n .i64 0, .n .i64 0, .n .i64 0, .l 1 [] .nil] s27) fun v28 s29 =>
 optW (storeV v28 v26 8 s29) fun v30 s31 =>
 let k32 : St → Prop := (fun s33 =>
 K (.b true) s33);
 let k34 : St → Prop := (fun s35 =>
 K (.b false) s35);
 optP (faV v28 3 1 false) s31 fun v36 s37 =>
 optP (ldV v36 1 false s37) s37 fun v38 s39 =>
 optP (binV .num .eql v38 x21) s39 fun v40 s41 =>
 splitP v40 (
 optP (lenV a1) s41 fun v42 s43 =>
 optP (binV .num .eql v42 (.n .i64 0)) s43 fun v44 s45 =>
 splitP v44 (
 k32 s45) (
 optP (binV .num .neq x21 (.n .i64 0)) s45 fun v46 s47 =>
 splitP v46 (
 optP (faV v28 2 1 false) s47 fun v48 s49 =>
 optP (ldV v48 1 false s49) s49 fun v50 s51 =>
 optP (binV .num .eql v50 v4) s51 fun v52 s53 =>
 splitP v52 (
 k32 s53) (
 k34 s53)) (
 k34 s47))) (
 k34 s41));
 optP (lenV a1) s20 fun v54 s55 =>
 optP (binV .num .lss x22 v54) s55 fun v56 s57 =>
 splitP v56 (
 optP (binV .num .lss x22 (.n .i64 30)) s57 fun v58 s59 =>
 splitP v58 (
 let k60 : V → St → Prop := (fun x62 s61 =>
 optP (binV .num .add x22 (.n .i64 1)) s61 fun v63 s64 =>
 (a1 : V) = a1 ∧ (v4 : V) = v4 ∧ (v12 : V) = v12 ∧ ∃ n23, n23 < n19 ∧ I18 n23 [x62, v63] s64);
 optP (iasV a1 x22 1) s59 fun v65 s66 =>
 optP (ldV v65 1 false s66) s66 fun v67 s68 =>
 ACalls E 11 [v67, (.n .i64 6)] s68 fun v69 s70 =>
 optP (binV .num .add (.n .i64 2) v69) s70 fun v71 s72 =>
 optP (iasV a1 x22 1) s72 fun v73 s74 =>
 optP (ldV v73 1 false s74) s74 fun v75 s76 =>
 ACalls E 11 [v75, (.n .i64 50)] s76 fun v77 s78 =>
 optP (binV .num .sub v4 (.n .i64 1)) s78 fun v79 s80 =>
 optP (buildV [.n .i64 0, .n .i64 0, .n .i64 0, .n .i64 0, .n .i64 0, .n .i64 0, .n .i64 0, .b false, .l 4 [] .nil, .l 1 [] .nil, .l 1 [] .nil] [(0, 1, (.n .i64 3)), (1, 1, v71), (2, 1, (.n .i64 1)), (3, 1, v4), (4, 1, v77), (5, 1, v79)]) s80 fun v81 s82 =>
 ACalls E 9 [v12, v81] s82 fun v83 s84 =>
 optW (allocW [.n .i64 0, .n .i64 0, .b false, .n .i64 0, .n .i64 0, .l 1 [] .nil, .l 1 [] .nil, .n .i64 0, .l 4 [] .nil, .l 11 [] .nil] s84) fun v85 s86 =>
 optW (storeV v85 v83 10 s86) fun v87 s88 =>
 let k89 : St → Prop := (fun s90 =>
 K (.b false) s90);
 optP (faV v85 9 1 false) s88 fun v91 s92 =>
 optP (ldV v91 1 false s92) s92 fun v93 s94 =>
 optP (lenV v93) s94 fun v95 s96 =>
 optP (binV .num .neq v95 (.n .i64 1)) s96 fun v97 s98 =>
 splitP v97 (
 k89 s98) (
 optP (faV v85 9 1 false) s98 fun v99 s100 =>
 optP (ldV v99 1 false s100) s100 fun v101 s102 =>
 optP (iasV v101 (.n .i64 0) 11) s102 fun v103 s104 =>
 optP (faV v103 0 1 false) s104 fun v105 s106 =>
 optP (ldV v105 1 false s106) s106 fun v107 s108 =>
 optP (binV .num .neq v107 (.n .i64 4)) s108 fun v109 s110 =>
 splitP v109 (
 k89 s110) (
 optP (faV v85 9 1 false) s110 fun v111 s112 =>
 optP (ldV v111 1 false s112) s112 fun v113 s114 =>
 optP (iasV v113 (.n .i64 0) 11) s114 fun v115 s116 =>
 optP (faV v115 2 1 false) s116 fun v117 s118 =>
 optP (ldV v117 1 false s118) s118 fun v119 s120 =>
 optP (binV .num .neq v119 v71) s120 fun v121 s122 =>
 splitP v121 (
 k89 s122) (
 optP (faV v85 9 1 false) s122 fun v123 s124 =>
 optP (ldV v123 1 false s124) s124 fun v125 s126 =>
 optP (iasV v125 (.n .i64 0) 11) s126 fun v127 s128 =>
 optP (faV v127 3 1 false) s128 fun v129 s130 =>
 optP (ldV v129 1 false s130) s130 fun v131 s132 =>
 optP (binV .num .neq v131 v4) s132 fun v133 s134 =>
 splitP v133 (
 k89 s134) (
 optP (faV v85 9 1 false) s134 fun v135 s136 =>
 optP (ldV v135 1 false s136) s136 fun v137 s138 =>
 optP (iasV v137 (.n .i64 0) 11) s138 fun v139 s140 =>
 optP (faV v139 7 1 false) s140 fun v141 s142 =>
 optP (ldV v141 1 false s142) s142 fun v143 s144 =>
 splitP v143 (
 let k145 : St → Prop := (fun s146 =>
 k60 v71 s146);
 optP (binV .num .neq x21 (.n .i64 0)) s144 fun v147 s148 =>
 splitP v147 (
 optP (binV .num .neq x21 v71) s148 fun v149 s150 =>
 splitP v149 (
 K (.b false) s150) (
 k145 s150)) (
 k145 s148)) (
 k60 x21 s144)))))) (
 k24 s59)) (
 k24 s57))) (
 k14 s13)) (
 ACalls E 11 [a0, (.n .i64 100)] s1 fun v151 s152 =>
 optP (binV .num .add (.n .i64 1) v151) s152 fun v153 s154 =>
 optP (mksV 1 [(.n .i64 1), (.n .i64 2), (.n .i64 3), (.n .i64 4), (.n .i64 5), (.n .i64 6), (.n .i64 7)]) s154 fun v155 s156 =>
 optP (buildV [.n .i64 0, .n .i64 0] []) s156 fun v157 s158 =>
 optP (buildV [.n .i64 0, .n .i64 0, .l 1 [] .nil, .l 1 [] .nil] []) s158 fun v159 s160 =>
 ACalls E 12 [(.n .i64 1), v155, v157, v159, (.l 4 [] .nil), (.n .i64 10)] s160 fun v161 s162 =>
 let k163 : St → Prop := (fun s164 =>
 K (.b false) s164);
 splitP (.b false) (
 optP (binV .ptr .eql v161 (.nilp)) s162 fun v165 s166 =>
 splitP v165 (
 k163 s166) (
 ∃ I167 : Nat → List V → St → Prop, (∃ n168, I167 n168 [(.n .i64 0), (.n .i64 0)] s166) ∧ ∀ n168, ∀ x170 : V, ∀ x171 : V, ∀ s169, I167 n168 [x170, x171] s169 →
 let k173 : St → Prop := (fun s174 =>
 ACalls E 8 [v161] s174 fun v175 s176 =>
 optW (allocW [.n .i64 0, .n .i64 0, .n .i64 0, .n .i64 0, .n .i64 0, .n .i64 0, .n .i64 0, .l 1 [] .nil] s176) fun v177 s178 =>
 optW (storeV v177 v175 8 s178) fun v179 s180 =>
 let k181 : St → Prop := (fun s182 =>
 K (.b true) s182);
 let k183 : St → Prop := (fun s184 =>
 K (.b false) s184);
 optP (faV v177 3 1 false) s180 fun v185 s186 =>
 optP (ldV v185 1 false s186) s186 fun v187 s188 =>
 optP (binV .num .eql v187 x170) s188 fun v189 s190 =>
 splitP v189 (
 optP (lenV a1) s190 fun v191 s192 =>
 optP (binV .num .eql v191 (.n .i64 0)) s192 fun v193 s194 =>
 splitP v193 (
 k181 s194) (
 optP (binV .num .neq x170 (.n .i64 0)) s194 fun v195 s196 =>
 splitP v195 (
 optP (faV v177 2 1 false) s196 fun v197 s198 =>
 optP (ldV v197 1 false s198) s198 fun v199 s200 =>
 optP (binV .num .eql v199 v153) s200 fun v201 s202 =>
 splitP v201 (
 k181 s202) (
 k183 s202)) (
 k183 s196))) (
 k183 s190));
 optP (lenV a1) s169 fun v203 s204 =>
 optP (binV .num .lss x171 v203) s204 fun v205 s206 =>
 splitP v205 (
 optP (binV .num .lss x171 (.n .i64 30)) s206 fun v207 s208 =>
 splitP v207 (
 let k209 : V → St → Prop := (fun x211 s210 =>
 optP (binV .num .add x171 (.n .i64 1)) s210 fun v212 s213 =>
 (a1 : V) = a1 ∧ (v153 : V) = v153 ∧ (v161 : V) = v161 ∧ ∃ n172, n172 < n168 ∧ I167 n172 [x211, v212] s213);
 optP (iasV a1 x171 1) s208 fun v214 s215 =>
 optP (ldV v214 1 false s215) s215 fun v216 s217 =>
 ACalls E 11 [v216, (.n .i64 6)] s217 fun v218 s219 =>
 optP (binV .num .add (.n .i64 2) v218) s219 fun v220 s221 =>
 optP (iasV a1 x171 1) s221 fun v222 s223 =>
 optP (ldV v222 1 false s223) s223 fun v224 s225 =>
 ACalls E 11 [v224, (.n .i64 50)] s225 fun v226 s227 =>
 optP (binV .num .sub v153 (.n .i64 1)) s227 fun v228 s229 =>
 optP (buildV [.n .i64 0, .n .i64 0, .n .i64 0, .n .i64 0, .n .i64 0, .n .i64 0, .n .i64 0, .b false, .l 4 [] .nil, .l 1 [] .nil, .l 1 [] .nil] [(0, 1, (.n .i64 3)), (1, 1, v220), (2, 1, (.n .i64 1)), (3, 1, v153), (4, 1, v226), (5, 1, v228)]) s229 fun v230 s231 =>
 ACalls E 9 [v161, v230] s231 fun v232 s233 =>
 optW (allocW [.n .i64 0, .n .i64 0, .b false, .n .i64 0, .n .i64 0, .l 1 [] .nil, .l 1 [] .nil, .n .i64 0, .l 4 [] .nil, .l 11 [] .nil] s233) fun v234 s235 =>
 optW (storeV v234 v232 10 s235) fun v236 s237 =>
 let k238 : St → Prop := (fun s239 =>
 K (.b false) s239);
 optP (faV v234 9 1 false) s237 fun v240 s241 =>
 optP (ldV v240 1 false s241) s241 fun v242 s243 =>
 optP (lenV v242) s243 fun v244 s245 =>
 optP (binV .num .neq v244 (.n .i64 1)) s245 fun v246 s247 =>
 splitP v246 (
 k238 s247) (
 optP (faV v234 9 1 false) s247 fun v248 s249 =>
 optP (ldV v248 1 false s249) s249 fun v250 s251 =>
 optP (iasV v250 (.n .i64 0) 11) s251 fun v252 s253 =>
 optP (faV v252 0 1 false) s253 fun v254 s255 =>
 optP (ldV v254 1 false s255) s255 fun v256 s257 =>
 optP (binV .num .neq v256 (.n .i64 4)) s257 fun v258 s259 =>
 splitP v258 (
 k238 s259) (
 optP (faV v234 9 1 false) s259 fun v260 s261 =>
 optP (ldV v260 1 false s261) s261 fun v262 s263 =>
 optP (iasV v262 (.n .i64 0) 11) s263 fun v264 s265 =>
 optP (faV v264 2 1 false) s265 fun v266 s267 =>
 optP (ldV v266 1 false s267) s267 fun v268 s269 =>
 optP (binV .num .neq v268 v220) s269 fun v270 s271 =>
 splitP v270 (
 k238 s271) (
 optP (faV v234 9 1 false) s271 fun v272 s273 =>
 optP (ldV v272 1 false s273) s273 fun v274 s275 =>
 optP (iasV v274 (.n .i64 0) 11) s275 fun v276 s277 =>
 optP (faV v276 3 1 false) s277 fun v278 s279 =>
 optP (ldV v278 1 false s279) s279 fun v280 s281 =>
 optP (binV .num .neq v280 v153) s281 fun v282 s283 =>
 splitP v282 (
 k238 s283) (
 optP (faV v234 9 1 false) s283 fun v284 s285 =>
 optP (ldV v284 1 false s285) s285 fun v286 s287 =>
 optP (iasV v286 (.n .i64 0) 11) s287 fun v288 s289 =>
 optP (faV v288 7 1 false) s289 fun v290 s291 =>
 optP (ldV v290 1 false s291) s291 fun v292 s293 =>
 splitP v292 (
 let k294 : St → Prop := (fun s295 =>
 k209 v220 s295);
 optP (binV .num .neq x170 (.n .i64 0)) s293 fun v296 s297 =>
 splitP v296 (
 optP (binV .num .neq x170 v220) s297 fun v298 s299 =>
 splitP v298 (
 K (.b false) s299) (
 k294 s299)) (
 k294 s297)) (
 k209 x170 s293)))))) (
 k173 s208)) (
 k173 s206))) (
 k163 s162))
theorem e_strongroomlaw19_RaftVotes (E : Env) (a0 a1 : V) (s : St) (K : V → St → Prop) : axF E c_strongroomlaw19_RaftVotes [a0, a1] s K = p_strongroomlaw19_RaftVotes E a0 a1 s K := by kernel_rfl
theorem g_strongroomlaw19_RaftVotes {E : Env} {a0 a1 : V} {s : St} {K : V → St → Prop} (h : chkF E.P E.m (E.m 2) c_strongroomlaw19_RaftVotes = true) (hp : p_strongroomlaw19_RaftVotes E a0 a1 s K) : ACalls E 2 [a0, a1] s K :=
  acalls h rfl (by rw [e_strongroomlaw19_RaftVotes]; exact hp)

/-- strongroom/strongroomlaw19.RaftLate -/
def c_strongroomlaw19_RaftLate : AFunc := .mk 2 69 [.t 4] <|
  .seq (.reg [q 2 (.box (.t 0)), q 3 (.box (.t 1)), q 4 (.mv (.c (.b false)))]) <|
  .seq (.reg [qs 10 (.call 5 []), q 5 (.mv (.t 10))]) <|
  .seq (.seq (.reg [q 11 (.fa (.t 2) 3 2 true), q 12 (.fa (.t 11) 0 1 false), q 13 (.load (.t 12) 1 false), qs 14 (.bin .num .lss (.t 13) (.c (.n .i64 1))), q 15 (.mv (.t 14)), qg 16 false 15 false (.fa (.t 2) 3 2 true), qg 17 false 15 false (.fa (.t 16) 0 1 false), qg 18 false 15 false (.load (.t 17) 1 false), qg 19 true 15 false (.bin .num .gtr (.t 18) (.c (.n .i64 1099511627776))), q 20 (.pick (.t 15) (.c (.b true)) (.t 19))]) <|
  .cond (.t 20) (.seq (.reg [qs 21 (.mv (.t 5)), q 4 (.mv (.t 21))]) <|
  .ret) <|
  .skip) <|
  .seq (.reg [q 22 (.load (.t 2) 10 true), q 23 (.call 6 [(.t 22)]), q 6 (.mv (.t 23))]) <|
  .seq (.seq (.reg [qs 24 (.mv (.t 5)), q 25 (.un .not (.t 24)), q 26 (.mv (.t 25)), qg 27 false 26 false (.mv (.t 6)), qg 28 true 26 false (.bin .ptr .eql (.t 27) (.c (.nilp))), q 29 (.pick (.t 26) (.c (.b true)) (.t 28))]) <|
  .cond (.t 29) (.seq (.reg [q 4 (.mv (.c (.b false)))]) <|
  .ret) <|
  .skip) <|
  .seq (.reg [q 30 (.load (.t 3) 11 true), q 31 (.call 7 [(.t 30)]), qn (.store (.t 3) (.t 31) 11)]) <|
  .seq (.reg [q 32 (.fa (.t 2) 3 2 true), q 33 (.fa (.t 32) 0 1 false), q 34 (.load (.t 33) 1 false), q 35 (.bin .num .sub (.t 34) (.c (.n .i64 1))), q 36 (.fa (.t 3) 3 1 false), qn (.store (.t 36) (.t 35) 1)]) <|
  .seq (.reg [q 37 (.mv (.t 6)), q 38 (.call 8 [(.t 37)]), q 7 (.alloc [.n .i64 0, .n .i64 0, .n .i64 0, .n .i64 0, .n .i64 0, .n .i64 0, .n .i64 0, .l 1 [] .nil]), qn (.store (.t 7) (.t 38) 8)]) <|
  .seq (.reg [q 39 (.mv (.t 6)), q 40 (.load (.t 3) 11 true), q 41 (.call 9 [(.t 39), (.t 40)]), q 8 (.alloc [.n .i64 0, .n .i64 0, .b false, .n .i64 0, .n .i64 0, .l 1 [] .nil, .l 1 [] .nil, .n .i64 0, .l 4 [] .nil, .l 11 [] .nil]), qn (.store (.t 8) (.t 41) 10)]) <|
  .seq (.draw [qd (some 42) false [] (.load (.t 7) 8 true), qd (some 43) false [] (.mv (.t 6)), qd (some 44) false [1] (.call 8 [(.t 43)]), qd (some 45) true [0, 1, 2] (.call 10 [(.t 42), (.t 44)]), qd (some 9) false [0, 1, 2, 3] (.mv (.t 45))]) <|
  .seq (.reg [qs 46 (.mv (.t 9)), q 47 (.mv (.t 46)), qg 48 false 47 true (.fa (.t 8) 2 1 false), qg 49 true 47 true (.load (.t 48) 1 false), qg 50 false 47 true (.un .not (.t 49)), q 51 (.pick (.t 47) (.t 50) (.c (.b false))), q 52 (.mv (.t 51)), qg 53 false 52 true (.fa (.t 8) 7 1 false), qg 54 false 52 true (.load (.t 53) 1 false), qg 55 true 52 true (.bin .num .eql (.t 54) (.c (.n .i64 0))), q 56 (.pick (.t 52) (.t 55) (.c (.b false))), q 57 (.mv (.t 56)), qg 58 false 57 true (.fa (.t 8) 3 4 true), qg 59 false 57 true (.fa (.t 58) 0 1 false), qg 60 false 57 true (.load (.t 59) 1 false), qg 61 true 57 true (.bin .num .eql (.t 60) (.c (.n .i64 0))), q 62 (.pick (.t 57) (.t 61) (.c (.b false))), q 63 (.mv (.t 62)), qg 64 false 63 true (.fa (.t 8) 9 1 false), qg 65 false 63 true (.load (.t 64) 1 false), qg 66 false 63 true (.len (.t 65)), qg 67 true 63 true (.bin .num .leq (.t 66) (.c (.n .i64 1))), q 68 (.pick (.t 63) (.t 67) (.c (.b false))), q 4 (.mv (.t 68))]) <|
  .ret

/-- strongroom/strongroomlaw19.RaftLate -/
def p_strongroomlaw19_RaftLate (E : Env) (a0 a1 : V) (s : St) (K : V → St → Prop) : Prop :=
 optW (boxV a0 s) fun v0 s1 =>
 optW (boxV a1 s1) fun v2 s3 =>
 ACalls E 5 [] s3 fun v4 s5 =>
 splitP v4 (
 let k6 : St → Prop := (fun s7 =>
 splitP (.b true) (
 K (.b true) s7) (
 K (.b false) s7));
 optP (faV v0 3 2 true) s5 fun v8 s9 =>
 optP (faV v8 0 1 false) s9 fun v10 s11 =>
 optP (ldV v10 1 false s11) s11 fun v12 s13 =>
 optP (binV .num .lss v12 (.n .i64 1)) s13 fun v14 s15 =>
 splitP v14 (
 k6 s15) (
 optP (faV v0 3 2 true) s15 fun v16 s17 =>
 optP (faV v16 0 1 false) s17 fun v18 s19 =>
 optP (ldV v18 1 false s19) s19 fun v20 s21 =>
 optP (binV .num .gtr v20 (.n .i64 1099511627776)) s21 fun v22 s23 =>
 splitP v22 (
 k6 s23) (
 optP (ldV v0 10 true s23) s23 fun v24 s25 =>
 ACalls E 6 [v24] s25 fun v26 s27 =>
 let k28 : St → Prop := (fun s29 =>
 K (.b false) s29);
 splitP (.b true) (
 optP (binV .ptr .eql v26 (.nilp)) s27 fun v30 s31 =>
 splitP v30 (
 k28 s31) (
 optP (ldV v2 11 true s31) s31 fun v32 s33 =>
 ACalls E 7 [v32] s33 fun v34 s35 =>
 optW (storeV v2 v34 11 s35) fun v36 s37 =>
 optP (faV v0 3 2 true) s37 fun v38 s39 =>
 optP (faV v38 0 1 false) s39 fun v40 s41 =>
 optP (ldV v40 1 false s41) s41 fun v42 s43 =>
 optP (binV .num .sub v42 (.n .i64 1)) s43 fun v44 s45 =>
 optP (faV v2 3 1 false) s45 fun v46 s47 =>
 optW (storeV v46 v44 1 s47) fun v48 s49 =>
 ACalls E 8 [v26] s49 fun v50 s51 =>
 optW (allocW [.n .i64 0, .n .i64 0, .n .i64 0, .n .i64 0, .n .i64 0, .n .i64 0, .n .i64 0, .l 1 [] .nil] s51) fun v52 s53 =>
 optW (storeV v52 v50 8 s53) fun v54 s55 =>
 optP (ldV v2 11 true s55) s55 fun v56 s57 =>
 ACalls E 9 [v26, v56] s57 fun v58 s59 =>
 optW (allocW [.n .i64 0, .n .i64 0, .b false, .n .i64 0, .n .i64 0, .l 1 [] .nil, .l 1 [] .nil, .n .i64 0, .l 4 [] .nil, .l 11 [] .nil] s59) fun v60 s61 =>
 optW (storeV v60 v58 10 s61) fun v62 s63 =>
 optP (ldV v52 8 true s63) s63 fun v64 s65 =>
 (True) ∧ ACalls E 8 [v26] s65 fun v66 s67 =>
 (ldV v52 8 true s67 = some v64 ∧ True) ∧ ACalls E 10 [v64, v66] s67 fun v68 s69 =>
 splitP v68 (
 (True) ∧ let k70 : St → Prop := (fun s71 =>
 K (.b false) s71);
 splitP (.b true) (
 optP (faV v60 2 1 false) s69 fun v72 s73 =>
 optP (ldV v72 1 false s73) s73 fun v74 s75 =>
 splitP v74 (
 k70 s75) (
 optP (faV v60 7 1 false) s75 fun v76 s77 =>
 optP (ldV v76 1 false s77) s77 fun v78 s79 =>
 optP (binV .num .eql v78 (.n .i64 0)) s79 fun v80 s81 =>
 splitP v80 (
 optP (faV v60 3 4 true) s81 fun v82 s83 =>
 optP (faV v82 0 1 false) s83 fun v84 s85 =>
 optP (ldV v84 1 false s85) s85 fun v86 s87 =>
 optP (binV .num .eql v86 (.n .i64 0)) s87 fun v88 s89 =>
 splitP v88 (
 optP (faV v60 9 1 false) s89 fun v90 s91 =>
 optP (ldV v90 1 false s91) s91 fun v92 s93 =>
 optP (lenV v92) s93 fun v94 s95 =>
 optP (binV .num .leq v94 (.n .i64 1)) s95 fun v96 s97 =>
 splitP v96 (
 K (.b true) s97) (
 k70 s97)) (
 k70 s89)) (
 k70 s81))) (
 k70 s69)) (
 (True) ∧ let k98 : St → Prop := (fun s99 =>
 K (.b false) s99);
 splitP (.b false) (
 optP (faV v60 2 1 false) s69 fun v100 s101 =>
 optP (ldV v100 1 false s101) s101 fun v102 s103 =>
 splitP v102 (
 k98 s103) (
 optP (faV v60 7 1 false) s103 fun v104 s105 =>
 optP (ldV v104 1 false s105) s105 fun v106 s107 =>
 optP (binV .num .eql v106 (.n .i64 0)) s107 fun v108 s109 =>
 splitP v108 (
 optP (faV v60 3 4 true) s109 fun v110 s111 =>
 optP (faV v110 0 1 false) s111 fun v112 s113 =>
 optP (ldV v112 1 false s113) s113 fun v114 s115 =>
 optP (binV .num .eql v114 (.n .i64 0)) s115 fun v116 s117 =>
 splitP v116 (
 optP (faV v60 9 1 false) s117 fun v118 s119 =>
 optP (ldV v118 1 false s119) s119 fun v120 s121 =>
 optP (lenV v120) s121 fun v122 s123 =>
 optP (binV .num .leq v122 (.n .i64 1)) s123 fun v124 s125 =>
 splitP v124 (
 K (.b true) s125) (
 k98 s125)) (
 k98 s117)) (
 k98 s109))) (
 k98 s69)))) (
 k28 s27)))) (
 let k126 : St → Prop := (fun s127 =>
 splitP (.b false) (
 K (.b true) s127) (
 K (.b false) s127));
 optP (faV v0 3 2 true) s5 fun v128 s129 =>
 optP (faV v128 0 1 false) s129 fun v130 s131 =>
 optP (ldV v130 1 false s131) s131 fun v132 s133 =>
 optP (binV .num .lss v132 (.n .i64 1)) s133 fun v134 s135 =>
 splitP v134 (
 k126 s135) (
 optP (faV v0 3 2 true) s135 fun v136 s137 =>
 optP (faV v136 0 1 false) s137 fun v138 s139 =>
 optP (ldV v138 1 false s139) s139 fun v140 s141 =>
 optP (binV .num .gtr v140 (.n .i64 1099511627776)) s141 fun v142 s143 =>
 splitP v142 (
 k126 s143) (
 optP (ldV v0 10 true s143) s143 fun v144 s145 =>
 ACalls E 6 [v144] s145 fun v146 s147 =>
 let k148 : St → Prop := (fun s149 =>
 K (.b false) s149);
 splitP (.b false) (
 optP (binV .ptr .eql v146 (.nilp)) s147 fun v150 s151 =>
 splitP v150 (
 k148 s151) (
 optP (ldV v2 11 true s151) s151 fun v152 s153 =>
 ACalls E 7 [v152] s153 fun v154 s155 =>
 optW (storeV v2 v154 11 s155) fun v156 s157 =>
 optP (faV v0 3 2 true) s157 fun v158 s159 =>
 optP (faV v158 0 1 false) s159 fun v160 s161 =>
 optP (ldV v160 1 false s161) s161 fun v162 s163 =>
 optP (binV .num .sub v162 (.n .i64 1)) s163 fun v164 s165 =>
 optP (faV v2 3 1 false) s165 fun v166 s167 =>
 optW (storeV v166 v164 1 s167) fun v168 s169 =>
 ACalls E 8 [v146] s169 fun v170 s171 =>
 optW (allocW [.n .i64 0, .n .i64 0, .n .i64 0, .n .i64 0, .n .i64 0, .n .i64 0, .n .i64 0, .l 1 [] .nil] s171) fun v172 s173 =>
 optW (storeV v172 v170 8 s173) fun v174 s175 =>
 optP (ldV v2 11 true s175) s175 fun v176 s177 =>
 ACalls E 9 [v146, v176] s177 fun v178 s179 =>
 optW (allocW [.n .i64 0, .n .i64 0, .b false, .n .i64 0, .n .i64 0, .l 1 [] .nil, .l 1 [] .nil, .n .i64 0, .l 4 [] .nil, .l 11 [] .nil] s179) fun v180 s181 =>
 optW (storeV v180 v178 10 s181) fun v182 s183 =>
 optP (ldV v172 8 true s183) s183 fun v184 s185 =>
 (True) ∧ ACalls E 8 [v146] s185 fun v186 s187 =>
 (ldV v172 8 true s187 = some v184 ∧ True) ∧ ACalls E 10 [v184, v186] s187 fun v188 s189 =>
 splitP v188 (
 (True) ∧ let k190 : St → Prop := (fun s191 =>
 K (.b false) s191);
 splitP (.b true) (
 optP (faV v180 2 1 false) s189 fun v192 s193 =>
 optP (ldV v192 1 false s193) s193 fun v194 s195 =>
 splitP v194 (
 k190 s195) (
 optP (faV v180 7 1 false) s195 fun v196 s197 =>
 optP (ldV v196 1 false s197) s197 fun v198 s199 =>
 optP (binV .num .eql v198 (.n .i64 0)) s199 fun v200 s201 =>
 splitP v200 (
 optP (faV v180 3 4 true) s201 fun v202 s203 =>
 optP (faV v202 0 1 false) s203 fun v204 s205 =>
 optP (ldV v204 1 false s205) s205 fun v206 s207 =>
 optP (binV .num .eql v206 (.n .i64 0)) s207 fun v208 s209 =>
 splitP v208 (
 optP (faV v180 9 1 false) s209 fun v210 s211 =>
 optP (ldV v210 1 false s211) s211 fun v212 s213 =>
 optP (lenV v212) s213 fun v214 s215 =>
 optP (binV .num .leq v214 (.n .i64 1)) s215 fun v216 s217 =>
 splitP v216 (
 K (.b true) s217) (
 k190 s217)) (
 k190 s209)) (
 k190 s201))) (
 k190 s189)) (
 (True) ∧ let k218 : St → Prop := (fun s219 =>
 K (.b false) s219);
 splitP (.b false) (
 optP (faV v180 2 1 false) s189 fun v220 s221 =>
 optP (ldV v220 1 false s221) s221 fun v222 s223 =>
 splitP v222 (
 k218 s223) (
 optP (faV v180 7 1 false) s223 fun v224 s225 =>
 optP (ldV v224 1 false s225) s225 fun v226 s227 =>
 optP (binV .num .eql v226 (.n .i64 0)) s227 fun v228 s229 =>
 splitP v228 (
 optP (faV v180 3 4 true) s229 fun v230 s231 =>
 optP (faV v230 0 1 false) s231 fun v232 s233 =>
 optP (ldV v232 1 false s233) s233 fun v234 s235 =>
 optP (binV .num .eql v234 (.n .i64 0)) s235 fun v236 s237 =>
 splitP v236 (
 optP (faV v180 9 1 false) s237 fun v238 s239 =>
 optP (ldV v238 1 false s239) s239 fun v240 s241 =>
 optP (lenV v240) s241 fun v242 s243 =>
 optP (binV .num .leq v242 (.n .i64 1)) s243 fun v244 s245 =>
 splitP v244 (
 K (.b true) s245) (
 k218 s245)) (
 k218 s237)) (
 k218 s229))) (
 k218 s189)))) (
 k148 s147))))
theorem e_strongroomlaw19_RaftLate (E : Env) (a0 a1 : V) (s : St) (K : V → St → Prop) : axF E c_strongroomlaw19_RaftLate [a0, a1] s K = p_strongroomlaw19_RaftLate E a0 a1 s K := by kernel_rfl
theorem g_strongroomlaw19_RaftLate {E : Env} {a0 a1 : V} {s : St} {K : V → St → Prop} (h : chkF E.P E.m (E.m 3) c_strongroomlaw19_RaftLate = true) (hp : p_strongroomlaw19_RaftLate E a0 a1 s K) : ACalls E 3 [a0, a1] s K :=
  acalls h rfl (by rw [e_strongroomlaw19_RaftLate]; exact hp)

/-- strongroom/strongroomlaw19.RaftLays -/
def c_strongroomlaw19_RaftLays : AFunc := .mk 3 158 [.t 6] <|
  .seq (.reg [q 6 (.mv (.c (.b false)))]) <|
  .seq (.reg [qs 22 (.call 5 []), q 7 (.mv (.t 22))]) <|
  .seq (.reg [q 23 (.mks 1 [(.c (.n .i64 1))]), q 24 (.build [.n .i64 0, .n .i64 0] []), q 25 (.build [.n .i64 0, .n .i64 0, .l 1 [] .nil, .l 1 [] .nil] []), q 26 (.call 12 [(.c (.n .i64 1)), (.t 23), (.t 24), (.t 25), (.c (.l 4 [] .nil)), (.c (.n .i64 1))]), q 8 (.mv (.t 26))]) <|
  .seq (.seq (.reg [qs 27 (.mv (.t 7)), q 28 (.un .not (.t 27)), q 29 (.mv (.t 28)), qg 30 false 29 false (.mv (.t 8)), qg 31 true 29 false (.bin .ptr .eql (.t 30) (.c (.nilp))), q 32 (.pick (.t 29) (.c (.b true)) (.t 31))]) <|
  .cond (.t 32) (.seq (.reg [q 6 (.mv (.c (.b false)))]) <|
  .ret) <|
  .skip) <|
  .seq (.reg [q 33 (.mv (.t 8)), q 34 (.call 13 [(.t 33)])]) <|
  .seq (.reg [q 35 (.mv (.t 0)), q 36 (.call 11 [(.t 35), (.c (.n .i64 41))]), q 9 (.mv (.t 36))]) <|
  .seq (.seq (.reg [q 10 (.mv (.c (.n .i64 0)))]) <|
  .block 0 <|
  .loop [10] [1, 2, 8, 9] <|
  .seq (.seq (.reg [q 37 (.mv (.t 10)), q 38 (.mv (.t 9)), qs 39 (.bin .num .lss (.t 37) (.t 38))]) <|
  .cond (.t 39) (.skip) <|
  .exit 0) <|
  .seq (.block 1 <|
  .reg [q 42 (.mv (.t 8)), q 43 (.mv (.t 10)), q 44 (.cnv .u8 (.t 43)), q 45 (.mks 1 [(.t 44)]), q 46 (.build [.n .i64 0, .n .i64 0, .l 1 [] .nil, .l 1 [] .nil] [(1, 1, (.c (.n .i64 1))), (2, 1, (.t 45))]), q 47 (.call 14 [(.t 42), (.t 46)])]) <|
  .reg [q 40 (.mv (.t 10)), q 41 (.bin .num .add (.t 40) (.c (.n .i64 1))), q 10 (.mv (.t 41))]) <|
  .seq (.reg [q 48 (.mv (.t 8)), q 49 (.call 8 [(.t 48)]), q 11 (.alloc [.n .i64 0, .n .i64 0, .n .i64 0, .n .i64 0, .n .i64 0, .n .i64 0, .n .i64 0, .l 1 [] .nil]), qn (.store (.t 11) (.t 49) 8)]) <|
  .seq (.seq (.reg [q 50 (.fa (.t 11) 4 1 false), q 51 (.load (.t 50) 1 false), q 52 (.mv (.t 9)), q 53 (.bin .num .add (.t 52) (.c (.n .i64 1))), qs 54 (.bin .num .neq (.t 51) (.t 53)), q 55 (.mv (.t 54)), qg 56 false 55 false (.fa (.t 11) 6 1 false), qg 57 false 55 false (.load (.t 56) 1 false), qg 58 false 55 false (.mv (.t 9)), qg 59 false 55 false (.bin .num .add (.t 58) (.c (.n .i64 1))), qg 60 true 55 false (.bin .num .neq (.t 57) (.t 59)), q 61 (.pick (.t 55) (.c (.b true)) (.t 60)), q 62 (.mv (.t 61)), qg 63 false 62 false (.fa (.t 11) 5 1 false), qg 64 false 62 false (.load (.t 63) 1 false), qg 65 true 62 false (.bin .num .neq (.t 64) (.c (.n .i64 1))), q 66 (.pick (.t 62) (.c (.b true)) (.t 65))]) <|
  .cond (.t 66) (.seq (.reg [q 6 (.mv (.c (.b false)))]) <|
  .ret) <|
  .skip) <|
  .seq (.reg [q 67 (.mv (.t 1)), q 68 (.mv (.t 9)), q 69 (.bin .num .add (.t 68) (.c (.n .i64 1))), q 70 (.call 11 [(.t 67), (.t 69)]), q 71 (.bin .num .add (.c (.n .i64 1)) (.t 70)), q 12 (.mv (.t 71))]) <|
  .seq (.reg [q 73 (.mv (.t 8)), q 74 (.mv (.t 12)), q 75 (.mv (.t 2)), q 76 (.call 16 [(.t 75)]), q 77 (.call 15 [(.t 73), (.t 74), (.t 76)]), q 72 (.mv (.t 77)), q 78 (.ext (.t 72) 0), q 79 (.ext (.t 72) 1), q 13 (.alloc [.n .i64 0, .n .i64 0, .b false, .n .i64 0, .n .i64 0, .l 1 [] .nil, .l 1 [] .nil, .n .i64 0, .l 4 [] .nil, .l 11 [] .nil]), qn (.store (.t 13) (.t 78) 10), q 14 (.mv (.t 79))]) <|
  .seq (.reg [q 80 (.mv (.t 8)), q 81 (.call 8 [(.t 80)]), q 15 (.alloc [.n .i64 0, .n .i64 0, .n .i64 0, .n .i64 0, .n .i64 0, .n .i64 0, .n .i64 0, .l 1 [] .nil]), qn (.store (.t 15) (.t 81) 8)]) <|
  .seq (.reg [q 83 (.mv (.t 8)), q 84 (.mv (.t 12)), q 85 (.call 15 [(.t 83), (.t 84), (.c (.l 1 [] .nil))]), q 82 (.mv (.t 85)), q 86 (.ext (.t 82) 0), q 87 (.ext (.t 82) 1), q 16 (.alloc [.n .i64 0, .n .i64 0, .b false, .n .i64 0, .n .i64 0, .l 1 [] .nil, .l 1 [] .nil, .n .i64 0, .l 4 [] .nil, .l 11 [] .nil]), qn (.store (.t 16) (.t 86) 10), q 17 (.mv (.t 87))]) <|
  .seq (.reg [q 89 (.mv (.t 8)), q 90 (.mv (.t 9)), q 91 (.bin .num .add (.t 90) (.c (.n .i64 2))), q 92 (.call 15 [(.t 89), (.t 91), (.c (.l 1 [] .nil))]), q 88 (.mv (.t 92)), q 93 (.ext (.t 88) 0), q 94 (.ext (.t 88) 1), q 18 (.alloc [.n .i64 0, .n .i64 0, .b false, .n .i64 0, .n .i64 0, .l 1 [] .nil, .l 1 [] .nil, .n .i64 0, .l 4 [] .nil, .l 11 [] .nil]), qn (.store (.t 18) (.t 93) 10), q 19 (.mv (.t 94))]) <|
  .seq (.reg [q 96 (.mv (.t 8)), q 97 (.mv (.t 12)), q 98 (.call 17 [(.t 96), (.t 97)]), q 95 (.mv (.t 98)), q 99 (.ext (.t 95) 0), q 100 (.ext (.t 95) 1), q 20 (.alloc [.n .i64 0, .n .i64 0, .l 1 [] .nil, .l 1 [] .nil]), qn (.store (.t 20) (.t 99) 4), q 21 (.mv (.t 100))]) <|
  .seq (.seq (.draw [qd (some 101) false [] (.mv (.t 14)), qd (some 102) true [0] (.bin .num .neq (.t 101) (.c (.n .i64 0))), qd (some 103) false [0, 1] (.mv (.t 102)), qdg (some 104) false 103 false [0, 1, 2] (.fa (.t 13) 3 4 true), qdg (some 105) false 103 false [0, 1, 2, 3] (.fa (.t 104) 0 1 false), qdg (some 106) false 103 false [0, 1, 2, 3, 4] (.load (.t 105) 1 false), qdg (some 107) false 103 false [0, 1, 2] (.mv (.t 12)), qdg (some 108) true 103 false [0, 1, 2, 3, 4, 5, 6] (.bin .num .neq (.t 106) (.t 107)), qd (some 109) false [0, 1, 2, 3, 4, 5, 6, 7] (.pick (.t 103) (.c (.b true)) (.t 108)), qd (some 110) false [0, 1, 2, 3, 4, 5, 6, 7, 8] (.mv (.t 109)), qdg (some 111) false 110 false [0, 1, 2, 3, 4, 5, 6, 7, 8, 9] (.fa (.t 13) 3 4 true), qdg (some 112) false 110 false [0, 1, 2, 3, 4, 5, 6, 7, 8, 9, 10] (.fa (.t 111) 3 1 false), qdg (some 113) false 110 false [0, 1, 2, 3, 4, 5, 6, 7, 8, 9, 10, 11] (.load (.t 112) 1 false), qdg (some 114) false 110 false [0, 1, 2, 3, 4, 5, 6, 7, 8, 9, 10, 11, 12] (.b2s (.t 113)), qdg (some 115) false 110 false [0, 1, 2, 3, 4, 5, 6, 7, 8, 9] (.mv (.t 2)), qdg (some 116) false 110 false [0, 1, 2, 3, 4, 5, 6, 7, 8, 9, 14] (.call 16 [(.t 115)]), qdg (some 117) false 110 false [0, 1, 2, 3, 4, 5, 6, 7, 8, 9, 14, 15] (.b2s (.t 116)), qdg (some 118) true 110 false [0, 1, 2, 3, 4, 5, 6, 7, 8, 9, 10, 11, 12, 13, 14, 15, 16] (.bin .str .neq (.t 114) (.t 117)), qd (some 119) false [0, 1, 2, 3, 4, 5, 6, 7, 8, 9, 10, 11, 12, 13, 14, 15, 16, 17] (.pick (.t 110) (.c (.b true)) (.t 118)), qd (some 120) false [0, 1, 2, 3, 4, 5, 6, 7, 8, 9, 10, 11, 12, 13, 14, 15, 16, 17, 18] (.mv (.t 119)), qdg (some 121) false 120 false [0, 1, 2, 3, 4, 5, 6, 7, 8, 9, 10, 11, 12, 13, 14, 15, 16, 17, 18, 19] (.fa (.t 13) 3 4 true), qdg (some 122) false 120 false [0, 1, 2, 3, 4, 5, 6, 7, 8, 9, 10, 11, 12, 13, 14, 15, 16, 17, 18, 19, 20] (.fa (.t 121) 2 1 false), qdg (some 123) false 120 false [0, 1, 2, 3, 4, 5, 6, 7, 8, 9, 10, 11, 12, 13, 14, 15, 16, 17, 18, 19, 20, 21] (.load (.t 122) 1 false), qdg (some 124) false 120 false [0, 1, 2, 3, 4, 5, 6, 7, 8, 9, 10, 11, 12, 13, 14, 15, 16, 17, 18, 19, 20, 21, 22] (.len (.t 123)), qdg (some 125) true 120 false [0, 1, 2, 3, 4, 5, 6, 7, 8, 9, 10, 11, 12, 13, 14, 15, 16, 17, 18, 19, 20, 21, 22, 23] (.bin .num .neq (.t 124) (.c (.n .i64 1))), qd (some 126) false [0, 1, 2, 3, 4, 5, 6, 7, 8, 9, 10, 11, 12, 13, 14, 15, 16, 17, 18, 19, 20, 21, 22, 23, 24] (.pick (.t 120) (.c (.b true)) (.t 125)), qd (some 127) false [0, 1, 2, 3, 4, 5, 6, 7, 8, 9, 10, 11, 12, 13, 14, 15, 16, 17, 18, 19, 20, 21, 22, 23, 24, 25] (.mv (.t 126)), qdg (some 128) false 127 false [0, 1, 2, 3, 4, 5, 6, 7, 8, 9, 10, 11, 12, 13, 14, 15, 16, 17, 18, 19, 20, 21, 22, 23, 24, 25, 26] (.fa (.t 15) 5 1 false), qdg (some 129) false 127 false [0, 1, 2, 3, 4, 5, 6, 7, 8, 9, 10, 11, 12, 13, 14, 15, 16, 17, 18, 19, 20, 21, 22, 23, 24, 25, 26, 27] (.load (.t 128) 1 false), qdg (some 130) false 127 false [0, 1, 2, 3, 4, 5, 6, 7, 8, 9, 10, 11, 12, 13, 14, 15, 16, 17, 18, 19, 20, 21, 22, 23, 24, 25, 26] (.mv (.t 12)), qdg (some 131) false 127 false [0, 1, 2, 3, 4, 5, 6, 7, 8, 9, 10, 11, 12, 13, 14, 15, 16, 17, 18, 19, 20, 21, 22, 23, 24, 25, 26, 29] (.bin .num .add (.t 130) (.c (.n .i64 1))), qdg (some 132) true 127 false [0, 1, 2, 3, 4, 5, 6, 7, 8, 9, 10, 11, 12, 13, 14, 15, 16, 17, 18, 19, 20, 21, 22, 23, 24, 25, 26, 27, 28, 29, 30] (.bin .num .neq (.t 129) (.t 131)), qd (some 133) false [0, 1, 2, 3, 4, 5, 6, 7, 8, 9, 10, 11, 12, 13, 14, 15, 16, 17, 18, 19, 20, 21, 22, 23, 24, 25, 26, 27, 28, 29, 30, 31] (.pick (.t 127) (.c (.b true)) (.t 132)), qd (some 134) false [0, 1, 2, 3, 4, 5, 6, 7, 8, 9, 10, 11, 12, 13, 14, 15, 16, 17, 18, 19, 20, 21, 22, 23, 24, 25, 26, 27, 28, 29, 30, 31, 32] (.mv (.t 133)), qdg (some 135) false 134 false [0, 1, 2, 3, 4, 5, 6, 7, 8, 9, 10, 11, 12, 13, 14, 15, 16, 17, 18, 19, 20, 21, 22, 23, 24, 25, 26, 27, 28, 29, 30, 31, 32, 33] (.fa (.t 15) 6 1 false), qdg (some 136) false 134 false [0, 1, 2, 3, 4, 5, 6, 7, 8, 9, 10, 11, 12, 13, 14, 15, 16, 17, 18, 19, 20, 21, 22, 23, 24, 25, 26, 27, 28, 29, 30, 31, 32, 33, 34] (.load (.t 135) 1 false), qdg (some 137) false 134 false [0, 1, 2, 3, 4, 5, 6, 7, 8, 9, 10, 11, 12, 13, 14, 15, 16, 17, 18, 19, 20, 21, 22, 23, 24, 25, 26, 27, 28, 29, 30, 31, 32, 33] (.mv (.t 9)), qdg (some 138) false 134 false [0, 1, 2, 3, 4, 5, 6, 7, 8, 9, 10, 11, 12, 13, 14, 15, 16, 17, 18, 19, 20, 21, 22, 23, 24, 25, 26, 27, 28, 29, 30, 31, 32, 33, 36] (.bin .num .add (.t 137) (.c (.n .i64 1))), qdg (some 139) true 134 false [0, 1, 2, 3, 4, 5, 6, 7, 8, 9, 10, 11, 12, 13, 14, 15, 16, 17, 18, 19, 20, 21, 22, 23, 24, 25, 26, 27, 28, 29, 30, 31, 32, 33, 34, 35, 36, 37] (.bin .num .neq (.t 136) (.t 138)), qd (some 140) false [0, 1, 2, 3, 4, 5, 6, 7, 8, 9, 10, 11, 12, 13, 14, 15, 16, 17, 18, 19, 20, 21, 22, 23, 24, 25, 26, 27, 28, 29, 30, 31, 32, 33, 34, 35, 36, 37, 38] (.pick (.t 134) (.c (.b true)) (.t 139)), qd (some 141) false [0, 1, 2, 3, 4, 5, 6, 7, 8, 9, 10, 11, 12, 13, 14, 15, 16, 17, 18, 19, 20, 21, 22, 23, 24, 25, 26, 27, 28, 29, 30, 31, 32, 33, 34, 35, 36, 37, 38, 39] (.mv (.t 140)), qdg (some 142) false 141 false [0, 1, 2, 3, 4, 5, 6, 7, 8, 9, 10, 11, 12, 13, 14, 15, 16, 17, 18, 19, 20, 21, 22, 23, 24, 25, 26, 27, 28, 29, 30, 31, 32, 33, 34, 35, 36, 37, 38, 39, 40] (.fa (.t 15) 4 1 false), qdg (some 143) false 141 false [0, 1, 2, 3, 4, 5, 6, 7, 8, 9, 10, 11, 12, 13, 14, 15, 16, 17, 18, 19, 20, 21, 22, 23, 24, 25, 26, 27, 28, 29, 30, 31, 32, 33, 34, 35, 36, 37, 38, 39, 40, 41] (.load (.t 142) 1 false), qdg (some 144) false 141 false [0, 1, 2, 3, 4, 5, 6, 7, 8, 9, 10, 11, 12, 13, 14, 15, 16, 17, 18, 19, 20, 21, 22, 23, 24, 25, 26, 27, 28, 29, 30, 31, 32, 33, 34, 35, 36, 37, 38, 39, 40] (.mv (.t 9)), qdg (some 145) false 141 false [0, 1, 2, 3, 4, 5, 6, 7, 8, 9, 10, 11, 12, 13, 14, 15, 16, 17, 18, 19, 20, 21, 22, 23, 24, 25, 26, 27, 28, 29, 30, 31, 32, 33, 34, 35, 36, 37, 38, 39, 40, 43] (.bin .num .add (.t 144) (.c (.n .i64 1))), qdg (some 146) true 141 false [0, 1, 2, 3, 4, 5, 6, 7, 8, 9, 10, 11, 12, 13, 14, 15, 16, 17, 18, 19, 20, 21, 22, 23, 24, 25, 26, 27, 28, 29, 30, 31, 32, 33, 34, 35, 36, 37, 38, 39, 40, 41, 42, 43, 44] (.bin .num .neq (.t 143) (.t 145)), qd (some 147) false [0, 1, 2, 3, 4, 5, 6, 7, 8, 9, 10, 11, 12, 13, 14, 15, 16, 17, 18, 19, 20, 21, 22, 23, 24, 25, 26, 27, 28, 29, 30, 31, 32, 33, 34, 35, 36, 37, 38, 39, 40, 41, 42, 43, 44, 45] (.pick (.t 141) (.c (.b true)) (.t 146))]) <|
  .cond (.t 147) (.seq (.reg [q 6 (.mv (.c (.b false)))]) <|
  .ret) <|
  .skip) <|
  .seq (.reg [q 148 (.mv (.t 17)), qs 149 (.bin .num .eql (.t 148) (.c (.n .i64 1))), q 150 (.mv (.t 149)), qg 151 false 150 true (.mv (.t 19)), qg 152 true 150 true (.bin .num .eql (.t 151) (.c (.n .i64 1))), q 153 (.pick (.t 150) (.t 152) (.c (.b false))), q 154 (.mv (.t 153)), qg 155 false 154 true (.mv (.t 21)), qg 156 true 154 true (.bin .num .eql (.t 155) (.c (.n .i64 170))), q 157 (.pick (.t 154) (.t 156) (.c (.b false))), q 6 (.mv (.t 157))]) <|
  .ret

/-- strongroom/strongroomlaw19.RaftLays -/
def p_strongroomlaw19_RaftLays (E : Env) (a0 a1 a2 : V) (s : St) (K : V → St → Prop) : Prop :=
 ACalls E 5 [] s fun v0 s1 =>
 splitP v0 (
 optP (mksV 1 [(.n .i64 1)]) s1 fun v2 s3 =>
 optP (buildV [.n .i64 0, .n .i64 0] []) s3 fun v4 s5 =>
 optP (buildV [.n .i64 0, .n .i64 0, .l 1 [] .nil, .l 1 [] .nil] []) s5 fun v6 s7 =>
 ACalls E 12 [(.n .i64 1), v2, v4, v6, (.l 4 [] .nil), (.n .i64 1)] s7 fun v8 s9 =>
 let k10 : St → Prop := (fun s11 =>
 K (.b false) s11);
 splitP (.b true) (
 optP (binV .ptr .eql v8 (.nilp)) s9 fun v12 s13 =>
 splitP v12 (
 k10 s13) (
 ACalls E 13 [v8] s13 fun v14 s15 =>
 ACalls E 11 [a0, (.n .i64 41)] s15 fun v16 s17 =>
 ∃ I18 : Nat → List V → St → Prop, (∃ n19, I18 n19 [(.n .i64 0)] s17) ∧ ∀ n19, ∀ x21 : V, ∀ s20, I18 n19 [x21] s20 →
 optP (binV .num .lss x21 v16) s20 fun v23 s24 =>
 splitP v23 (
 optP (cnvV .u8 x21) s24 fun v25 s26 =>
 optP (mksV 1 [v25]) s26 fun v27 s28 =>
 optP (buildV [.n .i64 0, .n .i64 0, .l 1 [] .nil, .l 1 [] .nil] [(1, 1, (.n .i64 1)), (2, 1, v27)]) s28 fun v29 s30 =>
 ACalls E 14 [v8, v29] s30 fun v31 s32 =>
 optP (binV .num .add x21 (.n .i64 1)) s32 fun v33 s34 =>
 (a1 : V) = a1 ∧ (a2 : V) = a2 ∧ (v8 : V) = v8 ∧ (v16 : V) = v16 ∧ ∃ n22, n22 < n19 ∧ I18 n22 [v33] s34) (
 ACalls E 8 [v8] s24 fun v35 s36 =>
 optW (allocW [.n .i64 0, .n .i64 0, .n .i64 0, .n .i64 0, .n .i64 0, .n .i64 0, .n .i64 0, .l 1 [] .nil] s36) fun v37 s38 =>
 optW (storeV v37 v35 8 s38) fun v39 s40 =>
 let k41 : St → Prop := (fun s42 =>
 K (.b false) s42);
 optP (faV v37 4 1 false) s40 fun v43 s44 =>
 optP (ldV v43 1 false s44) s44 fun v45 s46 =>
 optP (binV .num .add v16 (.n .i64 1)) s46 fun v47 s48 =>
 optP (binV .num .neq v45 v47) s48 fun v49 s50 =>
 splitP v49 (
 k41 s50) (
 optP (faV v37 6 1 false) s50 fun v51 s52 =>
 optP (ldV v51 1 false s52) s52 fun v53 s54 =>
 optP (binV .num .add v16 (.n .i64 1)) s54 fun v55 s56 =>
 optP (binV .num .neq v53 v55) s56 fun v57 s58 =>
 splitP v57 (
 k41 s58) (
 optP (faV v37 5 1 false) s58 fun v59 s60 =>
 optP (ldV v59 1 false s60) s60 fun v61 s62 =>
 optP (binV .num .neq v61 (.n .i64 1)) s62 fun v63 s64 =>
 splitP v63 (
 k41 s64) (
 optP (binV .num .add v16 (.n .i64 1)) s64 fun v65 s66 =>
 ACalls E 11 [a1, v65] s66 fun v67 s68 =>
 optP (binV .num .add (.n .i64 1) v67) s68 fun v69 s70 =>
 ACalls E 16 [a2] s70 fun v71 s72 =>
 ACalls E 15 [v8, v69, v71] s72 fun v73 s74 =>
 optP (extV v73 0) s74 fun v75 s76 =>
 optP (extV v73 1) s76 fun v77 s78 =>
 optW (allocW [.n .i64 0, .n .i64 0, .b false, .n .i64 0, .n .i64 0, .l 1 [] .nil, .l 1 [] .nil, .n .i64 0, .l 4 [] .nil, .l 11 [] .nil] s78) fun v79 s80 =>
 optW (storeV v79 v75 10 s80) fun v81 s82 =>
 ACalls E 8 [v8] s82 fun v83 s84 =>
 optW (allocW [.n .i64 0, .n .i64 0, .n .i64 0, .n .i64 0, .n .i64 0, .n .i64 0, .n .i64 0, .l 1 [] .nil] s84) fun v85 s86 =>
 optW (storeV v85 v83 8 s86) fun v87 s88 =>
 ACalls E 15 [v8, v69, (.l 1 [] .nil)] s88 fun v89 s90 =>
 optP (extV v89 0) s90 fun v91 s92 =>
 optP (extV v89 1) s92 fun v93 s94 =>
 optW (allocW [.n .i64 0, .n .i64 0, .b false, .n .i64 0, .n .i64 0, .l 1 [] .nil, .l 1 [] .nil, .n .i64 0, .l 4 [] .nil, .l 11 [] .nil] s94) fun v95 s96 =>
 optW (storeV v95 v91 10 s96) fun v97 s98 =>
 optP (binV .num .add v16 (.n .i64 2)) s98 fun v99 s100 =>
 ACalls E 15 [v8, v99, (.l 1 [] .nil)] s100 fun v101 s102 =>
 optP (extV v101 0) s102 fun v103 s104 =>
 optP (extV v101 1) s104 fun v105 s106 =>
 optW (allocW [.n .i64 0, .n .i64 0, .b false, .n .i64 0, .n .i64 0, .l 1 [] .nil, .l 1 [] .nil, .n .i64 0, .l 4 [] .nil, .l 11 [] .nil] s106) fun v107 s108 =>
 optW (storeV v107 v103 10 s108) fun v109 s110 =>
 ACalls E 17 [v8, v69] s110 fun v111 s112 =>
 optP (extV v111 0) s112 fun v113 s114 =>
 optP (extV v111 1) s114 fun v115 s116 =>
 optW (allocW [.n .i64 0, .n .i64 0, .l 1 [] .nil, .l 1 [] .nil] s116) fun v117 s118 =>
 optW (storeV v117 v113 4 s118) fun v119 s120 =>
 let k121 : St → Prop := (fun s122 =>
 K (.b false) s122);
 optP (binV .num .neq v77 (.n .i64 0)) s120 fun v123 s124 =>
 splitP v123 (
 (True) ∧ (True) ∧ ((some (.tup []) : Option V) = some (.tup []) ∧ True) ∧ (True) ∧ (True) ∧ (True) ∧ (True) ∧ k121 s124) (
 optP (faV v79 3 4 true) s124 fun v125 s126 =>
 optP (faV v125 0 1 false) s126 fun v127 s128 =>
 optP (ldV v127 1 false s128) s128 fun v129 s130 =>
 (True) ∧ optP (binV .num .neq v129 v69) s130 fun v131 s132 =>
 splitP v131 (
 (True) ∧ ((some (.tup []) : Option V) = some (.tup []) ∧ True) ∧ (True) ∧ (True) ∧ (True) ∧ (True) ∧ k121 s132) (
 optP (faV v79 3 4 true) s132 fun v133 s134 =>
 optP (faV v133 3 1 false) s134 fun v135 s136 =>
 optP (ldV v135 1 false s136) s136 fun v137 s138 =>
 (True) ∧ optP (b2sV v137) s138 fun v139 s140 =>
 ACalls E 16 [a2] s140 fun v141 s142 =>
 (ldV v135 1 false s142 = some v137 ∧ True) ∧ optP (b2sV v141) s142 fun v143 s144 =>
 optP (binV .str .neq v139 v143) s144 fun v145 s146 =>
 splitP v145 (
 (True) ∧ (True) ∧ (True) ∧ (True) ∧ k121 s146) (
 optP (faV v79 3 4 true) s146 fun v147 s148 =>
 optP (faV v147 2 1 false) s148 fun v149 s150 =>
 optP (ldV v149 1 false s150) s150 fun v151 s152 =>
 (True) ∧ optP (lenV v151) s152 fun v153 s154 =>
 optP (binV .num .neq v153 (.n .i64 1)) s154 fun v155 s156 =>
 splitP v155 (
 (True) ∧ (True) ∧ (True) ∧ k121 s156) (
 optP (faV v85 5 1 false) s156 fun v157 s158 =>
 optP (ldV v157 1 false s158) s158 fun v159 s160 =>
 (True) ∧ optP (binV .num .add v69 (.n .i64 1)) s160 fun v161 s162 =>
 optP (binV .num .neq v159 v161) s162 fun v163 s164 =>
 splitP v163 (
 (True) ∧ (True) ∧ k121 s164) (
 optP (faV v85 6 1 false) s164 fun v165 s166 =>
 optP (ldV v165 1 false s166) s166 fun v167 s168 =>
 (True) ∧ optP (binV .num .add v16 (.n .i64 1)) s168 fun v169 s170 =>
 optP (binV .num .neq v167 v169) s170 fun v171 s172 =>
 splitP v171 (
 (True) ∧ k121 s172) (
 optP (faV v85 4 1 false) s172 fun v173 s174 =>
 optP (ldV v173 1 false s174) s174 fun v175 s176 =>
 (True) ∧ optP (binV .num .add v16 (.n .i64 1)) s176 fun v177 s178 =>
 optP (binV .num .neq v175 v177) s178 fun v179 s180 =>
 splitP v179 (
 k121 s180) (
 let k181 : St → Prop := (fun s182 =>
 K (.b false) s182);
 optP (binV .num .eql v93 (.n .i64 1)) s180 fun v183 s184 =>
 splitP v183 (
 optP (binV .num .eql v105 (.n .i64 1)) s184 fun v185 s186 =>
 splitP v185 (
 optP (binV .num .eql v115 (.n .i64 170)) s186 fun v187 s188 =>
 splitP v187 (
 K (.b true) s188) (
 k181 s188)) (
 k181 s186)) (
 k181 s184)))))))))))))) (
 k10 s9)) (
 optP (mksV 1 [(.n .i64 1)]) s1 fun v189 s190 =>
 optP (buildV [.n .i64 0, .n .i64 0] []) s190 fun v191 s192 =>
 optP (buildV [.n .i64 0, .n .i64 0, .l 1 [] .nil, .l 1 [] .nil] []) s192 fun v193 s194 =>
 ACalls E 12 [(.n .i64 1), v189, v191, v193, (.l 4 [] .nil), (.n .i64 1)] s194 fun v195 s196 =>
 let k197 : St → Prop := (fun s198 =>
 K (.b false) s198);
 splitP (.b false) (
 optP (binV .ptr .eql v195 (.nilp)) s196 fun v199 s200 =>
 splitP v199 (
 k197 s200) (
 ACalls E 13 [v195] s200 fun v201 s202 =>
 ACalls E 11 [a0, (.n .i64 41)] s202 fun v203 s204 =>
 ∃ I205 : Nat → List V → St → Prop, (∃ n206, I205 n206 [(.n .i64 0)] s204) ∧ ∀ n206, ∀ x208 : V, ∀ s207, I205 n206 [x208] s207 →
 optP (binV .num .lss x208 v203) s207 fun v210 s211 =>
 splitP v210 (
 optP (cnvV .u8 x208) s211 fun v212 s213 =>
 optP (mksV 1 [v212]) s213 fun v214 s215 =>
 optP (buildV [.n .i64 0, .n .i64 0, .l 1 [] .nil, .l 1 [] .nil] [(1, 1, (.n .i64 1)), (2, 1, v214)]) s215 fun v216 s217 =>
 ACalls E 14 [v195, v216] s217 fun v218 s219 =>
 optP (binV .num .add x208 (.n .i64 1)) s219 fun v220 s221 =>
 (a1 : V) = a1 ∧ (a2 : V) = a2 ∧ (v195 : V) = v195 ∧ (v203 : V) = v203 ∧ ∃ n209, n209 < n206 ∧ I205 n209 [v220] s221) (
 ACalls E 8 [v195] s211 fun v222 s223 =>
 optW (allocW [.n .i64 0, .n .i64 0, .n .i64 0, .n .i64 0, .n .i64 0, .n .i64 0, .n .i64 0, .l 1 [] .nil] s223) fun v224 s225 =>
 optW (storeV v224 v222 8 s225) fun v226 s227 =>
 let k228 : St → Prop := (fun s229 =>
 K (.b false) s229);
 optP (faV v224 4 1 false) s227 fun v230 s231 =>
 optP (ldV v230 1 false s231) s231 fun v232 s233 =>
 optP (binV .num .add v203 (.n .i64 1)) s233 fun v234 s235 =>
 optP (binV .num .neq v232 v234) s235 fun v236 s237 =>
 splitP v236 (
 k228 s237) (
 optP (faV v224 6 1 false) s237 fun v238 s239 =>
 optP (ldV v238 1 false s239) s239 fun v240 s241 =>
 optP (binV .num .add v203 (.n .i64 1)) s241 fun v242 s243 =>
 optP (binV .num .neq v240 v242) s243 fun v244 s245 =>
 splitP v244 (
 k228 s245) (
 optP (faV v224 5 1 false) s245 fun v246 s247 =>
 optP (ldV v246 1 false s247) s247 fun v248 s249 =>
 optP (binV .num .neq v248 (.n .i64 1)) s249 fun v250 s251 =>
 splitP v250 (
 k228 s251) (
 optP (binV .num .add v203 (.n .i64 1)) s251 fun v252 s253 =>
 ACalls E 11 [a1, v252] s253 fun v254 s255 =>
 optP (binV .num .add (.n .i64 1) v254) s255 fun v256 s257 =>
 ACalls E 16 [a2] s257 fun v258 s259 =>
 ACalls E 15 [v195, v256, v258] s259 fun v260 s261 =>
 optP (extV v260 0) s261 fun v262 s263 =>
 optP (extV v260 1) s263 fun v264 s265 =>
 optW (allocW [.n .i64 0, .n .i64 0, .b false, .n .i64 0, .n .i64 0, .l 1 [] .nil, .l 1 [] .nil, .n .i64 0, .l 4 [] .nil, .l 11 [] .nil] s265) fun v266 s267 =>
 optW (storeV v266 v262 10 s267) fun v268 s269 =>
 ACalls E 8 [v195] s269 fun v270 s271 =>
 optW (allocW [.n .i64 0, .n .i64 0, .n .i64 0, .n .i64 0, .n .i64 0, .n .i64 0, .n .i64 0, .l 1 [] .nil] s271) fun v272 s273 =>
 optW (storeV v272 v270 8 s273) fun v274 s275 =>
 ACalls E 15 [v195, v256, (.l 1 [] .nil)] s275 fun v276 s277 =>
 optP (extV v276 0) s277 fun v278 s279 =>
 optP (extV v276 1) s279 fun v280 s281 =>
 optW (allocW [.n .i64 0, .n .i64 0, .b false, .n .i64 0, .n .i64 0, .l 1 [] .nil, .l 1 [] .nil, .n .i64 0, .l 4 [] .nil, .l 11 [] .nil] s281) fun v282 s283 =>
 optW (storeV v282 v278 10 s283) fun v284 s285 =>
 optP (binV .num .add v203 (.n .i64 2)) s285 fun v286 s287 =>
 ACalls E 15 [v195, v286, (.l 1 [] .nil)] s287 fun v288 s289 =>
 optP (extV v288 0) s289 fun v290 s291 =>
 optP (extV v288 1) s291 fun v292 s293 =>
 optW (allocW [.n .i64 0, .n .i64 0, .b false, .n .i64 0, .n .i64 0, .l 1 [] .nil, .l 1 [] .nil, .n .i64 0, .l 4 [] .nil, .l 11 [] .nil] s293) fun v294 s295 =>
 optW (storeV v294 v290 10 s295) fun v296 s297 =>
 ACalls E 17 [v195, v256] s297 fun v298 s299 =>
 optP (extV v298 0) s299 fun v300 s301 =>
 optP (extV v298 1) s301 fun v302 s303 =>
 optW (allocW [.n .i64 0, .n .i64 0, .l 1 [] .nil, .l 1 [] .nil] s303) fun v304 s305 =>
 optW (storeV v304 v300 4 s305) fun v306 s307 =>
 let k308 : St → Prop := (fun s309 =>
 K (.b false) s309);
 optP (binV .num .neq v264 (.n .i64 0)) s307 fun v310 s311 =>
 splitP v310 (
 (True) ∧ (True) ∧ ((some (.tup []) : Option V) = some (.tup []) ∧ True) ∧ (True) ∧ (True) ∧ (True) ∧ (True) ∧ k308 s311) (
 optP (faV v266 3 4 true) s311 fun v312 s313 =>
 optP (faV v312 0 1 false) s313 fun v314 s315 =>
 optP (ldV v314 1 false s315) s315 fun v316 s317 =>
 (True) ∧ optP (binV .num .neq v316 v256) s317 fun v318 s319 =>
 splitP v318 (
 (True) ∧ ((some (.tup []) : Option V) = some (.tup []) ∧ True) ∧ (True) ∧ (True) ∧ (True) ∧ (True) ∧ k308 s319) (
 optP (faV v266 3 4 true) s319 fun v320 s321 =>
 optP (faV v320 3 1 false) s321 fun v322 s323 =>
 optP (ldV v322 1 false s323) s323 fun v324 s325 =>
 (True) ∧ optP (b2sV v324) s325 fun v326 s327 =>
 ACalls E 16 [a2] s327 fun v328 s329 =>
 (ldV v322 1 false s329 = some v324 ∧ True) ∧ optP (b2sV v328) s329 fun v330 s331 =>
 optP (binV .str .neq v326 v330) s331 fun v332 s333 =>
 splitP v332 (
 (True) ∧ (True) ∧ (True) ∧ (True) ∧ k308 s333) (
 optP (faV v266 3 4 true) s333 fun v334 s335 =>
 optP (faV v334 2 1 false) s335 fun v336 s337 =>
 optP (ldV v336 1 false s337) s337 fun v338 s339 =>
 (True) ∧ optP (lenV v338) s339 fun v340 s341 =>
 optP (binV .num .neq v340 (.n .i64 1)) s341 fun v342 s343 =>
 splitP v342 (
 (True) ∧ (True) ∧ (True) ∧ k308 s343) (
 optP (faV v272 5 1 false) s343 fun v344 s345 =>
 optP (ldV v344 1 false s345) s345 fun v346 s347 =>
 (True) ∧ optP (binV .num .add v256 (.n .i64 1)) s347 fun v348 s349 =>
 optP (binV .num .neq v346 v348) s349 fun v350 s351 =>
 splitP v350 (
 (True) ∧ (True) ∧ k308 s351) (
 optP (faV v272 6 1 false) s351 fun v352 s353 =>
 optP (ldV v352 1 false s353) s353 fun v354 s355 =>
 (True) ∧ optP (binV .num .add v203 (.n .i64 1)) s355 fun v356 s357 =>
 optP (binV .num .neq v354 v356) s357 fun v358 s359 =>
 splitP v358 (
 (True) ∧ k308 s359) (
 optP (faV v272 4 1 false) s359 fun v360 s361 =>
 optP (ldV v360 1 false s361) s361 fun v362 s363 =>
 (True) ∧ optP (binV .num .add v203 (.n .i64 1)) s363 fun v364 s365 =>
 optP (binV .num .neq v362 v364) s365 fun v366 s367 =>
 splitP v366 (
 k308 s367) (
 let k368 : St → Prop := (fun s369 =>
 K (.b false) s369);
 optP (binV .num .eql v280 (.n .i64 1)) s367 fun v370 s371 =>
 splitP v370 (
 optP (binV .num .eql v292 (.n .i64 1)) s371 fun v372 s373 =>
 splitP v372 (
 optP (binV .num .eql v302 (.n .i64 170)) s373 fun v374 s375 =>
 splitP v374 (
 K (.b true) s375) (
 k368 s375)) (
 k368 s373)) (
 k368 s371)))))))))))))) (
 k197 s196))
theorem e_strongroomlaw19_RaftLays (E : Env) (a0 a1 a2 : V) (s : St) (K : V → St → Prop) : axF E c_strongroomlaw19_RaftLays [a0, a1, a2] s K = p_strongroomlaw19_RaftLays E a0 a1 a2 s K := by kernel_rfl
theorem g_strongroomlaw19_RaftLays {E : Env} {a0 a1 a2 : V} {s : St} {K : V → St → Prop} (h : chkF E.P E.m (E.m 4) c_strongroomlaw19_RaftLays = true) (hp : p_strongroomlaw19_RaftLays E a0 a1 a2 s K) : ACalls E 4 [a0, a1, a2] s K :=
  acalls h rfl (by rw [e_strongroomlaw19_RaftLays]; exact hp)

/-- strongroom/strongroomlaw19.shown -/
def c_strongroomlaw19_shown : AFunc := .mk 0 93 [.t 0] <|
  .seq (.reg [q 0 (.mv (.c (.b false)))]) <|
  .seq (.reg [q 6 (.mks 1 [(.c (.n .i64 1))]), q 7 (.build [.n .i64 0, .n .i64 0] []), q 8 (.build [.n .i64 0, .n .i64 0, .l 1 [] .nil, .l 1 [] .nil] []), q 9 (.call 12 [(.c (.n .i64 1)), (.t 6), (.t 7), (.t 8), (.c (.l 4 [] .nil)), (.c (.n .i64 1))]), q 1 (.mv (.t 9))]) <|
  .seq (.reg [q 10 (.mks 1 [(.c (.n .i64 1)), (.c (.n .i64 2)), (.c (.n .i64 3))]), q 11 (.build [.n .i64 0, .n .i64 0] []), q 12 (.build [.n .i64 0, .n .i64 0, .l 1 [] .nil, .l 1 [] .nil] []), q 13 (.call 12 [(.c (.n .i64 1)), (.t 10), (.t 11), (.t 12), (.c (.l 4 [] .nil)), (.c (.n .i64 1))]), q 2 (.mv (.t 13))]) <|
  .seq (.seq (.reg [q 14 (.mv (.t 1)), qs 15 (.bin .ptr .eql (.t 14) (.c (.nilp))), q 16 (.mv (.t 15)), qg 17 false 16 false (.mv (.t 2)), qg 18 true 16 false (.bin .ptr .eql (.t 17) (.c (.nilp))), q 19 (.pick (.t 16) (.c (.b true)) (.t 18))]) <|
  .cond (.t 19) (.seq (.reg [q 0 (.mv (.c (.b false)))]) <|
  .ret) <|
  .skip) <|
  .seq (.reg [q 20 (.mv (.t 1)), q 21 (.call 13 [(.t 20)]), q 3 (.alloc [.n .i64 0, .n .i64 0, .b false, .n .i64 0, .n .i64 0, .l 1 [] .nil, .l 1 [] .nil, .n .i64 0, .l 4 [] .nil, .l 11 [] .nil]), qn (.store (.t 3) (.t 21) 10)]) <|
  .seq (.reg [q 22 (.mv (.t 1)), q 23 (.call 8 [(.t 22)]), q 4 (.alloc [.n .i64 0, .n .i64 0, .n .i64 0, .n .i64 0, .n .i64 0, .n .i64 0, .n .i64 0, .l 1 [] .nil]), qn (.store (.t 4) (.t 23) 8)]) <|
  .seq (.reg [q 24 (.mv (.t 2)), q 25 (.call 13 [(.t 24)]), q 5 (.alloc [.n .i64 0, .n .i64 0, .b false, .n .i64 0, .n .i64 0, .l 1 [] .nil, .l 1 [] .nil, .n .i64 0, .l 4 [] .nil, .l 11 [] .nil]), qn (.store (.t 5) (.t 25) 10)]) <|
  .seq (.reg [q 26 (.fa (.t 3) 2 1 false), qs 27 (.load (.t 26) 1 false), q 28 (.mv (.t 27)), qg 29 false 28 true (.fa (.t 3) 0 2 true), qg 30 false 28 true (.fa (.t 29) 0 1 false), qg 31 false 28 true (.load (.t 30) 1 false), qg 32 true 28 true (.bin .num .eql (.t 31) (.c (.n .i64 1))), q 33 (.pick (.t 28) (.t 32) (.c (.b false))), q 34 (.mv (.t 33)), qg 35 false 34 true (.fa (.t 3) 8 1 false), qg 36 false 34 true (.load (.t 35) 1 false), qg 37 false 34 true (.len (.t 36)), qg 38 true 34 true (.bin .num .eql (.t 37) (.c (.n .i64 1))), q 39 (.pick (.t 34) (.t 38) (.c (.b false))), q 40 (.mv (.t 39)), qg 41 false 40 true (.fa (.t 3) 7 1 false), qg 42 false 40 true (.load (.t 41) 1 false), qg 43 true 40 true (.bin .num .eql (.t 42) (.c (.n .i64 1))), q 44 (.pick (.t 40) (.t 43) (.c (.b false))), q 45 (.mv (.t 44)), qg 46 false 45 true (.fa (.t 4) 0 1 false), qg 47 false 45 true (.load (.t 46) 1 false), qg 48 true 45 true (.bin .num .eql (.t 47) (.c (.n .i64 3))), q 49 (.pick (.t 45) (.t 48) (.c (.b false))), q 50 (.mv (.t 49)), qg 51 false 50 true (.fa (.t 4) 4 1 false), qg 52 false 50 true (.load (.t 51) 1 false), qg 53 true 50 true (.bin .num .eql (.t 52) (.c (.n .i64 1))), q 54 (.pick (.t 50) (.t 53) (.c (.b false))), q 55 (.mv (.t 54)), qg 56 false 55 true (.fa (.t 5) 9 1 false), qg 57 false 55 true (.load (.t 56) 1 false), qg 58 false 55 true (.len (.t 57)), qg 59 true 55 true (.bin .num .eql (.t 58) (.c (.n .i64 2))), q 60 (.pick (.t 55) (.t 59) (.c (.b false))), q 61 (.mv (.t 60)), qg 62 false 61 true (.fa (.t 5) 9 1 false), qg 63 false 61 true (.load (.t 62) 1 false), qg 64 false 61 true (.ias (.t 63) (.c (.n .i64 0)) 11), qg 65 false 61 true (.fa (.t 64) 0 1 false), qg 66 false 61 true (.load (.t 65) 1 false), qg 67 true 61 true (.bin .num .eql (.t 66) (.c (.n .i64 1))), q 68 (.pick (.t 61) (.t 67) (.c (.b false))), q 69 (.mv (.t 68)), qg 70 false 69 true (.fa (.t 5) 9 1 false), qg 71 false 69 true (.load (.t 70) 1 false), qg 72 false 69 true (.ias (.t 71) (.c (.n .i64 0)) 11), qg 73 false 69 true (.fa (.t 72) 2 1 false), qg 74 false 69 true (.load (.t 73) 1 false), qg 75 true 69 true (.bin .num .eql (.t 74) (.c (.n .i64 2))), q 76 (.pick (.t 69) (.t 75) (.c (.b false))), q 77 (.mv (.t 76)), qg 78 false 77 true (.fa (.t 5) 9 1 false), qg 79 false 77 true (.load (.t 78) 1 false), qg 80 false 77 true (.ias (.t 79) (.c (.n .i64 1)) 11), qg 81 false 77 true (.fa (.t 80) 2 1 false), qg 82 false 77 true (.load (.t 81) 1 false), qg 83 true 77 true (.bin .num .eql (.t 82) (.c (.n .i64 3))), q 84 (.pick (.t 77) (.t 83) (.c (.b false))), q 85 (.mv (.t 84)), qg 86 false 85 true (.fa (.t 5) 9 1 false), qg 87 false 85 true (.load (.t 86) 1 false), qg 88 false 85 true (.ias (.t 87) (.c (.n .i64 0)) 11), qg 89 false 85 true (.fa (.t 88) 3 1 false), qg 90 false 85 true (.load (.t 89) 1 false), qg 91 true 85 true (.bin .num .eql (.t 90) (.c (.n .i64 1))), q 92 (.pick (.t 85) (.t 91) (.c (.b false))), q 0 (.mv (.t 92))]) <|
  .ret

/-- strongroom/strongroomlaw19.shown -/
def p_strongroomlaw19_shown (E : Env) (s : St) (K : V → St → Prop) : Prop :=
 optP (mksV 1 [(.n .i64 1)]) s fun v0 s1 =>
 optP (buildV [.n .i64 0, .n .i64 0] []) s1 fun v2 s3 =>
 optP (buildV [.n .i64 0, .n .i64 0, .l 1 [] .nil, .l 1 [] .nil] []) s3 fun v4 s5 =>
 ACalls E 12 [(.n .i64 1), v0, v2, v4, (.l 4 [] .nil), (.n .i64 1)] s5 fun v6 s7 =>
 optP (mksV 1 [(.n .i64 1), (.n .i64 2), (.n .i64 3)]) s7 fun v8 s9 =>
 optP (buildV [.n .i64 0, .n .i64 0] []) s9 fun v10 s11 =>
 optP (buildV [.n .i64 0, .n .i64 0, .l 1 [] .nil, .l 1 [] .nil] []) s11 fun v12 s13 =>
 ACalls E 12 [(.n .i64 1), v8, v10, v12, (.l 4 [] .nil), (.n .i64 1)] s13 fun v14 s15 =>
 let k16 : St → Prop := (fun s17 =>
 K (.b false) s17);
 optP (binV .ptr .eql v6 (.nilp)) s15 fun v18 s19 =>
 splitP v18 (
 k16 s19) (
 optP (binV .ptr .eql v14 (.nilp)) s19 fun v20 s21 =>
 splitP v20 (
 k16 s21) (
 ACalls E 13 [v6] s21 fun v22 s23 =>
 optW (allocW [.n .i64 0, .n .i64 0, .b false, .n .i64 0, .n .i64 0, .l 1 [] .nil, .l 1 [] .nil, .n .i64 0, .l 4 [] .nil, .l 11 [] .nil] s23) fun v24 s25 =>
 optW (storeV v24 v22 10 s25) fun v26 s27 =>
 ACalls E 8 [v6] s27 fun v28 s29 =>
 optW (allocW [.n .i64 0, .n .i64 0, .n .i64 0, .n .i64 0, .n .i64 0, .n .i64 0, .n .i64 0, .l 1 [] .nil] s29) fun v30 s31 =>
 optW (storeV v30 v28 8 s31) fun v32 s33 =>
 ACalls E 13 [v14] s33 fun v34 s35 =>
 optW (allocW [.n .i64 0, .n .i64 0, .b false, .n .i64 0, .n .i64 0, .l 1 [] .nil, .l 1 [] .nil, .n .i64 0, .l 4 [] .nil, .l 11 [] .nil] s35) fun v36 s37 =>
 optW (storeV v36 v34 10 s37) fun v38 s39 =>
 let k40 : St → Prop := (fun s41 =>
 K (.b false) s41);
 optP (faV v24 2 1 false) s39 fun v42 s43 =>
 optP (ldV v42 1 false s43) s43 fun v44 s45 =>
 splitP v44 (
 optP (faV v24 0 2 true) s45 fun v46 s47 =>
 optP (faV v46 0 1 false) s47 fun v48 s49 =>
 optP (ldV v48 1 false s49) s49 fun v50 s51 =>
 optP (binV .num .eql v50 (.n .i64 1)) s51 fun v52 s53 =>
 splitP v52 (
 optP (faV v24 8 1 false) s53 fun v54 s55 =>
 optP (ldV v54 1 false s55) s55 fun v56 s57 =>
 optP (lenV v56) s57 fun v58 s59 =>
 optP (binV .num .eql v58 (.n .i64 1)) s59 fun v60 s61 =>
 splitP v60 (
 optP (faV v24 7 1 false) s61 fun v62 s63 =>
 optP (ldV v62 1 false s63) s63 fun v64 s65 =>
 optP (binV .num .eql v64 (.n .i64 1)) s65 fun v66 s67 =>
 splitP v66 (
 optP (faV v30 0 1 false) s67 fun v68 s69 =>
 optP (ldV v68 1 false s69) s69 fun v70 s71 =>
 optP (binV .num .eql v70 (.n .i64 3)) s71 fun v72 s73 =>
 splitP v72 (
 optP (faV v30 4 1 false) s73 fun v74 s75 =>
 optP (ldV v74 1 false s75) s75 fun v76 s77 =>
 optP (binV .num .eql v76 (.n .i64 1)) s77 fun v78 s79 =>
 splitP v78 (
 optP (faV v36 9 1 false) s79 fun v80 s81 =>
 optP (ldV v80 1 false s81) s81 fun v82 s83 =>
 optP (lenV v82) s83 fun v84 s85 =>
 optP (binV .num .eql v84 (.n .i64 2)) s85 fun v86 s87 =>
 splitP v86 (
 optP (faV v36 9 1 false) s87 fun v88 s89 =>
 optP (ldV v88 1 false s89) s89 fun v90 s91 =>
 optP (iasV v90 (.n .i64 0) 11) s91 fun v92 s93 =>
 optP (faV v92 0 1 false) s93 fun v94 s95 =>
 optP (ldV v94 1 false s95) s95 fun v96 s97 =>
 optP (binV .num .eql v96 (.n .i64 1)) s97 fun v98 s99 =>
 splitP v98 (
 optP (faV v36 9 1 false) s99 fun v100 s101 =>
 optP (ldV v100 1 false s101) s101 fun v102 s103 =>
 optP (iasV v102 (.n .i64 0) 11) s103 fun v104 s105 =>
 optP (faV v104 2 1 false) s105 fun v106 s107 =>
 optP (ldV v106 1 false s107) s107 fun v108 s109 =>
 optP (binV .num .eql v108 (.n .i64 2)) s109 fun v110 s111 =>
 splitP v110 (
 optP (faV v36 9 1 false) s111 fun v112 s113 =>
 optP (ldV v112 1 false s113) s113 fun v114 s115 =>
 optP (iasV v114 (.n .i64 1) 11) s115 fun v116 s117 =>
 optP (faV v116 2 1 false) s117 fun v118 s119 =>
 optP (ldV v118 1 false s119) s119 fun v120 s121 =>
 optP (binV .num .eql v120 (.n .i64 3)) s121 fun v122 s123 =>
 splitP v122 (
 optP (faV v36 9 1 false) s123 fun v124 s125 =>
 optP (ldV v124 1 false s125) s125 fun v126 s127 =>
 optP (iasV v126 (.n .i64 0) 11) s127 fun v128 s129 =>
 optP (faV v128 3 1 false) s129 fun v130 s131 =>
 optP (ldV v130 1 false s131) s131 fun v132 s133 =>
 optP (binV .num .eql v132 (.n .i64 1)) s133 fun v134 s135 =>
 splitP v134 (
 K (.b true) s135) (
 k40 s135)) (
 k40 s123)) (
 k40 s111)) (
 k40 s99)) (
 k40 s87)) (
 k40 s79)) (
 k40 s73)) (
 k40 s67)) (
 k40 s61)) (
 k40 s53)) (
 k40 s45)))
theorem e_strongroomlaw19_shown (E : Env) (s : St) (K : V → St → Prop) : axF E c_strongroomlaw19_shown [] s K = p_strongroomlaw19_shown E  s K := by kernel_rfl
theorem g_strongroomlaw19_shown {E : Env} {s : St} {K : V → St → Prop} (h : chkF E.P E.m (E.m 5) c_strongroomlaw19_shown = true) (hp : p_strongroomlaw19_shown E  s K) : ACalls E 5 [] s K :=
  acalls h rfl (by rw [e_strongroomlaw19_shown]; exact hp)

/-- strongroom/strongroomlaw19.made -/
def c_strongroomlaw19_made : AFunc := .mk 1 19 [.t 2] <|
  .seq (.reg [q 1 (.box (.t 0)), q 2 (.mv (.c (.nilp)))]) <|
  .seq (.draw [qd (some 3) false [] (.fa (.t 1) 0 1 false), qd (some 4) false [0] (.load (.t 3) 1 false), qd (some 5) false [] (.fa (.t 1) 2 1 false), qd (some 6) false [2] (.load (.t 5) 1 false), qd (some 7) false [2, 3] (.call 18 [(.t 6)]), qd (some 8) false [] (.fa (.t 1) 3 2 true), qd (some 9) false [5] (.load (.t 8) 2 true), qd (some 10) false [] (.fa (.t 1) 5 4 true), qd (some 11) false [7] (.load (.t 10) 4 true), qd (some 12) false [2, 3, 4, 7, 8] (.call 19 [(.t 11)]), qd (some 13) false [] (.fa (.t 1) 9 1 false), qd (some 14) false [10] (.load (.t 13) 1 false), qd (some 15) false [2, 3, 4, 7, 8, 9, 10, 11] (.call 20 [(.t 14)]), qd (some 16) false [] (.fa (.t 1) 1 1 false), qd (some 17) false [13] (.load (.t 16) 1 false), qd (some 18) false [0, 1, 2, 3, 4, 5, 6, 7, 8, 9, 10, 11, 12, 13, 14] (.call 12 [(.t 4), (.t 7), (.t 9), (.t 12), (.t 15), (.t 17)]), qd (some 2) false [0, 1, 2, 3, 4, 5, 6, 7, 8, 9, 10, 11, 12, 13, 14, 15] (.mv (.t 18))]) <|
  .ret

/-- strongroom/strongroomlaw19.made -/
def p_strongroomlaw19_made (E : Env) (a0 : V) (s : St) (K : V → St → Prop) : Prop :=
 optW (boxV a0 s) fun v0 s1 =>
 optP (faV v0 0 1 false) s1 fun v2 s3 =>
 optP (ldV v2 1 false s3) s3 fun v4 s5 =>
 (True) ∧ optP (faV v0 2 1 false) s5 fun v6 s7 =>
 optP (ldV v6 1 false s7) s7 fun v8 s9 =>
 (True) ∧ ACalls E 18 [v8] s9 fun v10 s11 =>
 (ldV v2 1 false s11 = some v4 ∧ True) ∧ optP (faV v0 3 2 true) s11 fun v12 s13 =>
 optP (ldV v12 2 true s13) s13 fun v14 s15 =>
 (ldV v12 2 true s9 = some v14 ∧ True) ∧ optP (faV v0 5 4 true) s15 fun v16 s17 =>
 optP (ldV v16 4 true s17) s17 fun v18 s19 =>
 (ldV v16 4 true s9 = some v18 ∧ True) ∧ ACalls E 19 [v18] s19 fun v20 s21 =>
 (ldV v2 1 false s21 = some v4 ∧ ldV v12 2 true s21 = some v14 ∧ True) ∧ optP (faV v0 9 1 false) s21 fun v22 s23 =>
 optP (ldV v22 1 false s23) s23 fun v24 s25 =>
 (ldV v22 1 false s19 = some v24 ∧ ldV v22 1 false s9 = some v24 ∧ True) ∧ ACalls E 20 [v24] s25 fun v26 s27 =>
 (ldV v2 1 false s27 = some v4 ∧ ldV v12 2 true s27 = some v14 ∧ True) ∧ optP (faV v0 1 1 false) s27 fun v28 s29 =>
 optP (ldV v28 1 false s29) s29 fun v30 s31 =>
 (ldV v28 1 false s25 = some v30 ∧ ldV v28 1 false s19 = some v30 ∧ ldV v28 1 false s9 = some v30 ∧ True) ∧ ACalls E 12 [v4, v10, v14, v20, v26, v30] s31 fun v32 s33 =>
 (True) ∧ K v32 s33
theorem e_strongroomlaw19_made (E : Env) (a0 : V) (s : St) (K : V → St → Prop) : axF E c_strongroomlaw19_made [a0] s K = p_strongroomlaw19_made E a0 s K := by kernel_rfl
theorem g_strongroomlaw19_made {E : Env} {a0 : V} {s : St} {K : V → St → Prop} (h : chkF E.P E.m (E.m 6) c_strongroomlaw19_made = true) (hp : p_strongroomlaw19_made E a0 s K) : ACalls E 6 [a0] s K :=
  acalls h rfl (by rw [e_strongroomlaw19_made]; exact hp)

/-- strongroom/strongroomlaw19.lent -/
def c_strongroomlaw19_lent : AFunc := .mk 1 16 [.cell 2 11 true] <|
  .seq (.reg [q 1 (.box (.t 0)), q 2 (.alloc [.n .i64 0, .n .i64 0, .n .i64 0, .n .i64 0, .n .i64 0, .n .i64 0, .n .i64 0, .b false, .l 4 [] .nil, .l 1 [] .nil, .l 1 [] .nil])]) <|
  .seq (.reg [q 3 (.fa (.t 1) 8 1 false), q 4 (.load (.t 3) 1 false), q 5 (.call 20 [(.t 4)]), q 6 (.fa (.t 1) 8 1 false), qn (.store (.t 6) (.t 5) 1)]) <|
  .seq (.reg [q 7 (.fa (.t 1) 9 1 false), q 8 (.load (.t 7) 1 false), q 9 (.call 18 [(.t 8)]), q 10 (.fa (.t 1) 9 1 false), qn (.store (.t 10) (.t 9) 1)]) <|
  .seq (.reg [q 11 (.fa (.t 1) 10 1 false), q 12 (.load (.t 11) 1 false), q 13 (.call 16 [(.t 12)]), q 14 (.fa (.t 1) 10 1 false), qn (.store (.t 14) (.t 13) 1)]) <|
  .seq (.reg [q 15 (.load (.t 1) 11 true), qn (.store (.t 2) (.t 15) 11)]) <|
  .ret

/-- strongroom/strongroomlaw19.lent -/
def p_strongroomlaw19_lent (E : Env) (a0 : V) (s : St) (K : V → St → Prop) : Prop :=
 optW (boxV a0 s) fun v0 s1 =>
 optW (allocW [.n .i64 0, .n .i64 0, .n .i64 0, .n .i64 0, .n .i64 0, .n .i64 0, .n .i64 0, .b false, .l 4 [] .nil, .l 1 [] .nil, .l 1 [] .nil] s1) fun v2 s3 =>
 optP (faV v0 8 1 false) s3 fun v4 s5 =>
 optP (ldV v4 1 false s5) s5 fun v6 s7 =>
 ACalls E 20 [v6] s7 fun v8 s9 =>
 optP (faV v0 8 1 false) s9 fun v10 s11 =>
 optW (storeV v10 v8 1 s11) fun v12 s13 =>
 optP (faV v0 9 1 false) s13 fun v14 s15 =>
 optP (ldV v14 1 false s15) s15 fun v16 s17 =>
 ACalls E 18 [v16] s17 fun v18 s19 =>
 optP (faV v0 9 1 false) s19 fun v20 s21 =>
 optW (storeV v20 v18 1 s21) fun v22 s23 =>
 optP (faV v0 10 1 false) s23 fun v24 s25 =>
 optP (ldV v24 1 false s25) s25 fun v26 s27 =>
 ACalls E 16 [v26] s27 fun v28 s29 =>
 optP (faV v0 10 1 false) s29 fun v30 s31 =>
 optW (storeV v30 v28 1 s31) fun v32 s33 =>
 optP (ldV v0 11 true s33) s33 fun v34 s35 =>
 optW (storeV v2 v34 11 s35) fun v36 s37 =>
 optP (ldV v2 11 true s37) s37 fun v38 _ =>
 K v38 s37
theorem e_strongroomlaw19_lent (E : Env) (a0 : V) (s : St) (K : V → St → Prop) : axF E c_strongroomlaw19_lent [a0] s K = p_strongroomlaw19_lent E a0 s K := by kernel_rfl
theorem g_strongroomlaw19_lent {E : Env} {a0 : V} {s : St} {K : V → St → Prop} (h : chkF E.P E.m (E.m 7) c_strongroomlaw19_lent = true) (hp : p_strongroomlaw19_lent E a0 s K) : ACalls E 7 [a0] s K :=
  acalls h rfl (by rw [e_strongroomlaw19_lent]; exact hp)

/-- (*strongroom/raft.Raft).Stand -/
def c_raft_Raft_Stand : AFunc := .mk 1 39 [.cell 2 8 true] <|
  .seq (.reg [q 2 (.alloc [.n .i64 0, .n .i64 0, .n .i64 0, .n .i64 0, .n .i64 0, .n .i64 0, .n .i64 0, .l 1 [] .nil])]) <|
  .seq (.draw [qd (some 3) false [] (.mv (.t 0)), qd (some 4) false [0] (.nilchk (.t 3)), qd (some 5) false [0, 1] (.fa (.t 4) 3 1 false), qd (some 6) false [0, 1, 2] (.load (.t 5) 1 false), qd (some 7) false [] (.mv (.t 0)), qd (some 8) false [4] (.nilchk (.t 7)), qd (some 9) false [4, 5] (.fa (.t 8) 4 1 false), qd (some 10) false [4, 5, 6] (.load (.t 9) 1 false), qd (some 11) false [] (.mv (.t 0)), qd (some 12) false [8] (.nilchk (.t 11)), qd (some 13) false [8, 9] (.fa (.t 12) 1 2 true), qd (some 14) false [8, 9, 10] (.fa (.t 13) 0 1 false), qd (some 15) false [8, 9, 10, 11] (.load (.t 14) 1 false), qd (some 16) false [] (.mv (.t 0)), qd (some 17) false [13] (.nilchk (.t 16)), qd (some 18) false [13, 14] (.fa (.t 17) 1 2 true), qd (some 19) false [13, 14, 15] (.fa (.t 18) 1 1 false), qd (some 20) false [13, 14, 15, 16] (.load (.t 19) 1 false), qd (some 21) false [] (.mv (.t 0)), qd (some 22) false [18] (.nilchk (.t 21)), qd (some 23) false [18, 19] (.fa (.t 22) 6 1 false), qd (some 24) false [18, 19, 20] (.load (.t 23) 1 false), qd (some 25) false [] (.mv (.t 0)), qd (some 26) false [22] (.nilchk (.t 25)), qd (some 27) false [22, 23] (.fa (.t 26) 5 1 false), qd (some 28) false [22, 23, 24] (.load (.t 27) 1 false), qd (some 29) false [22, 23, 24, 25] (.call 21 [(.t 28)]), qd (some 30) false [] (.mv (.t 0)), qd (some 31) false [27] (.nilchk (.t 30)), qd (some 32) false [27, 28] (.fa (.t 31) 5 1 false), qd (some 33) false [27, 28, 29] (.load (.t 32) 1 false), qd (some 34) false [22, 23, 24, 25, 26, 27, 28, 29, 30] (.call 22 [(.t 33)]), qd (some 35) false [] (.mv (.t 0)), qd (some 36) false [22, 23, 24, 25, 26, 27, 28, 29, 30, 31, 32] (.call 24 [(.t 35)]), qd (some 37) false [22, 23, 24, 25, 26, 27, 28, 29, 30, 31, 32, 33] (.call 23 [(.t 36)]), qd (some 38) false [0, 1, 2, 3, 4, 5, 6, 7, 8, 9, 10, 11, 12, 13, 14, 15, 16, 17, 18, 19, 20, 21, 22, 23, 24, 25, 26, 27, 28, 29, 30, 31, 32, 33, 34] (.build [.n .i64 0, .n .i64 0, .n .i64 0, .n .i64 0, .n .i64 0, .n .i64 0, .n .i64 0, .l 1 [] .nil] [(0, 1, (.t 6)), (1, 1, (.t 10)), (2, 1, (.t 15)), (3, 1, (.t 20)), (4, 1, (.t 24)), (5, 1, (.t 29)), (6, 1, (.t 34)), (7, 1, (.t 37))]), qd none false [0, 1, 2, 3, 4, 5, 6, 7, 8, 9, 10, 11, 12, 13, 14, 15, 16, 17, 18, 19, 20, 21, 22, 23, 24, 25, 26, 27, 28, 29, 30, 31, 32, 33, 34, 35] (.store (.t 2) (.t 38) 8)]) <|
  .ret

/-- (*strongroom/raft.Raft).Stand -/
def p_raft_Raft_Stand (E : Env) (a0 : V) (s : St) (K : V → St → Prop) : Prop :=
 optW (allocW [.n .i64 0, .n .i64 0, .n .i64 0, .n .i64 0, .n .i64 0, .n .i64 0, .n .i64 0, .l 1 [] .nil] s) fun v0 s1 =>
 optP (nilV a0) s1 fun v2 s3 =>
 optP (faV v2 3 1 false) s3 fun v4 s5 =>
 optP (ldV v4 1 false s5) s5 fun v6 s7 =>
 (True) ∧ optP (nilV a0) s7 fun v8 s9 =>
 optP (faV v8 4 1 false) s9 fun v10 s11 =>
 optP (ldV v10 1 false s11) s11 fun v12 s13 =>
 (True) ∧ optP (nilV a0) s13 fun v14 s15 =>
 optP (faV v14 1 2 true) s15 fun v16 s17 =>
 optP (faV v16 0 1 false) s17 fun v18 s19 =>
 optP (ldV v18 1 false s19) s19 fun v20 s21 =>
 (True) ∧ optP (nilV a0) s21 fun v22 s23 =>
 optP (faV v22 1 2 true) s23 fun v24 s25 =>
 optP (faV v24 1 1 false) s25 fun v26 s27 =>
 optP (ldV v26 1 false s27) s27 fun v28 s29 =>
 (True) ∧ optP (nilV a0) s29 fun v30 s31 =>
 optP (faV v30 6 1 false) s31 fun v32 s33 =>
 optP (ldV v32 1 false s33) s33 fun v34 s35 =>
 (True) ∧ optP (nilV a0) s35 fun v36 s37 =>
 optP (faV v36 5 1 false) s37 fun v38 s39 =>
 optP (ldV v38 1 false s39) s39 fun v40 s41 =>
 (True) ∧ ACalls E 21 [v40] s41 fun v42 s43 =>
 (ldV v4 1 false s43 = some v6 ∧ ldV v10 1 false s43 = some v12 ∧ ldV v18 1 false s43 = some v20 ∧ ldV v26 1 false s43 = some v28 ∧ ldV v32 1 false s43 = some v34 ∧ True) ∧ optP (nilV a0) s43 fun v44 s45 =>
 optP (faV v44 5 1 false) s45 fun v46 s47 =>
 optP (ldV v46 1 false s47) s47 fun v48 s49 =>
 (ldV v46 1 false s41 = some v48 ∧ True) ∧ ACalls E 22 [v48] s49 fun v50 s51 =>
 (ldV v4 1 false s51 = some v6 ∧ ldV v10 1 false s51 = some v12 ∧ ldV v18 1 false s51 = some v20 ∧ ldV v26 1 false s51 = some v28 ∧ ldV v32 1 false s51 = some v34 ∧ True) ∧ ACalls E 24 [a0] s51 fun v52 s53 =>
 (ldV v4 1 false s53 = some v6 ∧ ldV v10 1 false s53 = some v12 ∧ ldV v18 1 false s53 = some v20 ∧ ldV v26 1 false s53 = some v28 ∧ ldV v32 1 false s53 = some v34 ∧ True) ∧ ACalls E 23 [v52] s53 fun v54 s55 =>
 (ldV v4 1 false s55 = some v6 ∧ ldV v10 1 false s55 = some v12 ∧ ldV v18 1 false s55 = some v20 ∧ ldV v26 1 false s55 = some v28 ∧ ldV v32 1 false s55 = some v34 ∧ True) ∧ optP (buildV [.n .i64 0, .n .i64 0, .n .i64 0, .n .i64 0, .n .i64 0, .n .i64 0, .n .i64 0, .l 1 [] .nil] [(0, 1, v6), (1, 1, v12), (2, 1, v20), (3, 1, v28), (4, 1, v34), (5, 1, v42), (6, 1, v50), (7, 1, v54)]) s55 fun v56 s57 =>
 optW (storeV v0 v56 8 s57) fun v58 s59 =>
 (True) ∧ optP (ldV v0 8 true s59) s59 fun v60 _ =>
 K v60 s59
theorem e_raft_Raft_Stand (E : Env) (a0 : V) (s : St) (K : V → St → Prop) : axF E c_raft_Raft_Stand [a0] s K = p_raft_Raft_Stand E a0 s K := by kernel_rfl
theorem g_raft_Raft_Stand {E : Env} {a0 : V} {s : St} {K : V → St → Prop} (h : chkF E.P E.m (E.m 8) c_raft_Raft_Stand = true) (hp : p_raft_Raft_Stand E a0 s K) : ACalls E 8 [a0] s K :=
  acalls h rfl (by rw [e_raft_Raft_Stand]; exact hp)

/-- (*strongroom/raft.Raft).Take -/
def c_raft_Raft_Take : AFunc := .mk 2 8 [.cell 4 10 true] <|
  .seq (.reg [q 2 (.box (.t 0)), q 3 (.box (.t 1)), q 4 (.alloc [.n .i64 0, .n .i64 0, .b false, .n .i64 0, .n .i64 0, .l 1 [] .nil, .l 1 [] .nil, .n .i64 0, .l 4 [] .nil, .l 11 [] .nil])]) <|
  .seq (.reg [q 5 (.load (.t 2) 1 false), q 6 (.mkf 26 [] [(.t 2), (.t 3)]), q 7 (.call 25 [(.t 5), (.t 6)]), qn (.store (.t 4) (.t 7) 10)]) <|
  .ret

/-- (*strongroom/raft.Raft).Take -/
def p_raft_Raft_Take (E : Env) (a0 a1 : V) (s : St) (K : V → St → Prop) : Prop :=
 optW (boxV a0 s) fun v0 s1 =>
 optW (boxV a1 s1) fun v2 s3 =>
 optW (allocW [.n .i64 0, .n .i64 0, .b false, .n .i64 0, .n .i64 0, .l 1 [] .nil, .l 1 [] .nil, .n .i64 0, .l 4 [] .nil, .l 11 [] .nil] s3) fun v4 s5 =>
 optP (ldV v0 1 false s5) s5 fun v6 s7 =>
 ACalls E 25 [v6, (.f 26 [] [v0, v2])] s7 fun v8 s9 =>
 optW (storeV v4 v8 10 s9) fun v10 s11 =>
 optP (ldV v4 10 true s11) s11 fun v12 _ =>
 K v12 s11
theorem e_raft_Raft_Take (E : Env) (a0 a1 : V) (s : St) (K : V → St → Prop) : axF E c_raft_Raft_Take [a0, a1] s K = p_raft_Raft_Take E a0 a1 s K := by kernel_rfl
theorem g_raft_Raft_Take {E : Env} {a0 a1 : V} {s : St} {K : V → St → Prop} (h : chkF E.P E.m (E.m 9) c_raft_Raft_Take = true) (hp : p_raft_Raft_Take E a0 a1 s K) : ACalls E 9 [a0, a1] s K :=
  acalls h rfl (by rw [e_raft_Raft_Take]; exact hp)

end Go.Ab
