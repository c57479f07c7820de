/- Parts. No condition. -/
import Derived.KernelRfl
import Derived.Test.YtiaklhkdbokkhaaGreatQGR
set_option linter.all false
namespace Go.Proofs.YtiaklhkdbokkhaaGreat.am
open Go
open Option renaming some->J,none->M
open Bool renaming false->O,true->G
open Go.IntKind renaming i64->Y,u64->U
open Decidable renaming decide->b_
open Go.Proofs.YtiaklhkdbokkhaaGreat.am renaming bm->H
noncomputable section
set_option maxRecDepth 100000
set_option maxHeartbeats 0
def ays:=(li Tryz.func241 rfl).trans (by cbv)
def aw5:=(li Tryz.func242 rfl).trans (by cbv)
def nD:KC:=.dO [1,2,3,7,8,9,10] (.Q (lV [ez 26 10,eG 27 0 3,ds 28 27,cz 29 (rq .quo 28 8),cz 30 (qd .lss 26 29)] (.cond (.t 30) .skip (.dO [1,2,3,7,8,9] (.exit 2)))) (.Q (.block 3 (.ops [ez 33 9,cz 34 (.Qj .shl (.t 33) (.c (.I U 8))),ez 35 2,ez 36 8,eG 37 0 3,ds 38 37,cz 39 (qd .mul 36 38),cz 40 (rq .quo 39 8),ez 41 10,cz 42 (qd .add 40 41),cz 43 (Ee 1 35 42),ds 44 43,cz 45 (q_W U 44),cz 46 (qd .or 34 45),ez 9 46])) (.ops [ez 31 10,cz 32 (rq .add 31 1),ez 10 32])))
def jC:=nD.eq_1
def nE:KC:=.dO [1,2,3,7,8] (.Q (lV [ez 17 8,eG 18 2 3,ds 19 18,cz 20 (Ho 19),cz 21 (qd .lss 17 20)] (.cond (.t 21) .skip (.dO [1,3,7] (.exit 0)))) (.Q (.block 1 (lV [cz 9 (wj (.I U 0))] (.Q (lV [ez 24 8,cz 25 (rq .lss 24 16)] (.cond (.t 25) (lV [cz 10 (wj (.I Y 0))] (.block 2 (.L nD))) (.draw [] [H (dY 47 (dW 17 3)) 0 0,H (ez 48 7) 0 0,H (ez 49 8) 0 0,H (cz 50 (rq .sub 49 2)) 0 0,H (cz 51 (Ee 1 48 50)) 0 0,H (ds 52 51) 0 0,H (eG 53 12 3) 0 0,H (dY 54 (dW 3 53)) 0 0,mI (dY 55 (qA 265 [47,52,54])) 0 1,H (ez 56 7) 0 2,H (ez 57 8) 0 2,H (cz 58 (rq .sub 57 7)) 0 2,H (cz 59 (Ee 1 56 58)) 0 2,H (ds 60 59) 0 2,H (cz 61 (qd .add 55 60)) 1 2,H (dY 62 (dW 17 3)) 0 1,H (ez 63 7) 0 1,H (ez 64 8) 0 1,H (cz 65 (rq .sub 64 15)) 0 1,H (cz 66 (Ee 1 63 65)) 0 1,H (ds 67 66) 0 1,H (eG 68 9 3) 0 1,H (dY 69 (dW 3 68)) 0 1,mI (dY 70 (qA 265 [62,67,69])) 1 2,H (cz 71 (qd .add 61 70)) 2 2,H (ez 72 7) 0 2,H (ez 73 8) 0 2,H (cz 74 (rq .sub 73 16)) 0 2,H (cz 75 (Ee 1 72 74)) 0 2,H (ds 76 75) 0 2,H (cz 77 (qd .add 71 76)) 2 2,H (eG 78 16 3) 0 2,H (ds 79 78) 0 2,H (cz 80 (qd .and 77 79)) 2 2,H (ez 9 80) 2 2]))) (.ops [ez 81 7,ez 82 9,dY 83 (.bsl 1 [.I U 0] 1 [(0,.t 82)]),dY 84 (q_a 1 81 83),ez 7 84])))) (.ops [ez 22 8,cz 23 (rq .add 22 1),ez 8 23])))
def ft:=nE.eq_1
def nF:KC:=.dO [1,3,7,11,12] (.Q (lV [ez 88 12,eG 89 2 3,ds 90 89,cz 91 (Ho 90),cz 92 (qd .lss 88 91)] (.cond (.t 92) .skip (.dO [1,3,11] (.exit 4)))) (.Q (.block 5 (.Q (.draw [] [H (ez 95 11) 0 1,H (cz 96 (.Mq 1 (.t 95) (yF 7))) 0 1,H (ds 97 96) 0 1,H (dY 98 (dW 17 3)) 0 0,H (ez 99 11) 0 0,H (cz 100 (.Mq 1 (.t 99) (yF 4))) 0 0,H (ds 101 100) 0 0,H (eG 102 6 3) 0 0,H (dY 103 (dW 3 102)) 0 0,mI (dY 104 (qA 266 [98,101,103])) 0 1,H (cz 105 (qd .add 97 104)) 1 1,H (ez 106 11) 0 1,H (cz 107 (.Mq 1 (.t 106) (yF 4))) 0 1,H (ds 108 107) 0 1,H (ez 109 11) 0 1,H (cz 110 (.Mq 1 (.t 109) (yF 5))) 0 1,H (ds 111 110) 0 1,H (cz 112 (qd .and 108 111)) 0 1,H (eG 113 16 3) 0 1,H (ds 114 113) 0 1,H (ez 115 11) 0 1,H (cz 116 (.Mq 1 (.t 115) (yF 4))) 0 1,H (ds 117 116) 0 1,H (cz 118 (qd .xor 114 117)) 0 1,H (ez 119 11) 0 1,H (cz 120 (.Mq 1 (.t 119) (yF 6))) 0 1,H (ds 121 120) 0 1,H (cz 122 (qd .and 118 121)) 0 1,H (cz 123 (qd .xor 112 122)) 0 1,H (cz 124 (qd .add 105 123)) 1 1,H (eG 125 2 3) 0 1,H (ds 126 125) 0 1,H (ez 127 12) 0 1,H (cz 128 (Ee 1 126 127)) 0 1,H (ds 129 128) 0 1,H (cz 130 (qd .add 124 129)) 1 1,H (ez 131 7) 0 1,H (ez 132 12) 0 1,H (cz 133 (Ee 1 131 132)) 0 1,H (ds 134 133) 0 1,H (cz 135 (qd .add 130 134)) 1 1,H (ez 13 135) 1 1]) (.Q (.draw [] [H (dY 136 (dW 17 3)) 0 0,H (ez 137 11) 0 0,H (cz 138 (.Mq 1 (.t 137) (yF 0))) 0 0,H (ds 139 138) 0 0,H (eG 140 3 3) 0 0,H (dY 141 (dW 3 140)) 0 0,mI (dY 142 (qA 266 [136,139,141])) 0 1,H (ez 143 11) 0 1,H (cz 144 (.Mq 1 (.t 143) (yF 0))) 0 1,H (ds 145 144) 0 1,H (ez 146 11) 0 1,H (cz 147 (.Mq 1 (.t 146) (yF 1))) 0 1,H (ds 148 147) 0 1,H (cz 149 (qd .and 145 148)) 0 1,H (ez 150 11) 0 1,H (cz 151 (.Mq 1 (.t 150) (yF 0))) 0 1,H (ds 152 151) 0 1,H (ez 153 11) 0 1,H (cz 154 (.Mq 1 (.t 153) (yF 2))) 0 1,H (ds 155 154) 0 1,H (cz 156 (qd .and 152 155)) 0 1,H (cz 157 (qd .xor 149 156)) 0 1,H (ez 158 11) 0 1,H (cz 159 (.Mq 1 (.t 158) (yF 1))) 0 1,H (ds 160 159) 0 1,H (ez 161 11) 0 1,H (cz 162 (.Mq 1 (.t 161) (yF 2))) 0 1,H (ds 163 162) 0 1,H (cz 164 (qd .and 160 163)) 0 1,H (cz 165 (qd .xor 157 164)) 0 1,H (cz 166 (qd .add 142 165)) 1 1,H (ez 14 166) 1 1]) (.draw [] [H (ez 167 13) 0 0,H (ez 168 14) 0 0,H (cz 169 (qd .add 167 168)) 0 0,H (eG 170 16 3) 0 0,H (ds 171 170) 0 0,H (cz 172 (qd .and 169 171)) 0 0,H (ez 173 11) 0 0,H (cz 174 (.Mq 1 (.t 173) (yF 0))) 0 0,H (ds 175 174) 0 0,H (ez 176 11) 0 0,H (cz 177 (.Mq 1 (.t 176) (yF 1))) 0 0,H (ds 178 177) 0 0,H (ez 179 11) 0 0,H (cz 180 (.Mq 1 (.t 179) (yF 2))) 0 0,H (ds 181 180) 0 0,H (ez 182 11) 0 0,H (cz 183 (.Mq 1 (.t 182) (yF 3))) 0 0,H (ds 184 183) 0 0,H (ez 185 13) 0 0,H (cz 186 (qd .add 184 185)) 0 0,H (eG 187 16 3) 0 0,H (ds 188 187) 0 0,H (cz 189 (qd .and 186 188)) 0 0,H (ez 190 11) 0 0,H (cz 191 (.Mq 1 (.t 190) (yF 4))) 0 0,H (ds 192 191) 0 0,H (ez 193 11) 0 0,H (cz 194 (.Mq 1 (.t 193) (yF 5))) 0 0,H (ds 195 194) 0 0,H (ez 196 11) 0 0,H (cz 197 (.Mq 1 (.t 196) (yF 6))) 0 0,H (ds 198 197) 0 0,H (dY 199 (.bsl 1 [.I U 0] 8 [(0,.t 172),(1,.t 175),(2,.t 178),(3,.t 181),(4,.t 189),(5,.t 192),(6,.t 195),(7,.t 198)])) 0 0,H (ez 11 199) 0 0])))) (.ops [ez 93 12,cz 94 (rq .add 93 1),ez 12 94])))
def jD:=nF.eq_1
def nG:KC:=.dO [1,3,11,15,16] (.Q (lV [ez 200 16,cz 201 (rq .lss 200 8)] (.cond (.t 201) .skip (.dO [15] (.exit 6)))) (.Q (.block 7 (.draw [] [H (ez 204 15) 0 0,H (ez 205 1) 0 0,H (ez 206 16) 0 0,H (cz 207 (Ee 1 205 206)) 0 0,H (ds 208 207) 0 0,H (ez 209 11) 0 0,H (ez 210 16) 0 0,H (cz 211 (Ee 1 209 210)) 0 0,H (ds 212 211) 0 0,H (cz 213 (qd .add 208 212)) 0 0,H (eG 214 16 3) 0 0,H (ds 215 214) 0 0,H (cz 216 (qd .and 213 215)) 0 0,H (dY 217 (.bsl 1 [.I U 0] 1 [(0,.t 216)])) 0 0,mI (dY 218 (q_a 1 204 217)) 0 1,H (ez 15 218) 1 1])) (.ops [ez 202 16,cz 203 (rq .add 202 1),ez 16 203])))
def jE:=nG.eq_1
def ayt:ax 243=J ⟨220,lV [dY 3 (YU 17 0),cz 6 (wj .aw)] (lV [cz 7 (wj .aw)] (.Q (lV [cz 8 (wj (.I Y 0))] (.block 0 (.L nE))) (lV [dY 85 (.bsl 1 [.I U 0] 0 []),ez 86 1,dY 87 (q_a 1 85 86),ez 11 87] (.Q (lV [cz 12 (wj (.I Y 0))] (.block 4 (.L nF))) (lV [cz 15 (wj .aw)] (.Q (lV [cz 16 (wj (.I Y 0))] (.block 6 (.L nG))) (lV [ez 219 15,ez 6 219] (Il [6])))))))),[.tmp 6]⟩:=(li Tryz.func243 rfl).trans (by kernel_rfl)
def ayz:=(li Tryz.func244 rfl).trans (by cbv)
def aht:=(li Tryz.func245 rfl).trans (by cbv)
def gU:KC:=kP (ax 245) 0
def ec:=(by have h:=(dP aht 0).trans (by cbv);exact h:gU=_)
def ayA:=(by have h:=aht;rewrite [<-ec]at h;exact h:ax 245=_)
def H6:=(li Tryz.func246 rfl).trans (by cbv)
def DG:List KO:=yb (ax 246) 1
def AF:=(by have h:=(nd H6 1).trans (by cbv);exact h:DG=_)
def DH:List KO:=yb (ax 246) 4
def AG:=(by have h:=(nd H6 4).trans (by cbv);exact h:DH=_)
def DI:List KO:=yb (ax 246) 8
def AH:=(by have h:=(nd H6 8).trans (by cbv);exact h:DI=_)
def DJ:List KO:=yb (ax 246) 10
def AI:=(by have h:=(nd H6 10).trans (by cbv);exact h:DJ=_)
def DK:List KO:=yb (ax 246) 12
def AJ:=(by have h:=(nd H6 12).trans (by cbv);exact h:DK=_)
def DL:List KO:=yb (ax 246) 14
def AK:=(by have h:=(nd H6 14).trans (by cbv);exact h:DL=_)
def ayB:=(by have h:=H6;rewrite [<-AF,<-AG,<-AH,<-AI,<-AJ,<-AK]at h;exact h:ax 246=_)
def ayC:=(li Tryz.func247 rfl).trans (by cbv)
def ayD:=(li Tryz.func248 rfl).trans (by cbv)
def ayE:=(li Tryz.func249 rfl).trans (by cbv)
def ahu:=(li Tryz.func250 rfl).trans (by cbv)
def KQ:List KO:=yb (ax 250) 1
def z8:=(by have h:=(nd ahu 1).trans (by cbv);exact h:KQ=_)
def ayF:=(by have h:=ahu;rewrite [<-z8]at h;exact h:ax 250=_)
def ayG:=(li Tryz.func251 rfl).trans (by cbv)
def ahv:=(li Tryz.func252 rfl).trans (by cbv)
def Jq:List KO:=yb (ax 252) 1
def yJ:=(by have h:=(nd ahv 1).trans (by cbv);exact h:Jq=_)
def aw2:=(by have h:=ahv;rewrite [<-yJ]at h;exact h:ax 252=_)
def awX:=(li Tryz.func253 rfl).trans (by cbv)
def ahw:=(li Tryz.func254 rfl).trans (by cbv)
def KS:List KO:=yb (ax 254) 1
def qs:=(by have h:=(nd ahw 1).trans (by cbv);exact h:KS=_)
def aoh:=(by have h:=ahw;rewrite [<-qs]at h;exact h:ax 254=_)
def ayH:=(li Tryz.func255 rfl).trans (by cbv)
def ayI:=(li Tryz.func256 rfl).trans (by cbv)
def ayJ:=(li Tryz.func257 rfl).trans (by cbv)
def ayK:=(li Tryz.func258 rfl).trans (by cbv)
def aqV:=(li Tryz.func259 rfl).trans (by cbv)
def ayL:=(by have h:=aqV;rewrite [<-fW.eq_1]at h;exact h:ax 259=_)
def ahx:=(li Tryz.func260 rfl).trans (by cbv)
def MI:List KO:=yb (ax 260) 2
def AL:=(by have h:=(nd ahx 2).trans (by cbv);exact h:MI=_)
def ayM:=(by have h:=ahx;rewrite [<-AL]at h;exact h:ax 260=_)
def ahy:=(li Tryz.func261 rfl).trans (by cbv)
def AM:KC:=kP (ax 261) 0
def lG:=(by have h:=(dP ahy 0).trans (by cbv);exact h:AM=_)
def ayN:=(by have h:=ahy;rewrite [<-lG]at h;exact h:ax 261=_)
def ayO:=(li Tryz.func262 rfl).trans (by cbv)
def ayP:=(li Tryz.func263 rfl).trans (by cbv)
def v_:List KD:=[H (eG 48 3 2) 0 0,H (ds 49 48) 0 0,H (ez 50 6) 0 0,H (cz 51 (Ee 1 49 50)) 0 0,H (ds 52 51) 0 0,H (eG 53 1 3) 0 0,H (ds 54 53) 0 0,H (ez 55 6) 0 0,H (cz 56 (Ee 1 54 55)) 0 0,H (ds 57 56) 0 0,H (cz 58 (.Qk .neq (.t 52) (.t 57))) 0 0,H (ez 59 58) 0 0,H (pI 60 59 (Ag 5 2)) 0 0,H (DU 61 59 (BA 60)) 0 0,H (Ms 62 59 6) 0 0,H (pI 63 59 (Ee 6 61 62)) 0 0,H (DU 64 59 (dW 6 63)) 0 0,H (pI 65 59 (Ag 2 3)) 0 0,H (DU 66 59 (BA 65)) 0 0,H (Ms 67 59 6) 0 0,H (pI 68 59 (Ee 3 66 67)) 0 0,H (DU 69 59 (dW 3 68)) 0 0,mI (DU 70 59 (qA 264 [64,69])) 0 1,H (pI 71 59 (q_U 70)) 1 1,H (cz 72 (Mt 59 71)) 1 1]
def pT:=v_.eq_1
def n_:KC:=.dO [2,3,5] (.Q (lV [ez 16 5,eG 17 1 3,ds 18 17,cz 19 (Ho 18),cz 20 (qd .lss 16 19)] (.cond (.t 20) .skip (.dO [] (.exit 0)))) (.Q (.block 1 (.Q (.draw [] [H (eG 23 1 3) 0 0,H (ds 24 23) 0 0,H (ez 25 5) 0 0,H (cz 26 (Ee 1 24 25)) 0 0,H (ds 27 26) 0 0,H (eG 28 2 2) 0 0,H (ds 29 28) 0 0,H (cz 30 (.Qk .eql (.t 27) (.t 29))) 0 0]) (ux 30 (lV [cz 4 (wj (.B true))] (Il [4]))))) (.ops [ez 21 5,cz 22 (rq .add 21 1),ez 5 22])))
def kF:=n_.eq_1
def q_:KC:=.dO [2,3,6] (.Q (lV [ez 41 6,eG 42 3 2,ds 43 42,cz 44 (Ho 43),cz 45 (qd .lss 41 44)] (.cond (.t 45) .skip (.dO [2,3] (.exit 2)))) (.Q (.block 3 (.Q (.draw [] v_) (.dO [2,3,6,72] (ux 72 (lV [cz 4 (wj (.B false))] (Il [4])))))) (.ops [ez 46 6,cz 47 (rq .add 46 1),ez 6 47])))
def kG:=q_.eq_1
def rf:KC:=.dO [2,3,7] (.Q (lV [ez 76 7,eG 77 5 2,ds 78 77,cz 79 (Ho 78),cz 80 (qd .lss 76 79)] (.cond (.t 80) .skip (.dO [] (.exit 4)))) (.Q (.block 5 (.Q (.draw [] [H (eG 83 5 2) 0 0,H (ds 84 83) 0 0,H (ez 85 7) 0 0,H (cz 86 (Ee 6 84 85)) 0 0,H (dY 87 (dW 6 86)) 0 0,H (eG 88 2 3) 0 0,H (ds 89 88) 0 0,H (cz 90 (.Mq 3 (.t 89) (yF 0))) 0 0,H (dY 91 (dW 3 90)) 0 0,mI (dY 92 (qA 264 [87,91])) 0 1,H (cz 93 (q_U 92)) 1 1]) (ux 93 (lV [cz 4 (wj (.B false))] (Il [4]))))) (.ops [ez 81 7,cz 82 (rq .add 81 1),ez 7 82])))
def kH:=rf.eq_1
def ayQ:ax 264=some ⟨94,lV [dY 2 (YU 6 0),dY 3 (YU 3 1),cz 4 (wj (.B false))] (.Q (lV [eG 8 0 2,ds 9 8,eG 10 0 3,ds 11 10,cz 12 (qd .neq 9 11)] (ux 12 (lV [cz 4 (wj (.B false))] (Il [4])))) (.Q (lV [eG 13 0 2,ds 14 13,cz 15 (rq .eql 14 4)] (ux 15 (.Q (lV [cz 5 (wj (.I .i64 0))] (.block 0 (.L n_))) (lV [cz 4 (wj (.B false))] (Il [4]))))) (.Q (lV [eG 31 0 2,ds 32 31,cz 33 (rq .eql 32 5)] (ux 33 (.Q (lV [eG 34 3 2,ds 35 34,cz 36 (Ho 35),eG 37 1 3,ds 38 37,cz 39 (Ho 38),cz 40 (qd .neq 36 39)] (ux 40 (lV [cz 4 (wj (.B false))] (Il [4])))) (lV [cz 6 (wj (.I .i64 0))] (.block 2 (.L q_)))))) (.Q (lV [eG 73 0 2,ds 74 73,cz 75 (rq .eql 74 6)] (ux 75 (lV [cz 7 (wj (.I .i64 0))] (.block 4 (.L rf))))) (lV [cz 4 (wj (.B true))] (Il [4])))))),[.tmp 4]⟩:=(li Tryz.func264 rfl).trans (by kernel_rfl)
def ayR:=(li Tryz.func265 rfl).trans (by cbv)
def ayS:=(li Tryz.func266 rfl).trans (by cbv)
def ayT:=(li Tryz.func267 rfl).trans (by cbv)
def ahz:=(li Tryz.func268 rfl).trans (by cbv)
def gG:KC:=kP (ax 268) 0
def dU:=(by have h:=(dP ahz 0).trans (by cbv);exact h:gG=_)
def ayU:=(by have h:=ahz;rewrite [<-dU]at h;exact h:ax 268=_)
def ahA:=(li Tryz.func269 rfl).trans (by cbv)
def iG:KC:=kP (ax 269) 0
def fC:=(by have h:=(dP ahA 0).trans (by cbv);exact h:iG=_)
def ayV:=(by have h:=ahA;rewrite [<-fC]at h;exact h:ax 269=_)
def ahB:=(li Tryz.func270 rfl).trans (by cbv)
def gV:KC:=kP (ax 270) 0
def ee:=(by have h:=(dP ahB 0).trans (by cbv);exact h:gV=_)
def ayW:=(by have h:=ahB;rewrite [<-ee]at h;exact h:ax 270=_)
def Z1:=(li Tryz.func271 rfl).trans (by cbv)
def KT:List KO:=yb (ax 271) 7
def nU:=(by have h:=(nd Z1 7).trans (by cbv);exact h:KT=_)
def KU:List KO:=yb (ax 271) 9
def qt:=(by have h:=(nd Z1 9).trans (by cbv);exact h:KU=_)
def ayX:=(by have h:=Z1;rewrite [<-nU,<-qt]at h;exact h:ax 271=_)
def ayY:=(li Tryz.func272 rfl).trans (by cbv)
def ayZ:=(li Tryz.func273 rfl).trans (by cbv)
def ay0:=(li Tryz.func274 rfl).trans (by cbv)
def ahC:=(li Tryz.func275 rfl).trans (by cbv)
def tY:KC:=kP (ax 275) 0
def gZ:=(by have h:=(dP ahC 0).trans (by cbv);exact h:tY=_)
def ay1:=(by have h:=ahC;rewrite [<-gZ]at h;exact h:ax 275=_)
def ahD:=(li Tryz.func276 rfl).trans (by cbv)
def tZ:KC:=kP (ax 276) 0
def g7:=(by have h:=(dP ahD 0).trans (by cbv);exact h:tZ=_)
def ay2:=(by have h:=ahD;rewrite [<-g7]at h;exact h:ax 276=_)
def ahE:=(li Tryz.func277 rfl).trans (by cbv)
def nV:KC:=kP (ax 277) 0
def dZ:=(by have h:=(dP ahE 0).trans (by cbv);exact h:nV=_)
def ay3:=(by have h:=ahE;rewrite [<-dZ]at h;exact h:ax 277=_)
def ahF:=(li Tryz.func278 rfl).trans (by cbv)
def va:KC:=kP (ax 278) 0
def iy:=(by have h:=(dP ahF 0).trans (by cbv);exact h:va=_)
def ay4:=(by have h:=ahF;rewrite [<-iy]at h;exact h:ax 278=_)
def qu:List KO:=[eG 7 0 1,ds 8 7,cz 9 (rq .lss 8 1),ez 10 9,pI 11 10 (Ag 0 1),DU 12 10 (BA 11),pI 13 10 (rq .gtr 12 6),cz 14 (Mt 10 13),ez 15 14,pI 16 15 (Ag 1 1),DU 17 15 (BA 16),pI 18 15 (Ho 17),pI 19 15 (rq .gtr 18 8),cz 20 (Mt 15 19),ez 21 20,pI 22 21 (Ag 0 1),DU 23 21 (BA 22),pI 24 21 (rq .neq 23 4),Ms 25 21 24,Cd 26 25 (Ag 0 1),RF 27 25 (BA 26),Cd 28 25 (rq .neq 27 5),pI 29 21 (YT 25 28),Ms 30 21 29,Cd 31 30 (Ag 1 1),RF 32 30 (BA 31),Cd 33 30 (Ho 32),Cd 34 30 (rq .gtr 33 0),pI 35 21 (YT 30 34),cz 36 (Mt 21 35),ez 37 36,pI 38 37 (Ag 0 1),DU 39 37 (BA 38),pI 40 37 (rq .eql 39 4),Ms 41 37 40,Cd 42 41 (Ag 1 1),RF 43 41 (BA 42),Cd 44 41 (Ho 43),Cd 45 41 (rq .eql 44 0),pI 46 37 (YT 41 45),cz 47 (Mt 37 46)]
def Bf:=qu.eq_1
def ve:List KD:=[H (eG 81 1 1) 0 0,H (ds 82 81) 0 0,H (ez 83 4) 0 0,H (cz 84 (Ee 1 82 83)) 0 0,H (ds 85 84) 0 0,H (eG 86 1 1) 0 0,H (ds 87 86) 0 0,H (ez 88 5) 0 0,H (cz 89 (Ee 1 87 88)) 0 0,H (ds 90 89) 0 0,H (cz 91 (.Qk .eql (.t 85) (.t 90))) 0 0,H (ez 92 91) 0 0,H (pI 93 92 (Ag 0 1)) 0 0,H (DU 94 92 (BA 93)) 0 0,H (pI 95 92 (rq .eql 94 5)) 0 0,H (Ms 96 92 95) 0 0,H (Cd 97 96 (Ag 1 1)) 0 0,H (RF 98 96 (BA 97)) 0 0,H (q_x 99 96 4) 0 0,H (Cd 100 96 (Ee 1 98 99)) 0 0,H (RF 101 96 (BA 100)) 0 0,H (Cd 102 96 (Ag 1 1)) 0 0,H (RF 103 96 (BA 102)) 0 0,H (q_x 104 96 5) 0 0,H (Cd 105 96 (Ee 1 103 104)) 0 0,H (RF 106 96 (BA 105)) 0 0,H (Cd 107 96 (.Qk .lss (.t 101) (.t 106))) 0 0,H (pI 108 92 (YT 96 107)) 0 0,H (cz 109 (Mt 92 108)) 0 0]
def mG:=ve.eq_1
def qw:KC:=.dO [1,4,5] (.Q (lV [ez 76 5,ez 77 4,cz 78 (qd .lss 76 77)] (.cond (.t 78) .skip (.dO [1,4] (.exit 2)))) (.Q (.block 3 (.Q (.draw [] ve) (.dO [1,4,5,109] (ux 109 (lV [cz 2 (wj (.B false))] (Il [2])))))) (.ops [ez 79 5,cz 80 (rq .add 79 1),ez 5 80])))
def iz:=qw.eq_1
def nH:KC:=.dO [1,4] (.Q (lV [ez 62 4,eG 63 1 1,ds 64 63,cz 65 (Ho 64),cz 66 (qd .lss 62 65)] (.cond (.t 66) .skip (.dO [1] (.exit 0)))) (.Q (.block 1 (.Q (lV [eG 69 1 1,ds 70 69,ez 71 4,cz 72 (Ee 1 70 71),ds 73 72,dY 74 (qA 238 [73]),cz 75 (q_U 74)] (ux 75 (lV [cz 2 (wj (.B false))] (Il [2])))) (lV [cz 5 (wj (.I .i64 0))] (.block 2 (.L qw))))) (.ops [ez 67 4,cz 68 (rq .add 67 1),ez 4 68])))
def dp:=nH.eq_1
def qx:KC:=.dO [1,6] (.Q (lV [ez 110 6,eG 111 2 1,ds 112 111,cz 113 (Ho 112),cz 114 (qd .lss 110 113)] (.cond (.t 114) .skip (.dO [] (.exit 4)))) (.Q (.block 5 (lV [eG 117 2 1,ds 118 117,ez 119 6,cz 120 (Ee 3 118 119),dY 121 (dW 3 120),dY 122 (qA 279 [121]),cz 123 (q_U 122)] (ux 123 (lV [cz 2 (wj (.B false))] (Il [2]))))) (.ops [ez 115 6,cz 116 (rq .add 115 1),ez 6 116])))
def eV:=qx.eq_1
def ay5:ax 279=some ⟨124,lV [dY 1 (YU 3 0),cz 2 (wj (.B false))] (.Q (lV qu (.dO [1,47] (ux 47 (lV [cz 2 (wj (.B false))] (Il [2]))))) (lV [cz 3 (wj (.I .i64 0))] (.Q (lV [eG 48 0 1,ds 49 48,cz 50 (rq .eql 49 5)] (ux 50 (.ops [eG 51 1 1,ds 52 51,cz 53 (Ho 52),ez 3 53]))) (.Q (lV [eG 54 0 1,ds 55 54,cz 56 (rq .eql 55 6)] (ux 56 (.ops [cz 3 (wj (.I .i64 1))]))) (.Q (lV [eG 57 2 1,ds 58 57,cz 59 (Ho 58),ez 60 3,cz 61 (qd .neq 59 60)] (ux 61 (lV [cz 2 (wj (.B false))] (Il [2])))) (.Q (lV [cz 4 (wj (.I .i64 0))] (.block 0 (.L nH))) (.Q (lV [cz 6 (wj (.I .i64 0))] (.block 4 (.L qx))) (lV [cz 2 (wj (.B true))] (Il [2]))))))))),[.tmp 2]⟩:=(li Tryz.func279 rfl).trans (by kernel_rfl)
def ay6:=(li Tryz.func280 rfl).trans (by cbv)
def ay7:=(li Tryz.func281 rfl).trans (by cbv)
def ahG:=(li Tryz.func282 rfl).trans (by cbv)
def gp:KC:=kP (ax 282) 0
def dJ:=(by have h:=(dP ahG 0).trans (by cbv);exact h:gp=_)
def ay8:=(by have h:=ahG;rewrite [<-dJ]at h;exact h:ax 282=_)
def ahH:=(li Tryz.func283 rfl).trans (by cbv)
def Hd:List KO:=yb (ax 283) 1
def wa:=(by have h:=(nd ahH 1).trans (by cbv);exact h:Hd=_)
def ay9:=(by have h:=ahH;rewrite [<-wa]at h;exact h:ax 283=_)
def ay_:=(li Tryz.func284 rfl).trans (by cbv)
def aza:=(li Tryz.func285 rfl).trans (by cbv)
def azb:=(li Tryz.func286 rfl).trans (by cbv)
def ahI:=(li Tryz.func287 rfl).trans (by cbv)
def iM:KC:=kP (ax 287) 0
def eK:=(by have h:=(dP ahI 0).trans (by cbv);exact h:iM=_)
def azc:=(by have h:=ahI;rewrite [<-eK]at h;exact h:ax 287=_)
end
noncomputable section
@[simp low]def aBN(f:Nat):uj f=(b_ (f=157)):=by rw[LX];simp[uj];try omega
@[simp low]def aBO(f:Nat):ae9 f=(b_ (f=37)):=by rw[LX];simp[ae9];try omega
end
end Go.Proofs.YtiaklhkdbokkhaaGreat.am
