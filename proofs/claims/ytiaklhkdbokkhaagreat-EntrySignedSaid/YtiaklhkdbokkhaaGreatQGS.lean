/- Parts. No condition. -/
import Derived.KernelRfl
import Derived.Test.YtiaklhkdbokkhaaGreatQGR
set_option linter.all false
namespace Go.Proofs.YtiaklhkdbokkhaaGreat.am
open Go
open Option renaming some->J,none->M
open Bool renaming false->O,true->G
open Go.IntKind renaming i64->Y,u64->U
open Decidable renaming decide->b_
open Go renaming FuncId->eS
open Go.Proofs.YtiaklhkdbokkhaaGreat.am renaming bm->H
noncomputable section
set_option maxRecDepth 100000
set_option maxHeartbeats 0
def ayt:=(li Tryz.func241 rfl).trans (by cbv)
def aw6:=(li Tryz.func242 rfl).trans (by cbv)
def nE:KC:=.dO [1,2,3,7,8,9,10] (.Q (lW [ez 26 10,eG 27 0 3,dt 28 27,cz 29 (rz .quo 28 8),cz 30 (qe .lss 26 29)] (.cond (.t 30) .skip (.dO [1,2,3,7,8,9] (.exit 2)))) (.Q (.block 3 (.ops [ez 33 9,cz 34 (.Qk .shl (.t 33) (.c (.I U 8))),ez 35 2,ez 36 8,eG 37 0 3,dt 38 37,cz 39 (qe .mul 36 38),cz 40 (rz .quo 39 8),ez 41 10,cz 42 (qe .add 40 41),cz 43 (Ef 1 35 42),dt 44 43,cz 45 (q_W U 44),cz 46 (qe .or 34 45),ez 9 46])) (.ops [ez 31 10,cz 32 (rz .add 31 1),ez 10 32])))
def jD:=nE.eq_1
def nF:KC:=.dO [1,2,3,7,8] (.Q (lW [ez 17 8,eG 18 2 3,dt 19 18,cz 20 (Hp 19),cz 21 (qe .lss 17 20)] (.cond (.t 21) .skip (.dO [1,3,7] (.exit 0)))) (.Q (.block 1 (lW [cz 9 (wm (.I U 0))] (.Q (lW [ez 24 8,cz 25 (rz .lss 24 16)] (.cond (.t 25) (lW [cz 10 (wm (.I Y 0))] (.block 2 (.L nE))) (.draw [] [H (dY 47 (dW 17 3)) 0 0,H (ez 48 7) 0 0,H (ez 49 8) 0 0,H (cz 50 (rz .sub 49 2)) 0 0,H (cz 51 (Ef 1 48 50)) 0 0,H (dt 52 51) 0 0,H (eG 53 12 3) 0 0,H (dY 54 (dW 3 53)) 0 0,mJ (dY 55 (qB 265 [47,52,54])) 0 1,H (ez 56 7) 0 2,H (ez 57 8) 0 2,H (cz 58 (rz .sub 57 7)) 0 2,H (cz 59 (Ef 1 56 58)) 0 2,H (dt 60 59) 0 2,H (cz 61 (qe .add 55 60)) 1 2,H (dY 62 (dW 17 3)) 0 1,H (ez 63 7) 0 1,H (ez 64 8) 0 1,H (cz 65 (rz .sub 64 15)) 0 1,H (cz 66 (Ef 1 63 65)) 0 1,H (dt 67 66) 0 1,H (eG 68 9 3) 0 1,H (dY 69 (dW 3 68)) 0 1,mJ (dY 70 (qB 265 [62,67,69])) 1 2,H (cz 71 (qe .add 61 70)) 2 2,H (ez 72 7) 0 2,H (ez 73 8) 0 2,H (cz 74 (rz .sub 73 16)) 0 2,H (cz 75 (Ef 1 72 74)) 0 2,H (dt 76 75) 0 2,H (cz 77 (qe .add 71 76)) 2 2,H (eG 78 16 3) 0 2,H (dt 79 78) 0 2,H (cz 80 (qe .and 77 79)) 2 2,H (ez 9 80) 2 2]))) (.ops [ez 81 7,ez 82 9,dY 83 (.bsl 1 [.I U 0] 1 [(0,.t 82)]),dY 84 (q_a 1 81 83),ez 7 84])))) (.ops [ez 22 8,cz 23 (rz .add 22 1),ez 8 23])))
def fC:=nF.eq_1
def nG:KC:=.dO [1,3,7,11,12] (.Q (lW [ez 88 12,eG 89 2 3,dt 90 89,cz 91 (Hp 90),cz 92 (qe .lss 88 91)] (.cond (.t 92) .skip (.dO [1,3,11] (.exit 4)))) (.Q (.block 5 (.Q (.draw [] [H (ez 95 11) 0 1,H (cz 96 (.Mr 1 (.t 95) (yG 7))) 0 1,H (dt 97 96) 0 1,H (dY 98 (dW 17 3)) 0 0,H (ez 99 11) 0 0,H (cz 100 (.Mr 1 (.t 99) (yG 4))) 0 0,H (dt 101 100) 0 0,H (eG 102 6 3) 0 0,H (dY 103 (dW 3 102)) 0 0,mJ (dY 104 (qB 266 [98,101,103])) 0 1,H (cz 105 (qe .add 97 104)) 1 1,H (ez 106 11) 0 1,H (cz 107 (.Mr 1 (.t 106) (yG 4))) 0 1,H (dt 108 107) 0 1,H (ez 109 11) 0 1,H (cz 110 (.Mr 1 (.t 109) (yG 5))) 0 1,H (dt 111 110) 0 1,H (cz 112 (qe .and 108 111)) 0 1,H (eG 113 16 3) 0 1,H (dt 114 113) 0 1,H (ez 115 11) 0 1,H (cz 116 (.Mr 1 (.t 115) (yG 4))) 0 1,H (dt 117 116) 0 1,H (cz 118 (qe .xor 114 117)) 0 1,H (ez 119 11) 0 1,H (cz 120 (.Mr 1 (.t 119) (yG 6))) 0 1,H (dt 121 120) 0 1,H (cz 122 (qe .and 118 121)) 0 1,H (cz 123 (qe .xor 112 122)) 0 1,H (cz 124 (qe .add 105 123)) 1 1,H (eG 125 2 3) 0 1,H (dt 126 125) 0 1,H (ez 127 12) 0 1,H (cz 128 (Ef 1 126 127)) 0 1,H (dt 129 128) 0 1,H (cz 130 (qe .add 124 129)) 1 1,H (ez 131 7) 0 1,H (ez 132 12) 0 1,H (cz 133 (Ef 1 131 132)) 0 1,H (dt 134 133) 0 1,H (cz 135 (qe .add 130 134)) 1 1,H (ez 13 135) 1 1]) (.Q (.draw [] [H (dY 136 (dW 17 3)) 0 0,H (ez 137 11) 0 0,H (cz 138 (.Mr 1 (.t 137) (yG 0))) 0 0,H (dt 139 138) 0 0,H (eG 140 3 3) 0 0,H (dY 141 (dW 3 140)) 0 0,mJ (dY 142 (qB 266 [136,139,141])) 0 1,H (ez 143 11) 0 1,H (cz 144 (.Mr 1 (.t 143) (yG 0))) 0 1,H (dt 145 144) 0 1,H (ez 146 11) 0 1,H (cz 147 (.Mr 1 (.t 146) (yG 1))) 0 1,H (dt 148 147) 0 1,H (cz 149 (qe .and 145 148)) 0 1,H (ez 150 11) 0 1,H (cz 151 (.Mr 1 (.t 150) (yG 0))) 0 1,H (dt 152 151) 0 1,H (ez 153 11) 0 1,H (cz 154 (.Mr 1 (.t 153) (yG 2))) 0 1,H (dt 155 154) 0 1,H (cz 156 (qe .and 152 155)) 0 1,H (cz 157 (qe .xor 149 156)) 0 1,H (ez 158 11) 0 1,H (cz 159 (.Mr 1 (.t 158) (yG 1))) 0 1,H (dt 160 159) 0 1,H (ez 161 11) 0 1,H (cz 162 (.Mr 1 (.t 161) (yG 2))) 0 1,H (dt 163 162) 0 1,H (cz 164 (qe .and 160 163)) 0 1,H (cz 165 (qe .xor 157 164)) 0 1,H (cz 166 (qe .add 142 165)) 1 1,H (ez 14 166) 1 1]) (.draw [] [H (ez 167 13) 0 0,H (ez 168 14) 0 0,H (cz 169 (qe .add 167 168)) 0 0,H (eG 170 16 3) 0 0,H (dt 171 170) 0 0,H (cz 172 (qe .and 169 171)) 0 0,H (ez 173 11) 0 0,H (cz 174 (.Mr 1 (.t 173) (yG 0))) 0 0,H (dt 175 174) 0 0,H (ez 176 11) 0 0,H (cz 177 (.Mr 1 (.t 176) (yG 1))) 0 0,H (dt 178 177) 0 0,H (ez 179 11) 0 0,H (cz 180 (.Mr 1 (.t 179) (yG 2))) 0 0,H (dt 181 180) 0 0,H (ez 182 11) 0 0,H (cz 183 (.Mr 1 (.t 182) (yG 3))) 0 0,H (dt 184 183) 0 0,H (ez 185 13) 0 0,H (cz 186 (qe .add 184 185)) 0 0,H (eG 187 16 3) 0 0,H (dt 188 187) 0 0,H (cz 189 (qe .and 186 188)) 0 0,H (ez 190 11) 0 0,H (cz 191 (.Mr 1 (.t 190) (yG 4))) 0 0,H (dt 192 191) 0 0,H (ez 193 11) 0 0,H (cz 194 (.Mr 1 (.t 193) (yG 5))) 0 0,H (dt 195 194) 0 0,H (ez 196 11) 0 0,H (cz 197 (.Mr 1 (.t 196) (yG 6))) 0 0,H (dt 198 197) 0 0,H (dY 199 (.bsl 1 [.I U 0] 8 [(0,.t 172),(1,.t 175),(2,.t 178),(3,.t 181),(4,.t 189),(5,.t 192),(6,.t 195),(7,.t 198)])) 0 0,H (ez 11 199) 0 0])))) (.ops [ez 93 12,cz 94 (rz .add 93 1),ez 12 94])))
def jE:=nG.eq_1
def nH:KC:=.dO [1,3,11,15,16] (.Q (lW [ez 200 16,cz 201 (rz .lss 200 8)] (.cond (.t 201) .skip (.dO [15] (.exit 6)))) (.Q (.block 7 (.draw [] [H (ez 204 15) 0 0,H (ez 205 1) 0 0,H (ez 206 16) 0 0,H (cz 207 (Ef 1 205 206)) 0 0,H (dt 208 207) 0 0,H (ez 209 11) 0 0,H (ez 210 16) 0 0,H (cz 211 (Ef 1 209 210)) 0 0,H (dt 212 211) 0 0,H (cz 213 (qe .add 208 212)) 0 0,H (eG 214 16 3) 0 0,H (dt 215 214) 0 0,H (cz 216 (qe .and 213 215)) 0 0,H (dY 217 (.bsl 1 [.I U 0] 1 [(0,.t 216)])) 0 0,mJ (dY 218 (q_a 1 204 217)) 0 1,H (ez 15 218) 1 1])) (.ops [ez 202 16,cz 203 (rz .add 202 1),ez 16 203])))
def jF:=nH.eq_1
def ayu:ay 243=J ⟨220,lW [dY 3 (YV 17 0),cz 6 (wm .aw)] (lW [cz 7 (wm .aw)] (.Q (lW [cz 8 (wm (.I Y 0))] (.block 0 (.L nF))) (lW [dY 85 (.bsl 1 [.I U 0] 0 []),ez 86 1,dY 87 (q_a 1 85 86),ez 11 87] (.Q (lW [cz 12 (wm (.I Y 0))] (.block 4 (.L nG))) (lW [cz 15 (wm .aw)] (.Q (lW [cz 16 (wm (.I Y 0))] (.block 6 (.L nH))) (lW [ez 219 15,ez 6 219] (Im [6])))))))),[.tmp 6]⟩:=(li Tryz.func243 rfl).trans (by kernel_rfl)
def ayA:=(li Tryz.func244 rfl).trans (by cbv)
def ahu:=(li Tryz.func245 rfl).trans (by cbv)
def gV:KC:=kQ (ay 245) 0
def ec:=(by have h:=(dP ahu 0).trans (by cbv);exact h:gV=_)
def ayB:=(by have h:=ahu;rewrite [<-ec]at h;exact h:ay 245=_)
def H7:=(li Tryz.func246 rfl).trans (by cbv)
def DH:List KO:=yc (ay 246) 1
def AG:=(by have h:=(nh H7 1).trans (by cbv);exact h:DH=_)
def DI:List KO:=yc (ay 246) 4
def AH:=(by have h:=(nh H7 4).trans (by cbv);exact h:DI=_)
def DJ:List KO:=yc (ay 246) 8
def AI:=(by have h:=(nh H7 8).trans (by cbv);exact h:DJ=_)
def DK:List KO:=yc (ay 246) 10
def AJ:=(by have h:=(nh H7 10).trans (by cbv);exact h:DK=_)
def DL:List KO:=yc (ay 246) 12
def AK:=(by have h:=(nh H7 12).trans (by cbv);exact h:DL=_)
def DM:List KO:=yc (ay 246) 14
def AL:=(by have h:=(nh H7 14).trans (by cbv);exact h:DM=_)
def ayC:=(by have h:=H7;rewrite [<-AG,<-AH,<-AI,<-AJ,<-AK,<-AL]at h;exact h:ay 246=_)
def ayD:=(li Tryz.func247 rfl).trans (by cbv)
def ayE:=(li Tryz.func248 rfl).trans (by cbv)
def ayF:=(li Tryz.func249 rfl).trans (by cbv)
def ahv:=(li Tryz.func250 rfl).trans (by cbv)
def KS:List KO:=yc (ay 250) 1
def z9:=(by have h:=(nh ahv 1).trans (by cbv);exact h:KS=_)
def ayG:=(by have h:=ahv;rewrite [<-z9]at h;exact h:ay 250=_)
def ayH:=(li Tryz.func251 rfl).trans (by cbv)
def ahw:=(li Tryz.func252 rfl).trans (by cbv)
def Jr:List KO:=yc (ay 252) 1
def yK:=(by have h:=(nh ahw 1).trans (by cbv);exact h:Jr=_)
def aw3:=(by have h:=ahw;rewrite [<-yK]at h;exact h:ay 252=_)
def awY:=(li Tryz.func253 rfl).trans (by cbv)
def ahx:=(li Tryz.func254 rfl).trans (by cbv)
def KT:List KO:=yc (ay 254) 1
def qt:=(by have h:=(nh ahx 1).trans (by cbv);exact h:KT=_)
def aoi:=(by have h:=ahx;rewrite [<-qt]at h;exact h:ay 254=_)
def ayI:=(li Tryz.func255 rfl).trans (by cbv)
def ayJ:=(li Tryz.func256 rfl).trans (by cbv)
def ayK:=(li Tryz.func257 rfl).trans (by cbv)
def ayL:=(li Tryz.func258 rfl).trans (by cbv)
def aqW:=(li Tryz.func259 rfl).trans (by cbv)
def ayM:=(by have h:=aqW;rewrite [<-fX.eq_1]at h;exact h:ay 259=_)
def ahy:=(li Tryz.func260 rfl).trans (by cbv)
def MJ:List KO:=yc (ay 260) 2
def AM:=(by have h:=(nh ahy 2).trans (by cbv);exact h:MJ=_)
def ayN:=(by have h:=ahy;rewrite [<-AM]at h;exact h:ay 260=_)
def ahz:=(li Tryz.func261 rfl).trans (by cbv)
def AN:KC:=kQ (ay 261) 0
def lL:=(by have h:=(dP ahz 0).trans (by cbv);exact h:AN=_)
def ayO:=(by have h:=ahz;rewrite [<-lL]at h;exact h:ay 261=_)
def ayP:=(li Tryz.func262 rfl).trans (by cbv)
def ayQ:=(li Tryz.func263 rfl).trans (by cbv)
def wa:List KD:=[H (eG 48 3 2) 0 0,H (dt 49 48) 0 0,H (ez 50 6) 0 0,H (cz 51 (Ef 1 49 50)) 0 0,H (dt 52 51) 0 0,H (eG 53 1 3) 0 0,H (dt 54 53) 0 0,H (ez 55 6) 0 0,H (cz 56 (Ef 1 54 55)) 0 0,H (dt 57 56) 0 0,H (cz 58 (.Ql .neq (.t 52) (.t 57))) 0 0,H (ez 59 58) 0 0,H (pJ 60 59 (Ah 5 2)) 0 0,H (DW 61 59 (BB 60)) 0 0,H (Mt 62 59 6) 0 0,H (pJ 63 59 (Ef 6 61 62)) 0 0,H (DW 64 59 (dW 6 63)) 0 0,H (pJ 65 59 (Ah 2 3)) 0 0,H (DW 66 59 (BB 65)) 0 0,H (Mt 67 59 6) 0 0,H (pJ 68 59 (Ef 3 66 67)) 0 0,H (DW 69 59 (dW 3 68)) 0 0,mJ (DW 70 59 (qB 264 [64,69])) 0 1,H (pJ 71 59 (q_U 70)) 1 1,H (cz 72 (Mu 59 71)) 1 1]
def pU:=wa.eq_1
def oa:KC:=.dO [2,3,5] (.Q (lW [ez 16 5,eG 17 1 3,dt 18 17,cz 19 (Hp 18),cz 20 (qe .lss 16 19)] (.cond (.t 20) .skip (.dO [] (.exit 0)))) (.Q (.block 1 (.Q (.draw [] [H (eG 23 1 3) 0 0,H (dt 24 23) 0 0,H (ez 25 5) 0 0,H (cz 26 (Ef 1 24 25)) 0 0,H (dt 27 26) 0 0,H (eG 28 2 2) 0 0,H (dt 29 28) 0 0,H (cz 30 (.Ql .eql (.t 27) (.t 29))) 0 0]) (uz 30 (lW [cz 4 (wm (.B true))] (Im [4]))))) (.ops [ez 21 5,cz 22 (rz .add 21 1),ez 5 22])))
def kG:=oa.eq_1
def rf:KC:=.dO [2,3,6] (.Q (lW [ez 41 6,eG 42 3 2,dt 43 42,cz 44 (Hp 43),cz 45 (qe .lss 41 44)] (.cond (.t 45) .skip (.dO [2,3] (.exit 2)))) (.Q (.block 3 (.Q (.draw [] wa) (.dO [2,3,6,72] (uz 72 (lW [cz 4 (wm (.B false))] (Im [4])))))) (.ops [ez 46 6,cz 47 (rz .add 46 1),ez 6 47])))
def kH:=rf.eq_1
def rj:KC:=.dO [2,3,7] (.Q (lW [ez 76 7,eG 77 5 2,dt 78 77,cz 79 (Hp 78),cz 80 (qe .lss 76 79)] (.cond (.t 80) .skip (.dO [] (.exit 4)))) (.Q (.block 5 (.Q (.draw [] [H (eG 83 5 2) 0 0,H (dt 84 83) 0 0,H (ez 85 7) 0 0,H (cz 86 (Ef 6 84 85)) 0 0,H (dY 87 (dW 6 86)) 0 0,H (eG 88 2 3) 0 0,H (dt 89 88) 0 0,H (cz 90 (.Mr 3 (.t 89) (yG 0))) 0 0,H (dY 91 (dW 3 90)) 0 0,mJ (dY 92 (qB 264 [87,91])) 0 1,H (cz 93 (q_U 92)) 1 1]) (uz 93 (lW [cz 4 (wm (.B false))] (Im [4]))))) (.ops [ez 81 7,cz 82 (rz .add 81 1),ez 7 82])))
def kI:=rj.eq_1
def ayR:ay 264=some ⟨94,lW [dY 2 (YV 6 0),dY 3 (YV 3 1),cz 4 (wm (.B false))] (.Q (lW [eG 8 0 2,dt 9 8,eG 10 0 3,dt 11 10,cz 12 (qe .neq 9 11)] (uz 12 (lW [cz 4 (wm (.B false))] (Im [4])))) (.Q (lW [eG 13 0 2,dt 14 13,cz 15 (rz .eql 14 4)] (uz 15 (.Q (lW [cz 5 (wm (.I .i64 0))] (.block 0 (.L oa))) (lW [cz 4 (wm (.B false))] (Im [4]))))) (.Q (lW [eG 31 0 2,dt 32 31,cz 33 (rz .eql 32 5)] (uz 33 (.Q (lW [eG 34 3 2,dt 35 34,cz 36 (Hp 35),eG 37 1 3,dt 38 37,cz 39 (Hp 38),cz 40 (qe .neq 36 39)] (uz 40 (lW [cz 4 (wm (.B false))] (Im [4])))) (lW [cz 6 (wm (.I .i64 0))] (.block 2 (.L rf)))))) (.Q (lW [eG 73 0 2,dt 74 73,cz 75 (rz .eql 74 6)] (uz 75 (lW [cz 7 (wm (.I .i64 0))] (.block 4 (.L rj))))) (lW [cz 4 (wm (.B true))] (Im [4])))))),[.tmp 4]⟩:=(li Tryz.func264 rfl).trans (by kernel_rfl)
def ayS:=(li Tryz.func265 rfl).trans (by cbv)
def ayT:=(li Tryz.func266 rfl).trans (by cbv)
def ayU:=(li Tryz.func267 rfl).trans (by cbv)
def ahA:=(li Tryz.func268 rfl).trans (by cbv)
def gH:KC:=kQ (ay 268) 0
def dU:=(by have h:=(dP ahA 0).trans (by cbv);exact h:gH=_)
def ayV:=(by have h:=ahA;rewrite [<-dU]at h;exact h:ay 268=_)
def ahB:=(li Tryz.func269 rfl).trans (by cbv)
def iH:KC:=kQ (ay 269) 0
def fE:=(by have h:=(dP ahB 0).trans (by cbv);exact h:iH=_)
def ayW:=(by have h:=ahB;rewrite [<-fE]at h;exact h:ay 269=_)
def ahC:=(li Tryz.func270 rfl).trans (by cbv)
def gW:KC:=kQ (ay 270) 0
def ee:=(by have h:=(dP ahC 0).trans (by cbv);exact h:gW=_)
def ayX:=(by have h:=ahC;rewrite [<-ee]at h;exact h:ay 270=_)
def Z2:=(li Tryz.func271 rfl).trans (by cbv)
def KU:List KO:=yc (ay 271) 7
def nV:=(by have h:=(nh Z2 7).trans (by cbv);exact h:KU=_)
def KW:List KO:=yc (ay 271) 9
def qu:=(by have h:=(nh Z2 9).trans (by cbv);exact h:KW=_)
def ayY:=(by have h:=Z2;rewrite [<-nV,<-qu]at h;exact h:ay 271=_)
def ayZ:=(li Tryz.func272 rfl).trans (by cbv)
def ay0:=(li Tryz.func273 rfl).trans (by cbv)
def ay1:=(li Tryz.func274 rfl).trans (by cbv)
def ahD:=(li Tryz.func275 rfl).trans (by cbv)
def tZ:KC:=kQ (ay 275) 0
def g7:=(by have h:=(dP ahD 0).trans (by cbv);exact h:tZ=_)
def ay2:=(by have h:=ahD;rewrite [<-g7]at h;exact h:ay 275=_)
def ahE:=(li Tryz.func276 rfl).trans (by cbv)
def t_:KC:=kQ (ay 276) 0
def g8:=(by have h:=(dP ahE 0).trans (by cbv);exact h:t_=_)
def ay3:=(by have h:=ahE;rewrite [<-g8]at h;exact h:ay 276=_)
def ahF:=(li Tryz.func277 rfl).trans (by cbv)
def nW:KC:=kQ (ay 277) 0
def dZ:=(by have h:=(dP ahF 0).trans (by cbv);exact h:nW=_)
def ay4:=(by have h:=ahF;rewrite [<-dZ]at h;exact h:ay 277=_)
def ahG:=(li Tryz.func278 rfl).trans (by cbv)
def ve:KC:=kQ (ay 278) 0
def iz:=(by have h:=(dP ahG 0).trans (by cbv);exact h:ve=_)
def ay5:=(by have h:=ahG;rewrite [<-iz]at h;exact h:ay 278=_)
def qw:List KO:=[eG 7 0 1,dt 8 7,cz 9 (rz .lss 8 1),ez 10 9,pJ 11 10 (Ah 0 1),DW 12 10 (BB 11),pJ 13 10 (rz .gtr 12 6),cz 14 (Mu 10 13),ez 15 14,pJ 16 15 (Ah 1 1),DW 17 15 (BB 16),pJ 18 15 (Hp 17),pJ 19 15 (rz .gtr 18 8),cz 20 (Mu 15 19),ez 21 20,pJ 22 21 (Ah 0 1),DW 23 21 (BB 22),pJ 24 21 (rz .neq 23 4),Mt 25 21 24,Ce 26 25 (Ah 0 1),RG 27 25 (BB 26),Ce 28 25 (rz .neq 27 5),pJ 29 21 (YU 25 28),Mt 30 21 29,Ce 31 30 (Ah 1 1),RG 32 30 (BB 31),Ce 33 30 (Hp 32),Ce 34 30 (rz .gtr 33 0),pJ 35 21 (YU 30 34),cz 36 (Mu 21 35),ez 37 36,pJ 38 37 (Ah 0 1),DW 39 37 (BB 38),pJ 40 37 (rz .eql 39 4),Mt 41 37 40,Ce 42 41 (Ah 1 1),RG 43 41 (BB 42),Ce 44 41 (Hp 43),Ce 45 41 (rz .eql 44 0),pJ 46 37 (YU 41 45),cz 47 (Mu 37 46)]
def Bg:=qw.eq_1
def vg:List KD:=[H (eG 81 1 1) 0 0,H (dt 82 81) 0 0,H (ez 83 4) 0 0,H (cz 84 (Ef 1 82 83)) 0 0,H (dt 85 84) 0 0,H (eG 86 1 1) 0 0,H (dt 87 86) 0 0,H (ez 88 5) 0 0,H (cz 89 (Ef 1 87 88)) 0 0,H (dt 90 89) 0 0,H (cz 91 (.Ql .eql (.t 85) (.t 90))) 0 0,H (ez 92 91) 0 0,H (pJ 93 92 (Ah 0 1)) 0 0,H (DW 94 92 (BB 93)) 0 0,H (pJ 95 92 (rz .eql 94 5)) 0 0,H (Mt 96 92 95) 0 0,H (Ce 97 96 (Ah 1 1)) 0 0,H (RG 98 96 (BB 97)) 0 0,H (q_x 99 96 4) 0 0,H (Ce 100 96 (Ef 1 98 99)) 0 0,H (RG 101 96 (BB 100)) 0 0,H (Ce 102 96 (Ah 1 1)) 0 0,H (RG 103 96 (BB 102)) 0 0,H (q_x 104 96 5) 0 0,H (Ce 105 96 (Ef 1 103 104)) 0 0,H (RG 106 96 (BB 105)) 0 0,H (Ce 107 96 (.Ql .lss (.t 101) (.t 106))) 0 0,H (pJ 108 92 (YU 96 107)) 0 0,H (cz 109 (Mu 92 108)) 0 0]
def mH:=vg.eq_1
def qx:KC:=.dO [1,4,5] (.Q (lW [ez 76 5,ez 77 4,cz 78 (qe .lss 76 77)] (.cond (.t 78) .skip (.dO [1,4] (.exit 2)))) (.Q (.block 3 (.Q (.draw [] vg) (.dO [1,4,5,109] (uz 109 (lW [cz 2 (wm (.B false))] (Im [2])))))) (.ops [ez 79 5,cz 80 (rz .add 79 1),ez 5 80])))
def iA:=qx.eq_1
def nI:KC:=.dO [1,4] (.Q (lW [ez 62 4,eG 63 1 1,dt 64 63,cz 65 (Hp 64),cz 66 (qe .lss 62 65)] (.cond (.t 66) .skip (.dO [1] (.exit 0)))) (.Q (.block 1 (.Q (lW [eG 69 1 1,dt 70 69,ez 71 4,cz 72 (Ef 1 70 71),dt 73 72,dY 74 (qB 238 [73]),cz 75 (q_U 74)] (uz 75 (lW [cz 2 (wm (.B false))] (Im [2])))) (lW [cz 5 (wm (.I .i64 0))] (.block 2 (.L qx))))) (.ops [ez 67 4,cz 68 (rz .add 67 1),ez 4 68])))
def dp:=nI.eq_1
def qy:KC:=.dO [1,6] (.Q (lW [ez 110 6,eG 111 2 1,dt 112 111,cz 113 (Hp 112),cz 114 (qe .lss 110 113)] (.cond (.t 114) .skip (.dO [] (.exit 4)))) (.Q (.block 5 (lW [eG 117 2 1,dt 118 117,ez 119 6,cz 120 (Ef 3 118 119),dY 121 (dW 3 120),dY 122 (qB 279 [121]),cz 123 (q_U 122)] (uz 123 (lW [cz 2 (wm (.B false))] (Im [2]))))) (.ops [ez 115 6,cz 116 (rz .add 115 1),ez 6 116])))
def eW:=qy.eq_1
def ay6:ay 279=some ⟨124,lW [dY 1 (YV 3 0),cz 2 (wm (.B false))] (.Q (lW qw (.dO [1,47] (uz 47 (lW [cz 2 (wm (.B false))] (Im [2]))))) (lW [cz 3 (wm (.I .i64 0))] (.Q (lW [eG 48 0 1,dt 49 48,cz 50 (rz .eql 49 5)] (uz 50 (.ops [eG 51 1 1,dt 52 51,cz 53 (Hp 52),ez 3 53]))) (.Q (lW [eG 54 0 1,dt 55 54,cz 56 (rz .eql 55 6)] (uz 56 (.ops [cz 3 (wm (.I .i64 1))]))) (.Q (lW [eG 57 2 1,dt 58 57,cz 59 (Hp 58),ez 60 3,cz 61 (qe .neq 59 60)] (uz 61 (lW [cz 2 (wm (.B false))] (Im [2])))) (.Q (lW [cz 4 (wm (.I .i64 0))] (.block 0 (.L nI))) (.Q (lW [cz 6 (wm (.I .i64 0))] (.block 4 (.L qy))) (lW [cz 2 (wm (.B true))] (Im [2]))))))))),[.tmp 2]⟩:=(li Tryz.func279 rfl).trans (by kernel_rfl)
def ay7:=(li Tryz.func280 rfl).trans (by cbv)
def ay8:=(li Tryz.func281 rfl).trans (by cbv)
def ahH:=(li Tryz.func282 rfl).trans (by cbv)
def gr:KC:=kQ (ay 282) 0
def dJ:=(by have h:=(dP ahH 0).trans (by cbv);exact h:gr=_)
def ay9:=(by have h:=ahH;rewrite [<-dJ]at h;exact h:ay 282=_)
def ahI:=(li Tryz.func283 rfl).trans (by cbv)
def He:List KO:=yc (ay 283) 1
def wb:=(by have h:=(nh ahI 1).trans (by cbv);exact h:He=_)
def ay_:=(by have h:=ahI;rewrite [<-wb]at h;exact h:ay 283=_)
def aza:=(li Tryz.func284 rfl).trans (by cbv)
def azb:=(li Tryz.func285 rfl).trans (by cbv)
def azc:=(li Tryz.func286 rfl).trans (by cbv)
def ahJ:=(li Tryz.func287 rfl).trans (by cbv)
def iN:KC:=kQ (ay 287) 0
def eK:=(by have h:=(dP ahJ 0).trans (by cbv);exact h:iN=_)
def azd:=(by have h:=ahJ;rewrite [<-eK]at h;exact h:ay 287=_)
end
noncomputable section
@[simp low]def aBO(f:Nat):uk f=(b_ (f=157)):=by rw[LY];simp[uk];try omega
@[simp low]def aBP(f:Nat):ae_ f=(b_ (f=37)):=by rw[LY];simp[ae_];try omega
end
end Go.Proofs.YtiaklhkdbokkhaaGreat.am
