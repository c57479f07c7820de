/- Parts. No condition. -/
import Derived.KernelRfl
import Derived.Test.YtefopednbffpaaaGreatDoorQGR
set_option linter.all false
namespace Go.Proofs.YtefopednbffpaaaGreatDoor.am
open Go
open Decidable renaming decide->ck
open Go.Proofs.YtefopednbffpaaaGreatDoor.am renaming bn->H
noncomputable section
set_option maxRecDepth 100000
set_option maxHeartbeats 0
def ajl:=(li Tryz.func236 rfl).trans (by cbv)
def BL:KC:=ku (ay 236) 0
def nQ:=(by have h:=(dK ajl 0).trans (by cbv);exact h:BL=_)
def aAz:=(by have h:=ajl;rewrite [<-nQ]at h;exact h:ay 236=_)
def ay9:=(li Tryz.func237 rfl).trans (by cbv)
def aAA:=(li Tryz.func238 rfl).trans (by cbv)
def aAB:=(li Tryz.func239 rfl).trans (by cbv)
def aAC:=(li Tryz.func240 rfl).trans (by cbv)
def ajm:=(li Tryz.func241 rfl).trans (by cbv)
def Dc:KC:=ku (ay 241) 0
def eX:=(by have h:=(dK ajm 0).trans (by cbv);exact h:Dc=_)
def aAD:=(by have h:=ajm;rewrite [<-eX]at h;exact h:ay 241=_)
def aAE:=(li Tryz.func242 rfl).trans (by cbv)
def aAF:=(li Tryz.func244 rfl).trans (by cbv)
def aAG:=(li Tryz.func245 rfl).trans (by cbv)
def aAH:=(li Tryz.func246 rfl).trans (by cbv)
def aAI:=(li Tryz.func247 rfl).trans (by cbv)
def aAJ:=(li Tryz.func248 rfl).trans (by cbv)
def abr:=(li Tryz.func249 rfl).trans (by cbv)
def Mb:List KO:=xF (ay 249) 4
def mH:=(by have h:=(m7 abr 4).trans (by cbv);exact h:Mb=_)
def Dd:KC:=ku (ay 249) 0
def kt:=(by have h:=(dK abr 0).trans (by cbv);rewrite [<-mH]at h;exact h:Dd=_)
def aAK:=(by have h:=abr;rewrite [<-mH,<-kt]at h;exact h:ay 249=_)
def ajn:=(li Tryz.func250 rfl).trans (by cbv)
def De:KC:=ku (ay 250) 0
def mJ:=(by have h:=(dK ajn 0).trans (by cbv);exact h:De=_)
def aAL:=(by have h:=ajn;rewrite [<-mJ]at h;exact h:ay 250=_)
def abt:=(li Tryz.func251 rfl).trans (by cbv)
def N1:List KO:=xF (ay 251) 1
def gW:=(by have h:=(m7 abt 1).trans (by cbv);exact h:N1=_)
def E5:KC:=ku (ay 251) 0
def eF:=(by have h:=(dK abt 0).trans (by cbv);rewrite [<-ah.eq_1]at h;exact h:E5=_)
def aAM:=(by have h:=abt;rewrite [<-ah.eq_1,<-gW,<-eF]at h;exact h:ay 251=_)
def abu:=(li Tryz.func252 rfl).trans (by cbv)
def E6:KC:=ku (ay 252) 0
def pq:=(by have h:=(dK abu 0).trans (by cbv);exact h:E6=_)
def E7:KC:=ku (ay 252) 1
def pv:=(by have h:=(dK abu 1).trans (by cbv);exact h:E7=_)
def aAN:=(by have h:=abu;rewrite [<-fV.eq_1,<-pq,<-pv]at h;exact h:ay 252=_)
def azc:=(li Tryz.func253 rfl).trans (by cbv)
def ajo:=(li Tryz.func254 rfl).trans (by cbv)
def vR:KC:=ku (ay 254) 0
def iB:=(by have h:=(dK ajo 0).trans (by cbv);exact h:vR=_)
def aAO:=(by have h:=ajo;rewrite [<-iB]at h;exact h:ay 254=_)
def qI:List KO:=[eN 7 0 1,dF 8 7,cG 9 (rS .lss 8 1),eG 10 9,p6 11 10 (Bg 0 1),Fm 12 10 (CH 11),p6 13 10 (rS .gtr 12 6),cG 14 (NL 10 13),eG 15 14,p6 16 15 (Bg 1 1),Fm 17 15 (CH 16),p6 18 15 (ID 17),p6 19 15 (rS .gtr 18 8),cG 20 (NL 15 19),eG 21 20,p6 22 21 (Bg 0 1),Fm 23 21 (CH 22),p6 24 21 (rS .neq 23 4),NJ 25 21 24,Dw 26 25 (Bg 0 1),Td 27 25 (CH 26),Dw 28 25 (rS .neq 27 5),p6 29 21 (q_P 25 28),NJ 30 21 29,Dw 31 30 (Bg 1 1),Td 32 30 (CH 31),Dw 33 30 (ID 32),Dw 34 30 (rS .gtr 33 0),p6 35 21 (q_P 30 34),cG 36 (NL 21 35),eG 37 36,p6 38 37 (Bg 0 1),Fm 39 37 (CH 38),p6 40 37 (rS .eql 39 4),NJ 41 37 40,Dw 42 41 (Bg 1 1),Td 43 41 (CH 42),Dw 44 41 (ID 43),Dw 45 41 (rS .eql 44 0),p6 46 37 (q_P 41 45),cG 47 (NL 37 46)]
def Cj:=qI.eq_1
def vT:List KD:=[H (eN 81 1 1) 0 0,H (dF 82 81) 0 0,H (eG 83 4) 0 0,H (cG 84 (FK 1 82 83)) 0 0,H (dF 85 84) 0 0,H (eN 86 1 1) 0 0,H (dF 87 86) 0 0,H (eG 88 5) 0 0,H (cG 89 (FK 1 87 88)) 0 0,H (dF 90 89) 0 0,H (cG 91 (.RJ .eql (.t 85) (.t 90))) 0 0,H (eG 92 91) 0 0,H (p6 93 92 (Bg 0 1)) 0 0,H (Fm 94 92 (CH 93)) 0 0,H (p6 95 92 (rS .eql 94 5)) 0 0,H (NJ 96 92 95) 0 0,H (Dw 97 96 (Bg 1 1)) 0 0,H (Td 98 96 (CH 97)) 0 0,H (q_x 99 96 4) 0 0,H (Dw 100 96 (FK 1 98 99)) 0 0,H (Td 101 96 (CH 100)) 0 0,H (Dw 102 96 (Bg 1 1)) 0 0,H (Td 103 96 (CH 102)) 0 0,H (q_x 104 96 5) 0 0,H (Dw 105 96 (FK 1 103 104)) 0 0,H (Td 106 96 (CH 105)) 0 0,H (Dw 107 96 (.RJ .lss (.t 101) (.t 106))) 0 0,H (p6 108 92 (q_P 96 107)) 0 0,H (cG 109 (NL 92 108)) 0 0]
def mT:=vT.eq_1
def qJ:KC:=.dU [1,4,5] (.Q (mv [eG 76 5,eG 77 4,cG 78 (qB .lss 76 77)] (.cond (.t 78) .skip (.dU [1,4] (.exit 2)))) (.Q (.block 3 (.Q (.draw [] vT) (.dU [1,4,5,109] (uZ 109 (mv [cG 2 (wZ (.B false))] (Jz [2])))))) (.ops [eG 79 5,cG 80 (rS .add 79 1),eG 5 80])))
def iC:=qJ.eq_1
def nX:KC:=.dU [1,4] (.Q (mv [eG 62 4,eN 63 1 1,dF 64 63,cG 65 (ID 64),cG 66 (qB .lss 62 65)] (.cond (.t 66) .skip (.dU [1] (.exit 0)))) (.Q (.block 1 (.Q (mv [eN 69 1 1,dF 70 69,eG 71 4,cG 72 (FK 1 70 71),dF 73 72,ee 74 (qX 119 [73]),cG 75 (q_U 74)] (uZ 75 (mv [cG 2 (wZ (.B false))] (Jz [2])))) (mv [cG 5 (wZ (.I .i64 0))] (.block 2 (.L qJ))))) (.ops [eG 67 4,cG 68 (rS .add 67 1),eG 4 68])))
def du:=nX.eq_1
def qK:KC:=.dU [1,6] (.Q (mv [eG 110 6,eN 111 2 1,dF 112 111,cG 113 (ID 112),cG 114 (qB .lss 110 113)] (.cond (.t 114) .skip (.dU [] (.exit 4)))) (.Q (.block 5 (mv [eN 117 2 1,dF 118 117,eG 119 6,cG 120 (FK 3 118 119),ee 121 (dZ 3 120),ee 122 (qX 255 [121]),cG 123 (q_U 122)] (uZ 123 (mv [cG 2 (wZ (.B false))] (Jz [2]))))) (.ops [eG 115 6,cG 116 (rS .add 115 1),eG 6 116])))
def ff:=qK.eq_1
def aAP:ay 255=some ⟨124,mv [ee 1 (q_b 3 0),cG 2 (wZ (.B false))] (.Q (mv qI (.dU [1,47] (uZ 47 (mv [cG 2 (wZ (.B false))] (Jz [2]))))) (mv [cG 3 (wZ (.I .i64 0))] (.Q (mv [eN 48 0 1,dF 49 48,cG 50 (rS .eql 49 5)] (uZ 50 (.ops [eN 51 1 1,dF 52 51,cG 53 (ID 52),eG 3 53]))) (.Q (mv [eN 54 0 1,dF 55 54,cG 56 (rS .eql 55 6)] (uZ 56 (.ops [cG 3 (wZ (.I .i64 1))]))) (.Q (mv [eN 57 2 1,dF 58 57,cG 59 (ID 58),eG 60 3,cG 61 (qB .neq 59 60)] (uZ 61 (mv [cG 2 (wZ (.B false))] (Jz [2])))) (.Q (mv [cG 4 (wZ (.I .i64 0))] (.block 0 (.L nX))) (.Q (mv [cG 6 (wZ (.I .i64 0))] (.block 4 (.L qK))) (mv [cG 2 (wZ (.B true))] (Jz [2]))))))))),[.tmp 2]⟩:=(li Tryz.func255 rfl).trans (by kernel_rfl)
def aAQ:=(li Tryz.func256 rfl).trans (by cbv)
def ajp:=(li Tryz.func257 rfl).trans (by cbv)
def rQ:KC:=ku (ay 257) 0
def eW:=(by have h:=(dK ajp 0).trans (by cbv);exact h:rQ=_)
def aAR:=(by have h:=ajp;rewrite [<-eW]at h;exact h:ay 257=_)
def aAS:=(li Tryz.func258 rfl).trans (by cbv)
def nY:KC:=.dU [1,2,3,7,8,9,10] (.Q (mv [eG 26 10,eN 27 0 3,dF 28 27,cG 29 (rS .quo 28 8),cG 30 (qB .lss 26 29)] (.cond (.t 30) .skip (.dU [1,2,3,7,8,9] (.exit 2)))) (.Q (.block 3 (.ops [eG 33 9,cG 34 (.RI .shl (.t 33) (.c (.I .u64 8))),eG 35 2,eG 36 8,eN 37 0 3,dF 38 37,cG 39 (qB .mul 36 38),cG 40 (rS .quo 39 8),eG 41 10,cG 42 (qB .add 40 41),cG 43 (FK 1 35 42),dF 44 43,cG 45 (q_W .u64 44),cG 46 (qB .or 34 45),eG 9 46])) (.ops [eG 31 10,cG 32 (rS .add 31 1),eG 10 32])))
def jJ:=nY.eq_1
def nZ:KC:=.dU [1,2,3,7,8] (.Q (mv [eG 17 8,eN 18 2 3,dF 19 18,cG 20 (ID 19),cG 21 (qB .lss 17 20)] (.cond (.t 21) .skip (.dU [1,3,7] (.exit 0)))) (.Q (.block 1 (mv [cG 9 (wZ (.I .u64 0))] (.Q (mv [eG 24 8,cG 25 (rS .lss 24 16)] (.cond (.t 25) (mv [cG 10 (wZ (.I .i64 0))] (.block 2 (.L nY))) (.draw [] [H (ee 47 (dZ 17 3)) 0 0,H (eG 48 7) 0 0,H (eG 49 8) 0 0,H (cG 50 (rS .sub 49 2)) 0 0,H (cG 51 (FK 1 48 50)) 0 0,H (dF 52 51) 0 0,H (eN 53 12 3) 0 0,H (ee 54 (dZ 3 53)) 0 0,m0 (ee 55 (qX 280 [47,52,54])) 0 1,H (eG 56 7) 0 2,H (eG 57 8) 0 2,H (cG 58 (rS .sub 57 7)) 0 2,H (cG 59 (FK 1 56 58)) 0 2,H (dF 60 59) 0 2,H (cG 61 (qB .add 55 60)) 1 2,H (ee 62 (dZ 17 3)) 0 1,H (eG 63 7) 0 1,H (eG 64 8) 0 1,H (cG 65 (rS .sub 64 15)) 0 1,H (cG 66 (FK 1 63 65)) 0 1,H (dF 67 66) 0 1,H (eN 68 9 3) 0 1,H (ee 69 (dZ 3 68)) 0 1,m0 (ee 70 (qX 280 [62,67,69])) 1 2,H (cG 71 (qB .add 61 70)) 2 2,H (eG 72 7) 0 2,H (eG 73 8) 0 2,H (cG 74 (rS .sub 73 16)) 0 2,H (cG 75 (FK 1 72 74)) 0 2,H (dF 76 75) 0 2,H (cG 77 (qB .add 71 76)) 2 2,H (eN 78 16 3) 0 2,H (dF 79 78) 0 2,H (cG 80 (qB .and 77 79)) 2 2,H (eG 9 80) 2 2]))) (.ops [eG 81 7,eG 82 9,ee 83 (.bsl 1 [.I .u64 0] 1 [(0,.t 82)]),ee 84 (q_a 1 81 83),eG 7 84])))) (.ops [eG 22 8,cG 23 (rS .add 22 1),eG 8 23])))
def fL:=nZ.eq_1
def n_:KC:=.dU [1,3,7,11,12] (.Q (mv [eG 88 12,eN 89 2 3,dF 90 89,cG 91 (ID 90),cG 92 (qB .lss 88 91)] (.cond (.t 92) .skip (.dU [1,3,11] (.exit 4)))) (.Q (.block 5 (.Q (.draw [] [H (eG 95 11) 0 1,H (cG 96 (.NH 1 (.t 95) (zL 7))) 0 1,H (dF 97 96) 0 1,H (ee 98 (dZ 17 3)) 0 0,H (eG 99 11) 0 0,H (cG 100 (.NH 1 (.t 99) (zL 4))) 0 0,H (dF 101 100) 0 0,H (eN 102 6 3) 0 0,H (ee 103 (dZ 3 102)) 0 0,m0 (ee 104 (qX 281 [98,101,103])) 0 1,H (cG 105 (qB .add 97 104)) 1 1,H (eG 106 11) 0 1,H (cG 107 (.NH 1 (.t 106) (zL 4))) 0 1,H (dF 108 107) 0 1,H (eG 109 11) 0 1,H (cG 110 (.NH 1 (.t 109) (zL 5))) 0 1,H (dF 111 110) 0 1,H (cG 112 (qB .and 108 111)) 0 1,H (eN 113 16 3) 0 1,H (dF 114 113) 0 1,H (eG 115 11) 0 1,H (cG 116 (.NH 1 (.t 115) (zL 4))) 0 1,H (dF 117 116) 0 1,H (cG 118 (qB .xor 114 117)) 0 1,H (eG 119 11) 0 1,H (cG 120 (.NH 1 (.t 119) (zL 6))) 0 1,H (dF 121 120) 0 1,H (cG 122 (qB .and 118 121)) 0 1,H (cG 123 (qB .xor 112 122)) 0 1,H (cG 124 (qB .add 105 123)) 1 1,H (eN 125 2 3) 0 1,H (dF 126 125) 0 1,H (eG 127 12) 0 1,H (cG 128 (FK 1 126 127)) 0 1,H (dF 129 128) 0 1,H (cG 130 (qB .add 124 129)) 1 1,H (eG 131 7) 0 1,H (eG 132 12) 0 1,H (cG 133 (FK 1 131 132)) 0 1,H (dF 134 133) 0 1,H (cG 135 (qB .add 130 134)) 1 1,H (eG 13 135) 1 1]) (.Q (.draw [] [H (ee 136 (dZ 17 3)) 0 0,H (eG 137 11) 0 0,H (cG 138 (.NH 1 (.t 137) (zL 0))) 0 0,H (dF 139 138) 0 0,H (eN 140 3 3) 0 0,H (ee 141 (dZ 3 140)) 0 0,m0 (ee 142 (qX 281 [136,139,141])) 0 1,H (eG 143 11) 0 1,H (cG 144 (.NH 1 (.t 143) (zL 0))) 0 1,H (dF 145 144) 0 1,H (eG 146 11) 0 1,H (cG 147 (.NH 1 (.t 146) (zL 1))) 0 1,H (dF 148 147) 0 1,H (cG 149 (qB .and 145 148)) 0 1,H (eG 150 11) 0 1,H (cG 151 (.NH 1 (.t 150) (zL 0))) 0 1,H (dF 152 151) 0 1,H (eG 153 11) 0 1,H (cG 154 (.NH 1 (.t 153) (zL 2))) 0 1,H (dF 155 154) 0 1,H (cG 156 (qB .and 152 155)) 0 1,H (cG 157 (qB .xor 149 156)) 0 1,H (eG 158 11) 0 1,H (cG 159 (.NH 1 (.t 158) (zL 1))) 0 1,H (dF 160 159) 0 1,H (eG 161 11) 0 1,H (cG 162 (.NH 1 (.t 161) (zL 2))) 0 1,H (dF 163 162) 0 1,H (cG 164 (qB .and 160 163)) 0 1,H (cG 165 (qB .xor 157 164)) 0 1,H (cG 166 (qB .add 142 165)) 1 1,H (eG 14 166) 1 1]) (.draw [] [H (eG 167 13) 0 0,H (eG 168 14) 0 0,H (cG 169 (qB .add 167 168)) 0 0,H (eN 170 16 3) 0 0,H (dF 171 170) 0 0,H (cG 172 (qB .and 169 171)) 0 0,H (eG 173 11) 0 0,H (cG 174 (.NH 1 (.t 173) (zL 0))) 0 0,H (dF 175 174) 0 0,H (eG 176 11) 0 0,H (cG 177 (.NH 1 (.t 176) (zL 1))) 0 0,H (dF 178 177) 0 0,H (eG 179 11) 0 0,H (cG 180 (.NH 1 (.t 179) (zL 2))) 0 0,H (dF 181 180) 0 0,H (eG 182 11) 0 0,H (cG 183 (.NH 1 (.t 182) (zL 3))) 0 0,H (dF 184 183) 0 0,H (eG 185 13) 0 0,H (cG 186 (qB .add 184 185)) 0 0,H (eN 187 16 3) 0 0,H (dF 188 187) 0 0,H (cG 189 (qB .and 186 188)) 0 0,H (eG 190 11) 0 0,H (cG 191 (.NH 1 (.t 190) (zL 4))) 0 0,H (dF 192 191) 0 0,H (eG 193 11) 0 0,H (cG 194 (.NH 1 (.t 193) (zL 5))) 0 0,H (dF 195 194) 0 0,H (eG 196 11) 0 0,H (cG 197 (.NH 1 (.t 196) (zL 6))) 0 0,H (dF 198 197) 0 0,H (ee 199 (.bsl 1 [.I .u64 0] 8 [(0,.t 172),(1,.t 175),(2,.t 178),(3,.t 181),(4,.t 189),(5,.t 192),(6,.t 195),(7,.t 198)])) 0 0,H (eG 11 199) 0 0])))) (.ops [eG 93 12,cG 94 (rS .add 93 1),eG 12 94])))
def jK:=n_.eq_1
def oa:KC:=.dU [1,3,11,15,16] (.Q (mv [eG 200 16,cG 201 (rS .lss 200 8)] (.cond (.t 201) .skip (.dU [15] (.exit 6)))) (.Q (.block 7 (.draw [] [H (eG 204 15) 0 0,H (eG 205 1) 0 0,H (eG 206 16) 0 0,H (cG 207 (FK 1 205 206)) 0 0,H (dF 208 207) 0 0,H (eG 209 11) 0 0,H (eG 210 16) 0 0,H (cG 211 (FK 1 209 210)) 0 0,H (dF 212 211) 0 0,H (cG 213 (qB .add 208 212)) 0 0,H (eN 214 16 3) 0 0,H (dF 215 214) 0 0,H (cG 216 (qB .and 213 215)) 0 0,H (ee 217 (.bsl 1 [.I .u64 0] 1 [(0,.t 216)])) 0 0,m0 (ee 218 (q_a 1 204 217)) 0 1,H (eG 15 218) 1 1])) (.ops [eG 202 16,cG 203 (rS .add 202 1),eG 16 203])))
def jL:=oa.eq_1
def aA3:ay 259=some ⟨220,mv [ee 3 (q_b 17 0),cG 6 (wZ .aw)] (mv [cG 7 (wZ .aw)] (.Q (mv [cG 8 (wZ (.I .i64 0))] (.block 0 (.L nZ))) (mv [ee 85 (.bsl 1 [.I .u64 0] 0 []),eG 86 1,ee 87 (q_a 1 85 86),eG 11 87] (.Q (mv [cG 12 (wZ (.I .i64 0))] (.block 4 (.L n_))) (mv [cG 15 (wZ .aw)] (.Q (mv [cG 16 (wZ (.I .i64 0))] (.block 6 (.L oa))) (mv [eG 219 15,eG 6 219] (Jz [6])))))))),[.tmp 6]⟩:=(li Tryz.func259 rfl).trans (by kernel_rfl)
def abv:=(li Tryz.func260 rfl).trans (by cbv)
def vV:KC:=ku (ay 260) 0
def iD:=(by have h:=(dK abv 0).trans (by cbv);exact h:vV=_)
def vW:KC:=ku (ay 260) 1
def j5:=(by have h:=(dK abv 1).trans (by cbv);rewrite [<-iD]at h;exact h:vW=_)
def aA4:=(by have h:=abv;rewrite [<-cK.eq_1,<-iD,<-j5]at h;exact h:ay 260=_)
def aA5:=(li Tryz.func261 rfl).trans (by cbv)
def ajr:=(li Tryz.func262 rfl).trans (by cbv)
def gZ:KC:=ku (ay 262) 0
def eA:=(by have h:=(dK ajr 0).trans (by cbv);exact h:gZ=_)
def aA6:=(by have h:=ajr;rewrite [<-eA]at h;exact h:ay 262=_)
def Jm:=(li Tryz.func263 rfl).trans (by cbv)
def E8:List KO:=xF (ay 263) 1
def BM:=(by have h:=(m7 Jm 1).trans (by cbv);exact h:E8=_)
def E9:List KO:=xF (ay 263) 4
def BN:=(by have h:=(m7 Jm 4).trans (by cbv);exact h:E9=_)
def E_:List KO:=xF (ay 263) 8
def BO:=(by have h:=(m7 Jm 8).trans (by cbv);exact h:E_=_)
def Fa:List KO:=xF (ay 263) 10
def BP:=(by have h:=(m7 Jm 10).trans (by cbv);exact h:Fa=_)
def Fb:List KO:=xF (ay 263) 12
def BQ:=(by have h:=(m7 Jm 12).trans (by cbv);exact h:Fb=_)
def Fc:List KO:=xF (ay 263) 14
def BR:=(by have h:=(m7 Jm 14).trans (by cbv);exact h:Fc=_)
def aA7:=(by have h:=Jm;rewrite [<-BM,<-BN,<-BO,<-BP,<-BQ,<-BR]at h;exact h:ay 263=_)
def aA8:=(li Tryz.func264 rfl).trans (by cbv)
def aA9:=(li Tryz.func265 rfl).trans (by cbv)
def aA_:=(li Tryz.func266 rfl).trans (by cbv)
def ajs:=(li Tryz.func267 rfl).trans (by cbv)
def Mc:List KO:=xF (ay 267) 1
def A5:=(by have h:=(m7 ajs 1).trans (by cbv);exact h:Mc=_)
def aBa:=(by have h:=ajs;rewrite [<-A5]at h;exact h:ay 267=_)
def aBb:=(li Tryz.func268 rfl).trans (by cbv)
def ajt:=(li Tryz.func269 rfl).trans (by cbv)
def Ky:List KO:=xF (ay 269) 1
def zT:=(by have h:=(m7 ajt 1).trans (by cbv);exact h:Ky=_)
def aze:=(by have h:=ajt;rewrite [<-zT]at h;exact h:ay 269=_)
def ay8:=(li Tryz.func270 rfl).trans (by cbv)
def aju:=(li Tryz.func271 rfl).trans (by cbv)
def Md:List KO:=xF (ay 271) 1
def qM:=(by have h:=(m7 aju 1).trans (by cbv);exact h:Md=_)
def aqk:=(by have h:=aju;rewrite [<-qM]at h;exact h:ay 271=_)
def aBc:=(li Tryz.func272 rfl).trans (by cbv)
def aBd:=(li Tryz.func273 rfl).trans (by cbv)
def aBe:=(li Tryz.func274 rfl).trans (by cbv)
def aBf:=(li Tryz.func275 rfl).trans (by cbv)
def atr:=(li Tryz.func276 rfl).trans (by cbv)
def aBg:=(by have h:=atr;rewrite [<-fV.eq_1]at h;exact h:ay 276=_)
def ajv:=(li Tryz.func277 rfl).trans (by cbv)
def N2:List KO:=xF (ay 277) 2
def BT:=(by have h:=(m7 ajv 2).trans (by cbv);exact h:N2=_)
def aBh:=(by have h:=ajv;rewrite [<-BT]at h;exact h:ay 277=_)
def ajw:=(li Tryz.func278 rfl).trans (by cbv)
def BU:KC:=ku (ay 278) 0
def mj:=(by have h:=(dK ajw 0).trans (by cbv);exact h:BU=_)
def aBi:=(by have h:=ajw;rewrite [<-mj]at h;exact h:ay 278=_)
def aBj:=(li Tryz.func279 rfl).trans (by cbv)
def aBk:=(li Tryz.func280 rfl).trans (by cbv)
def aBl:=(li Tryz.func281 rfl).trans (by cbv)
def aBm:=(li Tryz.func282 rfl).trans (by cbv)
def ajx:=(li Tryz.func283 rfl).trans (by cbv)
def gR:KC:=ku (ay 283) 0
def dY:=(by have h:=(dK ajx 0).trans (by cbv);exact h:gR=_)
def aBn:=(by have h:=ajx;rewrite [<-dY]at h;exact h:ay 283=_)
def ajy:=(li Tryz.func284 rfl).trans (by cbv)
def iO:KC:=ku (ay 284) 0
def fM:=(by have h:=(dK ajy 0).trans (by cbv);exact h:iO=_)
def aBo:=(by have h:=ajy;rewrite [<-fM]at h;exact h:ay 284=_)
def ajz:=(li Tryz.func285 rfl).trans (by cbv)
def g7:KC:=ku (ay 285) 0
def eB:=(by have h:=(dK ajz 0).trans (by cbv);exact h:g7=_)
def aBp:=(by have h:=ajz;rewrite [<-eB]at h;exact h:ay 285=_)
def abw:=(li Tryz.func286 rfl).trans (by cbv)
def Me:List KO:=xF (ay 286) 7
def ow:=(by have h:=(m7 abw 7).trans (by cbv);exact h:Me=_)
def Mf:List KO:=xF (ay 286) 9
def qO:=(by have h:=(m7 abw 9).trans (by cbv);exact h:Mf=_)
def aBq:=(by have h:=abw;rewrite [<-ow,<-qO]at h;exact h:ay 286=_)
def aBr:=(li Tryz.func287 rfl).trans (by cbv)
def aBs:=(li Tryz.func288 rfl).trans (by cbv)
def aBt:=(li Tryz.func289 rfl).trans (by cbv)
def ajA:=(li Tryz.func290 rfl).trans (by cbv)
def uL:KC:=ku (ay 290) 0
def g_:=(by have h:=(dK ajA 0).trans (by cbv);exact h:uL=_)
def aBu:=(by have h:=ajA;rewrite [<-g_]at h;exact h:ay 290=_)
def ajB:=(li Tryz.func291 rfl).trans (by cbv)
def uM:KC:=ku (ay 291) 0
def hJ:=(by have h:=(dK ajB 0).trans (by cbv);exact h:uM=_)
def aBv:=(by have h:=ajB;rewrite [<-hJ]at h;exact h:ay 291=_)
def ajC:=(li Tryz.func292 rfl).trans (by cbv)
def oB:KC:=ku (ay 292) 0
def eh:=(by have h:=(dK ajC 0).trans (by cbv);exact h:oB=_)
def aBw:=(by have h:=ajC;rewrite [<-eh]at h;exact h:ay 292=_)
def aBx:=(li Tryz.func293 rfl).trans (by cbv)
def aBy:=(li Tryz.func294 rfl).trans (by cbv)
def ajD:=(li Tryz.func295 rfl).trans (by cbv)
def gB:KC:=ku (ay 295) 0
def dO:=(by have h:=(dK ajD 0).trans (by cbv);exact h:gB=_)
def aBz:=(by have h:=ajD;rewrite [<-dO]at h;exact h:ay 295=_)
def ajE:=(li Tryz.func296 rfl).trans (by cbv)
def Io:List KO:=xF (ay 296) 1
def wV:=(by have h:=(m7 ajE 1).trans (by cbv);exact h:Io=_)
def aBA:=(by have h:=ajE;rewrite [<-wV]at h;exact h:ay 296=_)
def aBB:=(li Tryz.func297 rfl).trans (by cbv)
def aBC:=(li Tryz.func298 rfl).trans (by cbv)
def aBD:=(li Tryz.func299 rfl).trans (by cbv)
def ajF:=(li Tryz.func300 rfl).trans (by cbv)
def iS:KC:=ku (ay 300) 0
def eP:=(by have h:=(dK ajF 0).trans (by cbv);exact h:iS=_)
def aBE:=(by have h:=ajF;rewrite [<-eP]at h;exact h:ay 300=_)
end
noncomputable section
@[simp low]def aDT(f:Nat):uS f=(ck (f=169)):=by rw[J3];simp[uS];try omega
@[simp low]def aDU(f:Nat):Z2 f=(ck (f=47)):=by rw[J3];simp[Z2];try omega
end
end Go.Proofs.YtefopednbffpaaaGreatDoor.am
