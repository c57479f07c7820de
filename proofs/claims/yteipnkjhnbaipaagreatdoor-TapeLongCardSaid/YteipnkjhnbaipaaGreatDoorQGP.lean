/- Parts. No condition. -/
import Derived.Test.YteipnkjhnbaipaaGreatDoorProg
import Derived.KernelRfl
import Derived.Test.YteipnkjhnbaipaaGreatDoorQF
import Derived.Test.YteipnkjhnbaipaaGreatDoorQD
set_option linter.all false
namespace Go.Proofs.YteipnkjhnbaipaaGreatDoor.am
open Go
open Bool renaming false->O
open Decidable renaming decide->aN
noncomputable section
def nts:List (Option UM):=[none,none,none,some [(8,[2]),(19,[0,3,4,5,6,7,8]),(24,[0,3,4,5,6,7]),(43,[2]),(49,[2]),(49,[2])],some [(13,[0,1,5,6,7,8]),(18,[0,1,5,6,7]),(38,[1,5,6,7,11,12,13,14,15,16]),(43,[5,6,7,11,12,13,14,15]),(53,[5,6,7,11,12,13,14,92]),(56,[4]),(64,[4]),(64,[4]),(68,[4]),(68,[4])],some [(8,[2]),(15,[0,3]),(20,[]),(25,[0,3,35]),(28,[2]),(33,[2])],some [(6,[0])],none,some [(10,[2,3]),(15,[1,4,66]),(18,[2,3]),(47,[2,3]),(55,[2,3]),(67,[2,3]),(75,[2,3]),(87,[2,3]),(93,[2,3])],some [(8,[6]),(12,[6])],some [(9,[0,4,5]),(14,[4]),(38,[2,3]),(44,[2,3])],some [(8,[4]),(15,[0,1,5]),(20,[]),(28,[4]),(33,[4])],some [(8,[2,3]),(18,[2,3]),(43,[2,3]),(71,[2,3])],some [(8,[2]),(18,[2]),(22,[2])],some [(4,[2])],some [(4,[2])],some [(8,[4]),(12,[4])],none,none,none,some [(10,[2]),(14,[2])],some [(4,[2])],some [(4,[2])],some [(4,[4]),(4,[4])],some [(5,[2,3,67]),(8,[4]),(15,[2,3,5]),(20,[2,3]),(25,[2,3,5,104]),(28,[4]),(36,[2,3,6]),(41,[]),(49,[4]),(54,[4])],some [(8,[2]),(12,[2])],some [(5,[1,16]),(8,[2]),(13,[1,38]),(16,[2]),(27,[2]),(33,[2]),(37,[2])],some [(24,[2])],some [(11,[0,3,4,5]),(16,[4]),(25,[2])],some [(4,[2])],some [(26,[1,3,4]),(31,[1,3]),(45,[2])],some [(10,[2]),(14,[2])],some [(4,[4,5,6])],some [(13,[2,4,5,6,7]),(18,[2,4,5,6]),(36,[2,3]),(42,[2,3]),(78,[2,3]),(82,[2,3])],some [(4,[4]),(4,[4])],some [(4,[0])],some [(4,[4]),(4,[4])],some [(36,[4])],some [(4,[2])],some [(8,[2,3]),(21,[2,3]),(36,[2,3]),(40,[2,3])],some [(8,[2,3]),(15,[1,4]),(25,[2,3]),(30,[1]),(49,[2,3]),(53,[2,3])],some [(9,[3,6,7,8]),(14,[3]),(23,[2])],some [(8,[2]),(12,[2])],none,none,some [(8,[2]),(15,[0,3]),(20,[]),(28,[2]),(33,[2])],some [(4,[2])],some [(5,[1,2,47]),(8,[4]),(15,[1,2,5]),(20,[1,2]),(25,[1,2,5,70]),(28,[4]),(36,[1,2,6]),(41,[]),(49,[4]),(54,[4])],none,some [(8,[4]),(15,[0,1,5]),(20,[]),(28,[4]),(33,[4])],some [(5,[2,3,53]),(8,[4]),(15,[2,3,5]),(20,[2,3]),(28,[4]),(36,[2,3,6]),(41,[2,3]),(49,[4]),(57,[2,3,7]),(62,[]),(70,[4]),(75,[4])],some [(5,[2,3,29]),(8,[4]),(15,[2,3,5]),(20,[2,3]),(28,[4]),(36,[2,3,6]),(41,[]),(49,[4]),(54,[4])],some [(10,[2]),(14,[2])],some [(7,[0,3]),(12,[0]),(17,[0,3,4]),(19,[0,3,4,5]),(24,[2]),(29,[2])],some [(4,[2])],some [(4,[2])],some [(9,[0,3,4]),(14,[3]),(27,[2])],some [(8,[2]),(12,[2])],some [(13,[2]),(19,[2]),(29,[2]),(38,[1,3,4]),(43,[3]),(56,[2])],some [(9,[1,3,4]),(14,[3]),(27,[2])],some [(7,[1,3,18]),(10,[2]),(15,[1,3,43]),(18,[2]),(23,[1,3,72]),(26,[2]),(31,[1,3,87]),(34,[2]),(43,[1,3,105]),(46,[2]),(52,[1,3,4]),(57,[1,3]),(62,[1,3,4,132]),(65,[2]),(75,[2]),(79,[2])],some [(4,[2])],some [(4,[2])],some [(4,[2])],some [(15,[1,3,4]),(20,[1,3]),(39,[2])],some [(10,[2]),(14,[2])],some [(10,[4,5,6]),(14,[4,5,6])],some [(4,[4])],some [(9,[3,16,17]),(14,[3]),(27,[2])],some [(8,[2])],some [(14,[2]),(18,[2])],some [(8,[])],some [(10,[2]),(22,[2])],some [(8,[4]),(15,[0,1,5]),(20,[]),(28,[4]),(33,[4])],some [(4,[4]),(4,[4])],some [(4,[4]),(4,[4])],some [(4,[4])],some [(4,[2])],some [(8,[2]),(21,[2]),(21,[2]),(27,[2]),(27,[2]),(33,[2]),(39,[2]),(39,[2]),(43,[2])],some [(8,[2,3]),(22,[2,3]),(26,[2,3])],some [],some [(4,[2])],some [(4,[2])],some [(19,[2,3]),(29,[2,3]),(39,[2,3]),(45,[2,3]),(55,[2,3]),(59,[2,3])],some [(8,[2])],some [(36,[0,3,63,64,65]),(41,[0,3]),(53,[0,78,79,80]),(58,[])],none,none,none,none,none,some [(10,[6]),(17,[1,2,3,7]),(22,[1]),(29,[6])],some [(4,[2])],none,some [(7,[0,3]),(12,[0]),(19,[0,3,32]),(22,[2]),(27,[2])],some [(9,[1,3,4]),(14,[3]),(27,[2])],some [(7,[1,3,61]),(10,[2]),(15,[1,118]),(18,[2]),(25,[1,4]),(30,[1]),(35,[1,4,150]),(38,[2]),(46,[1,5]),(51,[1]),(59,[1,5,6]),(64,[1,5]),(72,[2]),(80,[2]),(88,[1,7]),(93,[]),(101,[2]),(106,[2])],some [(8,[2]),(12,[2])],some [(4,[4])],some [(4,[2])],some [(11,[4]),(17,[4]),(23,[4]),(29,[4]),(44,[0,1,5,6,7,8,9,10]),(49,[]),(63,[4]),(70,[0,1,5,6,7,8,9,10,93]),(73,[4]),(90,[4]),(94,[4]),(97,[0,1,5,6,7,8,9,10,132]),(106,[4]),(110,[4]),(114,[4])],some [(8,[8]),(16,[8]),(35,[0,1,2,3,9,10]),(40,[0,9,10]),(48,[0,9,10]),(59,[8])],none,some [],some [(14,[2]),(18,[2])],some [(8,[2,3]),(22,[2,3]),(26,[2,3])],some [(8,[2,3]),(22,[2,3]),(26,[2,3])],some [(8,[2]),(12,[2])],some [(8,[4]),(15,[0,1,12,13]),(20,[]),(30,[4]),(35,[4])],some [(4,[4]),(4,[4])],some [(4,[4]),(4,[4])],some [(8,[6]),(15,[1,2,15,16,17]),(20,[]),(32,[6]),(37,[6])],some [(4,[4])],some [(8,[6]),(15,[1,2,15,16,17]),(20,[]),(32,[6]),(37,[6])],none,some [(4,[2])],some [(4,[2])],some [(29,[0,3,40,41,42]),(34,[])],some [],some [(4,[]),(12,[0,14,15,16]),(17,[])],some [(3,[0,1]),(8,[0,1])],some [],some [(8,[1,2,5,13]),(11,[4]),(17,[4]),(23,[4]),(29,[4]),(35,[4]),(35,[4]),(39,[4])],some [(8,[2,3]),(22,[2,3]),(26,[2,3])],some [],some [(4,[0,8,9,10]),(9,[])],none,none,none,none,some [(10,[6]),(17,[1,2,3,7]),(22,[1,2,3]),(30,[6]),(38,[1,2,3,8]),(43,[1]),(50,[6])],some [(4,[2])],some [(8,[4]),(19,[2,3,5]),(24,[]),(32,[4]),(37,[4]),(49,[4]),(55,[2,3,6]),(60,[2,3]),(65,[2,3,6,72]),(68,[4]),(80,[2,3,7]),(85,[]),(93,[4]),(99,[4])],none,none,some [(4,[2])],some [(13,[0,1,5,6,7,8,9]),(18,[0,1,5,6,7,8]),(29,[4]),(36,[0,1,5,6,7,8,10]),(41,[]),(53,[0,1,5,6,7,8,10,77]),(56,[4]),(60,[4])],some [(17,[0,1,6,7]),(22,[0,1,6]),(39,[4])],none,some [(4,[4])],none,none,some [(9,[0,4,5]),(14,[4]),(20,[0,4,5,31]),(23,[2,3]),(29,[2,3])],some [(4,[2])],some [(93,[2]),(97,[2])],some [(5,[0,16]),(8,[2]),(12,[2])],some [(4,[2])],some [(10,[2]),(14,[2])],some [(8,[4]),(15,[0,1,12,13]),(20,[]),(30,[4]),(35,[4])],some [(8,[4]),(15,[0,1,12,13]),(20,[]),(30,[4]),(35,[4])],some [(8,[6]),(15,[1,2,15,16,17]),(20,[]),(32,[6]),(37,[6])],some [(8,[6]),(15,[1,2,15,16,17]),(20,[]),(32,[6]),(37,[6])],none,none,none,none,some [(4,[4])],some [(4,[2])],some [(8,[2]),(12,[2])],some [(4,[4]),(4,[4])],some [],some [],some [(6,[2])],some [(4,[4]),(4,[4])],some [(4,[2]),(4,[2])],some [(4,[2]),(4,[2])],some [(4,[2])],some [(15,[0,3,26,27,28]),(20,[0,3])],some [],none,some [(9,[1,3,4]),(14,[3]),(27,[2])],some [(5,[1,47]),(8,[2]),(30,[2]),(37,[1,4]),(42,[1]),(51,[2]),(57,[1,4,5]),(62,[1,4]),(67,[1,4,5,109]),(70,[2]),(79,[1,6]),(84,[]),(92,[2]),(97,[2])],none,some [(9,[0,4,5]),(14,[0,4]),(26,[4,6,7,8]),(31,[4,6]),(44,[2,3])],some [(7,[2,4]),(12,[2]),(17,[2])],some [(8,[2,3]),(10,[2,3])],none,none,none,none,none,none,some [(9,[2]),(15,[2]),(19,[2])],some [(8,[2])],some [(2,[0,1,16])],some [(17,[0,3,4,5]),(22,[0,4]),(33,[2]),(37,[2])],some [(8,[4])],some [(4,[2])],some [(8,[2]),(12,[2])],some [(7,[5,6,7]),(12,[]),(22,[2]),(27,[2])],some [(24,[4]),(45,[0,1,4,5,6,8,59]),(68,[4]),(72,[4])],none,none,none,none,none,some [(7,[0,1,7,8]),(12,[]),(22,[4]),(27,[4])],some [(4,[1,3]),(13,[2]),(13,[2]),(19,[2]),(25,[2]),(25,[2]),(31,[2]),(31,[2]),(37,[2]),(37,[2]),(43,[2]),(43,[2]),(47,[2])],some [(4,[4])],some [(4,[3])],some [(4,[4])],some [(4,[2]),(4,[2])],some [(4,[4])],some [(4,[2])],some [(4,[2])],some [(4,[4])],some [(4,[3]),(4,[3])],some [(4,[4]),(4,[4])],some [(10,[2,3]),(24,[2,3]),(36,[2,3]),(46,[2,3]),(54,[2,3]),(64,[2,3]),(72,[2,3]),(82,[2,3]),(86,[2,3])],none,none,none,some [(4,[]),(14,[])],some [(8,[3,4]),(14,[3,4])],some [(18,[2])],some [(10,[4,5]),(16,[4,5])],some [(9,[5,8,9,10]),(14,[]),(22,[5,6,7,8,9,10,24]),(23,[]),(37,[]),(41,[2,3,4]),(45,[2,3,4])],some [(16,[4]),(58,[0,1,4,5,51,52]),(63,[0,4,5]),(92,[4]),(96,[4])],some [(12,[4])],some [(4,[3])],some [(4,[2])],some [(12,[4])],some [(14,[0,1,2,6,7]),(19,[])],none,none,some [(7,[0,5,6,7]),(12,[0]),(19,[0,5,6,7,27]),(22,[2]),(27,[2])],some [(7,[0,5,6,7]),(12,[0]),(22,[2]),(27,[2])],some [(7,[0,1,7,8]),(12,[]),(22,[4]),(27,[4])],some [(7,[1,2,10]),(12,[]),(21,[6]),(25,[6])],some [(5,[2,3,38]),(8,[4]),(15,[3,40,41,42]),(20,[]),(38,[4]),(43,[4])],some [(7,[0,1,7,8]),(12,[]),(22,[4]),(27,[4])],some [(19,[2]),(25,[2]),(25,[2]),(31,[2]),(31,[2]),(37,[2]),(41,[2])],some [(4,[4])],some [(4,[3])],none,none,some [(4,[4])],some [(8,[2])],some [(6,[2])],some [(12,[2])],some [(12,[4]),(16,[4])],some [(16,[4]),(41,[0,4,5,29,30]),(46,[0,4,5]),(58,[0,1,4,5,38,39]),(63,[0,4,5]),(81,[4]),(85,[4])],some [(4,[4])],some [(4,[4])],some [(4,[2])],some [(7,[0,5,6,7]),(12,[]),(22,[2]),(27,[2])],some [(4,[2])],some [(7,[0,1,7,8]),(12,[]),(22,[4]),(27,[4])],some [(8,[4])],some [(8,[3,4]),(14,[3,4])],some [(11,[4]),(19,[4]),(27,[4])],some [(6,[0,30])],some [(7,[0,1,7,8]),(12,[]),(22,[4]),(27,[4])],some [(7,[0,1,7,8]),(12,[]),(22,[4]),(27,[4])],some [(4,[4])],some [(4,[2])],some [(7,[0,3]),(12,[]),(20,[2]),(25,[2])],some [(11,[4,5]),(17,[4,5]),(23,[4,5]),(29,[4,5])],some [(7,[0,1,7,8]),(12,[]),(22,[4]),(27,[4])],some [(4,[4]),(4,[4])],some [(4,[2])]]
def aG(f:FuncId):Option KF:=(nts[f]?).join.bind λs=>(Tryz.prog.funcs[f]?).bind λfn=>kfm Tryz.prog fn s
def Ei(f:FuncId)(k:KF)(h:aG f=some k):∃fn,Tryz.prog.funcs[f]? =some fn/\Yc Tryz.prog fn k:=by unfold aG at h;obtain⟨s,_,h⟩:=BJ.1 h;obtain⟨fn,a,h⟩:=BJ.1 h;exact⟨fn,a,acd h⟩
def li{f:FuncId}{fn:Func}{s:UM}(h:Tryz.prog.funcs[f]? =some fn)(g:(nts[f]?).join=some s):aG f=kfm Tryz.prog fn s:=by unfold aG;rw[g,h];rfl
end
noncomputable section
set_option maxRecDepth 100000
set_option maxHeartbeats 0
def acw:=(li Tryz.func3 rfl).trans (by cbv)
def ur:List KO:=rk (aG 3) 15
def mJ:=(by have h:=(je acw 15).trans (by cbv);rewrite [<-cC.eq_1]at h;exact h:ur=_)
def cQ:KC:=oK (aG 3) 0
def cW:=(by have h:=(gL acw 0).trans (by cbv);exact h:cQ=_)
def e_3:=(by have h:=acw;rewrite [<-cC.eq_1,<-cW,<-mJ]at h;exact h:aG 3=_)
def Tb:=(li Tryz.func4 rfl).trans (by cbv)
def vr:List KO:=rk (aG 4) 18
def oq:=(by have h:=(je Tb 18).trans (by cbv);rewrite [<-cC.eq_1]at h;exact h:vr=_)
def vt:List KO:=rk (aG 4) 21
def ot:=(by have h:=(je Tb 21).trans (by cbv);exact h:vt=_)
def vu:List KO:=rk (aG 4) 22
def ov:=(by have h:=(je Tb 22).trans (by cbv);rewrite [<-cC.eq_1]at h;exact h:vu=_)
def pv:KC:=oK (aG 4) 0
def dU:=(by have h:=(gL Tb 0).trans (by cbv);rewrite [<-ah.eq_1]at h;exact h:pv=_)
def pw:KC:=oK (aG 4) 1
def dV:=(by have h:=(gL Tb 1).trans (by cbv);exact h:pw=_)
def e_4:=(by have h:=Tb;rewrite [<-ah.eq_1,<-cC.eq_1,<-dU,<-dV,<-oq,<-ot,<-ov]at h;exact h:aG 4=_)
def acx:=(li Tryz.func5 rfl).trans (by cbv)
def xX:List KO:=rk (aG 5) 5
def lS:=(by have h:=(je acx 5).trans (by cbv);exact h:xX=_)
def qH:KC:=oK (aG 5) 0
def dZ:=(by have h:=(gL acx 0).trans (by cbv);rewrite [<-lS]at h;exact h:qH=_)
def e_5:=(by have h:=acx;rewrite [<-lS,<-dZ]at h;exact h:aG 5=_)
def alU:=(li Tryz.func6 rfl).trans (by cbv)
def e_6:=(by have h:=alU;rewrite [<-ah.eq_1,<-cC.eq_1]at h;exact h:aG 6=_)
def agS:=(li Tryz.func8 rfl).trans (by cbv)
def ze:List KO:=rk (aG 8) 4
def bK:=(by have h:=(je agS 4).trans (by cbv);rewrite [<-ad.eq_1,<-ag.eq_1]at h;exact h:ze=_)
def Gj:=(by have h:=agS;rewrite [<-ad.eq_1,<-ag.eq_1,<-bK]at h;exact h:aG 8=_)
def alV:=(li Tryz.func9 rfl).trans (by cbv)
def e_9:=(by have h:=alV;rewrite [<-cC.eq_1]at h;exact h:aG 9=_)
def aaw:=(li Tryz.func10 rfl).trans (by cbv)
def wu:KC:=oK (aG 10) 0
def ij:=(by have h:=(gL aaw 0).trans (by cbv);rewrite [<-ah.eq_1,<-cC.eq_1]at h;exact h:wu=_)
def agT:=(by have h:=aaw;rewrite [<-ah.eq_1,<-cC.eq_1,<-ij]at h;exact h:aG 10=_)
def aax:=(li Tryz.func11 rfl).trans (by cbv)
def oQ:KC:=oK (aG 11) 0
def dW:=(by have h:=(gL aax 0).trans (by cbv);exact h:oQ=_)
def agU:=(by have h:=aax;rewrite [<-dW]at h;exact h:aG 11=_)
def agV:=(li Tryz.func12 rfl).trans (by cbv)
def Ch:=(by have h:=agV;rewrite [<-cC.eq_1]at h;exact h:aG 12=_)
def agW:=(li Tryz.func13 rfl).trans (by cbv)
def acy:=(by have h:=agW;rewrite [<-cC.eq_1]at h;exact h:aG 13=_)
def alH:=(li Tryz.func14 rfl).trans (by cbv)
def alG:=(li Tryz.func15 rfl).trans (by cbv)
def agX:=(li Tryz.func16 rfl).trans (by cbv)
def alW:=(by have h:=agX;rewrite [<-cC.eq_1]at h;exact h:aG 16=_)
def alX:=(li Tryz.func20 rfl).trans (by cbv)
def alY:=(li Tryz.func21 rfl).trans (by cbv)
def alZ:=(li Tryz.func22 rfl).trans (by cbv)
def aay:=(li Tryz.func23 rfl).trans (by cbv)
def zf:List KO:=rk (aG 23) 1
def gx:=(by have h:=(je aay 1).trans (by cbv);exact h:zf=_)
def alA:=(by have h:=aay;rewrite [<-gx]at h;exact h:aG 23=_)
def rN:List KO:=[iu 7 0 2,hD 8 7,iu 9 0 3,hD 10 9,fB 11 (IC .neq 8 10),jO 12 11,mh 13 12 (vn 1 2),y8 14 12 (wS 13),mh 15 12 (vn 1 3),y8 16 12 (wS 15),mh 17 12 (.IJ .neq (.t 14) (.t 16)),fB 18 (FL 12 17),jO 19 18,mh 20 19 (vn 2 2),y8 21 19 (wS 20),mh 22 19 (vn 2 3),y8 23 19 (wS 22),mh 24 19 (.IJ .neq (.t 21) (.t 23)),fB 25 (FL 19 24),jO 26 25,mh 27 26 (vn 3 2),y8 28 26 (uh 3 27),mh 29 26 (vn 3 3),y8 30 26 (uh 3 29),y8 31 26 (Ha 51 [28,30]),mh 32 26 (SM 31),fB 33 (FL 26 32),jO 34 33,mh 35 34 (vn 6 2),y8 36 34 (uh 6 35),mh 37 34 (vn 6 3),y8 38 34 (uh 6 37),y8 39 34 (Ha 50 [36,38]),mh 40 34 (SM 39),fB 41 (FL 34 40),jO 42 41,mh 43 42 (vn 12 2),y8 44 42 (uh 6 43),mh 45 42 (vn 12 3),y8 46 42 (uh 6 45),y8 47 42 (Ha 50 [44,46]),mh 48 42 (SM 47),fB 49 (FL 42 48),jO 50 49,mh 51 50 (vn 18 2),y8 52 50 (wS 51),mh 53 50 (Cs 52),mh 54 50 (vn 18 3),y8 55 50 (wS 54),mh 56 50 (Cs 55),mh 57 50 (IC .neq 53 56),fB 58 (FL 50 57),jO 59 58,mh 60 59 (vn 19 2),y8 61 59 (wS 60),mh 62 59 (Cs 61),mh 63 59 (vn 19 3),y8 64 59 (wS 63),mh 65 59 (Cs 64),mh 66 59 (IC .neq 62 65),fB 67 (FL 59 66)]
def dK:=rN.eq_1
def rO:List KD:=[eF (iu 75 18 2) 0 0,eF (hD 76 75) 0 0,eF (jO 77 5) 0 0,eF (fB 78 (D1 12 76 77)) 0 0,eF (iu 79 0 78) 0 0,eF (tx 80 (uh 6 79)) 0 0,eF (iu 81 18 3) 0 0,eF (hD 82 81) 0 0,eF (jO 83 5) 0 0,eF (fB 84 (D1 12 82 83)) 0 0,eF (iu 85 0 84) 0 0,eF (tx 86 (uh 6 85)) 0 0,La (tx 87 (Ha 50 [80,86])) 0 1,eF (fB 88 (SM 87)) 1 1,eF (jO 89 88) 1 1,eF (mh 90 89 (vn 18 2)) 1 1,eF (y8 91 89 (wS 90)) 1 1,eF (FK 92 89 5) 1 1,eF (mh 93 89 (D1 12 91 92)) 1 1,eF (mh 94 89 (vn 6 93)) 1 1,eF (y8 95 89 (uh 6 94)) 1 1,eF (mh 96 89 (vn 18 3)) 1 1,eF (y8 97 89 (wS 96)) 1 1,eF (FK 98 89 5) 1 1,eF (mh 99 89 (D1 12 97 98)) 1 1,eF (mh 100 89 (vn 6 99)) 1 1,eF (y8 101 89 (uh 6 100)) 1 1,La (y8 102 89 (Ha 50 [95,101])) 1 2,eF (mh 103 89 (SM 102)) 2 2,eF (fB 104 (FL 89 103)) 2 2]
def jS:=rO.eq_1
def nT:KC:=.dJ [2,3,5] (.Q (nv [jO 68 5,iu 69 18 2,hD 70 69,fB 71 (Cs 70),fB 72 (IC .lss 68 71)] (.cond (.t 72) .skip (.dJ [2,3] (.exit 0)))) (.Q (.block 1 (.Q (.draw [] rO) (.dJ [2,3,5,104] (rm 104 (nv [fB 4 (vK (.B false))] (FM [4])))))) (.ops [jO 73 5,fB 74 (tU .add 73 1),jO 5 74])))
def jR:=nT.eq_1
def nW:KC:=.dJ [2,3,6] (.Q (nv [jO 105 6,iu 106 19 2,hD 107 106,fB 108 (Cs 107),fB 109 (IC .lss 105 108)] (.cond (.t 109) .skip (.dJ [] (.exit 2)))) (.Q (.block 3 (.Q (.draw [] [eF (iu 112 19 2) 0 0,eF (hD 113 112) 0 0,eF (jO 114 6) 0 0,eF (fB 115 (D1 20 113 114)) 0 0,eF (tx 116 (uh 20 115)) 0 0,eF (iu 117 19 3) 0 0,eF (hD 118 117) 0 0,eF (jO 119 6) 0 0,eF (fB 120 (D1 20 118 119)) 0 0,eF (tx 121 (uh 20 120)) 0 0,La (tx 122 (Ha 24 [116,121])) 0 1,eF (fB 123 (SM 122)) 1 1]) (rm 123 (nv [fB 4 (vK (.B false))] (FM [4]))))) (.ops [jO 110 6,fB 111 (tU .add 110 1),jO 6 111])))
def jT:=nW.eq_1
def alz:aG 24=some ⟨124,nv [tx 2 (q_b 20 0),tx 3 (q_b 20 1),fB 4 (vK (.B false))] (.Q (nv rN (.dJ [2,3,67] (rm 67 (nv [fB 4 (vK (.B false))] (FM [4]))))) (.Q (nv [fB 5 (vK (.I .i64 0))] (.block 0 (.L nT))) (.Q (nv [fB 6 (vK (.I .i64 0))] (.block 2 (.L nW))) (nv [fB 4 (vK (.B true))] (FM [4]))))),[.tmp 4]⟩:=(li Tryz.func24 rfl).trans (by kernel_rfl)
def al0:=(li Tryz.func25 rfl).trans (by cbv)
def Vp:=(li Tryz.func26 rfl).trans (by cbv)
def xY:List KO:=rk (aG 26) 1
def cA:=(by have h:=(je Vp 1).trans (by cbv);exact h:xY=_)
def xZ:List KO:=rk (aG 26) 3
def dC:=(by have h:=(je Vp 3).trans (by cbv);rewrite [<-ai.eq_1]at h;exact h:xZ=_)
def al1:=(by have h:=Vp;rewrite [<-ai.eq_1,<-cA,<-dC]at h;exact h:aG 26=_)
def al2:=(li Tryz.func27 rfl).trans (by cbv)
def aaz:=(li Tryz.func28 rfl).trans (by cbv)
def s9:KC:=oK (aG 28) 0
def iV:=(by have h:=(gL aaz 0).trans (by cbv);exact h:s9=_)
def al3:=(by have h:=aaz;rewrite [<-iV]at h;exact h:aG 28=_)
def alQ:=(li Tryz.func29 rfl).trans (by cbv)
def mZ:KC:=.dJ [1,3,4] (.Q (nv [jO 49 4,iu 50 18 1,hD 51 50,fB 52 (Cs 51),fB 53 (IC .lss 49 52)] (.cond (.t 53) .skip (.dJ [1,3] (.exit 0)))) (.Q (.block 1 (.draw [] [eF (jO 56 3) 0 1,eF (iu 57 18 1) 0 0,eF (hD 58 57) 0 0,eF (jO 59 4) 0 0,eF (fB 60 (D1 12 58 59)) 0 0,eF (iu 61 0 60) 0 0,eF (tx 62 (uh 6 61)) 0 0,La (tx 63 (Ha 58 [62])) 0 1,La (tx 64 (Yy 1 56 63)) 1 2,eF (iu 65 18 1) 0 2,eF (hD 66 65) 0 2,eF (jO 67 4) 0 2,eF (fB 68 (D1 12 66 67)) 0 2,eF (iu 69 6 68) 0 2,eF (tx 70 (uh 6 69)) 0 2,La (tx 71 (Ha 58 [70])) 2 3,La (tx 72 (Yy 1 64 71)) 3 4,eF (jO 3 72) 4 4])) (.ops [jO 54 4,fB 55 (tU .add 54 1),jO 4 55])))
def jv:=mZ.eq_1
def al4:aG 30=some ⟨84,nv [tx 1 (q_b 20 0),fB 2 (vK .ar)] (.Q (.draw [] [eF (iu 5 0 1) 0 1,eF (hD 6 5) 0 1,eF (fB 7 (q_W .u8 6)) 0 1,eF (tx 8 (.bsl 1 [.I .u8 0] 1 [(0,.t 7)])) 0 1,eF (iu 9 1 1) 0 0,eF (hD 10 9) 0 0,eF (tx 11 (.byt (.t 10))) 0 0,La (tx 12 (Ha 61 [11])) 0 1,La (tx 13 (Yy 1 8 12)) 1 2,eF (jO 3 13) 2 2]) (.Q (nv [iu 14 0 1,hD 15 14,tx 16 (Ha 62 [15])] (rm 16 (.ops [jO 17 3,iu 18 2 1,hD 19 18,tx 20 (.byt (.t 19)),tx 21 (Ha 61 [20]),tx 22 (Yy 1 17 21),jO 3 22]))) (.Q (nv [iu 23 0 1,hD 24 23,tx 25 (Ha 63 [24])] (rm 25 (.draw [] [eF (jO 26 3) 0 1,eF (iu 27 3 1) 0 0,eF (tx 28 (uh 3 27)) 0 0,La (tx 29 (Ha 64 [28])) 0 1,La (tx 30 (Yy 1 26 29)) 1 2,eF (iu 31 6 1) 0 2,eF (tx 32 (uh 6 31)) 0 2,La (tx 33 (Ha 58 [32])) 2 3,La (tx 34 (Yy 1 30 33)) 3 4,eF (jO 3 34) 4 4]))) (.Q (nv [iu 35 0 1,hD 36 35,fB 37 (tU .eql 36 8)] (rm 37 (.Q (.draw [] [eF (jO 38 3) 0 1,eF (iu 39 12 1) 0 0,eF (tx 40 (uh 6 39)) 0 0,La (tx 41 (Ha 58 [40])) 0 1,La (tx 42 (Yy 1 38 41)) 1 2,eF (iu 43 18 1) 0 2,eF (hD 44 43) 0 2,eF (fB 45 (Cs 44)) 0 2,eF (fB 46 (q_W .u8 45)) 0 2,eF (tx 47 (.bsl 1 [.I .u8 0] 1 [(0,.t 46)])) 0 2,La (tx 48 (Yy 1 42 47)) 2 3,eF (jO 3 48) 3 3]) (nv [fB 4 (vK (.I .i64 0))] (.block 0 (.L mZ)))))) (.Q (nv [iu 73 0 1,hD 74 73,fB 75 (tU .gtr 74 8)] (rm 75 (.ops [jO 76 3,iu 77 19 1,hD 78 77,fB 79 (.ixL 20 (.t 78) (q_i 0)),tx 80 (uh 20 79),tx 81 (Ha 30 [80]),tx 82 (Yy 1 76 81),jO 3 82]))) (nv [jO 83 3,jO 2 83] (FM [2]))))))),[.tmp 2]⟩:=(li Tryz.func30 rfl).trans (by kernel_rfl)
def ah0:=(li Tryz.func31 rfl).trans (by cbv)
def al5:=(li Tryz.func32 rfl).trans (by cbv)
def aaD:=(li Tryz.func33 rfl).trans (by cbv)
def Ax:KC:=oK (aG 33) 0
def dw:=(by have h:=(gL aaD 0).trans (by cbv);exact h:Ax=_)
def Lz:=(by have h:=aaD;rewrite [<-cr.eq_1,<-ah.eq_1,<-cC.eq_1,<-aU.eq_1,<-dw]at h;exact h:aG 33=_)
def aaE:=(li Tryz.func34 rfl).trans (by cbv)
def zg:List KO:=rk (aG 34) 1
def ey:=(by have h:=(je aaE 1).trans (by cbv);exact h:zg=_)
def al6:=(by have h:=aaE;rewrite [<-ey]at h;exact h:aG 34=_)
def ah1:=(li Tryz.func35 rfl).trans (by cbv)
def al7:=(by have h:=ah1;rewrite [<-cr.eq_1,<-aU.eq_1]at h;exact h:aG 35=_)
def aaF:=(li Tryz.func36 rfl).trans (by cbv)
def IX:List KO:=rk (aG 36) 1
def jd:=(by have h:=(je aaF 1).trans (by cbv);exact h:IX=_)
def al8:=(by have h:=aaF;rewrite [<-jd]at h;exact h:aG 36=_)
def ah2:=(li Tryz.func37 rfl).trans (by cbv)
def LA:=(by have h:=ah2;rewrite [<-ah.eq_1]at h;exact h:aG 37=_)
def al9:=(li Tryz.func38 rfl).trans (by cbv)
def ah3:=(li Tryz.func39 rfl).trans (by cbv)
def al_:=(by have h:=ah3;rewrite [<-cC.eq_1]at h;exact h:aG 39=_)
def aaG:=(li Tryz.func40 rfl).trans (by cbv)
def tD:KC:=oK (aG 40) 0
def gr:=(by have h:=(gL aaG 0).trans (by cbv);rewrite [<-ad.eq_1]at h;exact h:tD=_)
def ama:=(by have h:=aaG;rewrite [<-ad.eq_1,<-gr]at h;exact h:aG 40=_)
def aaH:=(li Tryz.func41 rfl).trans (by cbv)
def Ay:KC:=oK (aG 41) 0
def mq:=(by have h:=(gL aaH 0).trans (by cbv);exact h:Ay=_)
def amb:=(by have h:=aaH;rewrite [<-mq]at h;exact h:aG 41=_)
def amc:=(li Tryz.func42 rfl).trans (by cbv)
def aaI:=(li Tryz.func45 rfl).trans (by cbv)
def mQ:KC:=oK (aG 45) 0
def fS:=(by have h:=(gL aaI 0).trans (by cbv);exact h:mQ=_)
def alB:=(by have h:=aaI;rewrite [<-fS]at h;exact h:aG 45=_)
def alD:=(li Tryz.func46 rfl).trans (by cbv)
def NY:=(li Tryz.func47 rfl).trans (by cbv)
def zh:List KO:=rk (aG 47) 1
def cH:=(by have h:=(je NY 1).trans (by cbv);exact h:zh=_)
def zi:List KO:=rk (aG 47) 5
def gA:=(by have h:=(je NY 5).trans (by cbv);exact h:zi=_)
def nY:KC:=oK (aG 47) 0
def ep:=(by have h:=(gL NY 0).trans (by cbv);rewrite [<-gA]at h;exact h:nY=_)
def nZ:KC:=oK (aG 47) 1
def fh:=(by have h:=(gL NY 1).trans (by cbv);exact h:nZ=_)
def alF:=(by have h:=NY;rewrite [<-cH,<-gA,<-ep,<-fh]at h;exact h:aG 47=_)
def aaJ:=(li Tryz.func49 rfl).trans (by cbv)
def rE:KC:=oK (aG 49) 0
def iC:=(by have h:=(gL aaJ 0).trans (by cbv);exact h:rE=_)
def alw:=(by have h:=aaJ;rewrite [<-iC]at h;exact h:aG 49=_)
def NZ:=(li Tryz.func50 rfl).trans (by cbv)
def zj:List KO:=rk (aG 50) 1
def eo:=(by have h:=(je NZ 1).trans (by cbv);exact h:zj=_)
def rH:KC:=oK (aG 50) 0
def iG:=(by have h:=(gL NZ 0).trans (by cbv);exact h:rH=_)
def rI:KC:=oK (aG 50) 1
def iH:=(by have h:=(gL NZ 1).trans (by cbv);exact h:rI=_)
def rJ:KC:=oK (aG 50) 2
def iI:=(by have h:=(gL NZ 2).trans (by cbv);exact h:rJ=_)
def aly:=(by have h:=NZ;rewrite [<-eo,<-iG,<-iH,<-iI]at h;exact h:aG 50=_)
def Rg:=(li Tryz.func51 rfl).trans (by cbv)
def zk:List KO:=rk (aG 51) 1
def iF:=(by have h:=(je Rg 1).trans (by cbv);exact h:zk=_)
def rF:KC:=oK (aG 51) 0
def iD:=(by have h:=(gL Rg 0).trans (by cbv);exact h:rF=_)
def rG:KC:=oK (aG 51) 1
def iE:=(by have h:=(gL Rg 1).trans (by cbv);exact h:rG=_)
def alx:=(by have h:=Rg;rewrite [<-iF,<-iD,<-iE]at h;exact h:aG 51=_)
def amd:=(li Tryz.func52 rfl).trans (by cbv)
def Rh:=(li Tryz.func53 rfl).trans (by cbv)
def x9:List KO:=rk (aG 53) 3
def eS:=(by have h:=(je Rh 3).trans (by cbv);exact h:x9=_)
def x_:List KO:=rk (aG 53) 4
def eT:=(by have h:=(je Rh 4).trans (by cbv);exact h:x_=_)
def qL:KC:=oK (aG 53) 0
def eU:=(by have h:=(gL Rh 0).trans (by cbv);rewrite [<-eS,<-eT]at h;exact h:qL=_)
def ame:=(by have h:=Rh;rewrite [<-eS,<-eT,<-eU]at h;exact h:aG 53=_)
def amf:=(li Tryz.func54 rfl).trans (by cbv)
def amg:=(li Tryz.func55 rfl).trans (by cbv)
def aaK:=(li Tryz.func56 rfl).trans (by cbv)
def qM:KC:=oK (aG 56) 0
def eV:=(by have h:=(gL aaK 0).trans (by cbv);exact h:qM=_)
def amh:=(by have h:=aaK;rewrite [<-eV]at h;exact h:aG 56=_)
def ami:=(li Tryz.func57 rfl).trans (by cbv)
def aaL:=(li Tryz.func58 rfl).trans (by cbv)
def qN:KC:=oK (aG 58) 0
def ec:=(by have h:=(gL aaL 0).trans (by cbv);exact h:qN=_)
def amj:=(by have h:=aaL;rewrite [<-ec]at h;exact h:aG 58=_)
def aaM:=(li Tryz.func59 rfl).trans (by cbv)
def qB:KC:=oK (aG 59) 0
def fT:=(by have h:=(gL aaM 0).trans (by cbv);exact h:qB=_)
def alL:=(by have h:=aaM;rewrite [<-fT]at h;exact h:aG 59=_)
end
end Go.Proofs.YteipnkjhnbaipaaGreatDoor.am
