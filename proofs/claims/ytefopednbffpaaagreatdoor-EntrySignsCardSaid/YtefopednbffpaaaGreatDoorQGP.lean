/- Parts. No condition. -/
import Derived.Test.YtefopednbffpaaaGreatDoorProg
import Derived.KernelRfl
import Derived.Test.YtefopednbffpaaaGreatDoorQF
import Derived.Test.YtefopednbffpaaaGreatDoorQD
set_option linter.all false
namespace Go.Proofs.YtefopednbffpaaaGreatDoor.am
open Go
open Decidable renaming decide->ck
open Go.Proofs.YtefopednbffpaaaGreatDoor.am renaming bn->H
noncomputable section
def nts:List (Option Nts):=[none,none,none,some [(8,[4]),(26,[4]),(26,[4]),(30,[4]),(30,[4])],some [(4,[2]),(4,[2])],some [(6,[0]),(6,[0])],some [(12,[4,5]),(22,[4,5])],some [(7,[1,3]),(12,[1]),(20,[2]),(29,[2]),(37,[2]),(41,[2]),(41,[2])],some [(4,[2])],some [(8,[2]),(18,[2]),(22,[2])],some [(8,[4]),(15,[2,3,5]),(20,[2,3]),(28,[4]),(33,[4]),(33,[4])],some [(8,[2]),(14,[2])],some [(4,[4])],some [(4,[2])],some [(4,[2])],some [(8,[2,3]),(18,[2,3]),(22,[2,3])],some [(6,[2])],some [(15,[1,4,23,24,25]),(20,[1,4]),(45,[2,3])],some [(20,[4])],some [(8,[2,3]),(42,[2,3]),(46,[2,3])],some [(7,[2,3,5]),(12,[]),(20,[4]),(25,[4])],some [(5,[1,16]),(8,[2]),(13,[1,38]),(16,[2]),(27,[2]),(33,[2]),(37,[2])],some [(5,[2,3,67]),(8,[4]),(15,[2,3,5]),(20,[2,3]),(25,[2,3,5,104]),(28,[4]),(36,[2,3,6]),(41,[]),(49,[4]),(54,[4])],some [(4,[2])],some [(4,[4]),(4,[4])],some [(11,[1,3,4]),(16,[1,3]),(31,[2])],none,some [(6,[2])],some [(12,[6]),(18,[6])],some [(8,[6])],some [(6,[2])],some [(8,[2]),(15,[0,3]),(20,[]),(28,[2]),(33,[2])],some [(4,[2])],some [(5,[1,2,47]),(8,[4]),(15,[1,2,5]),(20,[1,2]),(25,[1,2,5,70]),(28,[4]),(36,[1,2,6]),(41,[]),(49,[4]),(54,[4])],some [(8,[2]),(19,[2]),(25,[2]),(29,[2])],some [(12,[2,3])],some [(4,[0])],some [(11,[3,4,5,6,7]),(16,[4,6]),(24,[3,4,5,6,7,15]),(29,[3,4,5,6,7]),(38,[4])],some [(14,[2])],some [],some [],some [(3,[0,1]),(8,[0,1])],some [(8,[2,3]),(21,[2,3]),(36,[2,3]),(40,[2,3])],some [(8,[2,3]),(15,[1,4]),(25,[2,3]),(30,[1]),(49,[2,3]),(53,[2,3])],some [(4,[2])],some [(4,[6])],some [(6,[6])],some [(4,[2])],some [(8,[2])],some [(2,[0,1,16])],some [(8,[2])],some [(17,[0,3,4,5]),(22,[4]),(35,[2])],some [(93,[2]),(97,[2])],some [(4,[2])],some [(8,[4])],some [(5,[0,16]),(8,[2]),(12,[2])],some [(7,[0,3]),(12,[0]),(17,[0,3,4]),(19,[0,3,4,5]),(24,[2]),(29,[2])],some [(4,[2])],some [(4,[2])],some [(5,[2,3,53]),(8,[4]),(15,[2,3,5]),(20,[2,3]),(28,[4]),(36,[2,3,6]),(41,[2,3]),(49,[4]),(57,[2,3,7]),(62,[]),(70,[4]),(75,[4])],some [(5,[2,3,29]),(8,[4]),(15,[2,3,5]),(20,[2,3]),(28,[4]),(36,[2,3,6]),(41,[]),(49,[4]),(54,[4])],some [(9,[1,3,4]),(14,[3]),(27,[2])],some [(7,[1,3,18]),(10,[2]),(15,[1,3,43]),(18,[2]),(23,[1,3,72]),(26,[2]),(31,[1,3,87]),(34,[2]),(43,[1,3,105]),(46,[2]),(52,[1,3,4]),(57,[1,3]),(62,[1,3,4,132]),(65,[2]),(75,[2]),(79,[2])],some [(8,[4]),(15,[0,1,5]),(20,[]),(28,[4]),(33,[4])],some [(24,[2])],some [(26,[1,3,4]),(31,[1,3]),(45,[2])],none,none,none,none,some [(12,[4])],some [(12,[2,3]),(28,[2,3]),(38,[2,3])],some [(4,[2])],some [(4,[6])],some [(4,[2])],some [(19,[6,10,12,13,14]),(24,[6,13]),(31,[6])],some [(11,[2,4,5,6]),(16,[2,4,5]),(27,[2,3])],some [(14,[2])],some [(11,[2,3,4,5,6,7]),(16,[4,6]),(29,[4])],some [(8,[0])],some [(10,[6]),(17,[1,2,3,7]),(22,[1]),(29,[6])],some [(4,[2])],some [(7,[0,3]),(12,[]),(20,[2]),(25,[2])],some [(8,[2]),(21,[2]),(21,[2]),(27,[2]),(27,[2]),(33,[2]),(39,[2]),(39,[2]),(43,[2])],some [(4,[4]),(4,[4])],some [(4,[2])],some [(4,[4]),(4,[4])],some [(9,[2,3,11,12,13]),(14,[2,3]),(28,[2,3,6,7]),(33,[2,6]),(45,[2,8,36,37]),(50,[2,8]),(59,[2])],some [(4,[4])],some [(9,[1,2,3,5]),(14,[2,3]),(23,[2])],some [(11,[1,2,3,4]),(16,[2,3]),(23,[2])],some [(4,[0])],some [(12,[2])],some [(14,[4])],some [(4,[2])],some [(9,[3,4,5,20,21]),(14,[4,5]),(23,[3,4,5,6,7,20,21,26,27]),(28,[3,4,5,20,21]),(49,[4,5,10,11,64]),(54,[4,10,11]),(79,[4])],some [(9,[2,3,10,11]),(14,[2,3]),(23,[2,3,4,5,6,10,11]),(28,[2,3,10,11]),(38,[2])],some [(4,[2])],some [(8,[2,3]),(22,[2,3]),(26,[2,3])],some [],some [(19,[2,3]),(29,[2,3]),(39,[2,3]),(45,[2,3]),(55,[2,3]),(59,[2,3])],some [(8,[2])],some [(36,[0,3,63,64,65]),(41,[0,3]),(53,[0,78,79,80]),(58,[])],some [(4,[2])],some [(4,[2])],some [(9,[3,4,5,14,15]),(14,[4,5]),(26,[3,4,5,6,7,8,14,15,19,20]),(31,[3,4,5,6,8,14,15]),(50,[4])],some [(11,[0,2,3,4,5]),(16,[2,3]),(31,[2])],some [(9,[2,3,4,5,9]),(14,[2,4]),(29,[4]),(33,[4])],some [(9,[1,2,3,5]),(14,[2,3]),(23,[2])],some [(4,[]),(14,[])],some [(8,[3,4]),(14,[3,4])],some [(8,[4]),(12,[4])],some [(8,[4])],some [(8,[2]),(12,[2])],some [(17,[0,3,4,5]),(22,[0,4]),(33,[2]),(37,[2])],some [(4,[2])],some [(24,[4]),(45,[0,1,4,5,6,8,59]),(68,[4]),(72,[4])],some [(10,[4,5]),(16,[4,5])],some [(7,[5,6,7]),(12,[]),(22,[2]),(27,[2])],some [(7,[0,3]),(12,[0]),(19,[0,3,32]),(22,[2]),(27,[2])],some [(9,[1,3,4]),(14,[3]),(27,[2])],some [(7,[1,3,61]),(10,[2]),(15,[1,118]),(18,[2]),(25,[1,4]),(30,[1]),(35,[1,4,150]),(38,[2]),(46,[1,5]),(51,[1]),(59,[1,5,6]),(64,[1,5]),(72,[2]),(80,[2]),(88,[1,7]),(93,[]),(101,[2]),(106,[2])],some [(4,[2])],some [(4,[2])],some [(4,[4])],some [(4,[2])],some [(9,[0,3,4]),(14,[3]),(27,[2])],some [(8,[2]),(12,[2])],some [(13,[2]),(19,[2]),(29,[2]),(38,[1,3,4]),(43,[3]),(56,[2])],some [(4,[2])],some [(15,[1,3,4]),(20,[1,3]),(39,[2])],none,none,none,some [(4,[2])],some [(4,[2])],some [(17,[4,5]),(28,[4,5]),(37,[4,5])],some [(7,[2,3,4,6]),(12,[2,4]),(25,[4])],some [(4,[0])],some [(7,[2,3,4,6]),(12,[2,4]),(21,[4])],some [(4,[2])],some [(4,[2])],some [(4,[2])],some [(4,[6])],some [(8,[2])],some [(6,[2])],some [(9,[1,2,3,4]),(14,[2,3]),(21,[2])],some [(9,[2,3,4,5,6]),(14,[4,5]),(24,[2,3,4,5,6,7,8]),(29,[2,3,4,5,6,7]),(49,[4,5,10,11,12]),(54,[4,10,11]),(66,[4,10,11]),(71,[4,10]),(82,[4,10,14,15]),(87,[4,10,14]),(99,[4])],some [(4,[2])],some [(4,[0])],some [(4,[0])],some [(2,[3,4,5,6]),(4,[3,4,5,6,7]),(6,[3,4,5,6,7,8,9]),(8,[3,4,5,6,7,8,9,10]),(10,[5,6,7,8,9,10,11]),(12,[5,6,7,8,9,10,11,12]),(14,[6,7,10,11,12,13]),(16,[6,7,10,11,14,15]),(18,[6])],some [(4,[2])],some [(2,[1,2]),(4,[1,2,4]),(6,[1,2,4]),(9,[1,2,4,21]),(12,[2,3]),(14,[1,2,4]),(16,[2,4,5]),(18,[2,4,5,6]),(20,[2,4,5,6,7]),(22,[2,4,5,6,8,9]),(25,[2,4,5,6,8,50]),(28,[2,3]),(30,[2,4,5,6,8]),(36,[2,5,6,8]),(38,[2,3])],some [(10,[6]),(17,[1,2,3,7]),(22,[1,2,3]),(30,[6]),(38,[1,2,3,8]),(43,[1]),(50,[6])],some [(4,[4])],some [(4,[2])],some [(4,[4]),(4,[4])],some [(4,[2])],some [(4,[4]),(4,[4])],some [(8,[6]),(15,[1,2,15,16,17]),(20,[]),(32,[6]),(37,[6])],some [(4,[4])],some [(8,[6]),(15,[1,2,15,16,17]),(20,[]),(32,[6]),(37,[6])],some [(8,[1,2,5,13]),(11,[4]),(17,[4]),(23,[4]),(29,[4]),(35,[4]),(35,[4]),(39,[4])],some [(8,[4]),(15,[0,1,12,13]),(20,[]),(30,[4]),(35,[4])],none,some [(4,[0])],some [(4,[0])],some [(9,[1,2,3,6,7,18]),(14,[2,3,6,7]),(38,[2,3,6,7,11,72]),(43,[3,6,11]),(61,[3,6,11,156]),(66,[3,6]),(75,[6])],some [(4,[0,1,4]),(9,[])],some [(9,[1,2,5,6]),(14,[1,5]),(27,[4])],some [(4,[0])],some [(9,[1,2,4,5,6]),(14,[4,5]),(27,[4])],some [(4,[2])],some [(10,[6])],none,some [(24,[4,5])],some [(9,[1,2,3,8,9]),(14,[1,2,3]),(26,[1,2,3,18]),(31,[1,2]),(46,[2])],some [(11,[1,2,3,11,12]),(16,[1,2,3]),(30,[1,2,6]),(35,[1,2]),(46,[2])],some [(29,[0,3,40,41,42]),(34,[])],some [(4,[]),(12,[0,14,15,16]),(17,[])],some [(8,[2,3]),(22,[2,3]),(26,[2,3])],some [],some [(4,[0,8,9,10]),(9,[])],some [(9,[3,10,11,12]),(14,[3]),(23,[2])],some [(4,[0])],some [(7,[1,2,4,7,8]),(12,[2,4]),(23,[4])],some [(9,[2,3,4,6,8]),(14,[2,4,6]),(23,[4,5])],some [(10,[4,5]),(16,[4,5])],some [(9,[5,8,9,10]),(14,[]),(22,[5,6,7,8,9,10,24]),(23,[]),(37,[]),(41,[2,3,4]),(45,[2,3,4])],some [(18,[2])],some [(16,[4]),(58,[0,1,4,5,51,52]),(63,[0,4,5]),(92,[4]),(96,[4])],some [(12,[4])],some [(4,[3])],some [(4,[4])],some [(4,[2])],some [(4,[2])],some [(12,[4])],some [(14,[0,1,2,6,7]),(19,[])],some [(4,[2])],some [(8,[4]),(19,[2,3,5]),(24,[]),(32,[4]),(37,[4]),(49,[4]),(55,[2,3,6]),(60,[2,3]),(65,[2,3,6,72]),(68,[4]),(80,[2,3,7]),(85,[]),(93,[4]),(99,[4])],some [(8,[2]),(12,[2])],some [(4,[2])],some [(4,[4])],some [(4,[0])],some [(4,[2])],some [(9,[0,2,3,4]),(14,[2,3]),(21,[2])],some [(9,[3,4]),(14,[3]),(19,[3,4]),(24,[3,4]),(32,[3,4,5,6]),(37,[3,4]),(57,[2])],some [(11,[0,1,5,6,7]),(14,[0,1,5,6,7,22]),(16,[5]),(27,[4])],some [(9,[0,1,5,6]),(14,[5]),(23,[0,1,5,6,7,8]),(28,[0,1,5,6]),(40,[4])],some [(9,[0,3,4]),(14,[3]),(21,[2])],some [(9,[1,2,5,6]),(14,[1,2,5,6]),(24,[2,5,6,7,8]),(29,[2,5,6]),(43,[2,5,6,9]),(48,[2,9]),(60,[2,9,10,11]),(65,[10]),(72,[2,9,10,11,12]),(77,[2,9,10,11]),(85,[4])],some [(4,[0])],some [(11,[2,3,4,6,7,8]),(16,[4,6,7]),(27,[4,5])],some [(4,[0])],some [(9,[2,3,4,5,6]),(14,[4,5]),(27,[4])],some [(5,[1,2]),(10,[1,2]),(15,[2])],some [(10,[4]),(16,[4])],some [(11,[2,3,4,5,6,7]),(16,[4,5]),(27,[4])],some [(7,[2,3,5]),(12,[]),(20,[4]),(25,[4])],some [(9,[1,2,3,4]),(14,[2,3]),(21,[2])],some [(6,[2])],some [(2,[2,3,4]),(5,[2,3,4,14]),(8,[4,5]),(10,[2,3,4]),(12,[4,6]),(14,[4,6,7]),(16,[4,6,7]),(18,[4,6,8]),(21,[4,6,8,34]),(24,[4,6,8,9]),(26,[4,6,8,11]),(28,[4,6,8]),(31,[4,8,53]),(34,[4,5]),(36,[4,8]),(42,[4,8]),(44,[4,5])],some [(7,[0,1,9,10,11]),(12,[0,1]),(23,[4]),(34,[4]),(43,[4]),(47,[4])],some [(4,[4])],some [(4,[2])],some [(8,[2]),(12,[2])],some [(8,[4]),(15,[0,1,12,13]),(20,[]),(30,[4]),(35,[4])],some [(8,[4]),(15,[0,1,12,13]),(20,[]),(30,[4]),(35,[4])],some [(8,[6]),(15,[1,2,15,16,17]),(20,[]),(32,[6]),(37,[6])],some [(4,[4]),(4,[4])],some [(8,[6]),(15,[1,2,15,16,17]),(20,[]),(32,[6]),(37,[6])],some [(6,[2])],some [(4,[4]),(4,[4])],some [(4,[2]),(4,[2])],some [(4,[2]),(4,[2])],some [(9,[3,6,7,8]),(14,[3]),(23,[2])],some [(4,[4])],some [],some [],some [(4,[2])],some [(15,[0,3,26,27,28]),(20,[0,3])],some [],none,some [(4,[4])],some [(8,[2])],some [(6,[2])],some [(12,[2])],some [(12,[4]),(16,[4])],some [(7,[0,5,6,7]),(12,[0]),(19,[0,5,6,7,27]),(22,[2]),(27,[2])],some [(7,[0,5,6,7]),(12,[0]),(22,[2]),(27,[2])],some [(5,[2,3,38]),(8,[4]),(15,[3,40,41,42]),(20,[]),(38,[4]),(43,[4])],some [(16,[4]),(41,[0,4,5,29,30]),(46,[0,4,5]),(58,[0,1,4,5,38,39]),(63,[0,4,5]),(81,[4]),(85,[4])],some [(4,[2])],some [(9,[1,3,4]),(14,[3]),(27,[2])],some [(5,[1,47]),(8,[2]),(30,[2]),(37,[1,4]),(42,[1]),(51,[2]),(57,[1,4,5]),(62,[1,4]),(67,[1,4,5,109]),(70,[2]),(79,[1,6]),(84,[]),(92,[2]),(97,[2])],some [(8,[4]),(12,[4])],some [(15,[0,1,2,8]),(20,[]),(28,[6]),(33,[6])],some [(4,[0])],some [(9,[1,2,3,7,8]),(14,[1,3,7]),(27,[1,2,3,7,8,9,10]),(32,[1,2,3,7,8,9]),(47,[1,3,7,11,12]),(52,[1,3,11]),(68,[1,3,11,15,16]),(73,[15]),(80,[6])],some [(7,[1,2,4,5]),(12,[2,4]),(21,[1,2,4,5,6,7]),(26,[1,2,4,5]),(38,[4])],some [(16,[4]),(20,[4]),(28,[4]),(36,[4]),(44,[4]),(48,[4])],some [(7,[0,1,7,8]),(12,[]),(22,[4]),(27,[4])],some [(4,[1,3]),(13,[2]),(13,[2]),(19,[2]),(25,[2]),(25,[2]),(31,[2]),(31,[2]),(37,[2]),(37,[2]),(43,[2]),(43,[2]),(47,[2])],some [(4,[4])],some [(4,[3])],some [(4,[4])],some [(4,[2]),(4,[2])],some [(4,[4])],some [(4,[3]),(4,[3])],some [(6,[4])],some [(4,[4]),(4,[4])],some [(8,[4])],some [(8,[3,4]),(14,[3,4])],some [(4,[4])],some [(4,[4])],some [(11,[4]),(19,[4]),(27,[4])],some [(6,[0,30])],some [(7,[0,5,6,7]),(12,[]),(22,[2]),(27,[2])],some [(4,[2])],some [(4,[6])],some [(4,[6])],some [(4,[2])],some [(7,[0,1,7,8]),(12,[]),(22,[4]),(27,[4])],some [(7,[1,2,10]),(12,[]),(21,[6]),(25,[6])],some [(7,[0,1,7,8]),(12,[]),(22,[4]),(27,[4])],some [(19,[2]),(25,[2]),(25,[2]),(31,[2]),(31,[2]),(37,[2]),(41,[2])],some [(4,[4])],some [(4,[3])],some [(11,[4,5]),(17,[4,5]),(23,[4,5]),(29,[4,5])],some [(7,[0,1,7,8]),(12,[]),(22,[4]),(27,[4])],some [(7,[0,1,7,8]),(12,[]),(22,[4]),(27,[4])],some [(7,[0,3]),(12,[]),(20,[2]),(25,[2])],some [(4,[6])],some [(4,[2])],some [(7,[0,1,7,8]),(12,[]),(22,[4]),(27,[4])],some [(4,[4]),(4,[4])],some [(4,[4])],some [(4,[2])],some [(4,[2])],some [(7,[0,1,7,8]),(12,[]),(22,[4]),(27,[4])]]
def ay(f:FuncId):Option KF:=(nts[f]?).join.bind λs=>(Tryz.prog.funcs[f]?).bind λfn=>kfm Tryz.prog fn s
def aty(f:FuncId)(k:KF)(h:ay f=some k):∃fn,Tryz.prog.funcs[f]? =some fn/\KOK Tryz.prog fn k:=by unfold ay at h;obtain⟨s,_,h⟩:=Iw.1 h;obtain⟨fn,a,h⟩:=Iw.1 h;exact⟨fn,a,ar6 h⟩
def li{f:FuncId}{fn:Func}{s:Nts}(h:Tryz.prog.funcs[f]? =some fn)(g:(nts[f]?).join=some s):ay f=kfm Tryz.prog fn s:=by unfold ay;rw[g,h];rfl
end
noncomputable section
set_option maxRecDepth 100000
set_option maxHeartbeats 0
def as3:=(li Tryz.func3 rfl).trans (by cbv)
def Ag:List KO:=xF (ay 3) 8
def nh:=(by have h:=(m7 as3 8).trans (by cbv);rewrite [<-bH.eq_1]at h;exact h:Ag=_)
def Ah:List KD:=dwK (ay 3) 0
def qy:=(by have h:=(ar7 as3 0).trans (by cbv);rewrite [<-fV.eq_1]at h;exact h:Ah=_)
def e_3:=(by have h:=as3;rewrite [<-bH.eq_1,<-fV.eq_1,<-nh,<-qy]at h;exact h:ay 3=_)
def azn:=(li Tryz.func4 rfl).trans (by cbv)
def D4:List KO:=xF (ay 4) 1
def mR:=(by have h:=(m7 azn 1).trans (by cbv);exact h:D4=_)
def e_4:=(by have h:=azn;rewrite [<-mR]at h;exact h:ay 4=_)
def azo:=(li Tryz.func5 rfl).trans (by cbv)
def D5:List KO:=xF (ay 5) 2
def Ci:=(by have h:=(m7 azo 2).trans (by cbv);rewrite [<-fV.eq_1]at h;exact h:D5=_)
def e_5:=(by have h:=azo;rewrite [<-bH.eq_1,<-fV.eq_1,<-aU.eq_1,<-Ci]at h;exact h:ay 5=_)
def aGQ:=(li Tryz.func6 rfl).trans (by cbv)
def e_6:=(by have h:=aGQ;rewrite [<-bH.eq_1,<-fV.eq_1]at h;exact h:ay 6=_)
def as4:=(li Tryz.func7 rfl).trans (by cbv)
def D6:List KO:=xF (ay 7) 9
def mQ:=(by have h:=(m7 as4 9).trans (by cbv);rewrite [<-aU.eq_1]at h;exact h:D6=_)
def vm:KC:=ku (ay 7) 0
def dt:=(by have h:=(dK as4 0).trans (by cbv);exact h:vm=_)
def e_7:=(by have h:=as4;rewrite [<-aE.eq_1,<-aU.eq_1,<-dt,<-mQ]at h;exact h:ay 7=_)
def e_8:=(li Tryz.func8 rfl).trans (by cbv)
def aGR:=(li Tryz.func9 rfl).trans (by cbv)
def e_9:=(by have h:=aGR;rewrite [<-fV.eq_1]at h;exact h:ay 9=_)
def aiG:=(li Tryz.func10 rfl).trans (by cbv)
def Fu:List KO:=xF (ay 10) 7
def dM:=(by have h:=(m7 aiG 7).trans (by cbv);exact h:Fu=_)
def wI:KC:=ku (ay 10) 0
def kM:=(by have h:=(dK aiG 0).trans (by cbv);exact h:wI=_)
def aFG:=(by have h:=aiG;rewrite [<-kM,<-dM]at h;exact h:ay 10=_)
def aFB:=(li Tryz.func11 rfl).trans (by cbv)
def azp:=(li Tryz.func12 rfl).trans (by cbv)
def aFI:=(by have h:=azp;rewrite [<-bH.eq_1]at h;exact h:ay 12=_)
def aGG:=(li Tryz.func13 rfl).trans (by cbv)
def aGF:=(li Tryz.func14 rfl).trans (by cbv)
def aFu:=(li Tryz.func15 rfl).trans (by cbv)
def azq:=(li Tryz.func16 rfl).trans (by cbv)
def aGS:=(by have h:=azq;rewrite [<-aK.eq_1]at h;exact h:ay 16=_)
def ap9:=(li Tryz.func17 rfl).trans (by cbv)
def GB:KC:=ku (ay 17) 0
def kL:=(by have h:=(dK ap9 0).trans (by cbv);rewrite [<-aK.eq_1]at h;exact h:GB=_)
def ax3:=(by have h:=ap9;rewrite [<-aK.eq_1,<-fV.eq_1,<-kL]at h;exact h:ay 17=_)
def azr:=(li Tryz.func18 rfl).trans (by cbv)
def aGT:=(by have h:=azr;rewrite [<-bw.eq_1,<-aK.eq_1]at h;exact h:ay 18=_)
def azs:=(li Tryz.func19 rfl).trans (by cbv)
def ax5:=(by have h:=azs;rewrite [<-bH.eq_1,<-fV.eq_1]at h;exact h:ay 19=_)
def ap_:=(li Tryz.func20 rfl).trans (by cbv)
def wM:KC:=ku (ay 20) 0
def iY:=(by have h:=(dK ap_ 0).trans (by cbv);exact h:wM=_)
def aGU:=(by have h:=ap_;rewrite [<-iY]at h;exact h:ay 20=_)
def aiH:=(li Tryz.func21 rfl).trans (by cbv)
def D7:List KO:=xF (ay 21) 1
def cX:=(by have h:=(m7 aiH 1).trans (by cbv);exact h:D7=_)
def D8:List KO:=xF (ay 21) 3
def eM:=(by have h:=(m7 aiH 3).trans (by cbv);rewrite [<-ah.eq_1]at h;exact h:D8=_)
def aGV:=(by have h:=aiH;rewrite [<-ah.eq_1,<-cX,<-eM]at h;exact h:ay 21=_)
def wN:List KO:=[eN 7 0 2,dF 8 7,eN 9 0 3,dF 10 9,cG 11 (qB .neq 8 10),eG 12 11,p6 13 12 (Bg 1 2),Fm 14 12 (CH 13),p6 15 12 (Bg 1 3),Fm 16 12 (CH 15),p6 17 12 (.RJ .neq (.t 14) (.t 16)),cG 18 (NL 12 17),eG 19 18,p6 20 19 (Bg 2 2),Fm 21 19 (CH 20),p6 22 19 (Bg 2 3),Fm 23 19 (CH 22),p6 24 19 (.RJ .neq (.t 21) (.t 23)),cG 25 (NL 19 24),eG 26 25,p6 27 26 (Bg 3 2),Fm 28 26 (dZ 3 27),p6 29 26 (Bg 3 3),Fm 30 26 (dZ 3 29),Fm 31 26 (qX 60 [28,30]),p6 32 26 (q_U 31),cG 33 (NL 26 32),eG 34 33,p6 35 34 (Bg 6 2),Fm 36 34 (dZ 6 35),p6 37 34 (Bg 6 3),Fm 38 34 (dZ 6 37),Fm 39 34 (qX 59 [36,38]),p6 40 34 (q_U 39),cG 41 (NL 34 40),eG 42 41,p6 43 42 (Bg 12 2),Fm 44 42 (dZ 6 43),p6 45 42 (Bg 12 3),Fm 46 42 (dZ 6 45),Fm 47 42 (qX 59 [44,46]),p6 48 42 (q_U 47),cG 49 (NL 42 48),eG 50 49,p6 51 50 (Bg 18 2),Fm 52 50 (CH 51),p6 53 50 (ID 52),p6 54 50 (Bg 18 3),Fm 55 50 (CH 54),p6 56 50 (ID 55),p6 57 50 (qB .neq 53 56),cG 58 (NL 50 57),eG 59 58,p6 60 59 (Bg 19 2),Fm 61 59 (CH 60),p6 62 59 (ID 61),p6 63 59 (Bg 19 3),Fm 64 59 (CH 63),p6 65 59 (ID 64),p6 66 59 (qB .neq 62 65),cG 67 (NL 59 66)]
def eT:=wN.eq_1
def wO:List KD:=[H (eN 75 18 2) 0 0,H (dF 76 75) 0 0,H (eG 77 5) 0 0,H (cG 78 (FK 12 76 77)) 0 0,H (eN 79 0 78) 0 0,H (ee 80 (dZ 6 79)) 0 0,H (eN 81 18 3) 0 0,H (dF 82 81) 0 0,H (eG 83 5) 0 0,H (cG 84 (FK 12 82 83)) 0 0,H (eN 85 0 84) 0 0,H (ee 86 (dZ 6 85)) 0 0,m0 (ee 87 (qX 59 [80,86])) 0 1,H (cG 88 (q_U 87)) 1 1,H (eG 89 88) 1 1,H (p6 90 89 (Bg 18 2)) 1 1,H (Fm 91 89 (CH 90)) 1 1,H (NJ 92 89 5) 1 1,H (p6 93 89 (FK 12 91 92)) 1 1,H (p6 94 89 (Bg 6 93)) 1 1,H (Fm 95 89 (dZ 6 94)) 1 1,H (p6 96 89 (Bg 18 3)) 1 1,H (Fm 97 89 (CH 96)) 1 1,H (NJ 98 89 5) 1 1,H (p6 99 89 (FK 12 97 98)) 1 1,H (p6 100 89 (Bg 6 99)) 1 1,H (Fm 101 89 (dZ 6 100)) 1 1,m0 (Fm 102 89 (qX 59 [95,101])) 1 2,H (p6 103 89 (q_U 102)) 2 2,H (cG 104 (NL 89 103)) 2 2]
def nF:=wO.eq_1
def rJ:KC:=.dU [2,3,5] (.Q (mv [eG 68 5,eN 69 18 2,dF 70 69,cG 71 (ID 70),cG 72 (qB .lss 68 71)] (.cond (.t 72) .skip (.dU [2,3] (.exit 0)))) (.Q (.block 1 (.Q (.draw [] wO) (.dU [2,3,5,104] (uZ 104 (mv [cG 4 (wZ (.B false))] (Jz [4])))))) (.ops [eG 73 5,cG 74 (rS .add 73 1),eG 5 74])))
def nE:=rJ.eq_1
def rK:KC:=.dU [2,3,6] (.Q (mv [eG 105 6,eN 106 19 2,dF 107 106,cG 108 (ID 107),cG 109 (qB .lss 105 108)] (.cond (.t 109) .skip (.dU [] (.exit 2)))) (.Q (.block 3 (.Q (.draw [] [H (eN 112 19 2) 0 0,H (dF 113 112) 0 0,H (eG 114 6) 0 0,H (cG 115 (FK 20 113 114)) 0 0,H (ee 116 (dZ 20 115)) 0 0,H (eN 117 19 3) 0 0,H (dF 118 117) 0 0,H (eG 119 6) 0 0,H (cG 120 (FK 20 118 119)) 0 0,H (ee 121 (dZ 20 120)) 0 0,m0 (ee 122 (qX 22 [116,121])) 0 1,H (cG 123 (q_U 122)) 1 1]) (uZ 123 (mv [cG 4 (wZ (.B false))] (Jz [4]))))) (.ops [eG 110 6,cG 111 (rS .add 110 1),eG 6 111])))
def nG:=rK.eq_1
def aFl:ay 22=some ⟨124,mv [ee 2 (q_b 20 0),ee 3 (q_b 20 1),cG 4 (wZ (.B false))] (.Q (mv wN (.dU [2,3,67] (uZ 67 (mv [cG 4 (wZ (.B false))] (Jz [4]))))) (.Q (mv [cG 5 (wZ (.I .i64 0))] (.block 0 (.L rJ))) (.Q (mv [cG 6 (wZ (.I .i64 0))] (.block 2 (.L rK))) (mv [cG 4 (wZ (.B true))] (Jz [4]))))),[.tmp 4]⟩:=(li Tryz.func22 rfl).trans (by kernel_rfl)
def aGL:=(li Tryz.func23 rfl).trans (by cbv)
def aqa:=(li Tryz.func24 rfl).trans (by cbv)
def Fv:List KO:=xF (ay 24) 1
def iU:=(by have h:=(m7 aqa 1).trans (by cbv);exact h:Fv=_)
def aFm:=(by have h:=aqa;rewrite [<-iU]at h;exact h:ay 24=_)
def aqb:=(li Tryz.func25 rfl).trans (by cbv)
def wH:KC:=ku (ay 25) 0
def iV:=(by have h:=(dK aqb 0).trans (by cbv);rewrite [<-aK.eq_1]at h;exact h:wH=_)
def aFA:=(by have h:=aqb;rewrite [<-aK.eq_1,<-iV]at h;exact h:ay 25=_)
def azt:=(li Tryz.func27 rfl).trans (by cbv)
def aFv:=(by have h:=azt;rewrite [<-fV.eq_1]at h;exact h:ay 27=_)
def azu:=(li Tryz.func28 rfl).trans (by cbv)
def aGW:=(by have h:=azu;rewrite [<-eY.eq_1]at h;exact h:ay 28=_)
def azv:=(li Tryz.func29 rfl).trans (by cbv)
def aFH:=(by have h:=azv;rewrite [<-bH.eq_1]at h;exact h:ay 29=_)
def aAT:=(li Tryz.func30 rfl).trans (by cbv)
def aGX:=(by have h:=aAT;rewrite [<-aK.eq_1]at h;exact h:ay 30=_)
def aqf:=(li Tryz.func31 rfl).trans (by cbv)
def qG:KC:=ku (ay 31) 0
def iy:=(by have h:=(dK aqf 0).trans (by cbv);exact h:qG=_)
def aGA:=(by have h:=aqf;rewrite [<-iy]at h;exact h:ay 31=_)
def aGC:=(li Tryz.func32 rfl).trans (by cbv)
def YC:=(li Tryz.func33 rfl).trans (by cbv)
def Fw:List KO:=xF (ay 33) 1
def df:=(by have h:=(m7 YC 1).trans (by cbv);exact h:Fw=_)
def Fx:List KO:=xF (ay 33) 5
def iX:=(by have h:=(m7 YC 5).trans (by cbv);exact h:Fx=_)
def rM:KC:=ku (ay 33) 0
def fJ:=(by have h:=(dK YC 0).trans (by cbv);rewrite [<-iX]at h;exact h:rM=_)
def rN:KC:=ku (ay 33) 1
def gP:=(by have h:=(dK YC 1).trans (by cbv);exact h:rN=_)
def aGE:=(by have h:=YC;rewrite [<-df,<-iX,<-fJ,<-gP]at h;exact h:ay 33=_)
def aAU:=(li Tryz.func34 rfl).trans (by cbv)
def aFo:=(by have h:=aAU;rewrite [<-aE.eq_1,<-aU.eq_1]at h;exact h:ay 34=_)
def aAV:=(li Tryz.func35 rfl).trans (by cbv)
def aGY:=(by have h:=aAV;rewrite [<-bw.eq_1,<-aK.eq_1]at h;exact h:ay 35=_)
def aAW:=(li Tryz.func36 rfl).trans (by cbv)
def aE9:=(by have h:=aAW;rewrite [<-aK.eq_1,<-eY.eq_1]at h;exact h:ay 36=_)
def ajq:=(li Tryz.func37 rfl).trans (by cbv)
def zM:KC:=ku (ay 37) 0
def jO:=(by have h:=(dK ajq 0).trans (by cbv);exact h:zM=_)
def zN:KC:=ku (ay 37) 1
def mw:=(by have h:=(dK ajq 1).trans (by cbv);rewrite [<-jO]at h;exact h:zN=_)
def aFe:=(by have h:=ajq;rewrite [<-oc.eq_1,<-eY.eq_1,<-jO,<-mw]at h;exact h:ay 37=_)
def aAX:=(li Tryz.func38 rfl).trans (by cbv)
def aFa:=(by have h:=aAX;rewrite [<-aK.eq_1,<-gY.eq_1]at h;exact h:ay 38=_)
def aGZ:=(li Tryz.func39 rfl).trans (by cbv)
def ax2:=(li Tryz.func40 rfl).trans (by cbv)
def aqg:=(li Tryz.func41 rfl).trans (by cbv)
def vU:KC:=ku (ay 41) 0
def mU:=(by have h:=(dK aqg 0).trans (by cbv);exact h:vU=_)
def aG0:=(by have h:=aqg;rewrite [<-mU]at h;exact h:ay 41=_)
def aAY:=(li Tryz.func42 rfl).trans (by cbv)
def aG1:=(by have h:=aAY;rewrite [<-fV.eq_1]at h;exact h:ay 42=_)
def aqh:=(li Tryz.func43 rfl).trans (by cbv)
def zB:KC:=ku (ay 43) 0
def iR:=(by have h:=(dK aqh 0).trans (by cbv);rewrite [<-aE.eq_1]at h;exact h:zB=_)
def aG2:=(by have h:=aqh;rewrite [<-aE.eq_1,<-iR]at h;exact h:ay 43=_)
def aG3:=(li Tryz.func44 rfl).trans (by cbv)
def aAZ:=(li Tryz.func45 rfl).trans (by cbv)
def aG4:=(by have h:=aAZ;rewrite [<-aK.eq_1]at h;exact h:ay 45=_)
def aA0:=(li Tryz.func46 rfl).trans (by cbv)
def aG5:=(by have h:=aA0;rewrite [<-aK.eq_1]at h;exact h:ay 46=_)
def aG6:=(li Tryz.func47 rfl).trans (by cbv)
def aG7:=(li Tryz.func48 rfl).trans (by cbv)
def aqi:=(li Tryz.func49 rfl).trans (by cbv)
def G7:List KO:=xF (ay 49) 0
def qL:=(by have h:=(m7 aqi 0).trans (by cbv);rewrite [<-fV.eq_1]at h;exact h:G7=_)
def aG8:=(by have h:=aqi;rewrite [<-fV.eq_1,<-qL]at h;exact h:ay 49=_)
def aA1:=(li Tryz.func50 rfl).trans (by cbv)
def aFw:=(by have h:=aA1;rewrite [<-aK.eq_1]at h;exact h:ay 50=_)
def aqj:=(li Tryz.func51 rfl).trans (by cbv)
def Bw:KC:=ku (ay 51) 0
def nP:=(by have h:=(dK aqj 0).trans (by cbv);rewrite [<-aK.eq_1,<-fV.eq_1]at h;exact h:Bw=_)
def aFx:=(by have h:=aqj;rewrite [<-aK.eq_1,<-fV.eq_1,<-nP]at h;exact h:ay 51=_)
def aA2:=(li Tryz.func52 rfl).trans (by cbv)
def aG9:=(by have h:=aA2;rewrite [<-fV.eq_1,<-aU.eq_1]at h;exact h:ay 52=_)
def aBF:=(li Tryz.func53 rfl).trans (by cbv)
def aG_:=(by have h:=aBF;rewrite [<-aE.eq_1]at h;exact h:ay 53=_)
def aHa:=(li Tryz.func54 rfl).trans (by cbv)
def aql:=(li Tryz.func55 rfl).trans (by cbv)
def Ip:List KD:=dwK (ay 55) 0
def oG:=(by have h:=(ar7 aql 0).trans (by cbv);exact h:Ip=_)
def aHb:=(by have h:=aql;rewrite [<-oG]at h;exact h:ay 55=_)
def adp:=(li Tryz.func56 rfl).trans (by cbv)
def D9:List KO:=xF (ay 56) 3
def gj:=(by have h:=(m7 adp 3).trans (by cbv);exact h:D9=_)
def D_:List KO:=xF (ay 56) 4
def gm:=(by have h:=(m7 adp 4).trans (by cbv);exact h:D_=_)
def vX:KC:=ku (ay 56) 0
def gp:=(by have h:=(dK adp 0).trans (by cbv);rewrite [<-gj,<-gm]at h;exact h:vX=_)
def aHc:=(by have h:=adp;rewrite [<-gj,<-gm,<-gp]at h;exact h:ay 56=_)
def aHd:=(li Tryz.func57 rfl).trans (by cbv)
def aHe:=(li Tryz.func58 rfl).trans (by cbv)
def YD:=(li Tryz.func59 rfl).trans (by cbv)
def Fy:List KO:=xF (ay 59) 1
def fH:=(by have h:=(m7 YD 1).trans (by cbv);exact h:Fy=_)
def wE:KC:=ku (ay 59) 0
def kI:=(by have h:=(dK YD 0).trans (by cbv);exact h:wE=_)
def wF:KC:=ku (ay 59) 1
def kJ:=(by have h:=(dK YD 1).trans (by cbv);exact h:wF=_)
def wG:KC:=ku (ay 59) 2
def kK:=(by have h:=(dK YD 2).trans (by cbv);exact h:wG=_)
def aFk:=(by have h:=YD;rewrite [<-fH,<-kI,<-kJ,<-kK]at h;exact h:ay 59=_)
def adq:=(li Tryz.func60 rfl).trans (by cbv)
def FA:List KO:=xF (ay 60) 1
def kH:=(by have h:=(m7 adq 1).trans (by cbv);exact h:FA=_)
def wC:KC:=ku (ay 60) 0
def kF:=(by have h:=(dK adq 0).trans (by cbv);exact h:wC=_)
def wD:KC:=ku (ay 60) 1
def kG:=(by have h:=(dK adq 1).trans (by cbv);exact h:wD=_)
def aFj:=(by have h:=adq;rewrite [<-kH,<-kF,<-kG]at h;exact h:ay 60=_)
def aqm:=(li Tryz.func61 rfl).trans (by cbv)
def vu:KC:=ku (ay 61) 0
def iz:=(by have h:=(dK aqm 0).trans (by cbv);exact h:vu=_)
def aGJ:=(by have h:=aqm;rewrite [<-iz]at h;exact h:ay 61=_)
def Nn:=(li Tryz.func62 rfl).trans (by cbv)
def vw:List KO:=xF (ay 62) 2
def tI:=(by have h:=(m7 Nn 2).trans (by cbv);exact h:vw=_)
def vy:List KO:=xF (ay 62) 4
def tJ:=(by have h:=(m7 Nn 4).trans (by cbv);exact h:vy=_)
def vA:List KO:=xF (ay 62) 6
def tK:=(by have h:=(m7 Nn 6).trans (by cbv);rewrite [<-ah.eq_1]at h;exact h:vA=_)
def vC:List KO:=xF (ay 62) 8
def tL:=(by have h:=(m7 Nn 8).trans (by cbv);rewrite [<-ah.eq_1]at h;exact h:vC=_)
def vD:List KO:=xF (ay 62) 11
def tM:=(by have h:=(m7 Nn 11).trans (by cbv);exact h:vD=_)
def Ea:List KD:=dwK (ay 62) 0
def jW:=(by have h:=(ar7 Nn 0).trans (by cbv);exact h:Ea=_)
def qH:KC:=ku (ay 62) 0
def iA:=(by have h:=(dK Nn 0).trans (by cbv);rewrite [<-jW]at h;exact h:qH=_)
def aGK:=(by have h:=Nn;rewrite [<-ah.eq_1,<-tI,<-tJ,<-tK,<-tL,<-tM,<-jW,<-iA]at h;exact h:ay 62=_)
def aqn:=(li Tryz.func63 rfl).trans (by cbv)
def wB:KC:=ku (ay 63) 0
def kE:=(by have h:=(dK aqn 0).trans (by cbv);exact h:wB=_)
def aFi:=(by have h:=aqn;rewrite [<-kE]at h;exact h:ay 63=_)
def aHf:=(li Tryz.func64 rfl).trans (by cbv)
def qP:KC:=.dU [1,3,4] (.Q (mv [eG 49 4,eN 50 18 1,dF 51 50,cG 52 (ID 51),cG 53 (qB .lss 49 52)] (.cond (.t 53) .skip (.dU [1,3] (.exit 0)))) (.Q (.block 1 (.draw [] [H (eG 56 3) 0 1,H (eN 57 18 1) 0 0,H (dF 58 57) 0 0,H (eG 59 4) 0 0,H (cG 60 (FK 12 58 59)) 0 0,H (eN 61 0 60) 0 0,H (ee 62 (dZ 6 61)) 0 0,m0 (ee 63 (qX 128 [62])) 0 1,m0 (ee 64 (q_a 1 56 63)) 1 2,H (eN 65 18 1) 0 2,H (dF 66 65) 0 2,H (eG 67 4) 0 2,H (cG 68 (FK 12 66 67)) 0 2,H (eN 69 6 68) 0 2,H (ee 70 (dZ 6 69)) 0 2,m0 (ee 71 (qX 128 [70])) 2 3,m0 (ee 72 (q_a 1 64 71)) 3 4,H (eG 3 72) 4 4])) (.ops [eG 54 4,cG 55 (rS .add 54 1),eG 4 55])))
def mV:=qP.eq_1
def aHg:ay 65=some ⟨84,mv [ee 1 (q_b 20 0),cG 2 (wZ .aw)] (.Q (.draw [] [H (eN 5 0 1) 0 1,H (dF 6 5) 0 1,H (cG 7 (q_W .u8 6)) 0 1,H (ee 8 (.bsl 1 [.I .u8 0] 1 [(0,.t 7)])) 0 1,H (eN 9 1 1) 0 0,H (dF 10 9) 0 0,H (ee 11 (.byt (.t 10))) 0 0,m0 (ee 12 (qX 129 [11])) 0 1,m0 (ee 13 (q_a 1 8 12)) 1 2,H (eG 3 13) 2 2]) (.Q (mv [eN 14 0 1,dF 15 14,ee 16 (qX 122 [15])] (uZ 16 (.ops [eG 17 3,eN 18 2 1,dF 19 18,ee 20 (.byt (.t 19)),ee 21 (qX 129 [20]),ee 22 (q_a 1 17 21),eG 3 22]))) (.Q (mv [eN 23 0 1,dF 24 23,ee 25 (qX 123 [24])] (uZ 25 (.draw [] [H (eG 26 3) 0 1,H (eN 27 3 1) 0 0,H (ee 28 (dZ 3 27)) 0 0,m0 (ee 29 (qX 130 [28])) 0 1,m0 (ee 30 (q_a 1 26 29)) 1 2,H (eN 31 6 1) 0 2,H (ee 32 (dZ 6 31)) 0 2,m0 (ee 33 (qX 128 [32])) 2 3,m0 (ee 34 (q_a 1 30 33)) 3 4,H (eG 3 34) 4 4]))) (.Q (mv [eN 35 0 1,dF 36 35,cG 37 (rS .eql 36 8)] (uZ 37 (.Q (.draw [] [H (eG 38 3) 0 1,H (eN 39 12 1) 0 0,H (ee 40 (dZ 6 39)) 0 0,m0 (ee 41 (qX 128 [40])) 0 1,m0 (ee 42 (q_a 1 38 41)) 1 2,H (eN 43 18 1) 0 2,H (dF 44 43) 0 2,H (cG 45 (ID 44)) 0 2,H (cG 46 (q_W .u8 45)) 0 2,H (ee 47 (.bsl 1 [.I .u8 0] 1 [(0,.t 46)])) 0 2,m0 (ee 48 (q_a 1 42 47)) 2 3,H (eG 3 48) 3 3]) (mv [cG 4 (wZ (.I .i64 0))] (.block 0 (.L qP)))))) (.Q (mv [eN 73 0 1,dF 74 73,cG 75 (rS .gtr 74 8)] (uZ 75 (.ops [eG 76 3,eN 77 19 1,dF 78 77,cG 79 (.NH 20 (.t 78) (zL 0)),ee 80 (dZ 20 79),ee 81 (qX 65 [80]),ee 82 (q_a 1 76 81),eG 3 82]))) (mv [eG 83 3,eG 2 83] (Jz [2]))))))),[.tmp 2]⟩:=(li Tryz.func65 rfl).trans (by kernel_rfl)
def aBG:=(li Tryz.func70 rfl).trans (by cbv)
def aHh:=(by have h:=aBG;rewrite [<-aK.eq_1]at h;exact h:ay 70=_)
def aBH:=(li Tryz.func71 rfl).trans (by cbv)
def aGp:=(by have h:=aBH;rewrite [<-eY.eq_1,<-gY.eq_1]at h;exact h:ay 71=_)
def aHi:=(li Tryz.func72 rfl).trans (by cbv)
def aBI:=(li Tryz.func73 rfl).trans (by cbv)
def aFb:=(by have h:=aBI;rewrite [<-eY.eq_1]at h;exact h:ay 73=_)
def aBJ:=(li Tryz.func74 rfl).trans (by cbv)
def aE_:=(by have h:=aBJ;rewrite [<-eY.eq_1]at h;exact h:ay 74=_)
def aqo:=(li Tryz.func75 rfl).trans (by cbv)
def uN:KC:=ku (ay 75) 0
def jB:=(by have h:=(dK aqo 0).trans (by cbv);exact h:uN=_)
def aHj:=(by have h:=aqo;rewrite [<-bw.eq_1,<-aK.eq_1,<-jB]at h;exact h:ay 75=_)
def aqp:=(li Tryz.func76 rfl).trans (by cbv)
def vY:KC:=ku (ay 76) 0
def j6:=(by have h:=(dK aqp 0).trans (by cbv);exact h:vY=_)
def aHk:=(by have h:=aqp;rewrite [<-bw.eq_1,<-aK.eq_1,<-j6]at h;exact h:ay 76=_)
def aBK:=(li Tryz.func77 rfl).trans (by cbv)
def aHl:=(by have h:=aBK;rewrite [<-aK.eq_1,<-cK.eq_1]at h;exact h:ay 77=_)
def aqq:=(li Tryz.func78 rfl).trans (by cbv)
def yT:KC:=ku (ay 78) 0
def ib:=(by have h:=(dK aqq 0).trans (by cbv);exact h:yT=_)
def aHm:=(by have h:=aqq;rewrite [<-nB.eq_1,<-cK.eq_1,<-ib]at h;exact h:ay 78=_)
def aBL:=(li Tryz.func79 rfl).trans (by cbv)
def aHn:=(by have h:=aBL;rewrite [<-nB.eq_1,<-cK.eq_1]at h;exact h:ay 79=_)
def aqr:=(li Tryz.func80 rfl).trans (by cbv)
def wJ:KC:=ku (ay 80) 0
def kN:=(by have h:=(dK aqr 0).trans (by cbv);exact h:wJ=_)
def aGB:=(by have h:=aqr;rewrite [<-kN]at h;exact h:ay 80=_)
def aGD:=(li Tryz.func81 rfl).trans (by cbv)
def aqs:=(li Tryz.func82 rfl).trans (by cbv)
def CU:KC:=ku (ay 82) 0
def mD:=(by have h:=(dK aqs 0).trans (by cbv);exact h:CU=_)
def aFn:=(by have h:=aqs;rewrite [<-mD]at h;exact h:ay 82=_)
def adr:=(li Tryz.func83 rfl).trans (by cbv)
def VR:List KO:=xF (ay 83) 6
def G8:=(by have h:=(m7 adr 6).trans (by cbv);exact h:VR=_)
def VS:List KO:=xF (ay 83) 8
def G9:=(by have h:=(m7 adr 8).trans (by cbv);exact h:VS=_)
def VT:List KO:=xF (ay 83) 12
def G_:=(by have h:=(m7 adr 12).trans (by cbv);exact h:VT=_)
def aHo:=(by have h:=adr;rewrite [<-ah.eq_1,<-G8,<-G9,<-G_]at h;exact h:ay 83=_)
def aqt:=(li Tryz.func84 rfl).trans (by cbv)
def Sc:List KO:=xF (ay 84) 1
def ki:=(by have h:=(m7 aqt 1).trans (by cbv);exact h:Sc=_)
def aFg:=(by have h:=aqt;rewrite [<-ki]at h;exact h:ay 84=_)
def aGI:=(li Tryz.func85 rfl).trans (by cbv)
def aqu:=(li Tryz.func86 rfl).trans (by cbv)
def YE:List KO:=xF (ay 86) 1
def rE:=(by have h:=(m7 aqu 1).trans (by cbv);exact h:YE=_)
def aFh:=(by have h:=aqu;rewrite [<-rE]at h;exact h:ay 86=_)
def ads:=(li Tryz.func87 rfl).trans (by cbv)
def BV:KC:=ku (ay 87) 0
def nR:=(by have h:=(dK ads 0).trans (by cbv);exact h:BV=_)
def BW:KC:=ku (ay 87) 1
def nS:=(by have h:=(dK ads 1).trans (by cbv);exact h:BW=_)
def BX:KC:=ku (ay 87) 2
def nT:=(by have h:=(dK ads 2).trans (by cbv);exact h:BX=_)
def aHp:=(by have h:=ads;rewrite [<-iK.eq_1,<-bw.eq_1,<-cS.eq_1,<-nR,<-nS,<-nT]at h;exact h:ay 87=_)
def aBM:=(li Tryz.func88 rfl).trans (by cbv)
def aGo:=(by have h:=aBM;rewrite [<-eY.eq_1]at h;exact h:ay 88=_)
def aqv:=(li Tryz.func89 rfl).trans (by cbv)
def qF:KC:=ku (ay 89) 0
def gO:=(by have h:=(dK aqv 0).trans (by cbv);exact h:qF=_)
def aGg:=(by have h:=aqv;rewrite [<-gY.eq_1,<-gO]at h;exact h:ay 89=_)
def aqw:=(li Tryz.func90 rfl).trans (by cbv)
def sW:KC:=ku (ay 90) 0
def iP:=(by have h:=(dK aqw 0).trans (by cbv);exact h:sW=_)
def aFd:=(by have h:=aqw;rewrite [<-oc.eq_1,<-iP]at h;exact h:ay 90=_)
def aBN:=(li Tryz.func91 rfl).trans (by cbv)
def aGn:=(by have h:=aBN;rewrite [<-eY.eq_1]at h;exact h:ay 91=_)
def aGh:ay 92=some ⟨60,mv [ee 1 (q_b 20 0),ee 2 (.alloc eY)] (.Q (.draw [(3,[.I .u64 0,.I .u64 0,.I .u64 0,.I .u64 0,.I .u64 0]),(4,[.I .u64 0,.I .u64 0,.I .u64 0,.I .u64 0,.I .u64 0]),(5,[.I .u64 0,.I .u64 0,.I .u64 0,.I .u64 0,.I .u64 0])] [H (eN 11 0 1) 0 0,H (ee 12 (dZ 5 11)) 0 0,H (eN 13 0 1) 0 0,H (ee 14 (dZ 5 13)) 0 0,m0 (ee 15 (qX 95 [12,14])) 0 1,H (eN 16 5 1) 0 1,H (ee 17 (dZ 5 16)) 0 1,H (eN 18 5 1) 0 1,H (ee 19 (dZ 5 18)) 0 1,m0 (ee 20 (qX 95 [17,19])) 1 2,H (eN 21 10 1) 0 2,H (ee 22 (dZ 5 21)) 0 2,H (eN 23 10 1) 0 2,H (ee 24 (dZ 5 23)) 0 2,m0 (ee 25 (qX 95 [22,24])) 2 3,m0 (HK (HM 5 3 15)) 3 4,m0 (HK (HM 5 4 20)) 4 5,m0 (HK (HM 5 5 25)) 5 6]) (.Q (.draw [(6,[.I .u64 0,.I .u64 0,.I .u64 0,.I .u64 0,.I .u64 0]),(7,[.I .u64 0,.I .u64 0,.I .u64 0,.I .u64 0,.I .u64 0])] [H (ee 26 (dZ 5 3)) 0 0,H (ee 27 (dZ 5 4)) 0 0,m0 (ee 28 (qX 139 [26,27])) 0 1,H (eN 29 0 1) 0 1,H (ee 30 (dZ 5 29)) 0 1,H (eN 31 5 1) 0 1,H (ee 32 (dZ 5 31)) 0 1,m0 (ee 33 (qX 139 [30,32])) 1 2,m0 (HK (HM 5 6 28)) 2 3,m0 (HK (HM 5 7 33)) 3 4]) (.Q (.draw [(8,[.I .u64 0,.I .u64 0,.I .u64 0,.I .u64 0,.I .u64 0]),(9,[.I .u64 0,.I .u64 0,.I .u64 0,.I .u64 0,.I .u64 0])] [H (ee 34 (dZ 5 6)) 0 1,H (ee 35 (dZ 5 7)) 0 0,H (ee 36 (dZ 5 7)) 0 0,m0 (ee 37 (qX 95 [35,36])) 0 1,m0 (ee 38 (qX 137 [34,37])) 1 2,H (ee 39 (dZ 5 3)) 0 2,H (ee 40 (dZ 5 4)) 0 2,m0 (ee 41 (qX 137 [39,40])) 2 3,m0 (HK (HM 5 8 38)) 3 4,m0 (HK (HM 5 9 41)) 4 5]) (.Q (.draw [(10,[.I .u64 0,.I .u64 0,.I .u64 0,.I .u64 0,.I .u64 0])] [H (ee 42 (dZ 5 5)) 0 0,H (ee 43 (dZ 5 5)) 0 0,m0 (ee 44 (qX 139 [42,43])) 0 1,H (ee 45 (dZ 5 9)) 0 1,m0 (ee 46 (qX 139 [44,45])) 1 2,m0 (HK (HM 5 10 46)) 2 3]) (.Q (.draw [] [H (ee 47 (dZ 5 8)) 0 0,H (ee 48 (dZ 5 10)) 0 0,m0 (ee 49 (qX 95 [47,48])) 0 1,H (ee 50 (dZ 5 9)) 0 1,H (ee 51 (dZ 5 6)) 0 1,m0 (ee 52 (qX 95 [50,51])) 1 2,H (ee 53 (dZ 5 10)) 0 2,H (ee 54 (dZ 5 9)) 0 2,m0 (ee 55 (qX 95 [53,54])) 2 3,H (ee 56 (dZ 5 8)) 0 3,H (ee 57 (dZ 5 6)) 0 3,m0 (ee 58 (qX 95 [56,57])) 3 4,H (cG 59 (.bld eY [(0,5,.t 49),(5,5,.t 52),(10,5,.t 55),(15,5,.t 58)])) 4 4,m0 (HK (HM 20 2 59)) 4 5]) (Jz [2])))))),[.C 2 (.A 20)]⟩:=(li Tryz.func92 rfl).trans (by kernel_rfl)
end
end Go.Proofs.YtefopednbffpaaaGreatDoor.am
