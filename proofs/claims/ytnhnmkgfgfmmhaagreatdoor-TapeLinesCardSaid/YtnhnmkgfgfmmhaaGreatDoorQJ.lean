/- Parts. No condition. -/
import Derived.Lib.AppendIntMem
import Derived.Test.YtnhnmkgfgfmmhaaGreatDoorRows
import Derived.WideShapes
import Derived.RowKitTokens
import Derived.Test.YtnhnmkgfgfmmhaaGreatDoorTie
import Derived.Test.YtnhnmkgfgfmmhaaGreatDoorCards
import Derived.SevenTiedAt
import Derived.Test.YtnhnmkgfgfmmhaaGreatDoorQI
set_option linter.all false
namespace Go.Proofs.YtnhnmkgfgfmmhaaGreatDoor.am
open Go Go.RowKit
open Option renaming some->J,none->D,map_eq_some_iff->ng
open Bool renaming false->O,true->Y,and_eq_true->jM
open Go.IntKind renaming i64->V,wrap->fH,u64->bh
open Option.some renaming inj->eO
open UInt8 renaming ofNat->cY
open Decidable renaming decide->bN
open List renaming drop_eq_nil_of_le->gY,length_append->jn,take_of_length_le->m_,length_cons->jN,length_nil->mH,append_assoc->pX,range->jB
open Go.Proofs.Tryz renaming prog->cB
open Go renaming TypeId->bA,Program->bX,Value->aX,World->bm,FuncId->db
open Nat renaming le_refl->eE
open Go.Value renaming pointer->cP
open Go.Proofs.YtnhnmkgfgfmmhaaGreatDoor.am renaming om->Z,St->G,aC->F,AV->H,nk->W,bf->K
def nQ(f:db)(C E:bE)(j:C.length=35)(o:bF C=Y)(p:C.map aE=C)(m:C.map bH=E)(k:bF E=Y)(S:G)(i:bE)(q:i.length=35):
 fF (.A 35) C 0=J (.A C)/\(∀ad X h g U,aY ad S.length (S++[.M i [] O,X,h,g,U]) 35 (.P S.length 0) (.A C)=J (ad,S++[.M C [] O,X,h,g,U]))/\(∀ad d,bZ f ad [.A C,.aB] S (S++d)=J (.bL [.A E,.aB],S)):=by
 refine⟨?_,λad X h g U=>?_,λad d=>?_⟩
 ·have:=kj (l:=C) (a:=[]) (b:=C) (c:=[]) (off:=0) (n:=35) (by simp) rfl j p
  exact this
 ·rw[u9 (S:=S) rfl o]
  simp[j,q,aT]
 ·have e:bp (.A C)=.A E:=by rw[<-m];rfl
  have r:bp .aB=.aB:=rfl;simp[dd,e,r,bn,aK,ax,aL,k]
def mD.cell{o:H}{ad:bY}{b:K}(h:mD o ad b)(i:Nat):∃c aN bt' d,im ad i [] o=(c,aN,bt')/\fE o=Y/\o.cells=[o]/\c.cells=[c]/\aE c=d/\aL d=Y/\aE d=d/\bH d=b_ b:=by
 rcases h with⟨h,rfl⟩|rfl|⟨k,rfl,a⟩
 ·have e:=(uj b).1 h
  subst e;exact⟨.ao,ad,[],.ao,rfl,rfl,rfl,rfl,rfl,rfl,rfl,rfl⟩
 ·refine⟨.sl .X 1 (fQ b),ad,[],.sl .X 1 (fQ b),rfl,rfl,rfl,rfl,rfl,dP b,rfl, ?_⟩
  cases b<;>rfl
 ·refine⟨.sl (.bx i 0) 1 (fQ b),ad.set k D,[J (fQ b).length],.sl .N 1 (fQ b), ?_,rfl,rfl,rfl,rfl,dP b,rfl, ?_⟩
  ·simp only[im]
   rw[if_pos a];rfl
  ·cases b<;>rfl
set_option maxRecDepth 4000 in
def Wk(a:aD)(ha:a.Wf)(q:a.wv)(S:G)(h:a.ae=1)(hB:a.cL=Y)(hl:a.raw.length<=4096)(ho:Bz a.op=Y)(hx:(jw a.op).length<=4096)(I:a.line.length<=1000000):DF F W 11 [.S a.line] S=J (.bL [.A a.aq,.aB],S):=by
 have wd:a.av=[[119,114,105,116,101],aU a.fst,aU a.bU,dm (jw a.op)]:=by simp[aD.av,b8,cN,cO,h]
 have z:=λT=>gR a.line I T;rw[aD.kN,wd]at z;have z:∀T,DF F W 39 [.S a.line,.S [32]] T=J (.sl .N 1 (strs [[119,114,105,116,101],aU a.fst,aU a.bU,dm (jw a.op)]),T):=z;have Ur:aI [] (.sl .N 1 (strs [[119,114,105,116,101],aU a.fst,aU a.bU,dm (jw a.op)]))=(.sl .N 1 (strs [[119,114,105,116,101],aU a.fst,aU a.bU,dm (jw a.op)]),[]):=rfl;have fb:∀k,bk [.ao,.aB] [(0,1,.sl .N 1 k)]=J [.sl .N 1 k,.aB]:=λ_=>rfl;have B:∀k,bk [.ao,.aB] [(0,2,.A [.sl .N 1 k,.aB])]=J [.sl .N 1 k,.aB]:=λ_=>rfl;have N:∀ws,ez.M [.sl .N 1 (strs ws),.aB] [] O=fP ws .aB:=λ_=>rfl;have sg:∀k,aE (.A [.sl .N 1 k,.aB])=.A [.sl .N 1 k,.aB]:=λ_=>rfl;have kd:=dy;have ee:a.aq=a.bare.aq:=congrArg aD.aq (g_.1 (by rw[aD.gh];exact hB));have hz:ak.length=35:=rfl;have o:ca.length=60:=rfl;have R:aP.length=6:=rfl;have E:bk ak []=J ak:=rfl;have pz:bF ak=Y:=rfl;have u:aG.length=60:=rfl;have t:=eM;have pK:=cm u t;have cK:(AV.A aG).cells=aG:=rfl;have s5:∀ad X c,aY ad S.length (S++[X,c,.M ak [] O]) 35 (.P (S.length+2) 0) (.A ak)=J (ad,S++[X,c,.M (kC 0) [] O]):=λad X c=>by rw[nK (S:=S) rfl pz];simp only[uZ,sZ];rw[if_pos ⟨rfl,by rw[hz];omega⟩,aT rfl];rfl
 have s6:∀ad X c d,aY ad S.length (S++[X,c,d,.M ca [] O]) 60 (.P (S.length+3) 0) (.A aG)=J (ad,S++[X,c,d,.M aG [] O]):=λad X c d=>by rw[nK (S:=S) rfl t.aL];simp only[uZ,sZ];rw[if_pos ⟨u,by rw[o];omega⟩,aT (by rw[u,o])];rfl
 have L:=sE 1 (by omega) (by omega) [aU a.fst,aU a.bU,dm (jw a.op)] (.M ak [] O) [] S 9 1 rfl (by omega);rw[show(if(1:Int)<((1:Nat):Int)then(1:Int)else 0)=0 from if_neg (by omega),show b8 1=[119,114,105,116,101]from rfl]at L;have l0:∀X c d b,a8 (S++X::c::.M (kC 1) [] O::d::b) .C (.P (S.length+2) 0)=J (.I V 1):=λX c d b=>by rw[bP (cs:=kC 1) (ad:=[]) (l:=O) (by rw[ob (by omega)];simp)];rfl
 have i6:nJ 10 6 (.P (S.length+3) 0) (.I V 1)=J (.P (S.length+3) 6):=G1 (S.length+3) 1 (by omega);have lU:∀X c d b,a8 (S++X::c::d::.M aG [] O::b) (.A 6) (.P (S.length+3) 6)=J (.A (aA 1)):=λX c d b=>by rw[bP (cs:=aG) (ad:=[]) (l:=O) (by rw[ob (by omega)];simp)];exact mP 1 (by omega)
 have hu:(aA 1).length=6:=rfl;have du:=eL 1;have pu:=cm hu du;have cu:(AV.A (aA 1)).cells=aA 1:=rfl;have u1:(aA 1)[1]? =J (.B O):=rfl;have u2:(aA 1)[2]? =J (.B Y):=rfl;have u3:(aA 1)[3]? =J (.B Y):=rfl;have u4:(aA 1)[4]? =J (.B O):=rfl;have u5:(aA 1)[5]? =J (.B O):=rfl;have ct:=λT=>jG 1 T;rw[show 2+vB [cN 1,cO 1,bN ((1:Int)=1),bN ((1:Int)=2),bN ((1:Int)=8)]=4 from rfl]at ct;have P:∀ws C b,a8 (S++[.M ak [] O,fP ws .aB,C,.M aG [] O,b]) .C (.P (S.length+1) 0)=J (.sl .N 1 (strs ws)):=λws C b=>qJ (cI S _ 1);have Q:∀ws C b,a8 (S++[.M ak [] O,fP ws .aB,C,.M aG [] O,b]) .C (.P (S.length+1) 1)=J .aB:=λws C b=>rV (cI S _ 1) rfl;have lns:iq (.sl .N 1 (strs [[119,114,105,116,101],aU a.fst,aU a.bU,dm (jw a.op)]))=J (.I V 4):=rfl;have k0:aH .eql (.I V 1) (.I V 0)=J (.B O):=rfl;have k1:aH .neq (.I V 4) (.I V 4)=J (.B O):=rfl;have b0:b9 .neq (.eD cC) Y .aB .aB=J (.B O):=rfl;have M:∀i,cb (.P i 0)=J (.P i 0):=λ_=>rfl;have gp:∀T i,ck T (.P i 0)=J (.P i 0):=λ_ _=>rfl;have kp:∀T i,cr T (.P i 0)=T:=λ_ _=>rfl;have up:∀T T' i,bO T T' (.P i 0)=T':=λ_ _ _=>rfl;have np:∀i,cR (.P i 0)=.P i 0:=λ_=>rfl;have nx:∀w ws C b,DF F W 41 [.P (S.length+1) 0] (S++[.M ak [] O,fP (w::ws) .aB,C,.M aG [] O,b])=J (.S w,S++[.M ak [] O,fP ws .aB,C,.M aG [] O,b]):=λw ws C b=>by have:=gP (S:=S++[.M ak [] O,fP (w::ws) .aB,C,.M aG [] O,b]) (j:=S.length+1) (w:=w) (ws:=ws) (e:=.aB) (cI S _ 1);rw[this];simp
 have y:∀n ws C b, -9223372036854775808<=n->n<=9223372036854775807->DF F W 42 [.P (S.length+1) 0] (S++[.M ak [] O,fP (aU n::ws) .aB,C,.M aG [] O,b])=J (.I V n,S++[.M ak [] O,fP ws .aB,C,.M aG [] O,b]):=λn ws C b h0 h1=>by have:=gQ (S:=S++[.M ak [] O,fP (aU n::ws) .aB,C,.M aG [] O,b]) (j:=S.length+1) (ws:=ws) n h0 h1 (cI S _ 1);rw[this];simp
 have n0:=λws C b=>y a.fst ws C b q.f0 q.f1;have n1:=λws C b=>y a.snd ws C b q.s0 q.s1;have n2:=λws C b=>y a.bU ws C b q.v0 q.v1;have st:∀ad X c d b C A g x,aR C g [.I V x]=A->g+1<=C.length->aY ad S.length (S++[X,c,.M C [] O,d,b]) 1 (.P (S.length+2) g) (.I V x)=J (ad,S++[X,c,.M A [] O,d,b]):=λad X c d b C A g x h hl=>by rw[dH (ly V x).Ai (cI S [X,c,.M C [] O,d,b] 2),if_pos ⟨rfl,hl⟩,show(AV.I V x).cells=[.I V x]from rfl,h];simp
 have zo:ag.length=10:=rfl;have zl:ab.length=20:=rfl;have po:bF ag=Y:=rfl;have pl:bF ab=Y:=rfl;have so:ag.map aE=ag:=rfl;have sl:ab.map aE=ab:=rfl;have no:ag.map bH=rG.aq:=rfl;have nl:ab.map bH=jo.aq:=rfl;have nr:bH .ao=b_ []:=rfl;have pB:=(aD.dx a.bare).aL;have r:∀f s v,(cU 1 f s v ag ab .ao).length=35:=λ_ _ _=>fN zo zl;have t1:=λad X c d b=>st ad X c d b (kC 1) (cU 1 a.fst 0 0 ag ab .ao) 1 a.fst rfl (by rw[show(kC 1).length=35 from r 0 0 0];omega);have t2:=λad X c d b=>st ad X c d b (cU 1 a.fst 0 0 ag ab .ao) (cU 1 a.fst 0 a.bU ag ab .ao) 3 a.bU rfl (by rw[r];omega);have eC:aR (cU 1 a.fst 0 a.bU ag ab .ao) 4 a.op.aq=(cU 1 a.fst 0 a.bU a.op.aq ab .ao):=O7 _ _ _ _ _ _ (by simp[zo]);have bd:∀b,DF F W 43 [.P (S.length+1) 0,.P (S.length+2) 0,.A (aA 1)] (S++[.M ak [] O,fP [dm (jw a.op)] .aB,.M (cU 1 a.fst 0 a.bU ag ab .ao) [] O,.M aG [] O,b])=J (.bL [],S++[.M ak [] O,fP [] .aB,.M (cU 1 a.fst 0 a.bU a.op.aq ab .ao) [] O,.M aG [] O,b]):=λb=>by have:=CN (S:=S++[.M ak [] O,fP [dm (jw a.op)] .aB,.M (cU 1 a.fst 0 a.bU ag ab .ao) [] O,.M aG [] O,b]) (j:=S.length+1) (m:=S.length+2) (ws:=[]) (C:=(cU 1 a.fst 0 a.bU ag ab .ao)) a.op ha.op ho hx (by omega) (cI S _ 1) (cI S _ 2) (r _ _ _);rw[this,eC];simp
 have dO:a.op.aq.map bH=a.op.aq:=(k7.dx a.op).iN;have dL:a.bG.aq.map bH=a.bG.aq:=(bj.dx a.bG).iN;have⟨p1,p2,p3⟩:=nQ 11 (cU 1 a.fst 0 a.bU a.op.aq ab .ao) a.bare.aq (fN (by simp) zl) (jX _ _ _ _ _ _ _ (k7.dx _).aL pl rfl) (kV _ _ _ _ _ _ _ (k7.dx _).lr sl rfl) ((kU _ _ _ _ _ _ _).trans (by simp only[no,nl,dO,dL,nr,aD.iM,aD.bare,h];rfl)) pB S ak hz;rw[ee];have XO:kC 0=ak:=rfl;clear ee wd no nl dO dL nr pB y st r hB E;have E:bk ak []=J ak:=rfl;rw[fO I9];generalize hU:aA 1=U at*;have v1:∀p:1<U.length,U[1]'p=_:=λp=>eO ((cf p).symm.trans u1);have v2:∀p:2<U.length,U[2]'p=_:=λp=>eO ((cf p).symm.trans u2);have v3:∀p:3<U.length,U[3]'p=_:=λp=>eO ((cf p).symm.trans u3);have v4:∀p:4<U.length,U[4]'p=_:=λp=>eO ((cf p).symm.trans u4);have v5:∀p:5<U.length,U[5]'p=_:=λp=>eO ((cf p).symm.trans u5);generalize hZ:ak=d,ca=ZK,aP=ZU,(cU 1 a.fst 0 a.bU a.op.aq ab .ao)=CF,kC 1=C1,aG=XP at*;simp-implicitDefEqProofs [-aH, -nJ,z,Ur,fb,B,sg,N,kd,E,s5,s6,o,u,t,pK,cK,t.agg];rw[aj cZ];try simp at L
 simp-implicitDefEqProofs [-aH, -nJ,L,l0,i6,lU,hu,du,pu,cu,R,aT,P,Q,lns,ct,k0,k1,M,gp,kp,up,np,cy,b6,nx,n0,n1,n2,t1,t2,bd,v1,v2,v3,v4,v5,b0,p1,p2,p3]
set_option maxRecDepth 4000 in
def Wl(a:aD)(ha:a.Wf)(q:a.wv)(S:G)(h:a.ae=2)(hB:a.cL=Y)(hl:a.raw.length<=4096)(ho:a.bG.aW 5=Y)(hx:a.bG.bytes.length<=4096)(I:a.line.length<=1000000):DF F W 11 [.S a.line] S=J (.bL [.A a.aq,.aB],S):=by
 have wd:a.av=[[112,117,98,108,105,115,104],aU a.fst,aU a.bU,dm a.bG.bytes]:=by simp[aD.av,b8,cN,cO,h]
 have z:=λT=>gR a.line I T;rw[aD.kN,wd]at z;have z:∀T,DF F W 39 [.S a.line,.S [32]] T=J (.sl .N 1 (strs [[112,117,98,108,105,115,104],aU a.fst,aU a.bU,dm a.bG.bytes]),T):=z;have Ur:aI [] (.sl .N 1 (strs [[112,117,98,108,105,115,104],aU a.fst,aU a.bU,dm a.bG.bytes]))=(.sl .N 1 (strs [[112,117,98,108,105,115,104],aU a.fst,aU a.bU,dm a.bG.bytes]),[]):=rfl;have fb:∀k,bk [.ao,.aB] [(0,1,.sl .N 1 k)]=J [.sl .N 1 k,.aB]:=λ_=>rfl;have B:∀k,bk [.ao,.aB] [(0,2,.A [.sl .N 1 k,.aB])]=J [.sl .N 1 k,.aB]:=λ_=>rfl;have N:∀ws,ez.M [.sl .N 1 (strs ws),.aB] [] O=fP ws .aB:=λ_=>rfl;have sg:∀k,aE (.A [.sl .N 1 k,.aB])=.A [.sl .N 1 k,.aB]:=λ_=>rfl;have kd:=dy;have ee:a.aq=a.bare.aq:=congrArg aD.aq (g_.1 (by rw[aD.gh];exact hB));have hz:ak.length=35:=rfl;have o:ca.length=60:=rfl;have R:aP.length=6:=rfl;have E:bk ak []=J ak:=rfl;have pz:bF ak=Y:=rfl;have u:aG.length=60:=rfl;have t:=eM;have pK:=cm u t;have cK:(AV.A aG).cells=aG:=rfl;have s5:∀ad X c,aY ad S.length (S++[X,c,.M ak [] O]) 35 (.P (S.length+2) 0) (.A ak)=J (ad,S++[X,c,.M (kC 0) [] O]):=λad X c=>by rw[nK (S:=S) rfl pz];simp only[uZ,sZ];rw[if_pos ⟨rfl,by rw[hz];omega⟩,aT rfl];rfl
 have s6:∀ad X c d,aY ad S.length (S++[X,c,d,.M ca [] O]) 60 (.P (S.length+3) 0) (.A aG)=J (ad,S++[X,c,d,.M aG [] O]):=λad X c d=>by rw[nK (S:=S) rfl t.aL];simp only[uZ,sZ];rw[if_pos ⟨u,by rw[o];omega⟩,aT (by rw[u,o])];rfl
 have L:=sE 2 (by omega) (by omega) [aU a.fst,aU a.bU,dm a.bG.bytes] (.M ak [] O) [] S 9 1 rfl (by omega);rw[show(if(2:Int)<((1:Nat):Int)then(2:Int)else 0)=0 from if_neg (by omega),show b8 2=[112,117,98,108,105,115,104]from rfl]at L;have l0:∀X c d b,a8 (S++X::c::.M (kC 2) [] O::d::b) .C (.P (S.length+2) 0)=J (.I V 2):=λX c d b=>by rw[bP (cs:=kC 2) (ad:=[]) (l:=O) (by rw[ob (by omega)];simp)];rfl
 have i6:nJ 10 6 (.P (S.length+3) 0) (.I V 2)=J (.P (S.length+3) 12):=G1 (S.length+3) 2 (by omega);have lU:∀X c d b,a8 (S++X::c::d::.M aG [] O::b) (.A 6) (.P (S.length+3) 12)=J (.A (aA 2)):=λX c d b=>by rw[bP (cs:=aG) (ad:=[]) (l:=O) (by rw[ob (by omega)];simp)];exact mP 2 (by omega)
 have hu:(aA 2).length=6:=rfl;have du:=eL 2;have pu:=cm hu du;have cu:(AV.A (aA 2)).cells=aA 2:=rfl;have u1:(aA 2)[1]? =J (.B O):=rfl;have u2:(aA 2)[2]? =J (.B Y):=rfl;have u3:(aA 2)[3]? =J (.B O):=rfl;have u4:(aA 2)[4]? =J (.B Y):=rfl;have u5:(aA 2)[5]? =J (.B O):=rfl;have ct:=λT=>jG 2 T;rw[show 2+vB [cN 2,cO 2,bN ((2:Int)=1),bN ((2:Int)=2),bN ((2:Int)=8)]=4 from rfl]at ct;have P:∀ws C b,a8 (S++[.M ak [] O,fP ws .aB,C,.M aG [] O,b]) .C (.P (S.length+1) 0)=J (.sl .N 1 (strs ws)):=λws C b=>qJ (cI S _ 1);have Q:∀ws C b,a8 (S++[.M ak [] O,fP ws .aB,C,.M aG [] O,b]) .C (.P (S.length+1) 1)=J .aB:=λws C b=>rV (cI S _ 1) rfl;have lns:iq (.sl .N 1 (strs [[112,117,98,108,105,115,104],aU a.fst,aU a.bU,dm a.bG.bytes]))=J (.I V 4):=rfl;have k0:aH .eql (.I V 2) (.I V 0)=J (.B O):=rfl;have k1:aH .neq (.I V 4) (.I V 4)=J (.B O):=rfl;have b0:b9 .neq (.eD cC) Y .aB .aB=J (.B O):=rfl;have M:∀i,cb (.P i 0)=J (.P i 0):=λ_=>rfl;have gp:∀T i,ck T (.P i 0)=J (.P i 0):=λ_ _=>rfl;have kp:∀T i,cr T (.P i 0)=T:=λ_ _=>rfl;have up:∀T T' i,bO T T' (.P i 0)=T':=λ_ _ _=>rfl;have np:∀i,cR (.P i 0)=.P i 0:=λ_=>rfl;have nx:∀w ws C b,DF F W 41 [.P (S.length+1) 0] (S++[.M ak [] O,fP (w::ws) .aB,C,.M aG [] O,b])=J (.S w,S++[.M ak [] O,fP ws .aB,C,.M aG [] O,b]):=λw ws C b=>by have:=gP (S:=S++[.M ak [] O,fP (w::ws) .aB,C,.M aG [] O,b]) (j:=S.length+1) (w:=w) (ws:=ws) (e:=.aB) (cI S _ 1);rw[this];simp
 have y:∀n ws C b, -9223372036854775808<=n->n<=9223372036854775807->DF F W 42 [.P (S.length+1) 0] (S++[.M ak [] O,fP (aU n::ws) .aB,C,.M aG [] O,b])=J (.I V n,S++[.M ak [] O,fP ws .aB,C,.M aG [] O,b]):=λn ws C b h0 h1=>by have:=gQ (S:=S++[.M ak [] O,fP (aU n::ws) .aB,C,.M aG [] O,b]) (j:=S.length+1) (ws:=ws) n h0 h1 (cI S _ 1);rw[this];simp
 have n0:=λws C b=>y a.fst ws C b q.f0 q.f1;have n1:=λws C b=>y a.snd ws C b q.s0 q.s1;have n2:=λws C b=>y a.bU ws C b q.v0 q.v1;have st:∀ad X c d b C A g x,aR C g [.I V x]=A->g+1<=C.length->aY ad S.length (S++[X,c,.M C [] O,d,b]) 1 (.P (S.length+2) g) (.I V x)=J (ad,S++[X,c,.M A [] O,d,b]):=λad X c d b C A g x h hl=>by rw[dH (ly V x).Ai (cI S [X,c,.M C [] O,d,b] 2),if_pos ⟨rfl,hl⟩,show(AV.I V x).cells=[.I V x]from rfl,h];simp
 have zo:ag.length=10:=rfl;have zl:ab.length=20:=rfl;have po:bF ag=Y:=rfl;have pl:bF ab=Y:=rfl;have so:ag.map aE=ag:=rfl;have sl:ab.map aE=ab:=rfl;have no:ag.map bH=rG.aq:=rfl;have nl:ab.map bH=jo.aq:=rfl;have nr:bH .ao=b_ []:=rfl;have pB:=(aD.dx a.bare).aL;have r:∀f s v,(cU 2 f s v ag ab .ao).length=35:=λ_ _ _=>fN zo zl;have t1:=λad X c d b=>st ad X c d b (kC 2) (cU 2 a.fst 0 0 ag ab .ao) 1 a.fst rfl (by rw[show(kC 2).length=35 from r 0 0 0];omega);have t2:=λad X c d b=>st ad X c d b (cU 2 a.fst 0 0 ag ab .ao) (cU 2 a.fst 0 a.bU ag ab .ao) 3 a.bU rfl (by rw[r];omega);have eC:aR (cU 2 a.fst 0 a.bU ag ab .ao) 14 a.bG.aq=(cU 2 a.fst 0 a.bU ag a.bG.aq .ao):=H5 _ _ _ _ _ _ zo (by simp[zl]);have bd:∀b,DF F W 43 [.P (S.length+1) 0,.P (S.length+2) 0,.A (aA 2)] (S++[.M ak [] O,fP [dm a.bG.bytes] .aB,.M (cU 2 a.fst 0 a.bU ag ab .ao) [] O,.M aG [] O,b])=J (.bL [],S++[.M ak [] O,fP [] .aB,.M (cU 2 a.fst 0 a.bU ag a.bG.aq .ao) [] O,.M aG [] O,b]):=λb=>by have:=AN (S:=S++[.M ak [] O,fP [dm a.bG.bytes] .aB,.M (cU 2 a.fst 0 a.bU ag ab .ao) [] O,.M aG [] O,b]) (j:=S.length+1) (m:=S.length+2) (ws:=[]) (C:=(cU 2 a.fst 0 a.bU ag ab .ao)) a.bG ha.bG ho hx (by omega) (cI S _ 1) (cI S _ 2) (r _ _ _);rw[this,eC];simp
 have dO:a.op.aq.map bH=a.op.aq:=(k7.dx a.op).iN;have dL:a.bG.aq.map bH=a.bG.aq:=(bj.dx a.bG).iN;have⟨p1,p2,p3⟩:=nQ 11 (cU 2 a.fst 0 a.bU ag a.bG.aq .ao) a.bare.aq (fN zo (by simp)) (jX _ _ _ _ _ _ _ po (bj.dx _).aL rfl) (kV _ _ _ _ _ _ _ so (bj.dx _).lr rfl) ((kU _ _ _ _ _ _ _).trans (by simp only[no,nl,dO,dL,nr,aD.iM,aD.bare,h];rfl)) pB S ak hz;rw[ee];have XO:kC 0=ak:=rfl;clear ee wd no nl dO dL nr pB y st r hB E;have E:bk ak []=J ak:=rfl;rw[fO I9];generalize hU:aA 2=U at*;have v1:∀p:1<U.length,U[1]'p=_:=λp=>eO ((cf p).symm.trans u1);have v2:∀p:2<U.length,U[2]'p=_:=λp=>eO ((cf p).symm.trans u2);have v3:∀p:3<U.length,U[3]'p=_:=λp=>eO ((cf p).symm.trans u3);have v4:∀p:4<U.length,U[4]'p=_:=λp=>eO ((cf p).symm.trans u4);have v5:∀p:5<U.length,U[5]'p=_:=λp=>eO ((cf p).symm.trans u5);generalize hZ:ak=d,ca=ZK,aP=ZU,(cU 2 a.fst 0 a.bU ag a.bG.aq .ao)=CF,kC 2=C1,aG=XP at*;simp-implicitDefEqProofs [-aH, -nJ,z,Ur,fb,B,sg,N,kd,E,s5,s6,o,u,t,pK,cK,t.agg];rw[aj cZ];try simp at L
 simp-implicitDefEqProofs [-aH, -nJ,L,l0,i6,lU,hu,du,pu,cu,R,aT,P,Q,lns,ct,k0,k1,M,gp,kp,up,np,cy,b6,nx,n0,n1,n2,t1,t2,bd,v1,v2,v3,v4,v5,b0,p1,p2,p3]
set_option maxRecDepth 4000 in
def Wm(a:aD)(ha:a.Wf)(o:a.wv)(S:G)(h:a.ae=3)(hB:a.cL=Y)(hl:a.raw.length<=4096)(E:a.line.length<=1000000):DF F W 11 [.S a.line] S=J (.bL [.A a.aq,.aB],S):=by
 have wd:a.av=[[115,121,110,99],aU a.fst,aU a.snd]:=by simp[aD.av,b8,cN,cO,h]
 have u:=λT=>gR a.line E T;rw[aD.kN,wd]at u;have u:∀T,DF F W 39 [.S a.line,.S [32]] T=J (.sl .N 1 (strs [[115,121,110,99],aU a.fst,aU a.snd]),T):=u;have Ur:aI [] (.sl .N 1 (strs [[115,121,110,99],aU a.fst,aU a.snd]))=(.sl .N 1 (strs [[115,121,110,99],aU a.fst,aU a.snd]),[]):=rfl;have fb:∀k,bk [.ao,.aB] [(0,1,.sl .N 1 k)]=J [.sl .N 1 k,.aB]:=λ_=>rfl;have A:∀k,bk [.ao,.aB] [(0,2,.A [.sl .N 1 k,.aB])]=J [.sl .N 1 k,.aB]:=λ_=>rfl;have M:∀ws,ez.M [.sl .N 1 (strs ws),.aB] [] O=fP ws .aB:=λ_=>rfl;have sg:∀k,aE (.A [.sl .N 1 k,.aB])=.A [.sl .N 1 k,.aB]:=λ_=>rfl;have kd:=dy;have ee:a.aq=a.bare.aq:=congrArg aD.aq (g_.1 (by rw[aD.gh];exact hB));have hz:ak.length=35:=rfl;have m:ca.length=60:=rfl;have Q:aP.length=6:=rfl;have B:bk ak []=J ak:=rfl;have pz:bF ak=Y:=rfl;have r:aG.length=60:=rfl;have q:=eM;have pK:=cm r q;have cK:(AV.A aG).cells=aG:=rfl;have s5:∀ad X c,aY ad S.length (S++[X,c,.M ak [] O]) 35 (.P (S.length+2) 0) (.A ak)=J (ad,S++[X,c,.M (kC 0) [] O]):=λad X c=>by rw[nK (S:=S) rfl pz];simp only[uZ,sZ];rw[if_pos ⟨rfl,by rw[hz];omega⟩,aT rfl];rfl
 have s6:∀ad X c d,aY ad S.length (S++[X,c,d,.M ca [] O]) 60 (.P (S.length+3) 0) (.A aG)=J (ad,S++[X,c,d,.M aG [] O]):=λad X c d=>by rw[nK (S:=S) rfl q.aL];simp only[uZ,sZ];rw[if_pos ⟨r,by rw[m];omega⟩,aT (by rw[r,m])];rfl
 have L:=sE 3 (by omega) (by omega) [aU a.fst,aU a.snd] (.M ak [] O) [] S 9 1 rfl (by omega);rw[show(if(3:Int)<((1:Nat):Int)then(3:Int)else 0)=0 from if_neg (by omega),show b8 3=[115,121,110,99]from rfl]at L;have l0:∀X c d b,a8 (S++X::c::.M (kC 3) [] O::d::b) .C (.P (S.length+2) 0)=J (.I V 3):=λX c d b=>by rw[bP (cs:=kC 3) (ad:=[]) (l:=O) (by rw[ob (by omega)];simp)];rfl
 have i6:nJ 10 6 (.P (S.length+3) 0) (.I V 3)=J (.P (S.length+3) 18):=G1 (S.length+3) 3 (by omega);have lU:∀X c d b,a8 (S++X::c::d::.M aG [] O::b) (.A 6) (.P (S.length+3) 18)=J (.A (aA 3)):=λX c d b=>by rw[bP (cs:=aG) (ad:=[]) (l:=O) (by rw[ob (by omega)];simp)];exact mP 3 (by omega)
 have hu:(aA 3).length=6:=rfl;have du:=eL 3;have pu:=cm hu du;have cu:(AV.A (aA 3)).cells=aA 3:=rfl;have u1:(aA 3)[1]? =J (.B Y):=rfl;have u2:(aA 3)[2]? =J (.B O):=rfl;have u3:(aA 3)[3]? =J (.B O):=rfl;have u4:(aA 3)[4]? =J (.B O):=rfl;have u5:(aA 3)[5]? =J (.B O):=rfl;have ct:=λT=>jG 3 T;rw[show 2+vB [cN 3,cO 3,bN ((3:Int)=1),bN ((3:Int)=2),bN ((3:Int)=8)]=3 from rfl]at ct;have N:∀ws C b,a8 (S++[.M ak [] O,fP ws .aB,C,.M aG [] O,b]) .C (.P (S.length+1) 0)=J (.sl .N 1 (strs ws)):=λws C b=>qJ (cI S _ 1);have P:∀ws C b,a8 (S++[.M ak [] O,fP ws .aB,C,.M aG [] O,b]) .C (.P (S.length+1) 1)=J .aB:=λws C b=>rV (cI S _ 1) rfl;have R:iq (.sl .N 1 (strs [[115,121,110,99],aU a.fst,aU a.snd]))=J (.I V 3):=rfl;have k0:aH .eql (.I V 3) (.I V 0)=J (.B O):=rfl;have k1:aH .neq (.I V 3) (.I V 3)=J (.B O):=rfl;have b0:b9 .neq (.eD cC) Y .aB .aB=J (.B O):=rfl;have I:∀i,cb (.P i 0)=J (.P i 0):=λ_=>rfl;have gp:∀T i,ck T (.P i 0)=J (.P i 0):=λ_ _=>rfl;have kp:∀T i,cr T (.P i 0)=T:=λ_ _=>rfl;have up:∀T T' i,bO T T' (.P i 0)=T':=λ_ _ _=>rfl;have np:∀i,cR (.P i 0)=.P i 0:=λ_=>rfl;have nx:∀w ws C b,DF F W 41 [.P (S.length+1) 0] (S++[.M ak [] O,fP (w::ws) .aB,C,.M aG [] O,b])=J (.S w,S++[.M ak [] O,fP ws .aB,C,.M aG [] O,b]):=λw ws C b=>by have:=gP (S:=S++[.M ak [] O,fP (w::ws) .aB,C,.M aG [] O,b]) (j:=S.length+1) (w:=w) (ws:=ws) (e:=.aB) (cI S _ 1);rw[this];simp
 have t:∀n ws C b, -9223372036854775808<=n->n<=9223372036854775807->DF F W 42 [.P (S.length+1) 0] (S++[.M ak [] O,fP (aU n::ws) .aB,C,.M aG [] O,b])=J (.I V n,S++[.M ak [] O,fP ws .aB,C,.M aG [] O,b]):=λn ws C b h0 h1=>by have:=gQ (S:=S++[.M ak [] O,fP (aU n::ws) .aB,C,.M aG [] O,b]) (j:=S.length+1) (ws:=ws) n h0 h1 (cI S _ 1);rw[this];simp
 have n0:=λws C b=>t a.fst ws C b o.f0 o.f1;have n1:=λws C b=>t a.snd ws C b o.s0 o.s1;have n2:=λws C b=>t a.bU ws C b o.v0 o.v1;have st:∀ad X c d b C y g x,aR C g [.I V x]=y->g+1<=C.length->aY ad S.length (S++[X,c,.M C [] O,d,b]) 1 (.P (S.length+2) g) (.I V x)=J (ad,S++[X,c,.M y [] O,d,b]):=λad X c d b C y g x h hl=>by rw[dH (ly V x).Ai (cI S [X,c,.M C [] O,d,b] 2),if_pos ⟨rfl,hl⟩,show(AV.I V x).cells=[.I V x]from rfl,h];simp
 have zo:ag.length=10:=rfl;have zl:ab.length=20:=rfl;have po:bF ag=Y:=rfl;have pl:bF ab=Y:=rfl;have so:ag.map aE=ag:=rfl;have sl:ab.map aE=ab:=rfl;have no:ag.map bH=rG.aq:=rfl;have nl:ab.map bH=jo.aq:=rfl;have nr:bH .ao=b_ []:=rfl;have pB:=(aD.dx a.bare).aL;have z:∀f s v,(cU 3 f s v ag ab .ao).length=35:=λ_ _ _=>fN zo zl;have t1:=λad X c d b=>st ad X c d b (kC 3) (cU 3 a.fst 0 0 ag ab .ao) 1 a.fst rfl (by rw[show(kC 3).length=35 from z 0 0 0];omega);have t2:=λad X c d b=>st ad X c d b (cU 3 a.fst 0 0 ag ab .ao) (cU 3 a.fst a.snd 0 ag ab .ao) 2 a.snd rfl (by rw[z];omega);have dO:a.op.aq.map bH=a.op.aq:=(k7.dx a.op).iN;have dL:a.bG.aq.map bH=a.bG.aq:=(bj.dx a.bG).iN;have⟨p1,p2,p3⟩:=nQ 11 (cU 3 a.fst a.snd 0 ag ab .ao) a.bare.aq (fN zo zl) (jX _ _ _ _ _ _ _ po pl rfl) (kV _ _ _ _ _ _ _ so sl rfl) ((kU _ _ _ _ _ _ _).trans (by simp only[no,nl,dO,dL,nr,aD.iM,aD.bare,h];rfl)) pB S ak hz;rw[ee];have XO:kC 0=ak:=rfl;clear ee wd no nl dO dL nr pB t st z hB B;have B:bk ak []=J ak:=rfl;rw[fO I9];generalize hU:aA 3=U at*;have v1:∀p:1<U.length,U[1]'p=_:=λp=>eO ((cf p).symm.trans u1);have v2:∀p:2<U.length,U[2]'p=_:=λp=>eO ((cf p).symm.trans u2);have v3:∀p:3<U.length,U[3]'p=_:=λp=>eO ((cf p).symm.trans u3);have v4:∀p:4<U.length,U[4]'p=_:=λp=>eO ((cf p).symm.trans u4);have v5:∀p:5<U.length,U[5]'p=_:=λp=>eO ((cf p).symm.trans u5);generalize hZ:ak=d,ca=ZK,aP=ZU,(cU 3 a.fst a.snd 0 ag ab .ao)=CF,kC 3=C1,aG=XP at*;simp-implicitDefEqProofs [-aH, -nJ,u,Ur,fb,A,sg,M,kd,B,s5,s6,m,r,q,pK,cK,q.agg];rw[aj cZ];try simp at L
 simp-implicitDefEqProofs [-aH, -nJ,L,l0,i6,lU,hu,du,pu,cu,Q,aT,N,P,R,ct,k0,k1,I,gp,kp,up,np,cy,b6,nx,n0,n1,n2,t1,t2,v1,v2,v3,v4,v5,b0,p1,p2,p3]
set_option maxRecDepth 4000 in
def Wn(a:aD)(ha:a.Wf)(o:a.wv)(S:G)(h:a.ae=4)(hB:a.cL=Y)(hl:a.raw.length<=4096)(B:a.line.length<=1000000):DF F W 11 [.S a.line] S=J (.bL [.A a.aq,.aB],S):=by
 have wd:a.av=[[100,101,108,105,118,101,114],aU a.fst]:=by simp[aD.av,b8,cN,cO,h]
 have u:=λT=>gR a.line B T;rw[aD.kN,wd]at u;have u:∀T,DF F W 39 [.S a.line,.S [32]] T=J (.sl .N 1 (strs [[100,101,108,105,118,101,114],aU a.fst]),T):=u;have R:aI [] (.sl .N 1 (strs [[100,101,108,105,118,101,114],aU a.fst]))=(.sl .N 1 (strs [[100,101,108,105,118,101,114],aU a.fst]),[]):=rfl;have fb:∀k,bk [.ao,.aB] [(0,1,.sl .N 1 k)]=J [.sl .N 1 k,.aB]:=λ_=>rfl;have z:∀k,bk [.ao,.aB] [(0,2,.A [.sl .N 1 k,.aB])]=J [.sl .N 1 k,.aB]:=λ_=>rfl;have I:∀ws,ez.M [.sl .N 1 (strs ws),.aB] [] O=fP ws .aB:=λ_=>rfl;have sg:∀k,aE (.A [.sl .N 1 k,.aB])=.A [.sl .N 1 k,.aB]:=λ_=>rfl;have kd:=dy;have ee:a.aq=a.bare.aq:=congrArg aD.aq (g_.1 (by rw[aD.gh];exact hB));have hz:ak.length=35:=rfl;have m:ca.length=60:=rfl;have P:aP.length=6:=rfl;have A:bk ak []=J ak:=rfl;have pz:bF ak=Y:=rfl;have r:aG.length=60:=rfl;have q:=eM;have pK:=cm r q;have cK:(AV.A aG).cells=aG:=rfl;have s5:∀ad X c,aY ad S.length (S++[X,c,.M ak [] O]) 35 (.P (S.length+2) 0) (.A ak)=J (ad,S++[X,c,.M (kC 0) [] O]):=λad X c=>by rw[nK (S:=S) rfl pz];simp only[uZ,sZ];rw[if_pos ⟨rfl,by rw[hz];omega⟩,aT rfl];rfl
 have s6:∀ad X c d,aY ad S.length (S++[X,c,d,.M ca [] O]) 60 (.P (S.length+3) 0) (.A aG)=J (ad,S++[X,c,d,.M aG [] O]):=λad X c d=>by rw[nK (S:=S) rfl q.aL];simp only[uZ,sZ];rw[if_pos ⟨r,by rw[m];omega⟩,aT (by rw[r,m])];rfl
 have L:=sE 4 (by omega) (by omega) [aU a.fst] (.M ak [] O) [] S 9 1 rfl (by omega);rw[show(if(4:Int)<((1:Nat):Int)then(4:Int)else 0)=0 from if_neg (by omega),show b8 4=[100,101,108,105,118,101,114]from rfl]at L;have l0:∀X c d b,a8 (S++X::c::.M (kC 4) [] O::d::b) .C (.P (S.length+2) 0)=J (.I V 4):=λX c d b=>by rw[bP (cs:=kC 4) (ad:=[]) (l:=O) (by rw[ob (by omega)];simp)];rfl
 have i6:nJ 10 6 (.P (S.length+3) 0) (.I V 4)=J (.P (S.length+3) 24):=G1 (S.length+3) 4 (by omega);have lU:∀X c d b,a8 (S++X::c::d::.M aG [] O::b) (.A 6) (.P (S.length+3) 24)=J (.A (aA 4)):=λX c d b=>by rw[bP (cs:=aG) (ad:=[]) (l:=O) (by rw[ob (by omega)];simp)];exact mP 4 (by omega)
 have hu:(aA 4).length=6:=rfl;have du:=eL 4;have pu:=cm hu du;have cu:(AV.A (aA 4)).cells=aA 4:=rfl;have u1:(aA 4)[1]? =J (.B O):=rfl;have u2:(aA 4)[2]? =J (.B O):=rfl;have u3:(aA 4)[3]? =J (.B O):=rfl;have u4:(aA 4)[4]? =J (.B O):=rfl;have u5:(aA 4)[5]? =J (.B O):=rfl;have ct:=λT=>jG 4 T;rw[show 2+vB [cN 4,cO 4,bN ((4:Int)=1),bN ((4:Int)=2),bN ((4:Int)=8)]=2 from rfl]at ct;have M:∀ws C b,a8 (S++[.M ak [] O,fP ws .aB,C,.M aG [] O,b]) .C (.P (S.length+1) 0)=J (.sl .N 1 (strs ws)):=λws C b=>qJ (cI S _ 1);have N:∀ws C b,a8 (S++[.M ak [] O,fP ws .aB,C,.M aG [] O,b]) .C (.P (S.length+1) 1)=J .aB:=λws C b=>rV (cI S _ 1) rfl;have Q:iq (.sl .N 1 (strs [[100,101,108,105,118,101,114],aU a.fst]))=J (.I V 2):=rfl;have k0:aH .eql (.I V 4) (.I V 0)=J (.B O):=rfl;have k1:aH .neq (.I V 2) (.I V 2)=J (.B O):=rfl;have b0:b9 .neq (.eD cC) Y .aB .aB=J (.B O):=rfl;have E:∀i,cb (.P i 0)=J (.P i 0):=λ_=>rfl;have gp:∀T i,ck T (.P i 0)=J (.P i 0):=λ_ _=>rfl;have kp:∀T i,cr T (.P i 0)=T:=λ_ _=>rfl;have up:∀T T' i,bO T T' (.P i 0)=T':=λ_ _ _=>rfl;have np:∀i,cR (.P i 0)=.P i 0:=λ_=>rfl;have nx:∀w ws C b,DF F W 41 [.P (S.length+1) 0] (S++[.M ak [] O,fP (w::ws) .aB,C,.M aG [] O,b])=J (.S w,S++[.M ak [] O,fP ws .aB,C,.M aG [] O,b]):=λw ws C b=>by have:=gP (S:=S++[.M ak [] O,fP (w::ws) .aB,C,.M aG [] O,b]) (j:=S.length+1) (w:=w) (ws:=ws) (e:=.aB) (cI S _ 1);rw[this];simp
 have t:∀n ws C b, -9223372036854775808<=n->n<=9223372036854775807->DF F W 42 [.P (S.length+1) 0] (S++[.M ak [] O,fP (aU n::ws) .aB,C,.M aG [] O,b])=J (.I V n,S++[.M ak [] O,fP ws .aB,C,.M aG [] O,b]):=λn ws C b h0 h1=>by have:=gQ (S:=S++[.M ak [] O,fP (aU n::ws) .aB,C,.M aG [] O,b]) (j:=S.length+1) (ws:=ws) n h0 h1 (cI S _ 1);rw[this];simp
 have n0:=λws C b=>t a.fst ws C b o.f0 o.f1;have n1:=λws C b=>t a.snd ws C b o.s0 o.s1;have n2:=λws C b=>t a.bU ws C b o.v0 o.v1;have st:∀ad X c d b C y g x,aR C g [.I V x]=y->g+1<=C.length->aY ad S.length (S++[X,c,.M C [] O,d,b]) 1 (.P (S.length+2) g) (.I V x)=J (ad,S++[X,c,.M y [] O,d,b]):=λad X c d b C y g x h hl=>by rw[dH (ly V x).Ai (cI S [X,c,.M C [] O,d,b] 2),if_pos ⟨rfl,hl⟩,show(AV.I V x).cells=[.I V x]from rfl,h];simp
 have zo:ag.length=10:=rfl;have zl:ab.length=20:=rfl;have po:bF ag=Y:=rfl;have pl:bF ab=Y:=rfl;have so:ag.map aE=ag:=rfl;have sl:ab.map aE=ab:=rfl;have no:ag.map bH=rG.aq:=rfl;have nl:ab.map bH=jo.aq:=rfl;have nr:bH .ao=b_ []:=rfl;have pB:=(aD.dx a.bare).aL;have LC:∀f s v,(cU 4 f s v ag ab .ao).length=35:=λ_ _ _=>fN zo zl;have t1:=λad X c d b=>st ad X c d b (kC 4) (cU 4 a.fst 0 0 ag ab .ao) 1 a.fst rfl (by rw[show(kC 4).length=35 from LC 0 0 0];omega);have dO:a.op.aq.map bH=a.op.aq:=(k7.dx a.op).iN;have dL:a.bG.aq.map bH=a.bG.aq:=(bj.dx a.bG).iN;have⟨p1,p2,p3⟩:=nQ 11 (cU 4 a.fst 0 0 ag ab .ao) a.bare.aq (fN zo zl) (jX _ _ _ _ _ _ _ po pl rfl) (kV _ _ _ _ _ _ _ so sl rfl) ((kU _ _ _ _ _ _ _).trans (by simp only[no,nl,dO,dL,nr,aD.iM,aD.bare,h];rfl)) pB S ak hz;rw[ee];have XO:kC 0=ak:=rfl;clear ee wd no nl dO dL nr pB t st LC hB A;have A:bk ak []=J ak:=rfl;rw[fO I9];generalize hU:aA 4=U at*;have v1:∀p:1<U.length,U[1]'p=_:=λp=>eO ((cf p).symm.trans u1);have v2:∀p:2<U.length,U[2]'p=_:=λp=>eO ((cf p).symm.trans u2);have v3:∀p:3<U.length,U[3]'p=_:=λp=>eO ((cf p).symm.trans u3);have v4:∀p:4<U.length,U[4]'p=_:=λp=>eO ((cf p).symm.trans u4);have v5:∀p:5<U.length,U[5]'p=_:=λp=>eO ((cf p).symm.trans u5);generalize hZ:ak=d,ca=ZK,aP=ZU,(cU 4 a.fst 0 0 ag ab .ao)=CF,kC 4=C1,aG=XP at*;simp-implicitDefEqProofs [-aH, -nJ,u,R,fb,z,sg,I,kd,A,s5,s6,m,r,q,pK,cK,q.agg];rw[aj cZ];try simp at L
 simp-implicitDefEqProofs [-aH, -nJ,L,l0,i6,lU,hu,du,pu,cu,P,aT,M,N,Q,ct,k0,k1,E,gp,kp,up,np,cy,b6,nx,n0,n1,n2,t1,v1,v2,v3,v4,v5,b0,p1,p2,p3]
set_option maxRecDepth 4000 in
def Wo(a:aD)(ha:a.Wf)(o:a.wv)(S:G)(h:a.ae=5)(hB:a.cL=Y)(hl:a.raw.length<=4096)(B:a.line.length<=1000000):DF F W 11 [.S a.line] S=J (.bL [.A a.aq,.aB],S):=by
 have wd:a.av=[[108,111,115,101],aU a.fst]:=by simp[aD.av,b8,cN,cO,h]
 have u:=λT=>gR a.line B T;rw[aD.kN,wd]at u;have u:∀T,DF F W 39 [.S a.line,.S [32]] T=J (.sl .N 1 (strs [[108,111,115,101],aU a.fst]),T):=u;have R:aI [] (.sl .N 1 (strs [[108,111,115,101],aU a.fst]))=(.sl .N 1 (strs [[108,111,115,101],aU a.fst]),[]):=rfl;have fb:∀k,bk [.ao,.aB] [(0,1,.sl .N 1 k)]=J [.sl .N 1 k,.aB]:=λ_=>rfl;have z:∀k,bk [.ao,.aB] [(0,2,.A [.sl .N 1 k,.aB])]=J [.sl .N 1 k,.aB]:=λ_=>rfl;have I:∀ws,ez.M [.sl .N 1 (strs ws),.aB] [] O=fP ws .aB:=λ_=>rfl;have sg:∀k,aE (.A [.sl .N 1 k,.aB])=.A [.sl .N 1 k,.aB]:=λ_=>rfl;have kd:=dy;have ee:a.aq=a.bare.aq:=congrArg aD.aq (g_.1 (by rw[aD.gh];exact hB));have hz:ak.length=35:=rfl;have m:ca.length=60:=rfl;have P:aP.length=6:=rfl;have A:bk ak []=J ak:=rfl;have pz:bF ak=Y:=rfl;have r:aG.length=60:=rfl;have q:=eM;have pK:=cm r q;have cK:(AV.A aG).cells=aG:=rfl;have s5:∀ad X c,aY ad S.length (S++[X,c,.M ak [] O]) 35 (.P (S.length+2) 0) (.A ak)=J (ad,S++[X,c,.M (kC 0) [] O]):=λad X c=>by rw[nK (S:=S) rfl pz];simp only[uZ,sZ];rw[if_pos ⟨rfl,by rw[hz];omega⟩,aT rfl];rfl
 have s6:∀ad X c d,aY ad S.length (S++[X,c,d,.M ca [] O]) 60 (.P (S.length+3) 0) (.A aG)=J (ad,S++[X,c,d,.M aG [] O]):=λad X c d=>by rw[nK (S:=S) rfl q.aL];simp only[uZ,sZ];rw[if_pos ⟨r,by rw[m];omega⟩,aT (by rw[r,m])];rfl
 have L:=sE 5 (by omega) (by omega) [aU a.fst] (.M ak [] O) [] S 9 1 rfl (by omega);rw[show(if(5:Int)<((1:Nat):Int)then(5:Int)else 0)=0 from if_neg (by omega),show b8 5=[108,111,115,101]from rfl]at L;have l0:∀X c d b,a8 (S++X::c::.M (kC 5) [] O::d::b) .C (.P (S.length+2) 0)=J (.I V 5):=λX c d b=>by rw[bP (cs:=kC 5) (ad:=[]) (l:=O) (by rw[ob (by omega)];simp)];rfl
 have i6:nJ 10 6 (.P (S.length+3) 0) (.I V 5)=J (.P (S.length+3) 30):=G1 (S.length+3) 5 (by omega);have lU:∀X c d b,a8 (S++X::c::d::.M aG [] O::b) (.A 6) (.P (S.length+3) 30)=J (.A (aA 5)):=λX c d b=>by rw[bP (cs:=aG) (ad:=[]) (l:=O) (by rw[ob (by omega)];simp)];exact mP 5 (by omega)
 have hu:(aA 5).length=6:=rfl;have du:=eL 5;have pu:=cm hu du;have cu:(AV.A (aA 5)).cells=aA 5:=rfl;have u1:(aA 5)[1]? =J (.B O):=rfl;have u2:(aA 5)[2]? =J (.B O):=rfl;have u3:(aA 5)[3]? =J (.B O):=rfl;have u4:(aA 5)[4]? =J (.B O):=rfl;have u5:(aA 5)[5]? =J (.B O):=rfl;have ct:=λT=>jG 5 T;rw[show 2+vB [cN 5,cO 5,bN ((5:Int)=1),bN ((5:Int)=2),bN ((5:Int)=8)]=2 from rfl]at ct;have M:∀ws C b,a8 (S++[.M ak [] O,fP ws .aB,C,.M aG [] O,b]) .C (.P (S.length+1) 0)=J (.sl .N 1 (strs ws)):=λws C b=>qJ (cI S _ 1);have N:∀ws C b,a8 (S++[.M ak [] O,fP ws .aB,C,.M aG [] O,b]) .C (.P (S.length+1) 1)=J .aB:=λws C b=>rV (cI S _ 1) rfl;have Q:iq (.sl .N 1 (strs [[108,111,115,101],aU a.fst]))=J (.I V 2):=rfl;have k0:aH .eql (.I V 5) (.I V 0)=J (.B O):=rfl;have k1:aH .neq (.I V 2) (.I V 2)=J (.B O):=rfl;have b0:b9 .neq (.eD cC) Y .aB .aB=J (.B O):=rfl;have E:∀i,cb (.P i 0)=J (.P i 0):=λ_=>rfl;have gp:∀T i,ck T (.P i 0)=J (.P i 0):=λ_ _=>rfl;have kp:∀T i,cr T (.P i 0)=T:=λ_ _=>rfl;have up:∀T T' i,bO T T' (.P i 0)=T':=λ_ _ _=>rfl;have np:∀i,cR (.P i 0)=.P i 0:=λ_=>rfl;have nx:∀w ws C b,DF F W 41 [.P (S.length+1) 0] (S++[.M ak [] O,fP (w::ws) .aB,C,.M aG [] O,b])=J (.S w,S++[.M ak [] O,fP ws .aB,C,.M aG [] O,b]):=λw ws C b=>by have:=gP (S:=S++[.M ak [] O,fP (w::ws) .aB,C,.M aG [] O,b]) (j:=S.length+1) (w:=w) (ws:=ws) (e:=.aB) (cI S _ 1);rw[this];simp
 have t:∀n ws C b, -9223372036854775808<=n->n<=9223372036854775807->DF F W 42 [.P (S.length+1) 0] (S++[.M ak [] O,fP (aU n::ws) .aB,C,.M aG [] O,b])=J (.I V n,S++[.M ak [] O,fP ws .aB,C,.M aG [] O,b]):=λn ws C b h0 h1=>by have:=gQ (S:=S++[.M ak [] O,fP (aU n::ws) .aB,C,.M aG [] O,b]) (j:=S.length+1) (ws:=ws) n h0 h1 (cI S _ 1);rw[this];simp
 have n0:=λws C b=>t a.fst ws C b o.f0 o.f1;have n1:=λws C b=>t a.snd ws C b o.s0 o.s1;have n2:=λws C b=>t a.bU ws C b o.v0 o.v1;have st:∀ad X c d b C y g x,aR C g [.I V x]=y->g+1<=C.length->aY ad S.length (S++[X,c,.M C [] O,d,b]) 1 (.P (S.length+2) g) (.I V x)=J (ad,S++[X,c,.M y [] O,d,b]):=λad X c d b C y g x h hl=>by rw[dH (ly V x).Ai (cI S [X,c,.M C [] O,d,b] 2),if_pos ⟨rfl,hl⟩,show(AV.I V x).cells=[.I V x]from rfl,h];simp
 have zo:ag.length=10:=rfl;have zl:ab.length=20:=rfl;have po:bF ag=Y:=rfl;have pl:bF ab=Y:=rfl;have so:ag.map aE=ag:=rfl;have sl:ab.map aE=ab:=rfl;have no:ag.map bH=rG.aq:=rfl;have nl:ab.map bH=jo.aq:=rfl;have nr:bH .ao=b_ []:=rfl;have pB:=(aD.dx a.bare).aL;have LC:∀f s v,(cU 5 f s v ag ab .ao).length=35:=λ_ _ _=>fN zo zl;have t1:=λad X c d b=>st ad X c d b (kC 5) (cU 5 a.fst 0 0 ag ab .ao) 1 a.fst rfl (by rw[show(kC 5).length=35 from LC 0 0 0];omega);have dO:a.op.aq.map bH=a.op.aq:=(k7.dx a.op).iN;have dL:a.bG.aq.map bH=a.bG.aq:=(bj.dx a.bG).iN;have⟨p1,p2,p3⟩:=nQ 11 (cU 5 a.fst 0 0 ag ab .ao) a.bare.aq (fN zo zl) (jX _ _ _ _ _ _ _ po pl rfl) (kV _ _ _ _ _ _ _ so sl rfl) ((kU _ _ _ _ _ _ _).trans (by simp only[no,nl,dO,dL,nr,aD.iM,aD.bare,h];rfl)) pB S ak hz;rw[ee];have XO:kC 0=ak:=rfl;clear ee wd no nl dO dL nr pB t st LC hB A;have A:bk ak []=J ak:=rfl;rw[fO I9];generalize hU:aA 5=U at*;have v1:∀p:1<U.length,U[1]'p=_:=λp=>eO ((cf p).symm.trans u1);have v2:∀p:2<U.length,U[2]'p=_:=λp=>eO ((cf p).symm.trans u2);have v3:∀p:3<U.length,U[3]'p=_:=λp=>eO ((cf p).symm.trans u3);have v4:∀p:4<U.length,U[4]'p=_:=λp=>eO ((cf p).symm.trans u4);have v5:∀p:5<U.length,U[5]'p=_:=λp=>eO ((cf p).symm.trans u5);generalize hZ:ak=d,ca=ZK,aP=ZU,(cU 5 a.fst 0 0 ag ab .ao)=CF,kC 5=C1,aG=XP at*;simp-implicitDefEqProofs [-aH, -nJ,u,R,fb,z,sg,I,kd,A,s5,s6,m,r,q,pK,cK,q.agg];rw[aj cZ];try simp at L
 simp-implicitDefEqProofs [-aH, -nJ,L,l0,i6,lU,hu,du,pu,cu,P,aT,M,N,Q,ct,k0,k1,E,gp,kp,up,np,cy,b6,nx,n0,n1,n2,t1,v1,v2,v3,v4,v5,b0,p1,p2,p3]
set_option maxRecDepth 4000 in
def Wp(a:aD)(ha:a.Wf)(o:a.wv)(S:G)(h:a.ae=6)(hB:a.cL=Y)(hl:a.raw.length<=4096)(B:a.line.length<=1000000):DF F W 11 [.S a.line] S=J (.bL [.A a.aq,.aB],S):=by
 have wd:a.av=[[99,111,112,121],aU a.fst]:=by simp[aD.av,b8,cN,cO,h]
 have u:=λT=>gR a.line B T;rw[aD.kN,wd]at u;have u:∀T,DF F W 39 [.S a.line,.S [32]] T=J (.sl .N 1 (strs [[99,111,112,121],aU a.fst]),T):=u;have R:aI [] (.sl .N 1 (strs [[99,111,112,121],aU a.fst]))=(.sl .N 1 (strs [[99,111,112,121],aU a.fst]),[]):=rfl;have fb:∀k,bk [.ao,.aB] [(0,1,.sl .N 1 k)]=J [.sl .N 1 k,.aB]:=λ_=>rfl;have z:∀k,bk [.ao,.aB] [(0,2,.A [.sl .N 1 k,.aB])]=J [.sl .N 1 k,.aB]:=λ_=>rfl;have I:∀ws,ez.M [.sl .N 1 (strs ws),.aB] [] O=fP ws .aB:=λ_=>rfl;have sg:∀k,aE (.A [.sl .N 1 k,.aB])=.A [.sl .N 1 k,.aB]:=λ_=>rfl;have kd:=dy;have ee:a.aq=a.bare.aq:=congrArg aD.aq (g_.1 (by rw[aD.gh];exact hB));have hz:ak.length=35:=rfl;have m:ca.length=60:=rfl;have P:aP.length=6:=rfl;have A:bk ak []=J ak:=rfl;have pz:bF ak=Y:=rfl;have r:aG.length=60:=rfl;have q:=eM;have pK:=cm r q;have cK:(AV.A aG).cells=aG:=rfl;have s5:∀ad X c,aY ad S.length (S++[X,c,.M ak [] O]) 35 (.P (S.length+2) 0) (.A ak)=J (ad,S++[X,c,.M (kC 0) [] O]):=λad X c=>by rw[nK (S:=S) rfl pz];simp only[uZ,sZ];rw[if_pos ⟨rfl,by rw[hz];omega⟩,aT rfl];rfl
 have s6:∀ad X c d,aY ad S.length (S++[X,c,d,.M ca [] O]) 60 (.P (S.length+3) 0) (.A aG)=J (ad,S++[X,c,d,.M aG [] O]):=λad X c d=>by rw[nK (S:=S) rfl q.aL];simp only[uZ,sZ];rw[if_pos ⟨r,by rw[m];omega⟩,aT (by rw[r,m])];rfl
 have L:=sE 6 (by omega) (by omega) [aU a.fst] (.M ak [] O) [] S 9 1 rfl (by omega);rw[show(if(6:Int)<((1:Nat):Int)then(6:Int)else 0)=0 from if_neg (by omega),show b8 6=[99,111,112,121]from rfl]at L;have l0:∀X c d b,a8 (S++X::c::.M (kC 6) [] O::d::b) .C (.P (S.length+2) 0)=J (.I V 6):=λX c d b=>by rw[bP (cs:=kC 6) (ad:=[]) (l:=O) (by rw[ob (by omega)];simp)];rfl
 have i6:nJ 10 6 (.P (S.length+3) 0) (.I V 6)=J (.P (S.length+3) 36):=G1 (S.length+3) 6 (by omega);have lU:∀X c d b,a8 (S++X::c::d::.M aG [] O::b) (.A 6) (.P (S.length+3) 36)=J (.A (aA 6)):=λX c d b=>by rw[bP (cs:=aG) (ad:=[]) (l:=O) (by rw[ob (by omega)];simp)];exact mP 6 (by omega)
 have hu:(aA 6).length=6:=rfl;have du:=eL 6;have pu:=cm hu du;have cu:(AV.A (aA 6)).cells=aA 6:=rfl;have u1:(aA 6)[1]? =J (.B O):=rfl;have u2:(aA 6)[2]? =J (.B O):=rfl;have u3:(aA 6)[3]? =J (.B O):=rfl;have u4:(aA 6)[4]? =J (.B O):=rfl;have u5:(aA 6)[5]? =J (.B O):=rfl;have ct:=λT=>jG 6 T;rw[show 2+vB [cN 6,cO 6,bN ((6:Int)=1),bN ((6:Int)=2),bN ((6:Int)=8)]=2 from rfl]at ct;have M:∀ws C b,a8 (S++[.M ak [] O,fP ws .aB,C,.M aG [] O,b]) .C (.P (S.length+1) 0)=J (.sl .N 1 (strs ws)):=λws C b=>qJ (cI S _ 1);have N:∀ws C b,a8 (S++[.M ak [] O,fP ws .aB,C,.M aG [] O,b]) .C (.P (S.length+1) 1)=J .aB:=λws C b=>rV (cI S _ 1) rfl;have Q:iq (.sl .N 1 (strs [[99,111,112,121],aU a.fst]))=J (.I V 2):=rfl;have k0:aH .eql (.I V 6) (.I V 0)=J (.B O):=rfl;have k1:aH .neq (.I V 2) (.I V 2)=J (.B O):=rfl;have b0:b9 .neq (.eD cC) Y .aB .aB=J (.B O):=rfl;have E:∀i,cb (.P i 0)=J (.P i 0):=λ_=>rfl;have gp:∀T i,ck T (.P i 0)=J (.P i 0):=λ_ _=>rfl;have kp:∀T i,cr T (.P i 0)=T:=λ_ _=>rfl;have up:∀T T' i,bO T T' (.P i 0)=T':=λ_ _ _=>rfl;have np:∀i,cR (.P i 0)=.P i 0:=λ_=>rfl;have nx:∀w ws C b,DF F W 41 [.P (S.length+1) 0] (S++[.M ak [] O,fP (w::ws) .aB,C,.M aG [] O,b])=J (.S w,S++[.M ak [] O,fP ws .aB,C,.M aG [] O,b]):=λw ws C b=>by have:=gP (S:=S++[.M ak [] O,fP (w::ws) .aB,C,.M aG [] O,b]) (j:=S.length+1) (w:=w) (ws:=ws) (e:=.aB) (cI S _ 1);rw[this];simp
 have t:∀n ws C b, -9223372036854775808<=n->n<=9223372036854775807->DF F W 42 [.P (S.length+1) 0] (S++[.M ak [] O,fP (aU n::ws) .aB,C,.M aG [] O,b])=J (.I V n,S++[.M ak [] O,fP ws .aB,C,.M aG [] O,b]):=λn ws C b h0 h1=>by have:=gQ (S:=S++[.M ak [] O,fP (aU n::ws) .aB,C,.M aG [] O,b]) (j:=S.length+1) (ws:=ws) n h0 h1 (cI S _ 1);rw[this];simp
 have n0:=λws C b=>t a.fst ws C b o.f0 o.f1;have n1:=λws C b=>t a.snd ws C b o.s0 o.s1;have n2:=λws C b=>t a.bU ws C b o.v0 o.v1;have st:∀ad X c d b C y g x,aR C g [.I V x]=y->g+1<=C.length->aY ad S.length (S++[X,c,.M C [] O,d,b]) 1 (.P (S.length+2) g) (.I V x)=J (ad,S++[X,c,.M y [] O,d,b]):=λad X c d b C y g x h hl=>by rw[dH (ly V x).Ai (cI S [X,c,.M C [] O,d,b] 2),if_pos ⟨rfl,hl⟩,show(AV.I V x).cells=[.I V x]from rfl,h];simp
 have zo:ag.length=10:=rfl;have zl:ab.length=20:=rfl;have po:bF ag=Y:=rfl;have pl:bF ab=Y:=rfl;have so:ag.map aE=ag:=rfl;have sl:ab.map aE=ab:=rfl;have no:ag.map bH=rG.aq:=rfl;have nl:ab.map bH=jo.aq:=rfl;have nr:bH .ao=b_ []:=rfl;have pB:=(aD.dx a.bare).aL;have LC:∀f s v,(cU 6 f s v ag ab .ao).length=35:=λ_ _ _=>fN zo zl;have t1:=λad X c d b=>st ad X c d b (kC 6) (cU 6 a.fst 0 0 ag ab .ao) 1 a.fst rfl (by rw[show(kC 6).length=35 from LC 0 0 0];omega);have dO:a.op.aq.map bH=a.op.aq:=(k7.dx a.op).iN;have dL:a.bG.aq.map bH=a.bG.aq:=(bj.dx a.bG).iN;have⟨p1,p2,p3⟩:=nQ 11 (cU 6 a.fst 0 0 ag ab .ao) a.bare.aq (fN zo zl) (jX _ _ _ _ _ _ _ po pl rfl) (kV _ _ _ _ _ _ _ so sl rfl) ((kU _ _ _ _ _ _ _).trans (by simp only[no,nl,dO,dL,nr,aD.iM,aD.bare,h];rfl)) pB S ak hz;rw[ee];have XO:kC 0=ak:=rfl;clear ee wd no nl dO dL nr pB t st LC hB A;have A:bk ak []=J ak:=rfl;rw[fO I9];generalize hU:aA 6=U at*;have v1:∀p:1<U.length,U[1]'p=_:=λp=>eO ((cf p).symm.trans u1);have v2:∀p:2<U.length,U[2]'p=_:=λp=>eO ((cf p).symm.trans u2);have v3:∀p:3<U.length,U[3]'p=_:=λp=>eO ((cf p).symm.trans u3);have v4:∀p:4<U.length,U[4]'p=_:=λp=>eO ((cf p).symm.trans u4);have v5:∀p:5<U.length,U[5]'p=_:=λp=>eO ((cf p).symm.trans u5);generalize hZ:ak=d,ca=ZK,aP=ZU,(cU 6 a.fst 0 0 ag ab .ao)=CF,kC 6=C1,aG=XP at*;simp-implicitDefEqProofs [-aH, -nJ,u,R,fb,z,sg,I,kd,A,s5,s6,m,r,q,pK,cK,q.agg];rw[aj cZ];try simp at L
 simp-implicitDefEqProofs [-aH, -nJ,L,l0,i6,lU,hu,du,pu,cu,P,aT,M,N,Q,ct,k0,k1,E,gp,kp,up,np,cy,b6,nx,n0,n1,n2,t1,v1,v2,v3,v4,v5,b0,p1,p2,p3]
set_option maxRecDepth 4000 in
def Wq(a:aD)(ha:a.Wf)(o:a.wv)(S:G)(h:a.ae=7)(hB:a.cL=Y)(hl:a.raw.length<=4096)(E:a.line.length<=1000000):DF F W 11 [.S a.line] S=J (.bL [.A a.aq,.aB],S):=by
 have wd:a.av=[[115,119,97,112],aU a.fst,aU a.snd]:=by simp[aD.av,b8,cN,cO,h]
 have u:=λT=>gR a.line E T;rw[aD.kN,wd]at u;have u:∀T,DF F W 39 [.S a.line,.S [32]] T=J (.sl .N 1 (strs [[115,119,97,112],aU a.fst,aU a.snd]),T):=u;have Ur:aI [] (.sl .N 1 (strs [[115,119,97,112],aU a.fst,aU a.snd]))=(.sl .N 1 (strs [[115,119,97,112],aU a.fst,aU a.snd]),[]):=rfl;have fb:∀k,bk [.ao,.aB] [(0,1,.sl .N 1 k)]=J [.sl .N 1 k,.aB]:=λ_=>rfl;have A:∀k,bk [.ao,.aB] [(0,2,.A [.sl .N 1 k,.aB])]=J [.sl .N 1 k,.aB]:=λ_=>rfl;have M:∀ws,ez.M [.sl .N 1 (strs ws),.aB] [] O=fP ws .aB:=λ_=>rfl;have sg:∀k,aE (.A [.sl .N 1 k,.aB])=.A [.sl .N 1 k,.aB]:=λ_=>rfl;have kd:=dy;have ee:a.aq=a.bare.aq:=congrArg aD.aq (g_.1 (by rw[aD.gh];exact hB));have hz:ak.length=35:=rfl;have m:ca.length=60:=rfl;have Q:aP.length=6:=rfl;have B:bk ak []=J ak:=rfl;have pz:bF ak=Y:=rfl;have r:aG.length=60:=rfl;have q:=eM;have pK:=cm r q;have cK:(AV.A aG).cells=aG:=rfl;have s5:∀ad X c,aY ad S.length (S++[X,c,.M ak [] O]) 35 (.P (S.length+2) 0) (.A ak)=J (ad,S++[X,c,.M (kC 0) [] O]):=λad X c=>by rw[nK (S:=S) rfl pz];simp only[uZ,sZ];rw[if_pos ⟨rfl,by rw[hz];omega⟩,aT rfl];rfl
 have s6:∀ad X c d,aY ad S.length (S++[X,c,d,.M ca [] O]) 60 (.P (S.length+3) 0) (.A aG)=J (ad,S++[X,c,d,.M aG [] O]):=λad X c d=>by rw[nK (S:=S) rfl q.aL];simp only[uZ,sZ];rw[if_pos ⟨r,by rw[m];omega⟩,aT (by rw[r,m])];rfl
 have L:=sE 7 (by omega) (by omega) [aU a.fst,aU a.snd] (.M ak [] O) [] S 9 1 rfl (by omega);rw[show(if(7:Int)<((1:Nat):Int)then(7:Int)else 0)=0 from if_neg (by omega),show b8 7=[115,119,97,112]from rfl]at L;have l0:∀X c d b,a8 (S++X::c::.M (kC 7) [] O::d::b) .C (.P (S.length+2) 0)=J (.I V 7):=λX c d b=>by rw[bP (cs:=kC 7) (ad:=[]) (l:=O) (by rw[ob (by omega)];simp)];rfl
 have i6:nJ 10 6 (.P (S.length+3) 0) (.I V 7)=J (.P (S.length+3) 42):=G1 (S.length+3) 7 (by omega);have lU:∀X c d b,a8 (S++X::c::d::.M aG [] O::b) (.A 6) (.P (S.length+3) 42)=J (.A (aA 7)):=λX c d b=>by rw[bP (cs:=aG) (ad:=[]) (l:=O) (by rw[ob (by omega)];simp)];exact mP 7 (by omega)
 have hu:(aA 7).length=6:=rfl;have du:=eL 7;have pu:=cm hu du;have cu:(AV.A (aA 7)).cells=aA 7:=rfl;have u1:(aA 7)[1]? =J (.B Y):=rfl;have u2:(aA 7)[2]? =J (.B O):=rfl;have u3:(aA 7)[3]? =J (.B O):=rfl;have u4:(aA 7)[4]? =J (.B O):=rfl;have u5:(aA 7)[5]? =J (.B O):=rfl;have ct:=λT=>jG 7 T;rw[show 2+vB [cN 7,cO 7,bN ((7:Int)=1),bN ((7:Int)=2),bN ((7:Int)=8)]=3 from rfl]at ct;have N:∀ws C b,a8 (S++[.M ak [] O,fP ws .aB,C,.M aG [] O,b]) .C (.P (S.length+1) 0)=J (.sl .N 1 (strs ws)):=λws C b=>qJ (cI S _ 1);have P:∀ws C b,a8 (S++[.M ak [] O,fP ws .aB,C,.M aG [] O,b]) .C (.P (S.length+1) 1)=J .aB:=λws C b=>rV (cI S _ 1) rfl;have R:iq (.sl .N 1 (strs [[115,119,97,112],aU a.fst,aU a.snd]))=J (.I V 3):=rfl;have k0:aH .eql (.I V 7) (.I V 0)=J (.B O):=rfl;have k1:aH .neq (.I V 3) (.I V 3)=J (.B O):=rfl;have b0:b9 .neq (.eD cC) Y .aB .aB=J (.B O):=rfl;have I:∀i,cb (.P i 0)=J (.P i 0):=λ_=>rfl;have gp:∀T i,ck T (.P i 0)=J (.P i 0):=λ_ _=>rfl;have kp:∀T i,cr T (.P i 0)=T:=λ_ _=>rfl;have up:∀T T' i,bO T T' (.P i 0)=T':=λ_ _ _=>rfl;have np:∀i,cR (.P i 0)=.P i 0:=λ_=>rfl;have nx:∀w ws C b,DF F W 41 [.P (S.length+1) 0] (S++[.M ak [] O,fP (w::ws) .aB,C,.M aG [] O,b])=J (.S w,S++[.M ak [] O,fP ws .aB,C,.M aG [] O,b]):=λw ws C b=>by have:=gP (S:=S++[.M ak [] O,fP (w::ws) .aB,C,.M aG [] O,b]) (j:=S.length+1) (w:=w) (ws:=ws) (e:=.aB) (cI S _ 1);rw[this];simp
 have t:∀n ws C b, -9223372036854775808<=n->n<=9223372036854775807->DF F W 42 [.P (S.length+1) 0] (S++[.M ak [] O,fP (aU n::ws) .aB,C,.M aG [] O,b])=J (.I V n,S++[.M ak [] O,fP ws .aB,C,.M aG [] O,b]):=λn ws C b h0 h1=>by have:=gQ (S:=S++[.M ak [] O,fP (aU n::ws) .aB,C,.M aG [] O,b]) (j:=S.length+1) (ws:=ws) n h0 h1 (cI S _ 1);rw[this];simp
 have n0:=λws C b=>t a.fst ws C b o.f0 o.f1;have n1:=λws C b=>t a.snd ws C b o.s0 o.s1;have n2:=λws C b=>t a.bU ws C b o.v0 o.v1;have st:∀ad X c d b C y g x,aR C g [.I V x]=y->g+1<=C.length->aY ad S.length (S++[X,c,.M C [] O,d,b]) 1 (.P (S.length+2) g) (.I V x)=J (ad,S++[X,c,.M y [] O,d,b]):=λad X c d b C y g x h hl=>by rw[dH (ly V x).Ai (cI S [X,c,.M C [] O,d,b] 2),if_pos ⟨rfl,hl⟩,show(AV.I V x).cells=[.I V x]from rfl,h];simp
 have zo:ag.length=10:=rfl;have zl:ab.length=20:=rfl;have po:bF ag=Y:=rfl;have pl:bF ab=Y:=rfl;have so:ag.map aE=ag:=rfl;have sl:ab.map aE=ab:=rfl;have no:ag.map bH=rG.aq:=rfl;have nl:ab.map bH=jo.aq:=rfl;have nr:bH .ao=b_ []:=rfl;have pB:=(aD.dx a.bare).aL;have z:∀f s v,(cU 7 f s v ag ab .ao).length=35:=λ_ _ _=>fN zo zl;have t1:=λad X c d b=>st ad X c d b (kC 7) (cU 7 a.fst 0 0 ag ab .ao) 1 a.fst rfl (by rw[show(kC 7).length=35 from z 0 0 0];omega);have t2:=λad X c d b=>st ad X c d b (cU 7 a.fst 0 0 ag ab .ao) (cU 7 a.fst a.snd 0 ag ab .ao) 2 a.snd rfl (by rw[z];omega);have dO:a.op.aq.map bH=a.op.aq:=(k7.dx a.op).iN;have dL:a.bG.aq.map bH=a.bG.aq:=(bj.dx a.bG).iN;have⟨p1,p2,p3⟩:=nQ 11 (cU 7 a.fst a.snd 0 ag ab .ao) a.bare.aq (fN zo zl) (jX _ _ _ _ _ _ _ po pl rfl) (kV _ _ _ _ _ _ _ so sl rfl) ((kU _ _ _ _ _ _ _).trans (by simp only[no,nl,dO,dL,nr,aD.iM,aD.bare,h];rfl)) pB S ak hz;rw[ee];have XO:kC 0=ak:=rfl;clear ee wd no nl dO dL nr pB t st z hB B;have B:bk ak []=J ak:=rfl;rw[fO I9];generalize hU:aA 7=U at*;have v1:∀p:1<U.length,U[1]'p=_:=λp=>eO ((cf p).symm.trans u1);have v2:∀p:2<U.length,U[2]'p=_:=λp=>eO ((cf p).symm.trans u2);have v3:∀p:3<U.length,U[3]'p=_:=λp=>eO ((cf p).symm.trans u3);have v4:∀p:4<U.length,U[4]'p=_:=λp=>eO ((cf p).symm.trans u4);have v5:∀p:5<U.length,U[5]'p=_:=λp=>eO ((cf p).symm.trans u5);generalize hZ:ak=d,ca=ZK,aP=ZU,(cU 7 a.fst a.snd 0 ag ab .ao)=CF,kC 7=C1,aG=XP at*;simp-implicitDefEqProofs [-aH, -nJ,u,Ur,fb,A,sg,M,kd,B,s5,s6,m,r,q,pK,cK,q.agg];rw[aj cZ];try simp at L
 simp-implicitDefEqProofs [-aH, -nJ,L,l0,i6,lU,hu,du,pu,cu,Q,aT,N,P,R,ct,k0,k1,I,gp,kp,up,np,cy,b6,nx,n0,n1,n2,t1,t2,v1,v2,v3,v4,v5,b0,p1,p2,p3]
set_option maxRecDepth 4000 in
def Wr(a:aD)(ha:a.Wf)(t:a.wv)(S:G)(h:a.ae=8)(hB:a.cL=Y)(hl:a.raw.length<=4096)(hll:a.line.length<=1000000):DF F W 11 [.S a.line] S=J (.bL [.A a.aq,.aB],S):=by
 have wd:a.av=[[105,110,106,101,99,116],aU a.fst,aU a.snd,(if a.raw=[]then[45]else dm a.raw)]:=by simp[aD.av,b8,cN,cO,h]
 have B:=λT=>gR a.line hll T;rw[aD.kN,wd]at B;have B:∀T,DF F W 39 [.S a.line,.S [32]] T=J (.sl .N 1 (strs [[105,110,106,101,99,116],aU a.fst,aU a.snd,(if a.raw=[]then[45]else dm a.raw)]),T):=B;have Ur:aI [] (.sl .N 1 (strs [[105,110,106,101,99,116],aU a.fst,aU a.snd,(if a.raw=[]then[45]else dm a.raw)]))=(.sl .N 1 (strs [[105,110,106,101,99,116],aU a.fst,aU a.snd,(if a.raw=[]then[45]else dm a.raw)]),[]):=rfl;have fb:∀o,bk [.ao,.aB] [(0,1,.sl .N 1 o)]=J [.sl .N 1 o,.aB]:=λ_=>rfl;have P:∀o,bk [.ao,.aB] [(0,2,.A [.sl .N 1 o,.aB])]=J [.sl .N 1 o,.aB]:=λ_=>rfl;have hrw:∀ws,ez.M [.sl .N 1 (strs ws),.aB] [] O=fP ws .aB:=λ_=>rfl;have sg:∀o,aE (.A [.sl .N 1 o,.aB])=.A [.sl .N 1 o,.aB]:=λ_=>rfl;have kd:=dy;have ee:a.aq=a.bare.aq:=congrArg aD.aq (g_.1 (by rw[aD.gh];exact hB));have hz:ak.length=35:=rfl;have r:ca.length=60:=rfl;have hzU:aP.length=6:=rfl;have Q:bk ak []=J ak:=rfl;have pz:bF ak=Y:=rfl;have z:aG.length=60:=rfl;have y:=eM;have pK:=cm z y;have cK:(AV.A aG).cells=aG:=rfl;have s5:∀ad X g,aY ad S.length (S++[X,g,.M ak [] O]) 35 (.P (S.length+2) 0) (.A ak)=J (ad,S++[X,g,.M (kC 0) [] O]):=λad X g=>by rw[nK (S:=S) rfl pz];simp only[uZ,sZ];rw[if_pos ⟨rfl,by rw[hz];omega⟩,aT rfl];rfl
 have s6:∀ad X g k,aY ad S.length (S++[X,g,k,.M ca [] O]) 60 (.P (S.length+3) 0) (.A aG)=J (ad,S++[X,g,k,.M aG [] O]):=λad X g k=>by rw[nK (S:=S) rfl y.aL];simp only[uZ,sZ];rw[if_pos ⟨z,by rw[r];omega⟩,aT (by rw[z,r])];rfl
 have L:=sE 8 (by omega) (by omega) [aU a.fst,aU a.snd,(if a.raw=[]then[45]else dm a.raw)] (.M ak [] O) [] S 9 1 rfl (by omega);rw[show(if(8:Int)<((1:Nat):Int)then(8:Int)else 0)=0 from if_neg (by omega),show b8 8=[105,110,106,101,99,116]from rfl]at L;have l0:∀X g k b,a8 (S++X::g::.M (kC 8) [] O::k::b) .C (.P (S.length+2) 0)=J (.I V 8):=λX g k b=>by rw[bP (cs:=kC 8) (ad:=[]) (l:=O) (by rw[ob (by omega)];simp)];rfl
 have i6:nJ 10 6 (.P (S.length+3) 0) (.I V 8)=J (.P (S.length+3) 48):=G1 (S.length+3) 8 (by omega);have lU:∀X g k b,a8 (S++X::g::k::.M aG [] O::b) (.A 6) (.P (S.length+3) 48)=J (.A (aA 8)):=λX g k b=>by rw[bP (cs:=aG) (ad:=[]) (l:=O) (by rw[ob (by omega)];simp)];exact mP 8 (by omega)
 have hu:(aA 8).length=6:=rfl;have du:=eL 8;have pu:=cm hu du;have cu:(AV.A (aA 8)).cells=aA 8:=rfl;have u1:(aA 8)[1]? =J (.B Y):=rfl;have u2:(aA 8)[2]? =J (.B O):=rfl;have u3:(aA 8)[3]? =J (.B O):=rfl;have u4:(aA 8)[4]? =J (.B O):=rfl;have u5:(aA 8)[5]? =J (.B Y):=rfl;have ct:=λT=>jG 8 T;rw[show 2+vB [cN 8,cO 8,bN ((8:Int)=1),bN ((8:Int)=2),bN ((8:Int)=8)]=4 from rfl]at ct;have hw0:∀ws C b,a8 (S++[.M ak [] O,fP ws .aB,C,.M aG [] O,b]) .C (.P (S.length+1) 0)=J (.sl .N 1 (strs ws)):=λws C b=>qJ (cI S _ 1);have r6:∀ws C b,a8 (S++[.M ak [] O,fP ws .aB,C,.M aG [] O,b]) .C (.P (S.length+1) 1)=J .aB:=λws C b=>rV (cI S _ 1) rfl;have lns:iq (.sl .N 1 (strs [[105,110,106,101,99,116],aU a.fst,aU a.snd,(if a.raw=[]then[45]else dm a.raw)]))=J (.I V 4):=rfl;have k0:aH .eql (.I V 8) (.I V 0)=J (.B O):=rfl;have k1:aH .neq (.I V 4) (.I V 4)=J (.B O):=rfl;have b0:b9 .neq (.eD cC) Y .aB .aB=J (.B O):=rfl;have hnc:∀i,cb (.P i 0)=J (.P i 0):=λ_=>rfl;have gp:∀T i,ck T (.P i 0)=J (.P i 0):=λ_ _=>rfl;have kp:∀T i,cr T (.P i 0)=T:=λ_ _=>rfl;have up:∀T T' i,bO T T' (.P i 0)=T':=λ_ _ _=>rfl;have np:∀i,cR (.P i 0)=.P i 0:=λ_=>rfl;have nx:∀w ws C b,DF F W 41 [.P (S.length+1) 0] (S++[.M ak [] O,fP (w::ws) .aB,C,.M aG [] O,b])=J (.S w,S++[.M ak [] O,fP ws .aB,C,.M aG [] O,b]):=λw ws C b=>by have:=gP (S:=S++[.M ak [] O,fP (w::ws) .aB,C,.M aG [] O,b]) (j:=S.length+1) (w:=w) (ws:=ws) (e:=.aB) (cI S _ 1);rw[this];simp
 have A:∀n ws C b, -9223372036854775808<=n->n<=9223372036854775807->DF F W 42 [.P (S.length+1) 0] (S++[.M ak [] O,fP (aU n::ws) .aB,C,.M aG [] O,b])=J (.I V n,S++[.M ak [] O,fP ws .aB,C,.M aG [] O,b]):=λn ws C b h0 R=>by have:=gQ (S:=S++[.M ak [] O,fP (aU n::ws) .aB,C,.M aG [] O,b]) (j:=S.length+1) (ws:=ws) n h0 R (cI S _ 1);rw[this];simp
 have n0:=λws C b=>A a.fst ws C b t.f0 t.f1;have n1:=λws C b=>A a.snd ws C b t.s0 t.s1;have n2:=λws C b=>A a.bU ws C b t.v0 t.v1;have st:∀ad X g k b C M m x,aR C m [.I V x]=M->m+1<=C.length->aY ad S.length (S++[X,g,.M C [] O,k,b]) 1 (.P (S.length+2) m) (.I V x)=J (ad,S++[X,g,.M M [] O,k,b]):=λad X g k b C M m x h hl=>by rw[dH (ly V x).Ai (cI S [X,g,.M C [] O,k,b] 2),if_pos ⟨rfl,hl⟩,show(AV.I V x).cells=[.I V x]from rfl,h];simp
 have I:ag.length=10:=rfl;have E:ab.length=20:=rfl;have po:bF ag=Y:=rfl;have pl:bF ab=Y:=rfl;have so:ag.map aE=ag:=rfl;have sl:ab.map aE=ab:=rfl;have no:ag.map bH=rG.aq:=rfl;have nl:ab.map bH=jo.aq:=rfl;have nr:bH .ao=b_ []:=rfl;have pB:=(aD.dx a.bare).aL;have u:∀f s v,(cU 8 f s v ag ab .ao).length=35:=λ_ _ _=>fN I E;have t1:=λad X g k b=>st ad X g k b (kC 8) (cU 8 a.fst 0 0 ag ab .ao) 1 a.fst rfl (by rw[show(kC 8).length=35 from u 0 0 0];omega);have t2:=λad X g k b=>st ad X g k b (cU 8 a.fst 0 0 ag ab .ao) (cU 8 a.fst a.snd 0 ag ab .ao) 2 a.snd rfl (by rw[u];omega);have⟨q,rq,pq⟩:=JJ (S:=S++[.M ak [] O,fP [(if a.raw=[]then[45]else dm a.raw)] .aB,.M (cU 8 a.fst a.snd 0 ag ab .ao) [] O,.M aG [] O,.M (aA 8) [] O]) (j:=S.length+1) (ws:=[]) a.raw hl (cI S _ 1);have pq:DF F W 44 [.P (S.length+1) 0] (S++[.M ak [] O,fP [(if a.raw=[]then[45]else dm a.raw)] .aB,.M (cU 8 a.fst a.snd 0 ag ab .ao) [] O,.M aG [] O,.M (aA 8) [] O])=J (q,S++[.M ak [] O,fP [] .aB,.M (cU 8 a.fst a.snd 0 ag ab .ao) [] O,.M aG [] O,.M (aA 8) [] O]):=by rw[pq];simp
 have⟨q1,tq,N,bq⟩:=rq.1.take [];have dO:a.op.aq.map bH=a.op.aq:=(k7.dx a.op).iN;have dL:a.bG.aq.map bH=a.bG.aq:=(bj.dx a.bG).iN;have⟨c,tc,bc,d,x1,x2,x3,x4,x5,x6,x7,x8⟩:=mD.cell bq (S.length+2);simp only[tQ]at x1 N;have tr:∀X g k b,aY tq S.length (S++[X,g,.M (cU 8 a.fst a.snd 0 ag ab .ao) [] O,k,b]) 1 (.P (S.length+2) 34) q1=J (tc,S++[X,g,.M (cU 8 a.fst a.snd 0 ag ab c) bc O,k,b]):=λX g k b=>by have hg:=cI S [X,g,.M (cU 8 a.fst a.snd 0 ag ab .ao) [] O,k,b] 2;simp only[uZ,sZ]at hg;simp only[aY,hg];rw[if_pos ⟨x2,by rw[x3];rfl,by rw[u];omega,.inl (by omega)⟩,x1];show J (tc,(S++[X,g,.M (cU 8 a.fst a.snd 0 ag ab .ao) [] O,k,b]).set (S.length+2) (.M (aR (cU 8 a.fst a.snd 0 ag ab .ao) 34 c.cells) bc O))=_;rw[x4,L7 _ _ _ _ _ _ _ _ I E];simp
 have⟨p1',p2,p3⟩:=nQ 11 (cU 8 a.fst a.snd 0 ag ab d) a.bare.aq (fN I E) (jX _ _ _ _ _ _ _ po pl x6) (kV _ _ _ _ _ _ _ so sl x7) ((kU _ _ _ _ _ _ _).trans (by rw[x8];simp only[no,nl,dO,dL,nr,aD.iM,aD.bare,h];rfl)) pB S ak hz;have p1:fF (.A 35) (cU 8 a.fst a.snd 0 ag ab c) 0=J (.A (cU 8 a.fst a.snd 0 ag ab d)):=by
  have e:((cU 8 a.fst a.snd 0 ag ab c)).map aE=(cU 8 a.fst a.snd 0 ag ab d):=by have R:∀n,aE (.I V n)=.I V n:=λ_=>rfl;simp only[cU,List.map_append,Ev,Lk,R,so,sl,x5]
  have lc:((cU 8 a.fst a.snd 0 ag ab c)).length=35:=fN I E;simp only[fF,sub,oQ];rw[m_ (by rw[lc];omega),if_pos (by rw[lc];omega),e]
 rw[ee];have XO:kC 0=ak:=rfl;clear ee wd no nl dO dL nr pB A st u hB Q;have Q:bk ak []=J ak:=rfl;try simp at N
 try simp at tr
 rw[fO I9];generalize hU:aA 8=U at*;have v1:∀p:1<U.length,U[1]'p=_:=λp=>eO ((cf p).symm.trans u1);have v2:∀p:2<U.length,U[2]'p=_:=λp=>eO ((cf p).symm.trans u2);have v3:∀p:3<U.length,U[3]'p=_:=λp=>eO ((cf p).symm.trans u3);have v4:∀p:4<U.length,U[4]'p=_:=λp=>eO ((cf p).symm.trans u4);have v5:∀p:5<U.length,U[5]'p=_:=λp=>eO ((cf p).symm.trans u5);generalize hZ:ak=k,ca=ZK,aP=ZU,(cU 8 a.fst a.snd 0 ag ab d)=CD,(cU 8 a.fst a.snd 0 ag ab c)=CF,kC 8=C1,aG=XP,(if a.raw=[]then[45]else dm a.raw)=RW at*;simp-implicitDefEqProofs [-aH, -nJ,B,Ur,fb,P,sg,hrw,kd,Q,s5,s6,r,z,y,pK,cK,y.agg];rw[aj cZ];try simp at L
 simp-implicitDefEqProofs [-aH, -nJ,L,l0,i6,lU,hu,du,pu,cu,hzU,aT,hw0,r6,lns,ct,k0,k1,hnc,gp,kp,up,np,cy,b6,nx,n0,n1,n2,t1,t2,pq,N,tr,v1,v2,v3,v4,v5,b0,p1,p1',p2,p3]
set_option maxRecDepth 4000 in
def Ws(a:aD)(ha:a.Wf)(o:a.wv)(S:G)(h:a.ae=9)(hB:a.cL=Y)(hl:a.raw.length<=4096)(E:a.line.length<=1000000):DF F W 11 [.S a.line] S=J (.bL [.A a.aq,.aB],S):=by
 have wd:a.av=[[114,101,97,100],aU a.fst,aU a.bU]:=by simp[aD.av,b8,cN,cO,h]
 have u:=λT=>gR a.line E T;rw[aD.kN,wd]at u;have u:∀T,DF F W 39 [.S a.line,.S [32]] T=J (.sl .N 1 (strs [[114,101,97,100],aU a.fst,aU a.bU]),T):=u;have Ur:aI [] (.sl .N 1 (strs [[114,101,97,100],aU a.fst,aU a.bU]))=(.sl .N 1 (strs [[114,101,97,100],aU a.fst,aU a.bU]),[]):=rfl;have fb:∀k,bk [.ao,.aB] [(0,1,.sl .N 1 k)]=J [.sl .N 1 k,.aB]:=λ_=>rfl;have A:∀k,bk [.ao,.aB] [(0,2,.A [.sl .N 1 k,.aB])]=J [.sl .N 1 k,.aB]:=λ_=>rfl;have M:∀ws,ez.M [.sl .N 1 (strs ws),.aB] [] O=fP ws .aB:=λ_=>rfl;have sg:∀k,aE (.A [.sl .N 1 k,.aB])=.A [.sl .N 1 k,.aB]:=λ_=>rfl;have kd:=dy;have ee:a.aq=a.bare.aq:=congrArg aD.aq (g_.1 (by rw[aD.gh];exact hB));have hz:ak.length=35:=rfl;have m:ca.length=60:=rfl;have Q:aP.length=6:=rfl;have B:bk ak []=J ak:=rfl;have pz:bF ak=Y:=rfl;have r:aG.length=60:=rfl;have q:=eM;have pK:=cm r q;have cK:(AV.A aG).cells=aG:=rfl;have s5:∀ad X c,aY ad S.length (S++[X,c,.M ak [] O]) 35 (.P (S.length+2) 0) (.A ak)=J (ad,S++[X,c,.M (kC 0) [] O]):=λad X c=>by rw[nK (S:=S) rfl pz];simp only[uZ,sZ];rw[if_pos ⟨rfl,by rw[hz];omega⟩,aT rfl];rfl
 have s6:∀ad X c d,aY ad S.length (S++[X,c,d,.M ca [] O]) 60 (.P (S.length+3) 0) (.A aG)=J (ad,S++[X,c,d,.M aG [] O]):=λad X c d=>by rw[nK (S:=S) rfl q.aL];simp only[uZ,sZ];rw[if_pos ⟨r,by rw[m];omega⟩,aT (by rw[r,m])];rfl
 have L:=sE 9 (by omega) (by omega) [aU a.fst,aU a.bU] (.M ak [] O) [] S 9 1 rfl (by omega);rw[show(if(9:Int)<((1:Nat):Int)then(9:Int)else 0)=0 from if_neg (by omega),show b8 9=[114,101,97,100]from rfl]at L;have l0:∀X c d b,a8 (S++X::c::.M (kC 9) [] O::d::b) .C (.P (S.length+2) 0)=J (.I V 9):=λX c d b=>by rw[bP (cs:=kC 9) (ad:=[]) (l:=O) (by rw[ob (by omega)];simp)];rfl
 have i6:nJ 10 6 (.P (S.length+3) 0) (.I V 9)=J (.P (S.length+3) 54):=G1 (S.length+3) 9 (by omega);have lU:∀X c d b,a8 (S++X::c::d::.M aG [] O::b) (.A 6) (.P (S.length+3) 54)=J (.A (aA 9)):=λX c d b=>by rw[bP (cs:=aG) (ad:=[]) (l:=O) (by rw[ob (by omega)];simp)];exact mP 9 (by omega)
 have hu:(aA 9).length=6:=rfl;have du:=eL 9;have pu:=cm hu du;have cu:(AV.A (aA 9)).cells=aA 9:=rfl;have u1:(aA 9)[1]? =J (.B O):=rfl;have u2:(aA 9)[2]? =J (.B Y):=rfl;have u3:(aA 9)[3]? =J (.B O):=rfl;have u4:(aA 9)[4]? =J (.B O):=rfl;have u5:(aA 9)[5]? =J (.B O):=rfl;have ct:=λT=>jG 9 T;rw[show 2+vB [cN 9,cO 9,bN ((9:Int)=1),bN ((9:Int)=2),bN ((9:Int)=8)]=3 from rfl]at ct;have N:∀ws C b,a8 (S++[.M ak [] O,fP ws .aB,C,.M aG [] O,b]) .C (.P (S.length+1) 0)=J (.sl .N 1 (strs ws)):=λws C b=>qJ (cI S _ 1);have P:∀ws C b,a8 (S++[.M ak [] O,fP ws .aB,C,.M aG [] O,b]) .C (.P (S.length+1) 1)=J .aB:=λws C b=>rV (cI S _ 1) rfl;have R:iq (.sl .N 1 (strs [[114,101,97,100],aU a.fst,aU a.bU]))=J (.I V 3):=rfl;have k0:aH .eql (.I V 9) (.I V 0)=J (.B O):=rfl;have k1:aH .neq (.I V 3) (.I V 3)=J (.B O):=rfl;have b0:b9 .neq (.eD cC) Y .aB .aB=J (.B O):=rfl;have I:∀i,cb (.P i 0)=J (.P i 0):=λ_=>rfl;have gp:∀T i,ck T (.P i 0)=J (.P i 0):=λ_ _=>rfl;have kp:∀T i,cr T (.P i 0)=T:=λ_ _=>rfl;have up:∀T T' i,bO T T' (.P i 0)=T':=λ_ _ _=>rfl;have np:∀i,cR (.P i 0)=.P i 0:=λ_=>rfl;have nx:∀w ws C b,DF F W 41 [.P (S.length+1) 0] (S++[.M ak [] O,fP (w::ws) .aB,C,.M aG [] O,b])=J (.S w,S++[.M ak [] O,fP ws .aB,C,.M aG [] O,b]):=λw ws C b=>by have:=gP (S:=S++[.M ak [] O,fP (w::ws) .aB,C,.M aG [] O,b]) (j:=S.length+1) (w:=w) (ws:=ws) (e:=.aB) (cI S _ 1);rw[this];simp
 have t:∀n ws C b, -9223372036854775808<=n->n<=9223372036854775807->DF F W 42 [.P (S.length+1) 0] (S++[.M ak [] O,fP (aU n::ws) .aB,C,.M aG [] O,b])=J (.I V n,S++[.M ak [] O,fP ws .aB,C,.M aG [] O,b]):=λn ws C b h0 h1=>by have:=gQ (S:=S++[.M ak [] O,fP (aU n::ws) .aB,C,.M aG [] O,b]) (j:=S.length+1) (ws:=ws) n h0 h1 (cI S _ 1);rw[this];simp
 have n0:=λws C b=>t a.fst ws C b o.f0 o.f1;have n1:=λws C b=>t a.snd ws C b o.s0 o.s1;have n2:=λws C b=>t a.bU ws C b o.v0 o.v1;have st:∀ad X c d b C y g x,aR C g [.I V x]=y->g+1<=C.length->aY ad S.length (S++[X,c,.M C [] O,d,b]) 1 (.P (S.length+2) g) (.I V x)=J (ad,S++[X,c,.M y [] O,d,b]):=λad X c d b C y g x h hl=>by rw[dH (ly V x).Ai (cI S [X,c,.M C [] O,d,b] 2),if_pos ⟨rfl,hl⟩,show(AV.I V x).cells=[.I V x]from rfl,h];simp
 have zo:ag.length=10:=rfl;have zl:ab.length=20:=rfl;have po:bF ag=Y:=rfl;have pl:bF ab=Y:=rfl;have so:ag.map aE=ag:=rfl;have sl:ab.map aE=ab:=rfl;have no:ag.map bH=rG.aq:=rfl;have nl:ab.map bH=jo.aq:=rfl;have nr:bH .ao=b_ []:=rfl;have pB:=(aD.dx a.bare).aL;have z:∀f s v,(cU 9 f s v ag ab .ao).length=35:=λ_ _ _=>fN zo zl;have t1:=λad X c d b=>st ad X c d b (kC 9) (cU 9 a.fst 0 0 ag ab .ao) 1 a.fst rfl (by rw[show(kC 9).length=35 from z 0 0 0];omega);have t2:=λad X c d b=>st ad X c d b (cU 9 a.fst 0 0 ag ab .ao) (cU 9 a.fst 0 a.bU ag ab .ao) 3 a.bU rfl (by rw[z];omega);have dO:a.op.aq.map bH=a.op.aq:=(k7.dx a.op).iN;have dL:a.bG.aq.map bH=a.bG.aq:=(bj.dx a.bG).iN;have⟨p1,p2,p3⟩:=nQ 11 (cU 9 a.fst 0 a.bU ag ab .ao) a.bare.aq (fN zo zl) (jX _ _ _ _ _ _ _ po pl rfl) (kV _ _ _ _ _ _ _ so sl rfl) ((kU _ _ _ _ _ _ _).trans (by simp only[no,nl,dO,dL,nr,aD.iM,aD.bare,h];rfl)) pB S ak hz;rw[ee];have XO:kC 0=ak:=rfl;clear ee wd no nl dO dL nr pB t st z hB B;have B:bk ak []=J ak:=rfl;rw[fO I9];generalize hU:aA 9=U at*;have v1:∀p:1<U.length,U[1]'p=_:=λp=>eO ((cf p).symm.trans u1);have v2:∀p:2<U.length,U[2]'p=_:=λp=>eO ((cf p).symm.trans u2);have v3:∀p:3<U.length,U[3]'p=_:=λp=>eO ((cf p).symm.trans u3);have v4:∀p:4<U.length,U[4]'p=_:=λp=>eO ((cf p).symm.trans u4);have v5:∀p:5<U.length,U[5]'p=_:=λp=>eO ((cf p).symm.trans u5);generalize hZ:ak=d,ca=ZK,aP=ZU,(cU 9 a.fst 0 a.bU ag ab .ao)=CF,kC 9=C1,aG=XP at*;simp-implicitDefEqProofs [-aH, -nJ,u,Ur,fb,A,sg,M,kd,B,s5,s6,m,r,q,pK,cK,q.agg];rw[aj cZ];try simp at L
 simp-implicitDefEqProofs [-aH, -nJ,L,l0,i6,lU,hu,du,pu,cu,Q,aT,N,P,R,ct,k0,k1,I,gp,kp,up,np,cy,b6,nx,n0,n1,n2,t1,t2,v1,v2,v3,v4,v5,b0,p1,p2,p3]
def aD.Pc{a:aD}(h:a.code=0):(1<=a.ae/\a.ae<=9)/\a.cL=Y/\a.raw.length<=4096/\(a.ae=1->Bz a.op=Y/\(jw a.op).length<=4096)/\(a.ae=2->a.bG.aW 5=Y/\a.bG.bytes.length<=4096):=by
 unfold aD.code at h;split at h;·omega
 rename_i c;split at h;·omega
 rename_i b;have c:1<=a.ae/\a.ae<=9:=Classical.not_not.1 c;have b:a.cL=Y/\a.raw.length<=4096:=Classical.not_not.1 b;refine⟨c,b.1,b.2,λk=>?_,λk=>?_⟩
 ·rw[if_pos k]at h
  split at h
  ·rename_i d
   split at h;·omega
   ·exact⟨d,by omega⟩
  ·omega
 ·rw[if_neg (by omega),if_pos k]at h
  split at h
  ·rename_i d
   split at h;·omega
   ·exact⟨d,by omega⟩
  ·omega
def aD.Us{a:aD}(b:a.wv)(h:a.code=0):a.line.length<=20000:=by
 have⟨c,f,g,d,e⟩:=aD.Pc h;have i:=bK a.fst b.f0 b.f1;have j:=bK a.snd b.s0 b.s1;have l:=bK a.bU b.v0 b.v1;have m:=jW a.raw;have n:=jW (jw a.op);have o:=jW a.bG.bytes;have p:(if a.raw=[]then([45]:K)else dm a.raw).length<=8192:=by split<;>first|decide|omega
 unfold aD.line;rcases oY c.1 c.2 with k|k|k|k|k|k|k|k|k
 ·have:=(d k).2
  simp[aD.av,b8,cN,cO,k,fL];omega
 ·have:=(e k).2
  simp[aD.av,b8,cN,cO,k,fL];omega
 all_goals(simp[aD.av,b8,cN,cO,k,fL];omega)
def JH(a:aD)(c:a.Wf)(b:a.wv)(h:a.code=0)(S:G):DF F W 11 [.S a.line] S=J (.bL [.A a.aq,.aB],S):=by
 have⟨j,d,f,g,i⟩:=aD.Pc h;have e:a.line.length<=1000000:=by have:=aD.Us b h;omega
 rcases oY j.1 j.2 with k|k|k|k|k|k|k|k|k;·exact Wk a c b S k d f (g k).1 (g k).2 e
 ·exact Wl a c b S k d f (i k).1 (i k).2 e
 ·exact Wm a c b S k d f e
 ·exact Wn a c b S k d f e
 ·exact Wo a c b S k d f e
 ·exact Wp a c b S k d f e
 ·exact Wq a c b S k d f e
 ·exact Wr a c b S k d f e
 ·exact Ws a c b S k d f e
def NJ{n:Nat}(h:n<128):fH .u8 (n:Int)=(((cY n).toNat:Nat):Int)/\ch n=[cY n]:=by refine⟨?_,Jo h⟩;rfl
def LN(p:List dG)(R:∀s∈p,s.Wf)(hr:sc p=Y)(S:G):∃r,zT r (jJ p)/\DF F W 69 [dZ p] S=J (r,S):=by
 have g:=hr;unfold sc at g;simp only[jM,decide_eq_true_eq]at g;have fl:=wu p R g.2;have⟨w0,n0⟩:=NJ (n:=p.length) Z;have A:∀d i(f:H)(c:bY)(s:K),i+d=p.length->mD f c s->s.length+((p.drop i).flatMap jv).length+100<=2^30->
  ∃b a,mD b a (s++(p.drop i).flatMap jv)/\DC F W (.L pI) ⟨[(0,dZ p),(3,f),(4,.I V (i:Nat))],c,S.length⟩ S=J (.E 0,⟨[(3,b)],a,S.length⟩,S):=by
  intro d;induction d with
  |zero=>
   intro i f c s hi Q j;have e3:=gY Z;refine⟨f,c,by simp_all, ?_⟩;rw[aw,a_ eh];simp[(Z:¬i<p.length)]
  |succ d U=>
   intro i f c s hi Q j;have N:i<p.length:=Z;have⟨y,T,k⟩:=aJ (l:=p) (i:=i) Z;have v:=aZ (i:=i) Z;have m:=R y (fA T);have e0:y.aq[0]? =J (.S y.name):=rfl;have e1:y.aq[1]? =J (.I bh y.id):=rfl;rw[aS T,tU]at j⊢;simp only[jn]at j;have lb:(jv y).length=(aM y.name).length+(if y.name=[]then ch y.id.toNat else[]).length:=by unfold jv;simp
   have la:y.name.length<=(aM y.name).length:=by unfold aM;simp
   have⟨ra,B,h⟩:=oX y.name S Z;have⟨o1,t1,o2,t2,E,I,L⟩:=Q.call B Z S;have w:=y8 (s:=y.name) Z;by_cases P:y.name=[]
   ·have x:jv y=aM y.name++ch y.id.toNat:=by unfold jv;simp_all
    rw[x]at j⊢;simp only[jn]at j;have⟨rb,C,q⟩:=qI y.id.toNat (by have:=m.Qg;omega) S;rw[(by have:=m.UL;omega:((y.id.toNat:Nat):Int)=y.id)]at q;have⟨o3,t3,o4,t4,X,b2,b3⟩:=L.call C (by grind) S;have⟨b,a,z,e⟩:=U (i+1) o4 t4 _ Z b3 (by grind);refine⟨b,a,by simp_all, ?_⟩;rw[aw,a_ eh];rw[P]at w h e0;simp at v e;simp[N,k,P,w,oB,oC,kn,jF,h,E,I,q,X,b2];rw[aj eh];simp[v,e]
   ·have x:jv y=aM y.name:=by unfold jv;simp_all
    rw[x]at j⊢;have⟨b,a,z,e⟩:=U (i+1) o2 t2 _ Z L (by grind);refine⟨b,a,by simp_all, ?_⟩;rw[aw,a_ eh];simp at v e;simp[N,k,(by simp_all:y.name.isEmpty=false),w,oB,oC,kn,jF,h,E,I];rw[aj eh];simp[v,e]
 have⟨o,t,g1,M⟩:=A p.length 0 _ [] _ Z (mD.new (cY p.length) []) (by grind);have⟨r,t',f1,f2,f3,f4,f5⟩:=g1.fin;have eb:jJ p=[cY p.length]++(p.drop 0).flatMap jv:=by unfold jJ;grind
 refine⟨r,by simp_all, ?_⟩;rw[fO aiL];generalize cY p.length=u at*;simp at M;simp[w0];rw[aj eh];simp[M,f1,f2,f3,f4]
def LO(v:bw)(T:v.BY)(h5:v.ae=5->v.an.length=v.av.length)(S:G)(nb:Nat)
 (P:∀x∈v.an,∀S,∃r,zT r x.bytes/\DF F W 77 [.A x.aq] S=J (r,S)):
 ∀d i(c:H)(ad:bY)(s:K),i+d=v.av.length->mD c ad s->s.length+(v.cj i).length+100<=1073741824->
 ∃b aN,mD b aN (s++v.cj i)/\DC F W (.L pL) ⟨[(1,.P S.length 0),(3,c),(4,.I V (i:Nat))],ad,nb⟩ (S++[.M v.aq [] O])=J (.E 0,⟨[(1,.P S.length 0),(3,b)],aN,nb⟩,S++[.M v.aq [] O]):=by
 have hl:=T.av;intro d;induction d with
 |zero=>
  intro i c ad s R p Q;have e3:v.av.drop i=[]:=gY Z;have w:v.cj i=[]:=by grind [bw.cj,bw.de]
  refine⟨c,ad,by simp_all, ?_⟩;simp[aw,a_ cG,(Z:¬i<v.av.length)]
 |succ d B=>
  intro i c ad s R p Q;have z:i<v.av.length:=Z;have⟨a,ha,h⟩:=aJ (l:=v.av) (i:=i) Z;have k:=aZ (i:=i) Z;have la:a.length<=(aM a).length:=by unfold aM;simp
  by_cases C:v.ae=5
  ·have⟨y,A,U⟩:=aJ (l:=v.an) (i:=i) Z
   have⟨ry,q,t⟩:=P y (fA A) (S++[.M v.aq [] O]);have w:v.cj i=aM a++(y.bytes++v.cj (i+1)):=by unfold bw.cj;simp_all[aS,bw.de]
   have X:(aM a).length+(y.bytes.length+(v.cj (i+1)).length)=(v.cj i).length:=by grind
   have N:=y8 (s:=a) Z;have⟨ra,e,f⟩:=oX a (S++[.M v.aq [] O]) Z;have⟨o1,t1,E,I,m,g,n⟩:=p.call e Z (S++[.M v.aq [] O]);have⟨o3,t3,o4,t4,L,u,M⟩:=n.call q (by grind) (S++[.M v.aq [] O]);have⟨b,aN,o,j⟩:=B (i+1) o4 t4 (s++aM a++y.bytes) Z M (by grind);refine⟨b,aN,by grind, ?_⟩;rw[aw,a_ cG];simp at k j g u;simp[z,A,C,h,N,oB,oC,kn,jF,f,m,g,t,L,u];rw[aj cG];simp[k,j]
  ·have w:v.cj i=aM a++v.cj (i+1):=by simp_all[bw.cj,aS]
   have X:(aM a).length+(v.cj (i+1)).length=(v.cj i).length:=by grind
   have⟨ra,e,f⟩:=oX a (S++[.M v.aq [] O]) Z;have⟨o1,t1,E,I,m,g,n⟩:=p.call e Z (S++[.M v.aq [] O]);have⟨b,aN,o,j⟩:=B (i+1) E I (s++aM a) Z n (by grind);refine⟨b,aN,by grind, ?_⟩;rw[aw,a_ cG];simp at k j g;simp[z,C,h,y8 (s:=a) Z,oB,oC,kn,jF,f,m,g];rw[aj cG];simp[k,j]
def Dv:∀(d:Nat)(v:bw),v.Wf->v.aW d=Y->d<=5->∀S,∃r,zT r v.bytes/\DF F W 77 [.A v.aq] S=J (r,S):=by
 intro d;induction d with
 |zero=>nofun
 |succ d ih=>
  intro v T h hd S;have R:=bw.e9 h;have b:=bw.rk (d+1) v h;have h13:13^(d+1)<=13^5:=Ow xf hd;have e13:13^5=371293:=xf;have lb:=v.kD;have kr:=R.ae;have M:=BE (k:=v.ae) Z Z;have z:=mD.new (cY v.ae.toNat) [];have e:=LO v T.one;have y:∀x∈v.an,∀S,∃r,zT r x.bytes/\DF F W 77 [.A x.aq] S=J (r,S):=λx m S=>ih x (T.all x m) (R.all x m) Z S;rw[fO aiP];by_cases o:v.ae=1\/v.ae=2\/v.ae=3
  ·have⟨B,hp0⟩:=R.P5 o
   have P:v.bytes=[cY v.ae.toNat]:=by grind [bw.eB]
   have n6:¬v.ae=6:=Z;have s:v.cj 0=[]:=by grind [bw.cj]
   have⟨U,X,c,a⟩:=e (λg=>by omega) S S.length y v.av.length 0 _ [] _ Z z (by grind);rw[s,Ag]at c;have⟨r,t,f,i,j,l,Q⟩:=c.fin;refine⟨r,by simp_all, ?_⟩;generalize cY v.ae.toNat=u at*;simp at a;simp[M,(Z:¬v.ae=4),(Z:¬v.ae=5)];rw[aj cG];simp[a,n6,f,i,j,l]
  by_cases E:v.ae=6
  ·have⟨B,A⟩:=R.k6 E
   have⟨x,m⟩:=xX.1 A;have P:v.bytes=[cY v.ae.toNat]++x.bytes:=by grind [bw.eB]
   have s:v.cj 0=[]:=by grind [bw.cj]
   rw[P]at b;simp at b;have⟨U,X,c,a⟩:=e (λg=>by omega) S S.length y v.av.length 0 _ [] _ Z z (by grind);rw[s,Ag]at c;have⟨ry,I,L⟩:=y x (by grind) (S++[.M v.aq [] O]);have⟨o4,t4,o5,t5,b1,b2,b3⟩:=c.call I (by grind) (S++[.M v.aq [] O]);have⟨r,t,f,i,j,l,Q⟩:=b3.fin;have C:=th v.an V 0;rw[m]at C;refine⟨r,by simp_all, ?_⟩;have q:fH .u8 6=(((cY v.ae.toNat).toNat:Nat):Int):=by simp_all
   generalize cY v.ae.toNat=u at*;simp at a C;simp[q,E];rw[aj cG];simp[a,E,m,C,L,b1,b2,f,i,j,l]
  have p:v.ae=4\/v.ae=5:=Z;have hw8:v.av.length<=8:=by
   rcases p with k|k;·exact(R.k4 k).2.1
   ·exact(R.k5 k).2.1
  have⟨w0,n0⟩:=NJ (n:=v.av.length) Z;have s:v.cj 0=if v.ae=4 then v.av.flatMap aM else if v.ae=5 then bw.de v.av v.an else bw.eB v.an:=by grind [bw.cj]
  rw[(by simp_all:v.bytes=[UInt8.ofNat v.ae.toNat]++[UInt8.ofNat v.av.length]++v.cj 0)]at b;simp at b;have⟨o2,t2,N,a2⟩:=z.one (cY v.av.length) b5 (S++[.M v.aq [] O]);have⟨U,X,c,a⟩:=e (λg=>(R.k5 g).2.2) S S.length y v.av.length 0 _ _ _ Z a2 (by grind);have⟨r,t,f,i,j,l,Q⟩:=c.fin;refine⟨r,by simp_all, ?_⟩;rcases p with k|k
  ·have q:fH .u8 4=(((cY v.ae.toNat).toNat:Nat):Int):=by simp_all
   generalize cY v.ae.toNat=u,cY v.av.length=w at*;simp at a;simp[q,w0,k,N];rw[aj cG];simp[a,k,f,i,j,l]
  ·have q:fH .u8 5=(((cY v.ae.toNat).toNat:Nat):Int):=by simp_all
   generalize cY v.ae.toNat=u,cY v.av.length=w at*;simp at a;simp[q,w0,k,N];rw[aj cG];simp[a,k,f,i,j,l]
def LP(o:k7)(a:o.Wf)(y:Bz o=Y)(S:G):∃r,zT r (jw o)/\DF F W 30 [.A o.aq] S=J (r,S):=by
 have kr:=FL y;have hle:=TH a y;have wk0:=BE (k:=o.ae) Z Z;have pl:=FM a.dU (vq y);have b1:=eH (n:=o.id.toNat) (by have:=a.Qg;omega);have b2:=eH (n:=o.after.toNat) (by have:=a.ZA;omega);have hb:=mD.new (cY o.ae.toNat) [];have⟨rp,Q,f⟩:=LN o.dU a.dU (vq y) (S++[.M o.aq [] O]);have⟨o1,t1,o2,t2,A,B,C⟩:=hb.call Q (by grind) (S++[.M o.aq [] O]);have⟨ri,s,d⟩:=qI o.id.toNat (by have:=a.Qg;omega) (S++[.M o.aq [] O]);have⟨ra,z,q⟩:=qI o.after.toNat (by have:=a.ZA;omega) (S++[.M o.aq [] O]);rw[(by have:=a.UL;omega:((o.id.toNat:Nat):Int)=o.id)]at d;rw[(by have:=a.af0;omega:((o.after.toNat:Nat):Int)=o.after)]at q;have b:=qo o.ae (S++[.M o.aq [] O]);rw[fO aiq];rcases kr with k|k|k|k
 ·have c:=zD y (.inl k)
  have vl:=aV.ki a.value c;have⟨rv,v,w⟩:=nH 5 o.value a.value c Z (S++[.M o.aq [] O]);have⟨N,R,P,T,g,h,i⟩:=C.call v (by grind) (S++[.M o.aq [] O]);have⟨r,t,j,l,m,p,M⟩:=i.fin;have e:jw o=[cY o.ae.toNat]++jJ o.dU++o.value.bytes:=by unfold jw;simp[k]
  refine⟨r,by simp_all, ?_⟩;have x:fH .u8 1=(((cY o.ae.toNat).toNat:Nat):Int):=by simp_all
  rw[k]at b;generalize cY o.ae.toNat=u at*;simp at b;simp[x,k,f,A,B,b,w,g,h,j,l,m,p]
 ·have c:=zD y (.inr k)
  have vl:=aV.ki a.value c;have⟨N,R,P,T,g,h,i⟩:=C.call s (by grind) (S++[.M o.aq [] O]);have⟨o5,t5,o6,t6,E,I,L⟩:=i.call z (by grind) (S++[.M o.aq [] O]);have⟨rv,v,w⟩:=nH 5 o.value a.value c Z (S++[.M o.aq [] O]);have⟨o7,t7,o8,t8,U,X,e3⟩:=L.call v (by grind) (S++[.M o.aq [] O]);have⟨r,t,j,l,m,p,M⟩:=e3.fin;have e:jw o=[cY o.ae.toNat]++jJ o.dU++ch o.id.toNat++ch o.after.toNat++o.value.bytes:=by unfold jw;simp[k]
  refine⟨r,by simp_all, ?_⟩;have x:fH .u8 2=(((cY o.ae.toNat).toNat:Nat):Int):=by simp_all
  rw[k]at b;generalize cY o.ae.toNat=u at*;simp at b;simp[x,k,f,A,B,b,d,g,h,q,E,I,w,U,X,j,l,m,p]
 ·have⟨N,R,P,T,g,h,i⟩:=C.call s (by grind) (S++[.M o.aq [] O])
  have⟨r,t,j,l,m,p,M⟩:=i.fin;have e:jw o=[cY o.ae.toNat]++jJ o.dU++ch o.id.toNat:=by unfold jw;simp[k]
  refine⟨r,by simp_all, ?_⟩;have x:fH .u8 3=(((cY o.ae.toNat).toNat:Nat):Int):=by simp_all
  rw[k]at b;generalize cY o.ae.toNat=u at*;simp at b;simp[x,k,f,A,B,b,d,g,h,j,l,m,p]
 ·have⟨N,R,P,T,g,h,i⟩:=C.call s (by grind) (S++[.M o.aq [] O])
  have⟨o5,t5,o6,t6,E,I,L⟩:=i.call z (by grind) (S++[.M o.aq [] O]);have⟨r,t,j,l,m,p,M⟩:=L.fin;have e:jw o=[cY o.ae.toNat]++jJ o.dU++ch o.id.toNat++ch o.after.toNat:=by unfold jw;simp[k]
  refine⟨r,by simp_all, ?_⟩;have x:fH .u8 4=(((cY o.ae.toNat).toNat:Nat):Int):=by simp_all
  rw[k]at b;generalize cY o.ae.toNat=u at*;simp at b;simp[x,k,f,A,B,b,d,g,h,q,E,I,j,l,m,p]
def bj.rk:∀(d:Nat)(l:bj),l.Wf->l.aW d=Y->l.bytes.length<=149000000+100*d:=by
 intro d;induction d with
 |zero=>nofun
 |succ d i=>
  intro l f h;have R:=bj.e9 h;have j:=gZ (fe R.a) Z;have m:(if p4 l.ae=Y then aM l.b else[]).length<=22:=by
   split;·rename_i k;exact gZ (fe (R.b1 k).1) Z
   ·simp
  have o:(if oL l.ae=Y then l.type.bytes++l.base.bytes else[]).length<=148517200:=by
   split
   ·rename_i k
    have r:=mm (R.t1 k);have:=aV.ki f.one.base r.1;have:=bw.ki r.2
    grind
   ·simp
  have n:(if qB l.ae=Y then l.back.bytes++(ch l.aO.length++l.aO.flatMap jA)else[]).length<=2000:=by
   split
   ·rename_i k
    have⟨a,b,c,e⟩:=R.y1 k;have q:=sH f.one.back b;have s:=ya l.type a l.aO f.one.pair e
    grind [eH]
   ·simp
  simp[bj.tv];cases g:rH l.ae;·rw[R.i0 g];simp[bj.eB];omega
  ·have⟨x,p⟩:=xX.1 (R.i1 g)
   have:=i x (f.all x (by grind)) (R.all x (by grind))
   grind [oL,qB,rH,bj.eB]
def LQ(l:bj)(M:l.aO.length<=8)(hw:∀p∈l.aO,p.x.GR/\p.y.GR)(S:G)(nb:Nat):
 ∀d i(b:H)(ad:bY)(s:K),i+d=l.aO.length->mD b ad s->s.length+((l.aO.drop i).flatMap jA).length+100<=1073741824->
 ∃a aN,mD a aN (s++(l.aO.drop i).flatMap jA)/\DC F W (.L mc) ⟨[(1,.P S.length 0),(3,b),(4,.I V (i:Nat))],ad,nb⟩ (S++[.M l.aq [] O])=J (.E 0,⟨[(1,.P S.length 0),(3,a)],aN,nb⟩,S++[.M l.aq [] O]):=by
 intro d;induction d with
 |zero=>
  intro i b ad s z r f;have I:=gY Z;refine⟨b,ad,by simp_all, ?_⟩;simp[aw,a_ iU,(Z:¬i<l.aO.length)]
 |succ d B=>
  intro i b ad s z r f;have⟨y,t,g⟩:=aJ (l:=l.aO) (i:=i) Z;have c:=aZ (i:=i) Z;have e:=hw y (fA t);rw[aS t,tU]at f⊢;simp only[jn]at f;have L:(jA y).length=y.x.bytes.length+y.y.bytes.length:=by simp[jA]
  have⟨R,h,j⟩:=nH 5 y.x e.1.wf e.1.right Z (S++[.M l.aq [] O]);have⟨T,k,m⟩:=nH 5 y.y e.2.wf e.2.right Z (S++[.M l.aq [] O]);have⟨N,U,P,X,u,n,v⟩:=r.call h Z (S++[.M l.aq [] O]);have⟨Q,t3,C,E,w,o,x⟩:=v.call k (by grind) (S++[.M l.aq [] O]);have⟨a,aN,A,q⟩:=B (i+1) C E (s++y.x.bytes++y.y.bytes) Z x (by grind);refine⟨a,aN,by grind [jA], ?_⟩;rw[aw,a_ iU];simp at c q n o;simp[(Z:i<l.aO.length),g,j,u,n,m,w,o];rw[aj iU];simp[c,q]
def LR:∀(d:Nat)(l:bj),l.Wf->l.aW d=Y->d<=5->∀S,∃r,zT r l.bytes/\DF F W 33 [.A l.aq] S=J (r,S):=by
 intro d;induction d with
 |zero=>nofun
 |succ d ih=>
  intro l c h hd S;have R:=bj.e9 h;have hle:=bj.rk (d+1) l c h;have lb:=l.tv;have k1:=R.k1;have V1:=R.V1;have P:=BE (k:=l.ae) Z Z;have la:=fe R.a;have ea:=gZ la Z;have ho:=mD.new (cY l.ae.toNat) [];have e:=y8 (s:=l.a) Z;have⟨ra,ra1,f⟩:=oX l.a (S++[.M l.aq [] O]) Z;have⟨o1,t1,o2,t2,Q,T,U⟩:=ho.call ra1 (by grind) (S++[.M l.aq [] O]);have o:=rA l.ae (S++[.M l.aq [] O]);have p:=rB l.ae (S++[.M l.aq [] O]);rw[fO ais];rcases(OS R.k1 R.V1)with⟨y,z,N⟩|⟨y,z,N⟩|⟨y,z,N⟩|⟨y,z,N⟩
  ·have v:¬l.ae=8/\¬8<l.ae:=by unfold p4 at y;grind
   have hi:=R.i0 (by grind [rH]);have lbb:=fe (R.b1 y).1;have ebb:=gZ lbb Z;have⟨rb,a,b⟩:=oX l.b (S++[.M l.aq [] O]) Z;have⟨o3,t3,o4,t4,B,C,E⟩:=U.call a (by grind) (S++[.M l.aq [] O]);have⟨r,t,g,i,j,m,f5⟩:=E.fin;have X:l.bytes=[cY l.ae.toNat]++aM l.a++aM l.b:=by grind [bj.eB]
   refine⟨r,by simp_all, ?_⟩;rw[y]at o;rw[z]at p;generalize cY l.ae.toNat=u at*;simp[P,e,oB,oC,kn,jF,f,Q,T,o,p,v.1,v.2,y8 (s:=l.b) Z,b,B,C,g,i,j,m]
  ·have v:¬l.ae=8/\¬8<l.ae:=by grind [oL,qB]
   have hi:=R.i0 (by grind [rH]);have q:=mm (R.t1 z);have s1:=bw.ki q.2;have s2:=aV.ki c.one.base q.1;have⟨rb,a,b⟩:=Dv 5 l.type c.one.type q.2 Z (S++[.M l.aq [] O]);have⟨o3,t3,o4,t4,B,C,E⟩:=U.call a (by grind) (S++[.M l.aq [] O]);have⟨rc,L,M⟩:=nH 5 l.base c.one.base q.1 Z (S++[.M l.aq [] O]);have⟨o5,t5,o6,t6,c1,c2,c3⟩:=E.call L (by grind) (S++[.M l.aq [] O]);have⟨r,t,g,i,j,m,f5⟩:=c3.fin;have X:l.bytes=[cY l.ae.toNat]++aM l.a++l.type.bytes++l.base.bytes:=by grind [bj.eB]
   refine⟨r,by simp_all, ?_⟩;rw[y]at o;rw[z]at p;generalize cY l.ae.toNat=u at*;simp[P,e,oB,oC,kn,jF,f,Q,T,o,p,v.1,v.2,b,B,C,M,c1,c2,g,i,j,m]
  ·rw[y]at o
   rw[z]at p;have A:¬l.ae=8:=by unfold qB at N;simp_all
   cases hu:rH l.ae
   ·have v:¬8<l.ae:=by unfold rH at hu;grind
    have hi:=R.i0 hu;have⟨r,t,g,i,j,m,f5⟩:=U.fin;have X:l.bytes=[cY l.ae.toNat]++aM l.a:=by grind [bj.eB]
    refine⟨r,by simp_all, ?_⟩;generalize cY l.ae.toNat=u at*;simp[P,e,oB,oC,kn,jF,f,Q,T,o,p,A,v,g,i,j,m]
   ·have v:8<l.ae:=by unfold rH at hu;grind
    have⟨x,hx⟩:=xX.1 (R.i1 hu);have hxl:=bj.rk d x (c.all x (by grind)) (R.all x (by grind));have⟨rb,a,b⟩:=ih x (c.all x (by grind)) (R.all x (by grind)) Z (S++[.M l.aq [] O]);have⟨o3,t3,o4,t4,B,C,E⟩:=U.call a (by grind) (S++[.M l.aq [] O]);have⟨r,t,g,i,j,m,f5⟩:=E.fin;have X:l.bytes=[cY l.ae.toNat]++aM l.a++x.bytes:=by grind [bj.eB]
    have ix:=v_ l.bD V 0;rw[hx]at ix;simp at ix;refine⟨r,by simp_all, ?_⟩;generalize cY l.ae.toNat=u at*;simp[P,e,oB,oC,kn,jF,f,Q,T,o,p,A,v,hx,ix,b,B,C,g,i,j,m]
  ·have A:l.ae=8:=by unfold qB at N;simp_all
   have hi:=R.i0 (by rw[A];decide);have q:=mm (R.t1 z);have s1:=bw.ki q.2;have s2:=aV.ki c.one.base q.1;have⟨q1,q2,q3,q4⟩:=R.y1 N;have s3:=sH c.one.back q2;have s4:=ya l.type q1 l.aO c.one.pair q4;have I:=q2;unfold gM at I;simp at I;have⟨w0,n0⟩:=NJ (n:=l.aO.length) Z;have⟨rb,a,b⟩:=Dv 5 l.type c.one.type q.2 Z (S++[.M l.aq [] O]);have⟨o3,t3,o4,t4,B,C,E⟩:=U.call a (by grind) (S++[.M l.aq [] O]);have⟨rc,L,M⟩:=nH 5 l.base c.one.base q.1 Z (S++[.M l.aq [] O]);have⟨o5,t5,o6,t6,c1,c2,c3⟩:=E.call L (by grind) (S++[.M l.aq [] O]);have⟨rd,rd1,rd2⟩:=nH 5 l.back c.one.back I.1 Z (S++[.M l.aq [] O]);have⟨o7,t7,o8,t8,d1,d2,d3⟩:=c3.call rd1 (by grind) (S++[.M l.aq [] O]);have⟨o9,t9,e1,e2⟩:=d3.one (cY l.aO.length) (by simp;omega) (S++[.M l.aq [] O]);have⟨oA,tA,g1,g2⟩:=LQ l q3 (bj.FN c R N) S S.length l.aO.length 0 o9 t9 _ Z e2 (by grind);have⟨r,t,g,i,j,m,f5⟩:=g1.fin;have X:l.bytes=[cY l.ae.toNat]++aM l.a++l.type.bytes++l.base.bytes++l.back.bytes++[cY l.aO.length]++(l.aO.drop 0).flatMap jA:=by grind [bj.eB]
   refine⟨r,by simp_all, ?_⟩;rw[y,A]at o;rw[z,A]at p;have P:fH .u8 8=(((cY l.ae.toNat).toNat:Nat):Int):=by simp_all
   generalize cY l.ae.toNat=u,cY l.aO.length=w at*;simp at g2;simp[P,w0,e,oB,oC,kn,jF,f,Q,T,o,p,A,b,B,C,M,c1,c2,rd2,d1,d2,e1];rw[aj iU];simp[g2,A,g,i,j,m]
def afA(a:aD)(ha:a.Wf)(hf:a.Flat)(g:a.wv)(S:G)(h:a.ae=1)(hB:a.cL=Y)(hl:a.raw.length<=4096):DF F W 7 [.A a.aq] S=J (a.gj,S):=by
 have X:=λT=>e6 a.ae T;have fb:=λT=>ka a.ae T;have fv:=λT=>dr a.ae T;rw[h]at X fb fv;rw[show b8 1=[119,114,105,116,101]from rfl]at X;rw[show cN 1=O from rfl]at fb;rw[show cO 1=Y from rfl]at fv;have be:=jY [119,114,105,116,101] [];rw[decide_eq_false (by decide)]at be;have c1:=bI 1 1;have c2:=bI 1 2;have c8:=bI 1 8;rw[decide_eq_false (by decide)]at c1;rw[decide_eq_true (by decide)]at c2;rw[decide_eq_true (by decide)]at c8;have n2:=bI a.snd 0;have n3:=bI a.bU 0;have gl:=ej (a.raw.length:Int) 0;have gm:=ej (a.raw.length:Int) 4096;have ln:=b7 a.raw;have sO:=λT=>bS a.op rG ha.op.cp ga T;have sL:=λT=>bR a.bG jo (bj.Wf.cp _ ha.bG) e5 T;have E:bk ag []=J ag:=rfl;have C:bk ab []=J ab:=rfl;have Q:=jZ;have L:=j0;have N:=j5;have U:=gB;have P:=j6;have I:=j7;have M:=j8;have R:=gC;have m:aH .gtr (.I V (a.raw.length:Int)) (.I V 4096)=J (.B O):=by rw[gm,decide_eq_false (by omega)]
 clear gm;unfold aD.cL at hB;simp[cN,cO,h]at hB;obtain⟨i,d,f⟩:=hB;rw[decide_eq_false (by omega)]at n2;rw[d]at sL;have l:aH .gtr (.I V (a.raw.length:Int)) (.I V 0)=J (.B O):=by rw[gl,decide_eq_false (by rw[f];simp)]
 have l0:=bK a.fst g.f0 g.f1;have l1:=bK a.snd g.s0 g.s1;have l2:=bK a.bU g.v0 g.v1;have i0:=λT=>bg a.fst g.f0 (by have:=g.f1;omega) T;have i1:=λT=>bg a.snd g.s0 (by have:=g.s1;omega) T;have i2:=λT=>bg a.bU g.v0 (by have:=g.v1;omega) T;have e1:=iK 1 1;have e2:=iK 1 2;have e8:=iK 1 8;rw[decide_eq_true (by decide)]at e1;rw[decide_eq_false (by decide)]at e2;rw[decide_eq_false (by decide)]at e8;have rs:∀k b x n,bZ 7 k [.S x,.I V n] S (S++b)=J (.bL [.S x,.I V n],S):=λk b x n=>by simp[dd,bn,bp,aK,ax,aL]
 have hz:ag.length=10:=rfl;have re:=bu;obtain⟨w0,B⟩:∃w:K,w=[119,114,105,116,101]:=⟨_,rfl⟩;have mw:w0.length=5:=by rw[B];rfl
 rw[<-B]at X be;obtain⟨A0,p⟩:∃A:K,A=w0++[32]:=⟨_,rfl⟩;have m0:A0.length=w0.length+1:=by rw[p,jn];try rfl
 have s0:bT .add (.S w0) (.S ([32]))=J (.S A0):=by rw[p];exact fD _ _ (by(try simp only[jN,mH]);omega)
 obtain⟨A1,s⟩:∃A:K,A=A0++aU a.fst:=⟨_,rfl⟩;have m1:A1.length=A0.length+(aU a.fst).length:=by rw[s,jn];try rfl
 have s1:bT .add (.S A0) (.S (aU a.fst))=J (.S A1):=by rw[s];exact fD _ _ (by(try simp only[jN,mH]);omega)
 obtain⟨A2,t⟩:∃A:K,A=A1++[32]:=⟨_,rfl⟩;have m2:A2.length=A1.length+1:=by rw[t,jn];try rfl
 have s2:bT .add (.S A1) (.S ([32]))=J (.S A2):=by rw[t];exact fD _ _ (by(try simp only[jN,mH]);omega)
 obtain⟨A3,v⟩:∃A:K,A=A2++aU a.bU:=⟨_,rfl⟩;have m3:A3.length=A2.length+(aU a.bU).length:=by rw[v,jn];try rfl
 have s3:bT .add (.S A2) (.S (aU a.bU))=J (.S A3):=by rw[v];exact fD _ _ (by(try simp only[jN,mH]);omega)
 have rt:=λT=>yX a.op ha.op hf.op T;rcases(show(Bz a.op)=O\/(Bz a.op)=Y by cases(Bz a.op)<;>simp)with ho|ho
 ·rw[ho]at rt
  have e:a.gj=.bL [.S [],.I V 1]:=by
   have c:a.code=1:=by unfold aD.code;rw[if_neg (λq:¬_=>q (by omega)),if_neg (λq:¬_=>q ⟨by unfold aD.cL;simp[cN,cO,h,i,d,f],hl⟩),if_pos h,if_neg (by rw[ho];simp)]
   unfold aD.gj;rw[c];rfl
  rw[e,fO Ef];clear e;generalize ag=ZO,ab=ZL at*;simp-implicitDefEqProofs [re, -aH, -bT,h,X,fb,fv,be,c1,c2,c8,bb,ln,E,C,Q,L,N,U,P,I,M,R,rs,m,i0,i1,i2,e1,e2,e8,n2,sL,l,rt,s0,s1,s2,s3]
 ·rw[ho]at rt
  have⟨r,r1,r2⟩:=LP a.op ha.op ho (S++[.M a.aq [] O]);have⟨o,u,a1,a2⟩:=r1.1.take [];have lo:=cW.len a2;rw[IP]at lo;have gg:=ej ((jw a.op).length:Int) 4096;by_cases hx:4096<(jw a.op).length
  ·rw[decide_eq_true (by omega)]at gg
   have e:a.gj=.bL [.S [],.I V 3]:=by
    have c:a.code=3:=by unfold aD.code;rw[if_neg (λq:¬_=>q (by omega)),if_neg (λq:¬_=>q ⟨by unfold aD.cL;simp[cN,cO,h,i,d,f],hl⟩),if_pos h,if_pos ho,if_pos hx]
    unfold aD.gj;rw[c];rfl
   try simp at a1
   rw[e,fO Ef];clear e;generalize ag=ZO,ab=ZL at*;simp-implicitDefEqProofs [re, -aH, -bT,h,X,fb,fv,be,c1,c2,c8,bb,ln,E,C,Q,L,N,U,P,I,M,R,rs,m,i0,i1,i2,e1,e2,e8,n2,sL,l,rt,r2,a1,lo,gg,s0,s1,s2,s3]
  ·rw[decide_eq_false (by omega)]at gg
   have⟨o',u',a1',j⟩:=r1.1.take u;have g1:=cW.AD j;have g2:cR (aE o')=b_ (jw a.op):=cW.cR j;have g3:=cW.lock j;have g4:=cW.oJ j;have hx':=λT=>oO (jw a.op) (by omega) T;have lx:=jW (jw a.op);obtain⟨A4,y⟩:∃A:K,A=A3++[32]:=⟨_,rfl⟩;have m4:A4.length=A3.length+1:=by rw[y,jn];try rfl
   have s4:bT .add (.S A3) (.S ([32]))=J (.S A4):=by rw[y];exact fD _ _ (by(try simp only[jN,mH]);omega)
   obtain⟨A5,z⟩:∃A:K,A=A4++dm (jw a.op):=⟨_,rfl⟩;have m5:A5.length=A4.length+(dm (jw a.op)).length:=by rw[z,jn];try rfl
   have s5:bT .add (.S A4) (.S (dm (jw a.op)))=J (.S A5):=by rw[z];exact fD _ _ (by(try simp only[jN,mH]);omega)
   have el:a.line=A5:=by rw[z,y,v,t,s,p,B];unfold aD.line;simp[aD.av,b8,cN,cO,h,fL]
   have e:a.gj=.bL [.S a.line,.I V 0]:=by
    have c:a.code=0:=by unfold aD.code;rw[if_neg (λq:¬_=>q (by omega)),if_neg (λq:¬_=>q ⟨by unfold aD.cL;simp[cN,cO,h,i,d,f],hl⟩),if_pos h,if_pos ho,if_neg hx]
    unfold aD.gj;rw[c,if_pos rfl]
   rw[el]at e;try simp at a1 a1'
   rw[e,fO Ef];clear e;generalize ag=ZO,ab=ZL at*;simp-implicitDefEqProofs [re, -aH, -bT,h,X,fb,fv,be,c1,c2,c8,bb,ln,E,C,Q,L,N,U,P,I,M,R,rs,m,i0,i1,i2,e1,e2,e8,n2,sL,l,rt,r2,a1,lo,gg,a1',g1,g2,g3,g4,cy,b6,hx',s0,s1,s2,s3,s4,s5]
def afC(a:aD)(ha:a.Wf)(hf:a.Flat)(f:a.wv)(S:G)(h:a.ae=2)(hB:a.cL=Y)(hl:a.raw.length<=4096):DF F W 7 [.A a.aq] S=J (a.gj,S):=by
 have X:=λT=>e6 a.ae T;have fb:=λT=>ka a.ae T;have fv:=λT=>dr a.ae T;rw[h]at X fb fv;rw[show b8 2=[112,117,98,108,105,115,104]from rfl]at X;rw[show cN 2=O from rfl]at fb;rw[show cO 2=Y from rfl]at fv;have be:=jY [112,117,98,108,105,115,104] [];rw[decide_eq_false (by decide)]at be;have c1:=bI 2 1;have c2:=bI 2 2;have c8:=bI 2 8;rw[decide_eq_true (by decide)]at c1;rw[decide_eq_false (by decide)]at c2;rw[decide_eq_true (by decide)]at c8;have n2:=bI a.snd 0;have n3:=bI a.bU 0;have gl:=ej (a.raw.length:Int) 0;have gm:=ej (a.raw.length:Int) 4096;have ln:=b7 a.raw;have sO:=λT=>bS a.op rG ha.op.cp ga T;have sL:=λT=>bR a.bG jo (bj.Wf.cp _ ha.bG) e5 T;have E:bk ag []=J ag:=rfl;have C:bk ab []=J ab:=rfl;have Q:=jZ;have L:=j0;have N:=j5;have U:=gB;have P:=j6;have I:=j7;have M:=j8;have R:=gC;have m:aH .gtr (.I V (a.raw.length:Int)) (.I V 4096)=J (.B O):=by rw[gm,decide_eq_false (by omega)]
 clear gm;unfold aD.cL at hB;simp[cN,cO,h]at hB;obtain⟨g,j,d⟩:=hB;rw[decide_eq_false (by omega)]at n2;rw[j]at sO;have l:aH .gtr (.I V (a.raw.length:Int)) (.I V 0)=J (.B O):=by rw[gl,decide_eq_false (by rw[d];simp)]
 have l0:=bK a.fst f.f0 f.f1;have l1:=bK a.snd f.s0 f.s1;have l2:=bK a.bU f.v0 f.v1;have i0:=λT=>bg a.fst f.f0 (by have:=f.f1;omega) T;have i1:=λT=>bg a.snd f.s0 (by have:=f.s1;omega) T;have i2:=λT=>bg a.bU f.v0 (by have:=f.v1;omega) T;have e1:=iK 2 1;have e2:=iK 2 2;have e8:=iK 2 8;rw[decide_eq_false (by decide)]at e1;rw[decide_eq_true (by decide)]at e2;rw[decide_eq_false (by decide)]at e8;have rs:∀k b x n,bZ 7 k [.S x,.I V n] S (S++b)=J (.bL [.S x,.I V n],S):=λk b x n=>by simp[dd,bn,bp,aK,ax,aL]
 have hz:ag.length=10:=rfl;have re:=bu;obtain⟨w0,B⟩:∃w:K,w=[112,117,98,108,105,115,104]:=⟨_,rfl⟩;have mw:w0.length=7:=by rw[B];rfl
 rw[<-B]at X be;obtain⟨A0,p⟩:∃A:K,A=w0++[32]:=⟨_,rfl⟩;have m0:A0.length=w0.length+1:=by rw[p,jn];try rfl
 have s0:bT .add (.S w0) (.S ([32]))=J (.S A0):=by rw[p];exact fD _ _ (by(try simp only[jN,mH]);omega)
 obtain⟨A1,s⟩:∃A:K,A=A0++aU a.fst:=⟨_,rfl⟩;have m1:A1.length=A0.length+(aU a.fst).length:=by rw[s,jn];try rfl
 have s1:bT .add (.S A0) (.S (aU a.fst))=J (.S A1):=by rw[s];exact fD _ _ (by(try simp only[jN,mH]);omega)
 obtain⟨A2,t⟩:∃A:K,A=A1++[32]:=⟨_,rfl⟩;have m2:A2.length=A1.length+1:=by rw[t,jn];try rfl
 have s2:bT .add (.S A1) (.S ([32]))=J (.S A2):=by rw[t];exact fD _ _ (by(try simp only[jN,mH]);omega)
 obtain⟨A3,v⟩:∃A:K,A=A2++aU a.bU:=⟨_,rfl⟩;have m3:A3.length=A2.length+(aU a.bU).length:=by rw[v,jn];try rfl
 have s3:bT .add (.S A2) (.S (aU a.bU))=J (.S A3):=by rw[v];exact fD _ _ (by(try simp only[jN,mH]);omega)
 have rt:=λT=>yE a.bG ha.bG hf.bG hf.deep T;rcases(show(a.bG.aW 5)=O\/(a.bG.aW 5)=Y by cases(a.bG.aW 5)<;>simp)with ho|ho
 ·rw[ho]at rt
  have e:a.gj=.bL [.S [],.I V 1]:=by
   have c:a.code=1:=by unfold aD.code;rw[if_neg (λq:¬_=>q (by omega)),if_neg (λq:¬_=>q ⟨by unfold aD.cL;simp[cN,cO,h,g,j,d],hl⟩),if_neg (by omega),if_pos h,if_neg (by rw[ho];simp)]
   unfold aD.gj;rw[c];rfl
  rw[e,fO Ef];clear e;generalize ag=ZO,ab=ZL at*;simp-implicitDefEqProofs [re, -aH, -bT,h,X,fb,fv,be,c1,c2,c8,bb,ln,E,C,Q,L,N,U,P,I,M,R,rs,m,i0,i1,i2,e1,e2,e8,n2,sO,l,rt,s0,s1,s2,s3]
 ·rw[ho]at rt
  have⟨r,r1,r2⟩:=LR 5 a.bG ha.bG ho (by omega) (S++[.M a.aq [] O]);have⟨o,u,a1,a2⟩:=r1.1.take [];have lo:=cW.len a2;rw[IP]at lo;have gg:=ej ((a.bG.bytes).length:Int) 4096;by_cases hx:4096<(a.bG.bytes).length
  ·rw[decide_eq_true (by omega)]at gg
   have e:a.gj=.bL [.S [],.I V 3]:=by
    have c:a.code=3:=by unfold aD.code;rw[if_neg (λq:¬_=>q (by omega)),if_neg (λq:¬_=>q ⟨by unfold aD.cL;simp[cN,cO,h,g,j,d],hl⟩),if_neg (by omega),if_pos h,if_pos ho,if_pos hx]
    unfold aD.gj;rw[c];rfl
   try simp at a1
   rw[e,fO Ef];clear e;generalize ag=ZO,ab=ZL at*;simp-implicitDefEqProofs [re, -aH, -bT,h,X,fb,fv,be,c1,c2,c8,bb,ln,E,C,Q,L,N,U,P,I,M,R,rs,m,i0,i1,i2,e1,e2,e8,n2,sO,l,rt,r2,a1,lo,gg,s0,s1,s2,s3]
  ·rw[decide_eq_false (by omega)]at gg
   have⟨o',u',a1',i⟩:=r1.1.take u;have g1:=cW.AD i;have g2:cR (aE o')=b_ (a.bG.bytes):=cW.cR i;have g3:=cW.lock i;have g4:=cW.oJ i;have hx':=λT=>oO (a.bG.bytes) (by omega) T;have lx:=jW (a.bG.bytes);obtain⟨A4,y⟩:∃A:K,A=A3++[32]:=⟨_,rfl⟩;have m4:A4.length=A3.length+1:=by rw[y,jn];try rfl
   have s4:bT .add (.S A3) (.S ([32]))=J (.S A4):=by rw[y];exact fD _ _ (by(try simp only[jN,mH]);omega)
   obtain⟨A5,z⟩:∃A:K,A=A4++dm a.bG.bytes:=⟨_,rfl⟩;have m5:A5.length=A4.length+(dm a.bG.bytes).length:=by rw[z,jn];try rfl
   have s5:bT .add (.S A4) (.S (dm a.bG.bytes))=J (.S A5):=by rw[z];exact fD _ _ (by(try simp only[jN,mH]);omega)
   have el:a.line=A5:=by rw[z,y,v,t,s,p,B];unfold aD.line;simp[aD.av,b8,cN,cO,h,fL]
   have e:a.gj=.bL [.S a.line,.I V 0]:=by
    have c:a.code=0:=by unfold aD.code;rw[if_neg (λq:¬_=>q (by omega)),if_neg (λq:¬_=>q ⟨by unfold aD.cL;simp[cN,cO,h,g,j,d],hl⟩),if_neg (by omega),if_pos h,if_pos ho,if_neg hx]
    unfold aD.gj;rw[c,if_pos rfl]
   rw[el]at e;try simp at a1 a1'
   rw[e,fO Ef];clear e;generalize ag=ZO,ab=ZL at*;simp-implicitDefEqProofs [re, -aH, -bT,h,X,fb,fv,be,c1,c2,c8,bb,ln,E,C,Q,L,N,U,P,I,M,R,rs,m,i0,i1,i2,e1,e2,e8,n2,sO,l,rt,r2,a1,lo,gg,a1',g1,g2,g3,g4,cy,b6,hx',s0,s1,s2,s3,s4,s5]
def afD(a:aD)(ha:a.Wf)(hf:a.Flat)(d:a.wv)(S:G)(h:a.ae=3)(M:a.cL=Y)(hl:a.raw.length<=4096):DF F W 7 [.A a.aq] S=J (a.gj,S):=by
 have v:=λT=>e6 a.ae T;have C:=λT=>ka a.ae T;have E:=λT=>dr a.ae T;rw[h]at v C E;rw[show b8 3=[115,121,110,99]from rfl]at v;rw[show cN 3=Y from rfl]at C;rw[show cO 3=O from rfl]at E;have B:=jY [115,121,110,99] [];rw[decide_eq_false (by decide)]at B;have c1:=bI 3 1;have c2:=bI 3 2;have c8:=bI 3 8;rw[decide_eq_true (by decide)]at c1;rw[decide_eq_true (by decide)]at c2;rw[decide_eq_true (by decide)]at c8;have n2:=bI a.snd 0;have n3:=bI a.bU 0;have gl:=ej (a.raw.length:Int) 0;have gm:=ej (a.raw.length:Int) 4096;have ln:=b7 a.raw;have sO:=λT=>bS a.op rG ha.op.cp ga T;have sL:=λT=>bR a.bG jo (bj.Wf.cp _ ha.bG) e5 T;have P:bk ag []=J ag:=rfl;have N:bk ab []=J ab:=rfl;have zno:=jZ;have R:=j0;have X:=j5;have Pa:=gB;have znl:=j6;have Q:=j7;have U:=j8;have zul:=gC;have L:aH .gtr (.I V (a.raw.length:Int)) (.I V 4096)=J (.B O):=by rw[gm,decide_eq_false (by omega)]
 clear gm;unfold aD.cL at M;simp[cN,cO,h]at M;obtain⟨p,u,f,g⟩:=M;rw[decide_eq_false (by omega)]at n3;rw[u]at sO;rw[f]at sL;have I:aH .gtr (.I V (a.raw.length:Int)) (.I V 0)=J (.B O):=by rw[gl,decide_eq_false (by rw[g];simp)]
 have l0:=bK a.fst d.f0 d.f1;have l1:=bK a.snd d.s0 d.s1;have l2:=bK a.bU d.v0 d.v1;have i0:=λT=>bg a.fst d.f0 (by have:=d.f1;omega) T;have i1:=λT=>bg a.snd d.s0 (by have:=d.s1;omega) T;have i2:=λT=>bg a.bU d.v0 (by have:=d.v1;omega) T;have e1:=iK 3 1;have e2:=iK 3 2;have e8:=iK 3 8;rw[decide_eq_false (by decide)]at e1;rw[decide_eq_false (by decide)]at e2;rw[decide_eq_false (by decide)]at e8;have rs:∀i b x n,bZ 7 i [.S x,.I V n] S (S++b)=J (.bL [.S x,.I V n],S):=λi b x n=>by simp[dd,bn,bp,aK,ax,aL]
 have hz:ag.length=10:=rfl;have re:=bu;obtain⟨y,o⟩:∃w:K,w=[115,121,110,99]:=⟨_,rfl⟩;have mw:y.length=4:=by rw[o];rfl
 rw[<-o]at v B;obtain⟨r,j⟩:∃A:K,A=y++[32]:=⟨_,rfl⟩;have m0:r.length=y.length+1:=by rw[j,jn];try rfl
 have s0:bT .add (.S y) (.S ([32]))=J (.S r):=by rw[j];exact fD _ _ (by(try simp only[jN,mH]);omega)
 obtain⟨s,k⟩:∃A:K,A=r++aU a.fst:=⟨_,rfl⟩;have m1:s.length=r.length+(aU a.fst).length:=by rw[k,jn];try rfl
 have s1:bT .add (.S r) (.S (aU a.fst))=J (.S s):=by rw[k];exact fD _ _ (by(try simp only[jN,mH]);omega)
 obtain⟨t,l⟩:∃A:K,A=s++[32]:=⟨_,rfl⟩;have m2:t.length=s.length+1:=by rw[l,jn];try rfl
 have s2:bT .add (.S s) (.S ([32]))=J (.S t):=by rw[l];exact fD _ _ (by(try simp only[jN,mH]);omega)
 obtain⟨z,m⟩:∃A:K,A=t++aU a.snd:=⟨_,rfl⟩;have m3:z.length=t.length+(aU a.snd).length:=by rw[m,jn];try rfl
 have s3:bT .add (.S t) (.S (aU a.snd))=J (.S z):=by rw[m];exact fD _ _ (by(try simp only[jN,mH]);omega)
 have el:a.line=z:=by rw[m,l,k,j,o];unfold aD.line;simp[aD.av,b8,cN,cO,h,fL]
 have e:a.gj=.bL [.S a.line,.I V 0]:=by
  have c:a.code=0:=by unfold aD.code;rw[if_neg (λq:¬_=>q (by omega)),if_neg (λq:¬_=>q ⟨by unfold aD.cL;simp[cN,cO,h,p,u,f,g],hl⟩),if_neg (by omega),if_neg (by omega)]
  unfold aD.gj;rw[c,if_pos rfl]
 rw[el]at e;rw[e,fO Ef];clear e;generalize ag=ZO,ab=ZL at*;simp-implicitDefEqProofs [re, -aH, -bT,h,v,C,E,B,c1,c2,c8,bb,ln,P,N,zno,R,X,Pa,znl,Q,U,zul,rs,L,i0,i1,i2,e1,e2,e8,n3,sO,sL,I,s0,s1,s2,s3]
def afH(a:aD)(ha:a.Wf)(hf:a.Flat)(d:a.wv)(S:G)(h:a.ae=4)(E:a.cL=Y)(hl:a.raw.length<=4096):DF F W 7 [.A a.aq] S=J (a.gj,S):=by
 have s:=λT=>e6 a.ae T;have y:=λT=>ka a.ae T;have z:=λT=>dr a.ae T;rw[h]at s y z;rw[show b8 4=[100,101,108,105,118,101,114]from rfl]at s;rw[show cN 4=O from rfl]at y;rw[show cO 4=O from rfl]at z;have v:=jY [100,101,108,105,118,101,114] [];rw[decide_eq_false (by decide)]at v;have c1:=bI 4 1;have c2:=bI 4 2;have c8:=bI 4 8;rw[decide_eq_true (by decide)]at c1;rw[decide_eq_true (by decide)]at c2;rw[decide_eq_true (by decide)]at c8;have n2:=bI a.snd 0;have n3:=bI a.bU 0;have gl:=ej (a.raw.length:Int) 0;have gm:=ej (a.raw.length:Int) 4096;have ln:=b7 a.raw;have sO:=λT=>bS a.op rG ha.op.cp ga T;have sL:=λT=>bR a.bG jo (bj.Wf.cp _ ha.bG) e5 T;have L:bk ag []=J ag:=rfl;have I:bk ab []=J ab:=rfl;have U:=jZ;have N:=j0;have Q:=j5;have Pa:=gB;have R:=j6;have M:=j7;have P:=j8;have X:=gC;have C:aH .gtr (.I V (a.raw.length:Int)) (.I V 4096)=J (.B O):=by rw[gm,decide_eq_false (by omega)]
 clear gm;unfold aD.cL at E;simp[cN,cO,h]at E;obtain⟨r,m,p,f,g⟩:=E;rw[decide_eq_false (by omega)]at n2;rw[decide_eq_false (by omega)]at n3;rw[p]at sO;rw[f]at sL;have B:aH .gtr (.I V (a.raw.length:Int)) (.I V 0)=J (.B O):=by rw[gl,decide_eq_false (by rw[g];simp)]
 have l0:=bK a.fst d.f0 d.f1;have l1:=bK a.snd d.s0 d.s1;have l2:=bK a.bU d.v0 d.v1;have i0:=λT=>bg a.fst d.f0 (by have:=d.f1;omega) T;have i1:=λT=>bg a.snd d.s0 (by have:=d.s1;omega) T;have i2:=λT=>bg a.bU d.v0 (by have:=d.v1;omega) T;have e1:=iK 4 1;have e2:=iK 4 2;have e8:=iK 4 8;rw[decide_eq_false (by decide)]at e1;rw[decide_eq_false (by decide)]at e2;rw[decide_eq_false (by decide)]at e8;have rs:∀i b x n,bZ 7 i [.S x,.I V n] S (S++b)=J (.bL [.S x,.I V n],S):=λi b x n=>by simp[dd,bn,bp,aK,ax,aL]
 have hz:ag.length=10:=rfl;have re:=bu;obtain⟨t,l⟩:∃w:K,w=[100,101,108,105,118,101,114]:=⟨_,rfl⟩;have mw:t.length=7:=by rw[l];rfl
 rw[<-l]at s v;obtain⟨o,j⟩:∃A:K,A=t++[32]:=⟨_,rfl⟩;have m0:o.length=t.length+1:=by rw[j,jn];try rfl
 have s0:bT .add (.S t) (.S ([32]))=J (.S o):=by rw[j];exact fD _ _ (by(try simp only[jN,mH]);omega)
 obtain⟨u,k⟩:∃A:K,A=o++aU a.fst:=⟨_,rfl⟩;have m1:u.length=o.length+(aU a.fst).length:=by rw[k,jn];try rfl
 have s1:bT .add (.S o) (.S (aU a.fst))=J (.S u):=by rw[k];exact fD _ _ (by(try simp only[jN,mH]);omega)
 have el:a.line=u:=by rw[k,j,l];unfold aD.line;simp[aD.av,b8,cN,cO,h,fL]
 have e:a.gj=.bL [.S a.line,.I V 0]:=by
  have c:a.code=0:=by unfold aD.code;rw[if_neg (λq:¬_=>q (by omega)),if_neg (λq:¬_=>q ⟨by unfold aD.cL;simp[cN,cO,h,r,m,p,f,g],hl⟩),if_neg (by omega),if_neg (by omega)]
  unfold aD.gj;rw[c,if_pos rfl]
 rw[el]at e;rw[e,fO Ef];clear e;generalize ag=ZO,ab=ZL at*;simp-implicitDefEqProofs [re, -aH, -bT,h,s,y,z,v,c1,c2,c8,bb,ln,L,I,U,N,Q,Pa,R,M,P,X,rs,C,i0,i1,i2,e1,e2,e8,n2,n3,sO,sL,B,s0,s1]
def afI(a:aD)(ha:a.Wf)(hf:a.Flat)(d:a.wv)(S:G)(h:a.ae=5)(E:a.cL=Y)(hl:a.raw.length<=4096):DF F W 7 [.A a.aq] S=J (a.gj,S):=by
 have s:=λT=>e6 a.ae T;have y:=λT=>ka a.ae T;have z:=λT=>dr a.ae T;rw[h]at s y z;rw[show b8 5=[108,111,115,101]from rfl]at s;rw[show cN 5=O from rfl]at y;rw[show cO 5=O from rfl]at z;have v:=jY [108,111,115,101] [];rw[decide_eq_false (by decide)]at v;have c1:=bI 5 1;have c2:=bI 5 2;have c8:=bI 5 8;rw[decide_eq_true (by decide)]at c1;rw[decide_eq_true (by decide)]at c2;rw[decide_eq_true (by decide)]at c8;have n2:=bI a.snd 0;have n3:=bI a.bU 0;have gl:=ej (a.raw.length:Int) 0;have gm:=ej (a.raw.length:Int) 4096;have ln:=b7 a.raw;have sO:=λT=>bS a.op rG ha.op.cp ga T;have sL:=λT=>bR a.bG jo (bj.Wf.cp _ ha.bG) e5 T;have L:bk ag []=J ag:=rfl;have I:bk ab []=J ab:=rfl;have U:=jZ;have N:=j0;have Q:=j5;have Pa:=gB;have R:=j6;have M:=j7;have P:=j8;have X:=gC;have C:aH .gtr (.I V (a.raw.length:Int)) (.I V 4096)=J (.B O):=by rw[gm,decide_eq_false (by omega)]
 clear gm;unfold aD.cL at E;simp[cN,cO,h]at E;obtain⟨r,m,p,f,g⟩:=E;rw[decide_eq_false (by omega)]at n2;rw[decide_eq_false (by omega)]at n3;rw[p]at sO;rw[f]at sL;have B:aH .gtr (.I V (a.raw.length:Int)) (.I V 0)=J (.B O):=by rw[gl,decide_eq_false (by rw[g];simp)]
 have l0:=bK a.fst d.f0 d.f1;have l1:=bK a.snd d.s0 d.s1;have l2:=bK a.bU d.v0 d.v1;have i0:=λT=>bg a.fst d.f0 (by have:=d.f1;omega) T;have i1:=λT=>bg a.snd d.s0 (by have:=d.s1;omega) T;have i2:=λT=>bg a.bU d.v0 (by have:=d.v1;omega) T;have e1:=iK 5 1;have e2:=iK 5 2;have e8:=iK 5 8;rw[decide_eq_false (by decide)]at e1;rw[decide_eq_false (by decide)]at e2;rw[decide_eq_false (by decide)]at e8;have rs:∀i b x n,bZ 7 i [.S x,.I V n] S (S++b)=J (.bL [.S x,.I V n],S):=λi b x n=>by simp[dd,bn,bp,aK,ax,aL]
 have hz:ag.length=10:=rfl;have re:=bu;obtain⟨t,l⟩:∃w:K,w=[108,111,115,101]:=⟨_,rfl⟩;have mw:t.length=4:=by rw[l];rfl
 rw[<-l]at s v;obtain⟨o,j⟩:∃A:K,A=t++[32]:=⟨_,rfl⟩;have m0:o.length=t.length+1:=by rw[j,jn];try rfl
 have s0:bT .add (.S t) (.S ([32]))=J (.S o):=by rw[j];exact fD _ _ (by(try simp only[jN,mH]);omega)
 obtain⟨u,k⟩:∃A:K,A=o++aU a.fst:=⟨_,rfl⟩;have m1:u.length=o.length+(aU a.fst).length:=by rw[k,jn];try rfl
 have s1:bT .add (.S o) (.S (aU a.fst))=J (.S u):=by rw[k];exact fD _ _ (by(try simp only[jN,mH]);omega)
 have el:a.line=u:=by rw[k,j,l];unfold aD.line;simp[aD.av,b8,cN,cO,h,fL]
 have e:a.gj=.bL [.S a.line,.I V 0]:=by
  have c:a.code=0:=by unfold aD.code;rw[if_neg (λq:¬_=>q (by omega)),if_neg (λq:¬_=>q ⟨by unfold aD.cL;simp[cN,cO,h,r,m,p,f,g],hl⟩),if_neg (by omega),if_neg (by omega)]
  unfold aD.gj;rw[c,if_pos rfl]
 rw[el]at e;rw[e,fO Ef];clear e;generalize ag=ZO,ab=ZL at*;simp-implicitDefEqProofs [re, -aH, -bT,h,s,y,z,v,c1,c2,c8,bb,ln,L,I,U,N,Q,Pa,R,M,P,X,rs,C,i0,i1,i2,e1,e2,e8,n2,n3,sO,sL,B,s0,s1]
def afJ(a:aD)(ha:a.Wf)(hf:a.Flat)(d:a.wv)(S:G)(h:a.ae=6)(E:a.cL=Y)(hl:a.raw.length<=4096):DF F W 7 [.A a.aq] S=J (a.gj,S):=by
 have s:=λT=>e6 a.ae T;have y:=λT=>ka a.ae T;have z:=λT=>dr a.ae T;rw[h]at s y z;rw[show b8 6=[99,111,112,121]from rfl]at s;rw[show cN 6=O from rfl]at y;rw[show cO 6=O from rfl]at z;have v:=jY [99,111,112,121] [];rw[decide_eq_false (by decide)]at v;have c1:=bI 6 1;have c2:=bI 6 2;have c8:=bI 6 8;rw[decide_eq_true (by decide)]at c1;rw[decide_eq_true (by decide)]at c2;rw[decide_eq_true (by decide)]at c8;have n2:=bI a.snd 0;have n3:=bI a.bU 0;have gl:=ej (a.raw.length:Int) 0;have gm:=ej (a.raw.length:Int) 4096;have ln:=b7 a.raw;have sO:=λT=>bS a.op rG ha.op.cp ga T;have sL:=λT=>bR a.bG jo (bj.Wf.cp _ ha.bG) e5 T;have L:bk ag []=J ag:=rfl;have I:bk ab []=J ab:=rfl;have U:=jZ;have N:=j0;have Q:=j5;have Pa:=gB;have R:=j6;have M:=j7;have P:=j8;have X:=gC;have C:aH .gtr (.I V (a.raw.length:Int)) (.I V 4096)=J (.B O):=by rw[gm,decide_eq_false (by omega)]
 clear gm;unfold aD.cL at E;simp[cN,cO,h]at E;obtain⟨r,m,p,f,g⟩:=E;rw[decide_eq_false (by omega)]at n2;rw[decide_eq_false (by omega)]at n3;rw[p]at sO;rw[f]at sL;have B:aH .gtr (.I V (a.raw.length:Int)) (.I V 0)=J (.B O):=by rw[gl,decide_eq_false (by rw[g];simp)]
 have l0:=bK a.fst d.f0 d.f1;have l1:=bK a.snd d.s0 d.s1;have l2:=bK a.bU d.v0 d.v1;have i0:=λT=>bg a.fst d.f0 (by have:=d.f1;omega) T;have i1:=λT=>bg a.snd d.s0 (by have:=d.s1;omega) T;have i2:=λT=>bg a.bU d.v0 (by have:=d.v1;omega) T;have e1:=iK 6 1;have e2:=iK 6 2;have e8:=iK 6 8;rw[decide_eq_false (by decide)]at e1;rw[decide_eq_false (by decide)]at e2;rw[decide_eq_false (by decide)]at e8;have rs:∀i b x n,bZ 7 i [.S x,.I V n] S (S++b)=J (.bL [.S x,.I V n],S):=λi b x n=>by simp[dd,bn,bp,aK,ax,aL]
 have hz:ag.length=10:=rfl;have re:=bu;obtain⟨t,l⟩:∃w:K,w=[99,111,112,121]:=⟨_,rfl⟩;have mw:t.length=4:=by rw[l];rfl
 rw[<-l]at s v;obtain⟨o,j⟩:∃A:K,A=t++[32]:=⟨_,rfl⟩;have m0:o.length=t.length+1:=by rw[j,jn];try rfl
 have s0:bT .add (.S t) (.S ([32]))=J (.S o):=by rw[j];exact fD _ _ (by(try simp only[jN,mH]);omega)
 obtain⟨u,k⟩:∃A:K,A=o++aU a.fst:=⟨_,rfl⟩;have m1:u.length=o.length+(aU a.fst).length:=by rw[k,jn];try rfl
 have s1:bT .add (.S o) (.S (aU a.fst))=J (.S u):=by rw[k];exact fD _ _ (by(try simp only[jN,mH]);omega)
 have el:a.line=u:=by rw[k,j,l];unfold aD.line;simp[aD.av,b8,cN,cO,h,fL]
 have e:a.gj=.bL [.S a.line,.I V 0]:=by
  have c:a.code=0:=by unfold aD.code;rw[if_neg (λq:¬_=>q (by omega)),if_neg (λq:¬_=>q ⟨by unfold aD.cL;simp[cN,cO,h,r,m,p,f,g],hl⟩),if_neg (by omega),if_neg (by omega)]
  unfold aD.gj;rw[c,if_pos rfl]
 rw[el]at e;rw[e,fO Ef];clear e;generalize ag=ZO,ab=ZL at*;simp-implicitDefEqProofs [re, -aH, -bT,h,s,y,z,v,c1,c2,c8,bb,ln,L,I,U,N,Q,Pa,R,M,P,X,rs,C,i0,i1,i2,e1,e2,e8,n2,n3,sO,sL,B,s0,s1]
def afK(a:aD)(ha:a.Wf)(hf:a.Flat)(d:a.wv)(S:G)(h:a.ae=7)(M:a.cL=Y)(hl:a.raw.length<=4096):DF F W 7 [.A a.aq] S=J (a.gj,S):=by
 have v:=λT=>e6 a.ae T;have C:=λT=>ka a.ae T;have E:=λT=>dr a.ae T;rw[h]at v C E;rw[show b8 7=[115,119,97,112]from rfl]at v;rw[show cN 7=Y from rfl]at C;rw[show cO 7=O from rfl]at E;have B:=jY [115,119,97,112] [];rw[decide_eq_false (by decide)]at B;have c1:=bI 7 1;have c2:=bI 7 2;have c8:=bI 7 8;rw[decide_eq_true (by decide)]at c1;rw[decide_eq_true (by decide)]at c2;rw[decide_eq_true (by decide)]at c8;have n2:=bI a.snd 0;have n3:=bI a.bU 0;have gl:=ej (a.raw.length:Int) 0;have gm:=ej (a.raw.length:Int) 4096;have ln:=b7 a.raw;have sO:=λT=>bS a.op rG ha.op.cp ga T;have sL:=λT=>bR a.bG jo (bj.Wf.cp _ ha.bG) e5 T;have P:bk ag []=J ag:=rfl;have N:bk ab []=J ab:=rfl;have zno:=jZ;have R:=j0;have X:=j5;have Pa:=gB;have znl:=j6;have Q:=j7;have U:=j8;have zul:=gC;have L:aH .gtr (.I V (a.raw.length:Int)) (.I V 4096)=J (.B O):=by rw[gm,decide_eq_false (by omega)]
 clear gm;unfold aD.cL at M;simp[cN,cO,h]at M;obtain⟨p,u,f,g⟩:=M;rw[decide_eq_false (by omega)]at n3;rw[u]at sO;rw[f]at sL;have I:aH .gtr (.I V (a.raw.length:Int)) (.I V 0)=J (.B O):=by rw[gl,decide_eq_false (by rw[g];simp)]
 have l0:=bK a.fst d.f0 d.f1;have l1:=bK a.snd d.s0 d.s1;have l2:=bK a.bU d.v0 d.v1;have i0:=λT=>bg a.fst d.f0 (by have:=d.f1;omega) T;have i1:=λT=>bg a.snd d.s0 (by have:=d.s1;omega) T;have i2:=λT=>bg a.bU d.v0 (by have:=d.v1;omega) T;have e1:=iK 7 1;have e2:=iK 7 2;have e8:=iK 7 8;rw[decide_eq_false (by decide)]at e1;rw[decide_eq_false (by decide)]at e2;rw[decide_eq_false (by decide)]at e8;have rs:∀i b x n,bZ 7 i [.S x,.I V n] S (S++b)=J (.bL [.S x,.I V n],S):=λi b x n=>by simp[dd,bn,bp,aK,ax,aL]
 have hz:ag.length=10:=rfl;have re:=bu;obtain⟨y,o⟩:∃w:K,w=[115,119,97,112]:=⟨_,rfl⟩;have mw:y.length=4:=by rw[o];rfl
 rw[<-o]at v B;obtain⟨r,j⟩:∃A:K,A=y++[32]:=⟨_,rfl⟩;have m0:r.length=y.length+1:=by rw[j,jn];try rfl
 have s0:bT .add (.S y) (.S ([32]))=J (.S r):=by rw[j];exact fD _ _ (by(try simp only[jN,mH]);omega)
 obtain⟨s,k⟩:∃A:K,A=r++aU a.fst:=⟨_,rfl⟩;have m1:s.length=r.length+(aU a.fst).length:=by rw[k,jn];try rfl
 have s1:bT .add (.S r) (.S (aU a.fst))=J (.S s):=by rw[k];exact fD _ _ (by(try simp only[jN,mH]);omega)
 obtain⟨t,l⟩:∃A:K,A=s++[32]:=⟨_,rfl⟩;have m2:t.length=s.length+1:=by rw[l,jn];try rfl
 have s2:bT .add (.S s) (.S ([32]))=J (.S t):=by rw[l];exact fD _ _ (by(try simp only[jN,mH]);omega)
 obtain⟨z,m⟩:∃A:K,A=t++aU a.snd:=⟨_,rfl⟩;have m3:z.length=t.length+(aU a.snd).length:=by rw[m,jn];try rfl
 have s3:bT .add (.S t) (.S (aU a.snd))=J (.S z):=by rw[m];exact fD _ _ (by(try simp only[jN,mH]);omega)
 have el:a.line=z:=by rw[m,l,k,j,o];unfold aD.line;simp[aD.av,b8,cN,cO,h,fL]
 have e:a.gj=.bL [.S a.line,.I V 0]:=by
  have c:a.code=0:=by unfold aD.code;rw[if_neg (λq:¬_=>q (by omega)),if_neg (λq:¬_=>q ⟨by unfold aD.cL;simp[cN,cO,h,p,u,f,g],hl⟩),if_neg (by omega),if_neg (by omega)]
  unfold aD.gj;rw[c,if_pos rfl]
 rw[el]at e;rw[e,fO Ef];clear e;generalize ag=ZO,ab=ZL at*;simp-implicitDefEqProofs [re, -aH, -bT,h,v,C,E,B,c1,c2,c8,bb,ln,P,N,zno,R,X,Pa,znl,Q,U,zul,rs,L,i0,i1,i2,e1,e2,e8,n3,sO,sL,I,s0,s1,s2,s3]
def afL(a:aD)(ha:a.Wf)(hf:a.Flat)(g:a.wv)(S:G)(h:a.ae=8)(hB:a.cL=Y)(hl:a.raw.length<=4096):DF F W 7 [.A a.aq] S=J (a.gj,S):=by
 have C:=λT=>e6 a.ae T;have fb:=λT=>ka a.ae T;have fv:=λT=>dr a.ae T;rw[h]at C fb fv;rw[show b8 8=[105,110,106,101,99,116]from rfl]at C;rw[show cN 8=Y from rfl]at fb;rw[show cO 8=O from rfl]at fv;have be:=jY [105,110,106,101,99,116] [];rw[decide_eq_false (by decide)]at be;have c1:=bI 8 1;have c2:=bI 8 2;have c8:=bI 8 8;rw[decide_eq_true (by decide)]at c1;rw[decide_eq_true (by decide)]at c2;rw[decide_eq_false (by decide)]at c8;have n2:=bI a.snd 0;have n3:=bI a.bU 0;have gl:=ej (a.raw.length:Int) 0;have gm:=ej (a.raw.length:Int) 4096;have ln:=b7 a.raw;have sO:=λT=>bS a.op rG ha.op.cp ga T;have sL:=λT=>bR a.bG jo (bj.Wf.cp _ ha.bG) e5 T;have L:bk ag []=J ag:=rfl;have I:bk ab []=J ab:=rfl;have U:=jZ;have N:=j0;have Q:=j5;have Pa:=gB;have R:=j6;have M:=j7;have P:=j8;have X:=gC;have E:aH .gtr (.I V (a.raw.length:Int)) (.I V 4096)=J (.B O):=by rw[gm,decide_eq_false (by omega)]
 clear gm;unfold aD.cL at hB;simp[cN,cO,h]at hB;obtain⟨i,v,f⟩:=hB;rw[decide_eq_false (by omega)]at n3;rw[v]at sO;rw[f]at sL;have l0:=bK a.fst g.f0 g.f1;have l1:=bK a.snd g.s0 g.s1;have l2:=bK a.bU g.v0 g.v1;have i0:=λT=>bg a.fst g.f0 (by have:=g.f1;omega) T;have i1:=λT=>bg a.snd g.s0 (by have:=g.s1;omega) T;have i2:=λT=>bg a.bU g.v0 (by have:=g.v1;omega) T;have e1:=iK 8 1;have e2:=iK 8 2;have e8:=iK 8 8;rw[decide_eq_false (by decide)]at e1;rw[decide_eq_false (by decide)]at e2;rw[decide_eq_true (by decide)]at e8;have rs:∀t b x n,bZ 7 t [.S x,.I V n] S (S++b)=J (.bL [.S x,.I V n],S):=λt b x n=>by simp[dd,bn,bp,aK,ax,aL]
 have hz:ag.length=10:=rfl;have re:=bu;obtain⟨w0,r⟩:∃w:K,w=[105,110,106,101,99,116]:=⟨_,rfl⟩;have mw:w0.length=6:=by rw[r];rfl
 rw[<-r]at C be;obtain⟨y,k⟩:∃A:K,A=w0++[32]:=⟨_,rfl⟩;have m0:y.length=w0.length+1:=by rw[k,jn];try rfl
 have s0:bT .add (.S w0) (.S ([32]))=J (.S y):=by rw[k];exact fD _ _ (by(try simp only[jN,mH]);omega)
 obtain⟨z,l⟩:∃A:K,A=y++aU a.fst:=⟨_,rfl⟩;have m1:z.length=y.length+(aU a.fst).length:=by rw[l,jn];try rfl
 have s1:bT .add (.S y) (.S (aU a.fst))=J (.S z):=by rw[l];exact fD _ _ (by(try simp only[jN,mH]);omega)
 obtain⟨B,m⟩:∃A:K,A=z++[32]:=⟨_,rfl⟩;have m2:B.length=z.length+1:=by rw[m,jn];try rfl
 have s2:bT .add (.S z) (.S ([32]))=J (.S B):=by rw[m];exact fD _ _ (by(try simp only[jN,mH]);omega)
 obtain⟨s,o⟩:∃A:K,A=B++aU a.snd:=⟨_,rfl⟩;have m3:s.length=B.length+(aU a.snd).length:=by rw[o,jn];try rfl
 have s3:bT .add (.S B) (.S (aU a.snd))=J (.S s):=by rw[o];exact fD _ _ (by(try simp only[jN,mH]);omega)
 by_cases p:a.raw=[]
 ·have gz:aH .eql (.I V (a.raw.length:Int)) (.I V 0)=J (.B Y):=by rw[p];rfl
  obtain⟨j,d⟩:∃A:K,A=s++[32,45]:=⟨_,rfl⟩;have m4:j.length=s.length+2:=by rw[d,jn];try rfl
  have s4:bT .add (.S s) (.S ([32,45]))=J (.S j):=by rw[d];exact fD _ _ (by(try simp only[jN,mH]);omega)
  have el:a.line=j:=by rw[d,o,m,l,k,r];unfold aD.line;simp[aD.av,b8,cN,cO,h,fL,p]
  have e:a.gj=.bL [.S a.line,.I V 0]:=by
   have c:a.code=0:=by unfold aD.code;rw[if_neg (λq:¬_=>q (by omega)),if_neg (λq:¬_=>q ⟨by unfold aD.cL;simp[cN,cO,h,i,v,f],hl⟩),if_neg (by omega),if_neg (by omega)]
   unfold aD.gj;rw[c,if_pos rfl]
  rw[el]at e;rw[e,fO Ef];clear e;generalize ag=ZO,ab=ZL at*;simp-implicitDefEqProofs [re, -aH, -bT,h,C,fb,fv,be,c1,c2,c8,bb,ln,L,I,U,N,Q,Pa,R,M,P,X,rs,E,i0,i1,i2,e1,e2,e8,n3,sO,sL,gz,s0,s1,s2,s3,s4]
 ·have gz:aH .eql (.I V (a.raw.length:Int)) (.I V 0)=J (.B O):=by rw[iK,decide_eq_false (by have:=Af.2 p;omega)]
  have hx:=λT=>oO a.raw (by omega) T;have lx:=jW a.raw;obtain⟨j,d⟩:∃A:K,A=s++[32]:=⟨_,rfl⟩;have m4:j.length=s.length+1:=by rw[d,jn];try rfl
  have s4:bT .add (.S s) (.S ([32]))=J (.S j):=by rw[d];exact fD _ _ (by(try simp only[jN,mH]);omega)
  obtain⟨A5,u⟩:∃A:K,A=j++dm a.raw:=⟨_,rfl⟩;have m5:A5.length=j.length+(dm a.raw).length:=by rw[u,jn];try rfl
  have s5:bT .add (.S j) (.S (dm a.raw))=J (.S A5):=by rw[u];exact fD _ _ (by(try simp only[jN,mH]);omega)
  have el:a.line=A5:=by rw[u,d,o,m,l,k,r];unfold aD.line;simp[aD.av,b8,cN,cO,h,fL,p]
  have e:a.gj=.bL [.S a.line,.I V 0]:=by
   have c:a.code=0:=by unfold aD.code;rw[if_neg (λq:¬_=>q (by omega)),if_neg (λq:¬_=>q ⟨by unfold aD.cL;simp[cN,cO,h,i,v,f],hl⟩),if_neg (by omega),if_neg (by omega)]
   unfold aD.gj;rw[c,if_pos rfl]
  rw[el]at e;rw[e,fO Ef];clear e;generalize ag=ZO,ab=ZL at*;simp-implicitDefEqProofs [re, -aH, -bT,h,C,fb,fv,be,c1,c2,c8,bb,ln,L,I,U,N,Q,Pa,R,M,P,X,rs,E,i0,i1,i2,e1,e2,e8,n3,sO,sL,gz,hx,s0,s1,s2,s3,s4,s5]
def afM(a:aD)(ha:a.Wf)(hf:a.Flat)(d:a.wv)(S:G)(h:a.ae=9)(M:a.cL=Y)(hl:a.raw.length<=4096):DF F W 7 [.A a.aq] S=J (a.gj,S):=by
 have v:=λT=>e6 a.ae T;have C:=λT=>ka a.ae T;have E:=λT=>dr a.ae T;rw[h]at v C E;rw[show b8 9=[114,101,97,100]from rfl]at v;rw[show cN 9=O from rfl]at C;rw[show cO 9=Y from rfl]at E;have B:=jY [114,101,97,100] [];rw[decide_eq_false (by decide)]at B;have c1:=bI 9 1;have c2:=bI 9 2;have c8:=bI 9 8;rw[decide_eq_true (by decide)]at c1;rw[decide_eq_true (by decide)]at c2;rw[decide_eq_true (by decide)]at c8;have n2:=bI a.snd 0;have n3:=bI a.bU 0;have gl:=ej (a.raw.length:Int) 0;have gm:=ej (a.raw.length:Int) 4096;have ln:=b7 a.raw;have sO:=λT=>bS a.op rG ha.op.cp ga T;have sL:=λT=>bR a.bG jo (bj.Wf.cp _ ha.bG) e5 T;have P:bk ag []=J ag:=rfl;have N:bk ab []=J ab:=rfl;have zno:=jZ;have R:=j0;have X:=j5;have Pa:=gB;have znl:=j6;have Q:=j7;have U:=j8;have zul:=gC;have L:aH .gtr (.I V (a.raw.length:Int)) (.I V 4096)=J (.B O):=by rw[gm,decide_eq_false (by omega)]
 clear gm;unfold aD.cL at M;simp[cN,cO,h]at M;obtain⟨u,t,f,g⟩:=M;rw[decide_eq_false (by omega)]at n2;rw[t]at sO;rw[f]at sL;have I:aH .gtr (.I V (a.raw.length:Int)) (.I V 0)=J (.B O):=by rw[gl,decide_eq_false (by rw[g];simp)]
 have l0:=bK a.fst d.f0 d.f1;have l1:=bK a.snd d.s0 d.s1;have l2:=bK a.bU d.v0 d.v1;have i0:=λT=>bg a.fst d.f0 (by have:=d.f1;omega) T;have i1:=λT=>bg a.snd d.s0 (by have:=d.s1;omega) T;have i2:=λT=>bg a.bU d.v0 (by have:=d.v1;omega) T;have e1:=iK 9 1;have e2:=iK 9 2;have e8:=iK 9 8;rw[decide_eq_false (by decide)]at e1;rw[decide_eq_false (by decide)]at e2;rw[decide_eq_false (by decide)]at e8;have rs:∀i b x n,bZ 7 i [.S x,.I V n] S (S++b)=J (.bL [.S x,.I V n],S):=λi b x n=>by simp[dd,bn,bp,aK,ax,aL]
 have hz:ag.length=10:=rfl;have re:=bu;obtain⟨y,o⟩:∃w:K,w=[114,101,97,100]:=⟨_,rfl⟩;have mw:y.length=4:=by rw[o];rfl
 rw[<-o]at v B;obtain⟨p,j⟩:∃A:K,A=y++[32]:=⟨_,rfl⟩;have m0:p.length=y.length+1:=by rw[j,jn];try rfl
 have s0:bT .add (.S y) (.S ([32]))=J (.S p):=by rw[j];exact fD _ _ (by(try simp only[jN,mH]);omega)
 obtain⟨r,k⟩:∃A:K,A=p++aU a.fst:=⟨_,rfl⟩;have m1:r.length=p.length+(aU a.fst).length:=by rw[k,jn];try rfl
 have s1:bT .add (.S p) (.S (aU a.fst))=J (.S r):=by rw[k];exact fD _ _ (by(try simp only[jN,mH]);omega)
 obtain⟨s,l⟩:∃A:K,A=r++[32]:=⟨_,rfl⟩;have m2:s.length=r.length+1:=by rw[l,jn];try rfl
 have s2:bT .add (.S r) (.S ([32]))=J (.S s):=by rw[l];exact fD _ _ (by(try simp only[jN,mH]);omega)
 obtain⟨z,m⟩:∃A:K,A=s++aU a.bU:=⟨_,rfl⟩;have m3:z.length=s.length+(aU a.bU).length:=by rw[m,jn];try rfl
 have s3:bT .add (.S s) (.S (aU a.bU))=J (.S z):=by rw[m];exact fD _ _ (by(try simp only[jN,mH]);omega)
 have el:a.line=z:=by rw[m,l,k,j,o];unfold aD.line;simp[aD.av,b8,cN,cO,h,fL]
 have e:a.gj=.bL [.S a.line,.I V 0]:=by
  have c:a.code=0:=by unfold aD.code;rw[if_neg (λq:¬_=>q (by omega)),if_neg (λq:¬_=>q ⟨by unfold aD.cL;simp[cN,cO,h,u,t,f,g],hl⟩),if_neg (by omega),if_neg (by omega)]
  unfold aD.gj;rw[c,if_pos rfl]
 rw[el]at e;rw[e,fO Ef];clear e;generalize ag=ZO,ab=ZL at*;simp-implicitDefEqProofs [re, -aH, -bT,h,v,C,E,B,c1,c2,c8,bb,ln,P,N,zno,R,X,Pa,znl,Q,U,zul,rs,L,i0,i1,i2,e1,e2,e8,n2,sO,sL,I,s0,s1,s2,s3]
def NS(a:aD)(c:a.Wf)(d:a.Flat)(e:a.wv)(S:G):DF F W 7 [.A a.aq] S=J (a.gj,S):=by
 by_cases h:1<=a.ae/\a.ae<=9;rotate_left;·exact aac a S h
 by_cases b:a.cL=Y/\a.raw.length<=4096;rotate_left
 ·rcases oY h.1 h.2 with k|k|k|k|k|k|k|k|k
  ·exact Ub a c S k b
  ·exact Uc a c S k b
  ·exact Ud a c S k b
  ·exact Ue a c S k b
  ·exact Uf a c S k b
  ·exact Ug a c S k b
  ·exact Uh a c S k b
  ·exact Ui a c S k b
  ·exact Uj a c S k b
 rcases oY h.1 h.2 with k|k|k|k|k|k|k|k|k;·exact afA a c d e S k b.1 b.2
 ·exact afC a c d e S k b.1 b.2
 ·exact afD a c d e S k b.1 b.2
 ·exact afH a c d e S k b.1 b.2
 ·exact afI a c d e S k b.1 b.2
 ·exact afJ a c d e S k b.1 b.2
 ·exact afK a c d e S k b.1 b.2
 ·exact afL a c d e S k b.1 b.2
 ·exact afM a c d e S k b.1 b.2
def GX(l:List aD)(hw:∀a∈l,a.Wf)(P:l.length<=16)(S:G):∀(n i:Nat),i+n=l.length->∃g:Bool,(g=O->∀a∈l.drop i,a.Flat/\a.raw.length<=300)/\
 DC F W (.L pA) ⟨[(0,il l),(3,.I V (i:Int))],[],S.length⟩ S=if g=Y then J (.R,⟨[(2,.B Y)],[],S.length⟩,S)else J (.E 0,⟨[],[],S.length⟩,S):=by
 intro n;induction n with
 |zero=>
  intro i C;refine⟨O,λ_ a c=>?_, ?_⟩
  ·rw[gY (by omega)]at c
   cases c
  ·have e:¬(i:Int)<(l.length:Int):=by omega
   have d:=uH l;rw[aw,a_ dA];generalize il l=L at*;simp-implicitDefEqProofs [-aH,eZ,e,d]
 |succ n I=>
  intro i C;have A:i<l.length:=by omega
  obtain⟨a,c,_⟩:=aJ (l:=l) (i:=i) A;have u:=fA c;have⟨g,B,w⟩:=I (i+1) (by omega);rw[aS c];have e:(i:Int)<(l.length:Int):=by omega
  have d:=uH l;have m:pY 35 (il l) (.I V (i:Int))=J (.dW .N a.aq 0):=by rw[JB,c];rfl
  have⟨M,h,z⟩:=yz a.op (hw a u).op S;have⟨N,r,v⟩:=yu a.bG (hw a u).bG S;have y:=b7 a.raw;have k:=ej (a.raw.length:Int) 300;have o:∀T,a8 T (.A 10) (.dW .N a.aq 4)=J (.A a.op.aq):=λ_=>aD.f4 a;have b:∀T,a8 T (.A 20) (.dW .N a.aq 14)=J (.A a.bG.aq):=λ_=>aD.f14 a;have f:∀T,a8 T .C (.dW .N a.aq 34)=J (b_ a.raw):=λ_=>aD.f34 a;have t:fH V ((i:Int)+1)=((i+1:Nat):Int):=aZ (by omega);have p:=kT;have j:tV (.A a.op.aq):=(k7.dx a.op).agg;have s:tV (.A a.bG.aq):=(bj.dx a.bG).agg;rcases M with _|_;rotate_left
  ·refine⟨Y,by simp, ?_⟩
   rw[if_pos rfl];rw[aw,a_ dA];generalize il l=L at*;simp-implicitDefEqProofs [p, -aH,eZ,e,d,m,o,j,h]
  rcases N with _|_;rotate_left
  ·refine⟨Y,by simp, ?_⟩
   rw[if_pos rfl];rw[aw,a_ dA];generalize il l=L at*;simp-implicitDefEqProofs [p, -aH,eZ,e,d,m,o,j,h,b,s,r]
  by_cases E:a.raw.length<=300;rotate_left
  ·refine⟨Y,by simp, ?_⟩
   rw[if_pos rfl];rw[decide_eq_true (by omega)]at k;rw[aw,a_ dA];generalize il l=L at*;simp-implicitDefEqProofs [p, -aH,eZ,e,d,m,o,j,h,b,s,r,f,y,k]
  ·refine⟨g,λq x hx=>?_, ?_⟩
   ·rcases uW.1 hx with rfl|hx
    ·exact⟨⟨by have:=z rfl;omega,by have:=(v rfl).1;omega,(v rfl).2⟩,E⟩
    ·exact B q x hx
   ·rw[decide_eq_false (by omega)]at k
    rw[aw,a_ dA];generalize il l=L at*;simp-implicitDefEqProofs [p, -aH,eZ,e,d,m,o,j,h,b,s,r,f,y,k,rN];rw[aj dA];try simp at w
    simp-implicitDefEqProofs [-aH,t,w]
def GY(l:List aD)(hw:∀a∈l,a.Wf)(f:l.length<1000000)(S:G):∃g:Bool,DF F W 4 [il l] S=J (.B g,S)/\(g=O->l.length<=16/\∀a∈l,a.Flat/\a.raw.length<=300):=by
 have d:=uH l;have b:=ej (l.length:Int) 16;by_cases h:l.length<=16;rotate_left
 ·refine⟨Y, ?_,by simp⟩
  rw[decide_eq_true (by omega)]at b;rw[fO e_4];generalize il l=L at*;simp-implicitDefEqProofs [-aH,d,b]
 have⟨g,e,c⟩:=GX l hw h S l.length 0 (by omega);refine⟨g, ?_,λq=>⟨h,by simpa using e q⟩⟩;rw[decide_eq_false (by omega)]at b;rw[fO e_4];generalize il l=L at*;simp-implicitDefEqProofs [-aH,d,b];rw[aj dA];try simp at c
 cases g<;>simp-implicitDefEqProofs [-aH,c]
abbrev QG:db:=14
noncomputable def BP:Nat->List aD->K->H
 |_,[],rS=>.bL [.S rS,.aB]
 |i,a::l,rS=>if a.code=0 then BP (i+1) l (rS++(a.line++[10]))else .bL [.S [],fM a.code i]
noncomputable def oP(l:List aD):H:=if l.length<=200 then BP 0 l []else .bL [.S [],.eD 57 (.I V 3)]
structure Fit(l:List aD):Prop where
 wf:∀a∈l,a.Wf/\a.wv
 len:∀a∈l,a.code=0->a.line.length<=1000000
def QH{sz:Nat}:∀{l m:iI},gn sz l=gn sz m->l=m:=by intro l m h;cases l<;>cases m<;>simp_all[gn]
def QI{a b:aD}(h:a.aq=b.aq)(d:a.Wf/\a.wv)(e:b.Wf/\b.wv):a.eW=b.eW:=by have c:=uk a d.1 d.2 [];have f:=uk b e.1 e.2 [];rw[h,f]at c;simpa using c.symm
def NY{a b:aD}(h:a.eW=b.eW):a.code=b.code/\(a.code=0->a.line=b.line):=by
 unfold aD.eW at h;have d:∀n,n≠0->qy n≠.aB:=λn c=>by unfold qy;rw[if_neg c];nofun
 have f:∀n m,n≠0->m≠0->qy n=qy m->n=m:=λn m c g e=>by unfold qy at e;rw[if_neg c,if_neg g]at e;simpa using e
 by_cases x:a.code=0<;>by_cases y:b.code=0;·simp_all
 ·simp only[if_pos x,if_neg y,AV.bL.injEq,Oy,and_true]at h
  exact absurd h.2.symm (d _ y)
 ·simp only[if_neg x,if_pos y,AV.bL.injEq,Oy,and_true]at h
  exact absurd h.2 (d _ x)
 ·simp only[if_neg x,if_neg y,AV.bL.injEq,Oy,and_true]at h
  exact⟨f _ _ x y h.2,λk=>absurd k x⟩
def H9:∀(l m:List aD)(i:Nat)(d:K),l.map aD.aq=m.map aD.aq->(∀a∈l,a.Wf/\a.wv)->(∀a∈m,a.Wf/\a.wv)->BP i l d=BP i m d
 |[],[],_,_,_,_,_=>rfl
 |[],_::_,_,_,h,_,_=>by simp at h
 |_::_,[],_,_,h,_,_=>by simp at h
 |a::l,b::m,i,d,h,ha,hb=>by
  simp only[Ev,Oy]at h;have⟨c,k⟩:=NY (QI h.1 (ha a (by simp)) (hb b (by simp)));unfold BP;rw[<-c];by_cases x:a.code=0
  ·rw[if_pos x,if_pos x,k x]
   exact H9 l m _ _ h.2 (λy e=>ha y (by simp[e])) (λy e=>hb y (by simp[e]))
  ·rw[if_neg x,if_neg x]
def Me{l m:List aD}(h:il l=il m)(a:Fit l)(b:Fit m):oP l=oP m:=by
 have e:=QH h;have n:l.length=m.length:=by simpa using congrArg List.length e
 unfold oP;rw[n,H9 l m _ _ e a.wf b.wf]
def Mf:H->H
 |.sl _ sz es=>gn sz (es.map λ(c:bE)=>c.map bH)
 |.ao=>gn 35 []
 |v=>v
def Ut(args:List H)(l:List aD):Prop:=∃x,args=[x]/\aL x=Y/\Mf x=il l/\Fit l
open Classical in
noncomputable def rX(args:List H)(S:G):Option (H × G):=if h:∃l:List aD,Ut args l then J (oP h.choose,S)else D
def QD{x:H}(l:List aD)(e:aL x=Y)(a:Mf x=il l)(h:Fit l)(S:G):rX [x] S=J (oP l,S):=by have k:∃m:List aD,Ut [x] m:=⟨l,x,rfl,e,a,h⟩;unfold rX;rw[dif_pos k];obtain⟨y,b,_,c,d⟩:=k.choose_spec;obtain rfl:=(List.cons.inj b).1;rw[Me (a.symm.trans c).symm d h]
noncomputable def Ts:NK:=⟨λ_=>O,λf=>if f=QG then J rX else nk.jQ f⟩
def via{f:db}{args:List H}{S:G}{r:H × G}(h:DF F W f args S=J r):DF F Ts f args S=J r:=by
 refine aak (nk:=W) (nk':=Ts) (λ_=>rfl) (λf p e=>?_) (λf p e b=>?_) h
 ·show(if f=QG then J rX else nk.jQ f)=J p
  by_cases c:f=QG
  ·subst c
   have:nk.jQ QG=D:=rfl;rw[this]at e;cases e
  ·rw[if_neg c];exact e
 ·have a:(if f=QG then J rX else nk.jQ f)=J p:=b
  by_cases c:f=QG;·subst c;rfl
  ·rw[if_neg c,e]at a;cases a
def BN(f:db):Ts.jQ f=if f=14 then J rX else nk.jQ f:=rfl
def BO(f:db):Ts.ds f=O:=rfl
def JF(n:Int)(S:G):DF F W 8 [.eD 57 (.I V n)] S=J (.I V n,S):=by rw[fO e_8];simp[b9,my,XJ,ND,fE,aE,ck,cr,bO,nR,cR,bH,aI,cq]
def CM(S:G):DF F W 8 [.aB] S=J (.I V 0,S):=by have a:b9 .eql (.eD cC) Y .aB .aB=J (.B Y):=rfl;rw[fO e_8];simp-implicitDefEqProofs [a]
def NT(a o:aD):da 35 (List.replicate 2 ak) [(0,.A a.aq),(1,.A o.aq)]=J [a.aq,o.aq]:=by have e:fE (.A a.aq)=Y:=rfl;have f:fE (.A o.aq)=Y:=rfl;have g:=aD.kR a;have h:=aD.kR o;have i:aE (.A a.aq)=.A a.aq:=(aD.dx a).agg.aE;have j:aE (.A o.aq)=.A o.aq:=(aD.dx o).agg.aE;have c:(AV.A a.aq).cells=a.aq:=rfl;have d:(AV.A o.aq).cells=o.aq:=rfl;generalize a.aq=A,o.aq=B,ak=b at*;simp[da,e,f,g,h,i,j,c,d]
def JG(a o:aD)(e:a.Wf)(r:o.Wf)(p:a.wv)(S:G)(M:a.raw.length<9223372036854775808)
 (w1:∀X b,DF F Ts 5 [] (S++[X,b])=J (.B Y,S++[X,b]))
 (w2:∀X b d,DF F Ts 5 [] (S++[X,b,d])=J (.B Y,S++[X,b,d])):
 DF F Ts 3 [.A a.aq,.A o.aq] S=J (.B Y,S):=by
 have j:=NT a o;have⟨g,h,hg⟩:=GY [a,o] (λx hx=>by rcases uW.1 hx with rfl|hx;exact e;rw[s9.1 hx];exact r) (by simp) (S++[.M a.aq [] O,.M o.aq [] O]);have h:=via h;have m:∀T,ck T (.sl .X 35 [a.aq,o.aq])=J (.sl .X 35 [a.aq,o.aq]):=λ_=>rfl;have w:∀T,cr T (.sl .X 35 [a.aq,o.aq])=T:=λ_=>rfl;have C:∀T E,bO T E (.sl .X 35 [a.aq,o.aq])=E:=λ_ _=>rfl;have y:cR (.sl .X 35 [a.aq,o.aq])=il [a,o]:=rfl;rw[jy e_3];try simp only[List.replicate]at j
 cases g with
 |true=>
  generalize ak=d,il [a,o]=L at*;simp-implicitDefEqProofs [BN,BO, -aH,j,m,w,C,y,cy,b6,h,w1]
 |false=>
  have⟨_,hf⟩:=hg rfl;have⟨fa,ra⟩:=hf a (by simp);have f:=λT=>via (uk a e p T);have i:=λT=>via (NS a e fa p T);have Q:=λT=>via (iH a o e.cp r.cp T);have R:=λT=>via (F6 a o e.cp r.cp M T);have z:=λT=>via (iH a a e.cp e.cp T);rw[show same a a=Y from zw a]at z;have I:∀q,b9 .neq .B O (.B q) (.B q)=J (.B O):=λq=>by simp
  have P:=mB;have b1:b9 .eql (.eD cC) Y .aB .aB=J (.B Y):=rfl;unfold aD.eW at f;unfold aD.gj at i;by_cases k:a.code=0
  ·rw[if_pos k]at f i
   have A:∀t,aI t (.bL [.S a.line,.aB])=(.bL [.S a.line,.aB],t):=λ_=>rfl;have B:∀t,aI t (.bL [.S a.line,.I V 0])=(.bL [.S a.line,.I V 0],t):=λ_=>rfl;have l:=λT=>via (CM T);have u:aH .neq (.I V 0) (.I V 0)=J (.B O):=rfl;have v:bT .neq (.S a.line) (.S a.line)=J (.B O):=by show J (AV.B (!(a.line==a.line)))=_;simp
   have pr:=λT=>via (JH a e p k T);have t3:∀t,aI t (.bL [.A a.aq,.aB])=(.bL [.A a.aq,.aB],t):=λ_=>rfl;have U:=λT=>via (F6 a a e.cp e.cp M T);rw[show same a a=Y from zw a]at U;have N:ak.length=35:=rfl;have st:∀X b,aY [] S.length (S++[X,b,.M ak [] O]) 35 (.P (S.length+2) 0) (.A a.aq)=J ([],S++[X,b,.M a.aq [] O]):=λX b=>by rw[nK (S:=S) rfl (aD.dx a).aL];simp[N,aT]
   generalize ak=d,il [a,o]=L,a.line=s,same a o=q at*;simp-implicitDefEqProofs [BN,BO,P, -aH, -bT,j,m,w,C,y,cy,b6,h,f,A,bW,i,B,l,u,v,Q,R,I,z,bb,pr,t3,st,N,b1,U,w2]
  ·rw[if_neg k]at f i
   rw[show qy a.code=.eD 57 (.I V (a.code:Int))from if_neg k]at f;have A:∀t,aI t (.bL [.S [],.eD 57 (.I V (a.code:Int))])=(.bL [.S [],.eD 57 (.I V (a.code:Int))],t):=λ_=>rfl;have B:∀t,aI t (.bL [.S [],.I V (a.code:Int)])=(.bL [.S [],.I V (a.code:Int)],t):=λ_=>rfl;have gi:∀T n,ck T (.eD 57 (.I V n))=J (.eD 57 (.I V n)):=λ_ _=>rfl;have l:=λT=>via (JF (a.code:Int) T);have u:aH .neq (.I V (a.code:Int)) (.I V (a.code:Int))=J (.B O):=by rw[bI];simp
   have k1:aH .neq (.I V (a.code:Int)) (.I V 0)=J (.B Y):=by rw[bI,decide_eq_true (by omega)]
   have v:bT .neq (.S []) (.S [])=J (.B O):=rfl;generalize ak=d,il [a,o]=L,(a.code:Int)=c,same a o=q at*;simp-implicitDefEqProofs [BN,BO,P, -aH, -bT,j,m,w,C,y,cy,b6,h,f,A,bW,i,B,gi,l,u,k1,v,Q,R,I,z,bb,w1]
def F8:aD:=⟨3,0,1,0,rG,jo,[]⟩
def NU:aD:=⟨4,0,0,0,rG,jo,[]⟩
def H6(n:Nat)(h:n<10):dec n=[IY n]:=by rw[dec,dif_pos h]
def H7:F8.line=[115,121,110,99,32,48,32,49]:=by simp[aD.line,aD.av,F8,b8,cN,cO,aU,H6,fL];decide
def Ma:NU.line=[100,101,108,105,118,101,114,32,48]:=by simp[aD.line,aD.av,NU,b8,cN,cO,aU,H6,fL];decide
def QC:F8.code=0:=by simp[aD.code,aD.cL,F8,cN,cO,zw]
def Ul:NU.code=0:=by simp[aD.code,aD.cL,NU,cN,cO,zw]
def aae:Fit [F8,NU]:=by
 have c:ny.Wf:=.mk _ ⟨by decide,by decide,by decide,by decide,by decide,by decide,by nofun,by decide,by nofun,by decide⟩ (by nofun);have d:(bw.mk 0 [] []).Wf:=.mk _ ⟨by decide,by decide,by decide,by nofun,by decide⟩ (by nofun);have b:rG.Wf/\jo.Wf:=by refine⟨⟨by decide,by decide,by decide,by nofun,by decide,by decide,by decide,by decide,c⟩,.mk _ ⟨by decide,by decide,by decide,by decide,d,c,c,by decide,by nofun,by decide⟩ (by nofun)⟩
 refine⟨λa h=>?_,λa h _=>?_⟩
 ·simp only[uW,HH,or_false]at h
  rcases h with rfl|rfl;·exact⟨⟨b.1,b.2⟩,⟨by decide,by decide,by decide,by decide,by decide,by decide⟩⟩
  ·exact⟨⟨b.1,b.2⟩,⟨by decide,by decide,by decide,by decide,by decide,by decide⟩⟩
 ·simp only[uW,HH,or_false]at h
  rcases h with rfl|rfl;·rw[H7];decide
  ·rw[Ma];decide
def Um:oP [F8,NU]=.bL [.S [115,121,110,99,32,48,32,49,10,100,101,108,105,118,101,114,32,48,10],.aB]:=by unfold oP;rw[if_pos (by decide)];unfold BP;rw[if_pos QC];unfold BP;rw[if_pos Ul];unfold BP;rw[H7,Ma];rfl
def H8(S:G):DF F Ts 5 [] S=J (.B Y,S):=by
 have c:da 35 (List.replicate 2 ak) [(0,.A ((ak.set 0 (.I V 3)).set 2 (.I V 1))),(1,.A (ak.set 0 (.I V 4)))]=J [(ak.set 0 (.I V 3)).set 2 (.I V 1),ak.set 0 (.I V 4)]:=rfl;have d:=λT=>QD (x:=.sl .X 35 [(ak.set 0 (.I V 3)).set 2 (.I V 1),ak.set 0 (.I V 4)]) [F8,NU] rfl rfl aae T;rw[Um]at d;have e:b9 .eql (.eD cC) Y .aB .aB=J (.B Y):=rfl;have f:bk ak [(0,1,.I V 3),(2,1,.I V 1)]=J ((ak.set 0 (.I V 3)).set 2 (.I V 1)):=rfl;have g:bk ak [(0,1,.I V 4)]=J (ak.set 0 (.I V 4)):=rfl;generalize(ak.set 0 (.I V 3)).set 2 (.I V 1)=A,ak.set 0 (.I V 4)=B at*;have h:∀T,ck T (.sl .X 35 [A,B])=J (.sl .X 35 [A,B]):=λ_=>rfl;have j:∀T,cr T (.sl .X 35 [A,B])=T:=λ_=>rfl;have l:∀T b,bO T b (.sl .X 35 [A,B])=b:=λ_ _=>rfl;generalize i:([115,121,110,99,32,48,32,49,10,100,101,108,105,118,101,114,32,48,10]:K)=s at*;have k:∀t,aI t (.bL [.S s,.aB])=(.bL [.S s,.aB],t):=λ_=>rfl;rw[rn0 e_5,i];try simp only[List.replicate]at c
 generalize ak=a at*;simp-implicitDefEqProofs [BN,BO,f,g,c,h,j,l,d,k,bW,e]
def LF(a o:aD)(b:a.Wf)(d:o.Wf)(c:a.wv)(e:a.raw.length<9223372036854775808):DF F Ts 3 [.A a.aq,.A o.aq] []=J (.B Y,[]):=
 JG a o b d c [] e (λ_ _=>H8 _) (λ_ _ _=>H8 _)
section
open Go.Lib
def Cw{base:Nat}{a7:Nat->Prop}{ad:bY}{S:G}{w w':bm}{mu:ky}{hw hw':Nat->Nat}{ti:Id->TI}(N:EV=O)(I:Inv base a7 ad S w mu hw ti)(C:Below w.heap.size w w')
 (q:∀b,b<w.heap.size->hw' b=hw b) (B:∀b,w'.heap.size<=b->hw' b=0):
 Inv base a7 ad S w' mu hw' ti/\Ext base a7 S w mu hw S w' mu hw':=by
 have⟨s,t,u,x,j⟩:=C
 have p:∀b,hw b<=hw' b:=λb=>by
  rcases p7 b w.heap.size with h|h;·simp_all
  ·rw[I.qX b h];omega
 have e:Ext base a7 S w mu hw S w' mu hw':=by refine⟨λ_ _ h=>h,p,λ_ h=>h,λb o v _ h=>?_,λb h=>⟨j b (I.kA b h),q b (I.kA b h)⟩,⟨⟨s,t,u,x,λk P=>j k (by have:=I.lK;omega)⟩,λh=>by trivial⟩,eE _⟩;rw[Ed (j b (World.block_lt_of_cell? w _ h)) o];exact h
 refine⟨⟨λi z b n m=>(I.nW i z b n m).ext e (j _ (I.iF i b m).2.2.1),λi g y l b n m E A r=>I.nS i g y l b n m E A (by rw[<-j _ (I.iF i b m).2.2.1];exact r),I.qW,λi b h=>?_,B,λid L h=>?_,I.nT,λb h=>by have:=I.kA b h;omega,by have:=I.lK;omega,e.U1 I.qY⟩,e⟩
 ·have⟨a,M,c,d,f⟩:=I.iF i b h
  grind
 ·have⟨a,b⟩:=I.si id L h
  exact⟨a.ds (q _ a.lt) (j _ a.lt),b⟩
def Fw:EV=O:=rfl
def wm{f:db}{fn:Func}(h:Tryz.prog.funcs[f]? =J fn)(a:fn.body.isSome=Y):∃fn c,Tryz.prog.funcs[f]? =J fn/\fn.body=J c:=by grind [Option.isSome_iff_exists]
def tt{S:G}{r:H}(h:ax r=Y):S.length<=S.length/\iu S.length (λk=>bN (S.length<=k)) r=Y/\eG S.length S S/\N5 S.length S:=
 ⟨eE _,mL h _ _,eG.refl _ _,λi b a l d c=>by simp_all⟩
def oW{P:bX}{base:Nat}{a7:Nat->Prop}{S:G}{w w':bm}{mu:ky}{hw:Nat->Nat}{ti:Id->TI}{r:H}{v:aX}(I:Inv base a7 [] S w mu hw ti)(c:Below w.heap.size w w')
 (j:∀mu hw lk,RV w' mu hw lk r v) (a:aI [] r=(r,[])) (g:∀k ti,dj k ti r v):G9 P base a7 S w mu hw ti r S (.returned v) w':=by
 obtain⟨d,e⟩:=Cw (hw':=hw) Fw I c (λ_ _=>rfl) (λb h=>I.qX b (nh c.size h));refine⟨v,rfl,mu,hw,ti, ?_,e, ?_, ?_, ?_,λi f _=>⟨rfl,f⟩⟩;·rw[a];exact d
 ·rw[a];exact gX.refl _ _
 ·rw[a];exact j _ _ _
 ·rw[a];exact g _ _
abbrev Zu:db:=195
def GJ(l:K)(c:Int)(i:0<=c)(j:c<256):∀k:Nat,Cx l c k=if indexByte l c.toNat.toUInt8= -1 then-1 else indexByte l c.toNat.toUInt8+k:=by
 induction l with
 |nil=>intro k;simp[Cx,indexByte]
 |cons b l g=>
  intro k;have d:((b==c.toNat.toUInt8)=Y)↔(b.toNat:Int)=c:=by
   rw[beq_iff_eq];constructor
   ·rintro rfl
    simp[Nat.toUInt8,xY];omega
   ·intro e
    apply UInt8.toNat_inj.1;simp[Nat.toUInt8,xY];omega
  unfold Cx indexByte;rw[g (k+1)];by_cases e:(b.toNat:Int)=c;·simp[e,d.2 e]
  ·have f:¬(b==c.toNat.toUInt8)=Y:=λh=>e (d.1 h)
   rw[if_neg e,if_neg f];by_cases a:indexByte l c.toNat.toUInt8= -1;·simp[a]
   ·have:¬(indexByte l c.toNat.toUInt8== -1)=Y:=by simpa using a
    rw[if_neg a,if_neg this];have m:=indexByte_ge l c.toNat.toUInt8;rw[if_neg (by omega)];omega
def VR:iL cB (λg b S=>if g=Zu then pQ b S else D):=by
 intro f b S r x h i m w z y B a I t j;simp only at h;split at h;case isFalse=>cases h
 rename_i p;subst p;refine⟨wm Tryz.func195 (by kernel_rfl), ?_⟩;unfold pQ at h;split at h;case h_2=>cases h
 rename_i s c;split at h;case isFalse=>cases h
 rename_i l;cases h;obtain⟨C,n,u,_⟩:=j 0 _ rfl;obtain⟨E,o,v,_⟩:=j 1 _ rfl;cases u with
 |str s=>
 cases v with
 |int=>
 have d:a= #[.string s,.int .u8 c]:=by
  apply Ab;intro k;match k with
  |0=>simpa using n
  |1=>simpa using o
  |k+2=>
   have:a.size=2:=by simpa using t.symm
   rw[uY (by omega)];simp
 subst d;refine(Any.stringslite_IndexByte Tryz.VQ s c w).mono λe L A=>?_;obtain⟨rfl,rfl⟩:=A;have q:Cx s.data.toList c 0=indexByte s.data.toList c.toNat.toUInt8:=by
  rw[GJ _ _ l.1 l.2];split;·rename_i e;exact e.symm
  ·simp
 rw[q];exact oW I (Below.refl _ _) (λ_ _ _=>.int _ _) rfl (λ_ _=>trivial)
def VS:fZ (λg a S=>if g=Zu then pQ a S else D):=by
 intro f a S r b h;simp only at h;split at h;case isFalse=>cases h
 unfold pQ at h;split at h;case h_2=>cases h
 split at h;case isFalse=>cases h
 cases h;exact tt rfl
abbrev Qc:db:=22
def AH(a:K):∀l:List (K),fL a l=Go.Lib.join l a
 |[]=>rfl
 |[s]=>by simp[fL,Go.Lib.join_one]
 |s::t::r=>by
  have:=AH a (t::r);rw[fL,this];·simp[Go.Lib.join,List.intercalate_cons_cons]
  ·simp
def Dk:∀(es:List (List H))(l:List (K)),yV es=J l->es=l.map λs=>[.S s]
 |[],l,h=>by simp[yV]at h;subst h;rfl
 |c::r,l,h=>by
  unfold yV at h;split at h;·cases‹c::r=[]›
  ·rename_i s d e
   cases e;simp only[ng]at h;obtain⟨b,a,rfl⟩:=h;rw[Dk r b a];rfl
  ·cases h
def abx(l:K):ByteArray:=⟨l.toArray⟩
def abK(l:K):(abx l).data.toList=l:=rfl
def XK{x:ByteArray}{s:K}(h:x.data.toList=s):x=abx s:=by subst h;cases x;rfl
def Tl:iL cB (λg N S=>if g=Qc then vm N S else D):=by
 intro f N S r S' h P R w mu hw ti d I hl ha;simp only at h;split at h;case isFalse=>cases h
 rename_i hf;subst hf;refine⟨wm Tryz.func22 (by kernel_rfl), ?_⟩;unfold vm at h;split at h
 ·rename_i n
  cases h;obtain⟨v0,h0,r0,_⟩:=ha 0 _ rfl;obtain⟨v1,h1,r1,_⟩:=ha 1 _ rfl;cases r0 with
  |ao=>
  cases r1 with
  |str c=>
  have X:d= #[.slice D 0 0,.string c]:=by
   apply Ab;intro k;match k with
   |0=>simpa using h0
   |1=>simpa using h1
   |k+2=>
    have:d.size=2:=by simpa using hl.symm
    rw[uY (by omega)];simp
  subst X;refine(Any.strings_Join_none Tryz.zB Tryz.iA D 0 c w).mono λe w' A=>?_;obtain⟨rfl,rfl⟩:=A;exact oW I (Below.refl _ _) (λmu hw lk=>.str (w:=w') (mu:=mu) (hw:=hw) (lk:=lk) ⟨#[]⟩) rfl (λ_ _=>trivial)
 rotate_left;·cases h
 rename_i rr sz es n;split at h;case h_2=>cases h
 rename_i l X3;split at h;case isFalse=>cases h
 rename_i hc;cases h;obtain⟨v0,h0,r0,_⟩:=ha 0 _ rfl;obtain⟨v1,h1,r1,_⟩:=ha 1 _ rfl;have m:=Dk es l X3
 have fin:∀(v:aX)(c:ByteArray),c.data.toList=n->d[0]? =J v->d[1]? =J (.string c)->(∀x:bm,x=w->Calls cB Qc #[v,.string c] x λe w'=>e=.returned (.string ⟨(fL n l).toArray⟩)/\Below w.heap.size w w')->
  Calls cB Qc d w (G9 cB P R S w mu hw ti (.S (fL n l)) S):=by
  intro v c hs e0 e1 L;have X:d= #[v,.string c]:=by
   apply Ab;intro k;match k with
   |0=>simpa using e0
   |1=>simpa using e1
   |k+2=>
    have:d.size=2:=by simpa using hl.symm
    rw[uY (by omega)];simp
  subst X;refine(L w rfl).mono λe w' A=>?_;obtain⟨rfl,hb⟩:=A;exact oW I hb (λmu hw lk=>.str (w:=w') (mu:=mu) (hw:=hw) (lk:=lk) ⟨(fL n l).toArray⟩) rfl (λ_ _=>trivial)
 generalize hx:AV.S n=x at r1;cases r1 with
 |str c=>
  have B:c.data.toList=n:=by cases hx;rfl
  have u:l=[]->∀(p:Option Addr)(i:Nat),v0=.slice p 0 i->Calls cB Qc d w (G9 cB P R S w mu hw ti (.S (fL n l)) S):=by intro hl0 p i hv0;subst hl0 hv0;refine fin _ c B h0 h1 λx hx=>?_;subst hx;refine(Any.strings_Join_none Tryz.zB Tryz.iA p i c x).mono λe w' A=>?_;obtain⟨rfl,rfl⟩:=A;exact⟨rfl,Below.refl _ _⟩
  generalize hy:AV.sl rr sz es=y at r0;cases r0 with
  |emp Ao p i=>
   cases hy;exact u (by simpa using m.symm) p i rfl
  |rK Ao p=>
   cases hy;exact u (by simpa using m.symm) p 0 rfl
  |sl r' Ao es' b o len i f hh hr hb hl' hs hh1 hh2=>
   cases hy;have Q:es.length=l.length:=by rw[m];simp
   by_cases M:l=[]
   ·refine u M (J ⟨b,o,D⟩) i ?_
    rw[hh.1,Q,M];rfl
   ·have DH:sz=1:=by
     cases E:l with
     |nil=>exact absurd E M
     |cons a t=>
      have:=hs 0 [.S a] (by rw[m,E];rfl);simpa using this.symm
    subst DH;have C:∀(j:Nat) x,(l.map abx)[j]? =J x->w.cell? ⟨b,o+j,D⟩=J (.string x):=by
     intro j x hj;simp only[uV,ng]at hj;obtain⟨s,hs',rfl⟩:=hj;have he:es[j]? =J [.S s]:=by rw[m];simp[hs']
     obtain⟨_,_,T⟩:=hh1 j _ 0 _ he rfl;have U:=hh2 j _ 0 _ he rfl;generalize f j 0=z at T U;generalize hq:AV.S s=q at U;cases U with
     |str t=>
      cases hq;rw[Nat.mul_one,Nat.add_zero]at T;rw[T,<-XK (x:=t) rfl]
     |_=>cases hq
    have hbk:b<w.heap.size:=by
     cases E:l with
     |nil=>exact absurd E M
     |cons a t=>exact World.block_lt_of_cell? w _ (C 0 (abx a) (by rw[E];rfl))
    have hmm:(l.map abx).map (·.data.toList)=l:=by
     rw[List.map_map];conv=>rhs;rw[<-List.map_id l]
     exact Hl λx _=>rfl
    have hL:(l.map abx).length=len:=by rw[List.length_map,hh.1,Q]
    have UG:=Any.strings_Join Tryz.zB Tryz.iA b o i (l.map abx) c w C hbk (by simp;omega) (by rw[hL];exact hh.2.1) (by rw[hmm,B,<-AH];omega);rw[hmm,B,<-AH,hL]at UG;exact fin _ c B h0 h1 λx hx=>by subst hx;exact UG
  |_=>cases hy
 |_=>cases hx
def Tm:fZ (λg a S=>if g=Qc then vm a S else D):=by
 intro f a S r b h;simp only at h;split at h;case isFalse=>cases h
 unfold vm at h;split at h
 ·cases h
  exact tt rfl
 rotate_left;·cases h
 split at h;case h_2=>cases h
 split at h;case isFalse=>cases h
 cases h;exact tt rfl
def VT{lk:Nat->Prop}{w:bm}{mu:ky}{hw:Nat->Nat}{S:G}{ti:Id->TI}{s:K}{c:nd}(h:1=c.size)
 (g:∀(j:Nat)(a:H),[AV.S s][j]? =J a->∃v,c[j]? =J v/\RV w mu hw lk a v/\dj (ba [] S mu) ti a v):∃b:ByteArray,b.data.toList=s/\c= #[.string b]:=by
 obtain⟨i,f,e,_⟩:=g 0 _ rfl;generalize d:AV.S s=x at e;cases e with
 |str b=>
  refine⟨b,by cases d;rfl, ?_⟩;apply Ab;intro k;match k with
  |0=>simpa using f
  |k+1=>
   have:c.size=1:=h.symm;rw[uY (by omega)];simp
 |_=>cases d
abbrev CNT:db:=125
def HO(c:UInt8):∀l:K,tu c l=countByte l c
 |[]=>rfl
 |b::r=>by
  have:=HO c r;unfold countByte at this⊢;rw[tu,List.count_cons,<-this];by_cases h:b=c;·rw[if_pos h,if_pos (by simp[h])]
  ·rw[if_neg h,if_neg (by simpa using h)];rfl
def Qd:iL cB (λg i S=>if g=CNT then countP i S else D):=by
 intro f i S r M h l p w P N Q d I L m;simp only at h;split at h;case isFalse=>cases h
 rename_i E;subst E;refine⟨wm Tryz.func125 (by kernel_rfl), ?_⟩;unfold countP at h;split at h;case h_2=>cases h
 rename_i s c;cases h;obtain⟨R,z,q,_⟩:=m 0 _ rfl;obtain⟨T,B,t,_⟩:=m 1 _ rfl;generalize n:AV.S s=x at q;generalize o:AV.S [c]=y at t;cases q with
 |str a=>
  cases t with
  |str b=>
   have u:a.data.toList=s:=(AV.S.inj n).symm;have v:b.data.toList=[c]:=(AV.S.inj o).symm;have j:d= #[.string a,.string ⟨#[c]⟩]:=by
    have C:b=⟨#[c]⟩:=XK v;rw[<-C];apply Ab;intro k;match k with
    |0=>simpa using z
    |1=>simpa using B
    |k+2=>
     have:d.size=2:=by simpa using L.symm
     rw[uY (by omega)];simp
   subst j;refine(Any.strings_Count_one Tryz.VP a c w).mono λe U A=>?_;obtain⟨rfl,rfl⟩:=A;rw[HO,<-u];exact oW I (Below.refl _ _) (λ_ _ _=>.int _ _) rfl (λ_ _=>trivial)
  |_=>cases o
 |_=>cases n
def Qe:fZ (λg a S=>if g=CNT then countP a S else D):=by
 intro f a S r b h;simp only at h;split at h;case isFalse=>cases h
 unfold countP at h;split at h;case h_2=>cases h
 cases h;exact tt rfl
abbrev FMT:db:=98
def VU:iL cB (λg b S=>if g=FMT then Je b S else D):=by
 intro f b S r y h d l w mu hw C a I s i;simp only at h;split at h;case isFalse=>cases h
 rename_i p;subst p;refine⟨wm Tryz.func98 (by kernel_rfl), ?_⟩;unfold Je at h;split at h;case h_2=>cases h
 rename_i n;split at h;case isFalse=>cases h
 rename_i j;cases h;obtain⟨E,m,v,_⟩:=i 0 _ rfl;obtain⟨L,o,x,_⟩:=i 1 _ rfl;cases v with
 |int=>
 cases x with
 |int=>
 have c:a= #[.int V n,.int V 10]:=by
  apply Ab;intro k;match k with
  |0=>simpa using m
  |1=>simpa using o
  |k+2=>
   have:a.size=2:=by simpa using s.symm
   rw[uY (by omega)];simp
 subst c;have u:TabIs cB w "internal/strconv.uint64pow10" bh pow10Tab:=by obtain⟨_,t,z,q⟩:=I.qY.2.2 1 _ (List.mem_cons_self ..);unfold TabIs World.var?;rw[show Tryz.prog.globalNamed "internal/strconv.uint64pow10" =J 1 by kernel_rfl];simp only[J7,q]
 refine(Any.internal_strconv_FormatInt_10 Tryz.Tj n j.1 j.2 w u).mono λe M A=>?_;obtain⟨rfl,k,B,rfl⟩:=A;rw[Qf];exact oW I (below_grow _ _ (eE _) _ _) (λmu hw lk=>.str (mu:=mu) (hw:=hw) (lk:=lk) ⟨(itoa n).toArray⟩) rfl (λ_ _=>trivial)
def VV:fZ (λg a S=>if g=FMT then Je a S else D):=by
 intro f a S r b h;simp only at h;split at h;case isFalse=>cases h
 unfold Je at h;split at h;case h_2=>cases h
 split at h;case isFalse=>cases h
 cases h;exact tt rfl
abbrev Zv:db:=89
def Tn:iL cB (λg d S=>if g=Zv then Bx 215 d S else D):=by
 intro f d S r N h m o w E C L l I y q;simp only at h;split at h;case isFalse=>cases h
 rename_i v;subst v;refine⟨wm Tryz.func89 (by kernel_rfl), ?_⟩;unfold Bx at h;split at h;case h_2=>cases h
 rename_i s;split at h;case isFalse=>cases h
 rename_i z;obtain⟨b,rfl,rfl⟩:=VT (by simpa using y) q;have B:b.size<=1073741824:=by rw[Go.Lib.size_eq];exact z
 cases i:Go.Lib.atoiAll b.data.toList with
 |ok n=>
  rw[i]at h;cases h;refine(Any.strconv_Atoi_ok Tryz.Tk b (by omega) n i w).mono λe M A=>?_;obtain⟨rfl,k⟩:=A;have u:Below w.heap.size w M:=by
   rcases k with rfl|⟨t,rfl⟩;·exact Below.refl _ _
   ·exact bytesWorld_below _ _ _
  exact oW I u (λE C Q=>.bL _ (λ|0=>.int V n|_=>.nilIface) λj a c=>by
   match j,c with
   |0,c=>cases c;exact .int _ _
   |1,c=>cases c;exact .aB
   |j+2,c=>simp at c) rfl (λR L p e j a x c P=>by
   match j,c with
   |0,c=>cases c;trivial
   |1,c=>cases c;trivial
   |j+2,c=>simp at c)
 |_=>rw[i]at h;cases h
def To:fZ (λg a S=>if g=Zv then Bx 215 a S else D):=by
 intro f a S r b h;simp only at h;split at h;case isFalse=>cases h
 unfold Bx at h;split at h;case h_2=>cases h
 split at h;case isFalse=>cases h
 split at h
 ·cases h
  exact tt rfl
 ·cases h
abbrev ASF:db:=34
abbrev TE:bA:=57
abbrev TP:bA:=75
def Zw:iL cB (λg c S=>if g=ASF then XJ TP TE c S else D):=by
 intro f c S r S' h base a7 w mu hw ti a I hl ha;simp only at h;split at h;case isFalse=>cases h
 rename_i hf;subst hf;refine⟨wm Tryz.func34 (by kernel_rfl), ?_⟩;unfold XJ at h;split at h;case h_2=>cases h
 rename_i e t i;split at h;case isFalse=>cases h
 rename_i U;subst U;split at h;case h_2=>cases h
 rename_i n m bt q hS;cases h;unfold ND at q;split at q;case h_2=>cases q
 rename_i t n2;split at q;case isFalse=>cases q
 rename_i U;cases q;subst U;obtain⟨v0,h0,r0,_⟩:=ha 0 _ rfl;obtain⟨v1,h1,r1,_⟩:=ha 1 _ rfl;cases r0 with
 |eD _ _ v0 _ r0=>
 cases r0 with
 |int=>
 cases r1 with
 |eD _ _ v1 _ r1=>
 cases r1 with
 |ptr _ _ b M=>
 have X:a= #[.iface TE (.int V n),.iface TP (cP (J ⟨b,0,D⟩))]:=by
  apply Ab;intro k;match k with
  |0=>simpa using h0
  |1=>simpa using h1
  |k+2=>
   have:a.size=2:=by simpa using hl.symm
   rw[uY (by omega)];simp
 subst X;obtain⟨vs,el,o,R⟩:=I.nW i _ b hS M;obtain⟨di,B,C,dhw,L⟩:=I.iF i b M;obtain⟨hg1,N⟩:=I.qY.2.1 0 _ (List.mem_cons_self ..);obtain⟨_,y,hy,hry⟩:=R.2 0 _ rfl;have j:w.cell? ⟨b,0,D⟩=J y:=by rw[eP o];exact hy
 have s:w.frozen? ⟨b,0,D⟩=O:=by simp[World.frozen?,o]
 refine(Zj n ⟨b,0,D⟩ y w N j s).mono λe w' A=>?_;obtain⟨rfl,rfl⟩:=A;have z:Below w.heap.size w ((((w.alloc (.cells #[cP (J ⟨b,0,D⟩)] 75)).alloc (.cells #[cP (J ⟨9,75,D⟩),cP (J ⟨w.heap.size,0,D⟩),.int bh 150] 125)).alloc (.cells #[cP (J ⟨9,75,D⟩),cP (J ⟨w.heap.size,0,D⟩),.int bh 150] 125)).alloc (.cells #[.int V n] 57)):=
  ((((Below.refl _ w).alloc (eE _) _).alloc (by simp) _).alloc (by simp;omega) _).alloc (by simp;omega) _
 generalize((((w.alloc (.cells #[cP (J ⟨b,0,D⟩)] 75)).alloc (.cells #[cP (J ⟨9,75,D⟩),cP (J ⟨w.heap.size,0,D⟩),.int bh 150] 125)).alloc (.cells #[cP (J ⟨9,75,D⟩),cP (J ⟨w.heap.size,0,D⟩),.int bh 150] 125)).alloc (.cells #[.int V n] 57))=w1 at z;obtain⟨I1,e1⟩:=Cw Fw I z (λ_ _=>rfl) (λb h=>I.qX b (nh z.size h));have v:w1.heap[b]? =J (.cells vs el (0,0)):=by rw[z.block b C];exact o
 have u:gD cB TE=J 1:=by kernel_rfl
 have he:ku cB ⟨[],[],0⟩ S TE (.P i 0) (.I V n)=J ([],S.set i (.M [.I V n] bt O)):=by simp[ku,u,hS,fE,AV.cells,aE,aL,im]
 obtain⟨w2,d,T⟩:=xQ (P:=cB) I1 (E:=⟨[],[],0⟩) rfl (t:=TE) (p:=.P i 0) (x:=.I V n) (vp:=cP (J ⟨b,0,D⟩)) (vx:=.int V n) (.ptr i 0 b M) (.int _ _) trivial he;have hvl:0<vs.size:=by
  rcases p7 0 vs.size with h|h;·exact h
  ·rw[uY h]at hy;cases hy
 have l:=tK (P:=cB) (w:=w1) (t:=TE) (b:=b) (off:=0) (n:=1) (x:=.int V n) u rfl (by simp[Value.cells];rfl) v (by omega);have QQ:w2=w1.setCell ⟨b,0,D⟩ (.int V n):=by rw[l]at d;have:=(Result.ok.inj d).2;rw[<-this];rfl
 subst QQ;obtain⟨mu',hw',ti',I2,e2,lv2,_,_,Q⟩:=T .nilIface;refine⟨.bool Y,rfl,mu',hw',ti', ?_,e1.trans e2, ?_, ?_, ?_, ?_⟩;·exact I2
 ·exact lv2
 ·exact .bool Y
 ·trivial
 ·exact Q
def Zx:fZ (λg a S=>if g=ASF then XJ TP TE a S else D):=by
 intro f a S r o h;simp only at h;split at h;case isFalse=>cases h
 unfold XJ at h;split at h;case h_2=>cases h
 rename_i e t i;split at h;case isFalse=>cases h
 split at h;case h_2=>cases h
 rename_i n m d s l;cases h;have c:=eG.write (nb:=S.length) (off:=0) (bt':=d) (l':=O) (new:=[.I V n]) l (.inr λm q _=>qw m q _ (by simp[bF,aL]));rw[aT (cs:=[AV.I V m]) (vs:=[AV.I V n]) rfl]at c;refine⟨by simp,mL rfl _ _,c,λk j bt' l' p b=>?_⟩;have:=dT b;simp at this;omega
def Tp:xU cB W:=by
 have a:∀f p,nk.jQ f=J p->(f=ASF/\p=XJ TP TE)\/(f=FMT/\p=Je)\/(f=Zu/\p=pQ)\/(f=Zv/\p=Bx 215)\/(f=CNT/\p=countP)\/(f=Qc/\p=vm):=by
  intro f p h;simp only[W,Ti,List.lookup]at h;split at h;·rename_i e;cases h;exact .inl ⟨by simpa using e,rfl⟩
  split at h;·rename_i e;cases h;exact .inr (.inl ⟨by simpa using e,rfl⟩)
  split at h;·rename_i e;cases h;exact .inr (.inr (.inl ⟨by simpa using e,rfl⟩))
  split at h;·rename_i e;cases h;exact .inr (.inr (.inr (.inl ⟨by simpa using e,rfl⟩)))
  split at h;·rename_i e;cases h;exact .inr (.inr (.inr (.inr (.inl ⟨by simpa using e,rfl⟩))))
  split at h;·rename_i e;cases h;exact .inr (.inr (.inr (.inr (.inr ⟨by simpa using e,rfl⟩))))
  ·cases h
 refine⟨λf p h=>?_,λf p h=>?_⟩
 ·rcases a f p h with⟨rfl,rfl⟩|⟨rfl,rfl⟩|⟨rfl,rfl⟩|⟨rfl,rfl⟩|⟨rfl,rfl⟩|⟨rfl,rfl⟩
  ·exact Zw
  ·exact VU
  ·exact VR
  ·exact Tn
  ·exact Qd
  ·exact Tl
 ·rcases a f p h with⟨rfl,rfl⟩|⟨rfl,rfl⟩|⟨rfl,rfl⟩|⟨rfl,rfl⟩|⟨rfl,rfl⟩|⟨rfl,rfl⟩
  ·exact Zx
  ·exact VV
  ·exact VS
  ·exact To
  ·exact Qe
  ·exact Tm
end
section
open Go.Lib
abbrev Ww(W:bm)(hw:Nat->Nat):H->aX->Prop:=RV W (λ_=>D) hw (λ_=>False)
def aan:Tryz.prog.follows .mixedOrders=Y:=by kernel_rfl
def Mg(w:bm)(hw:Nat->Nat)(r:H)(e:Ending)(w':bm):Prop:=
 ∃v hw',e=.returned v/\Below w.heap.size w w'/\(∀b,b<w.heap.size->hw' b=hw b)/\(∀b,w'.heap.size<=b->hw' b=0)/\Ww w' hw' r v
def Gd{f:db}{c:bE}{r:H}(h:DF F nk f c []=J (r,[])){base:Nat}{W:bm}{hw:Nat->Nat}(u:Kn base W hw)(d:base<=W.heap.size)(B:∀b,W.heap.size<=b->hw b=0){args:nd}(y:c.length=args.size)
 (q:∀(j:Nat)(a:H),c[j]? =J a->∃v,args[j]? =J v/\Ww W hw a v/\DG a=Y):Calls cB f args W (Mg W hw (aI [] r).1):=by
 obtain⟨n,z⟩:=(vW _).1 h
 have I:Inv W.heap.size (λb=>b<W.heap.size) [] [] W (λ_=>D) hw (λ_=>⟨0,0,0,0⟩):=by
  refine⟨λi S b h=>by simp at h,λi T R l b h=>by simp at h,λi j b h=>by simp at h,λi b h=>by simp at h,B,λid L h=>?_,λid M L Q h=>?_,λb h=>h,eE _,u.mono (λ_=>eE _) (λ_ _ _ _ h=>h) d (λ_ _=>rfl)⟩;·cases id<;>simp[ba]at h
  ·cases id<;>simp[ba]at h
 have⟨_,s⟩:=E6 aan named Tp Th n f c [] _ _ z W.heap.size (λb=>b<W.heap.size) W (λ_=>D) hw (λ_=>⟨0,0,0,0⟩) args I y (λj a x=>by have⟨v,E,C,t⟩:=q j a x;exact⟨v,E,C.mono (λ_ _ e=>e) (λ_ _ e=>e) (λ_ e=>e.elim) (λ_ _ _ _ e=>e),dj.qu t⟩);refine s.mono λe U A=>?_;obtain⟨v,rfl,o,m,P,p,ext,_,N,_⟩:=A;have k:∀i b,o i=J b->False:=λi b g=>by have:=(p.iF i b g).1;simp at this
 refine⟨v,m,rfl,ext.xF.toBelow,λb g=>(ext.z7 b g).2,p.qX, ?_⟩;exact N.mono (λi b e=>(k i b e).elim) (λ_ _ e=>e) (λb e=>by obtain⟨i,_,_,h,_⟩:=e;simp at h) (λ_ _ _ _ e=>e)
section
variable{w:bm}{mu:ky}{hw:Nat->Nat}{lk:Nat->Prop}{v:aX}
def Pg{s:K}(h:RV w mu hw lk (.S s) v):v=.string ⟨s.toArray⟩:=by
 generalize a:AV.S s=x at h;cases h with
 |str b=>
  have e:s=b.data.toList:=AV.S.inj a;subst e;cases b;rfl
 |_=>cases a
def Uv(h:RV w mu hw lk .aB v):v=.nilIface:=by cases h;rfl
def Wx{k:IntKind}{n:Int}(h:RV w mu hw lk (.I k n) v):v=.int k n:=by cases h;rfl
def Wy{t:bA}{a:H}(h:RV w mu hw lk (.eD t a) v):∃x,v=.iface t x/\RV w mu hw lk a x:=by
 cases h with
 |eD _ _ x _ b=>exact⟨x,rfl,b⟩
def Uw{a b:H}(h:RV w mu hw lk (.bL [a,b]) v):∃x y,v=.tuple #[x,y]/\RV w mu hw lk a x/\RV w mu hw lk b y:=by
 cases h with
 |bL _ c d=>exact⟨c 0,c 1,rfl,d 0 _ rfl,d 1 _ rfl⟩
end
def NZ{w w':bm}{hw:Nat->Nat}{e:Ending}{s:K}(h:Mg w hw (.bL [.S s,.aB]) e w'):e=.returned (.tuple #[.string ⟨s.toArray⟩,.nilIface])/\Below w.heap.size w w':=by obtain⟨v,b,rfl,a,_,_,f⟩:=h;obtain⟨x,y,rfl,c,d⟩:=Uw f;exact⟨by rw[Pg c,Uv d],a⟩
def QK{w w':bm}{hw:Nat->Nat}{e:Ending}{c:Int}(h:Mg w hw (.bL [.S [],.eD 57 (.I V c)]) e w'):e=.returned (.tuple #[.string ⟨#[]⟩,.iface 57 (.int V c)])/\Below w.heap.size w w':=by obtain⟨v,b,rfl,a,_,_,i⟩:=h;obtain⟨x,y,rfl,d,f⟩:=Uw i;obtain⟨z,rfl,g⟩:=Wy f;exact⟨by rw[Pg d,Wx g],a⟩
def Ux{w:bm}{hw:Nat->Nat}{l:List aD}{x:H}{v:aX}(k:Mf x=il l)(h:Ww w hw x v):∃(p:Option Addr)(cap b o:Nat)(f:Nat->Nat->aX),v=.slice p l.length cap/\(0<l.length->p=J ⟨b,o,D⟩)/\
 ∀i a,l[i]? =J a->∀j x,a.aq[j]? =J x->nf x=Y/\w.cell? ⟨b,o+i*35+j,D⟩=J (f i j)/\Ww w hw x (f i j):=by
 have g:∀q cap,v=.slice q 0 cap->l=[]->∃(p:Option Addr)(cap b o:Nat)(f:Nat->Nat->aX),v=.slice p l.length cap/\(0<l.length->p=J ⟨b,o,D⟩)/\∀i a,l[i]? =J a->∀j x,a.aq[j]? =J x->nf x=Y/\w.cell? ⟨b,o+i*35+j,D⟩=J (f i j)/\Ww w hw x (f i j):=
  λq cap e n=>⟨q,cap,0,0,λ_ _=>undef,by rw[e,n];rfl,by simp[n],by simp[n]⟩
 have d:gn 35 (l.map aD.aq)=.sl .N 1 []->l=[]:=λe=>by
  cases l with
  |nil=>rfl
  |cons a r=>cases e
 have k:Mf x=gn 35 (l.map aD.aq):=k;obtain⟨s1,s2,s3,t⟩:∃r z e,gn 35 (l.map aD.aq)=.sl r z e:=by cases l<;>exact⟨_,_,_,rfl⟩
 cases h with
 |ao=>exact g D 0 rfl (d k.symm)
 |emp _ q cap=>exact g q cap rfl (d k.symm)
 |rK _ q=>exact g q 0 rfl (d k.symm)
 |sl r Q S b o len cap f I hr hb hl hs T U=>
  cases S with
  |nil=>exact g _ cap (by rw[I.1];rfl) (d k.symm)
  |cons B C=>
   cases l with
   |nil=>cases k
   |cons u A=>
    have k:AV.sl .N Q ((B::C).map λ(c:bE)=>c.map bH)=.sl .N 35 ((u::A).map aD.aq):=k;generalize u::A=L,B::C=E at*;have R:Q=35:=(AV.sl.inj k).2.1;have n:=(AV.sl.inj k).2.2;subst R;have s:E.length=L.length:=by simpa using congrArg List.length n
    refine⟨J ⟨b,o,D⟩,cap,b,o,f,by rw[I.1,s],λ_=>rfl,λi a X j x hj=>?_⟩;have q:=congrArg (λm:iI=>m[i]?) n;simp only[uV,X,Kc]at q;obtain⟨c,M,hq⟩:=Ov.1 q;have P:=congrArg (λm:bE=>m[j]?) hq;simp only[uV,hj]at P;obtain⟨y,N,rfl⟩:=Ov.1 P;have⟨x1,x2,x3⟩:=T i c j y M N;exact⟨KJ x1,x3,RV.bH (U i c j y M N)⟩
 |_=>rw[t]at k;cases k
def CO:∀(l:List aD)(i:Nat)(c:K),∃m,m<=l.length/\(∀k a,k<m->l[k]? =J a->a.code=0)/\
 (m=l.length/\BP i l c=.bL [.S (c++l.flatMap λa=>a.line++[10]),.aB]\/∃a,l[m]? =J a/\a.code≠0/\BP i l c=.bL [.S [],fM a.code (i+m)])
 |[],i,c=>⟨0,by simp,by simp,.inl ⟨rfl,by simp[BP]⟩⟩
 |a::l,i,c=>by
  by_cases h:a.code=0
  ·obtain⟨m,j,g,d⟩:=CO l (i+1) (c++(a.line++[10]))
   refine⟨m+1,by simp;omega,λk b n f=>?_, ?_⟩
   ·cases k with
    |zero=>simp at f;subst f;exact h
    |succ k=>exact g k b (by omega) (by simpa using f)
   ·unfold BP
    rw[if_pos h];rcases d with⟨e,d⟩|⟨b,e,f,d⟩;·exact .inl ⟨by simp[e],by rw[d];simp⟩
    ·exact .inr ⟨b,by simpa using e,f,by rw[d];congr 4;omega⟩
  ·refine⟨0,by simp,by simp,.inr ⟨a,rfl,h, ?_⟩⟩
   unfold BP;rw[if_neg h];rfl
def Mh(l:List aD):∀k,k<=l.length->QJ (λi=>(l[i]?.map aD.line).getD []) k=(l.take k).flatMap λa=>a.line++[10]
 |0,_=>by simp[QJ]
 |k+1,hk=>by
  have h:=Mh l k (by omega);have e:l.take (k+1)=l.take k++[l[k]]:=by rw[rh,cf (by omega)];rfl
  have b:(l[k]?.map aD.line).getD []=l[k].line:=by rw[cf (by omega)];rfl
  rw[QJ,h,e,List.flatMap_append,b];simp only[tU,List.flatMap_nil,Ag,pX]
def Wz{w W:bm}{hw:Nat->Nat}{a:H}{v:aX}(h:Ww w hw a v)(c:Below w.heap.size w W):Ww W hw a v:=
 h.mono (λ_ _ e=>e) (λ_ _ e=>e) (λ_ e=>e) (λb o v _ e=>by rw[c.cell (p:=⟨b,o,D⟩) (World.block_lt_of_cell? w _ e)];exact e)
def Mi{base:Nat}{w W:bm}{hw:Nat->Nat}(h:Kn base w hw)(a:base<=w.heap.size)(c:Below w.heap.size w W):Kn base W hw:=
 h.mono (λ_=>eE _) (λb o v _ e=>by rw[c.cell (p:=⟨b,o,D⟩) (World.block_lt_of_cell? w _ e)];exact e) (eE _) (λb d=>c.block b (by omega))
def DB(l:List aD):aI [] (oP l)=(oP l,[])/\ax (oP l)=Y/\∀c ti v,dj c ti (oP l) v:=by
 have i:∀a b:H,(∀t,cq t a=(a,t))->(∀t,cq t b=(b,t))->aI [] (.bL [a,b])=(.bL [a,b],[]):=λa b f g=>by simp[aI,dv,f,g]
 have k:∀(a b:H),(∀c ti v,ft c ti a v)->(∀c ti v,ft c ti b v)->∀c ti v,dj c ti (.bL [a,b]) v:=λa b f g c ti v n e j x y d o=>by
  match j,d with
  |0,d=>cases d;exact f _ _ _
  |1,d=>cases d;exact g _ _ _
  |j+2,d=>simp at d
 unfold oP;split
 ·obtain⟨m,_,_,⟨_,h⟩|⟨a,_,_,h⟩⟩:=CO l 0 []
  ·rw[h];exact⟨i _ _ (λ_=>rfl) (λ_=>rfl),rfl,k _ _ (λ_ _ _=>trivial) (λ_ _ _=>trivial)⟩
  ·rw[h];exact⟨i _ _ (λ_=>rfl) (λ_=>rfl),rfl,k _ _ (λ_ _ _=>trivial) (λ_ _ _=>trivial)⟩
 ·exact⟨i _ _ (λ_=>rfl) (λ_=>rfl),rfl,k _ _ (λ_ _ _=>trivial) (λ_ _ _=>trivial)⟩
def Mj(l:List aD)(hF:Fit l){base:Nat}{w:bm}{hw:Nat->Nat}(hg:Kn base w hw)(k:base<=w.heap.size)(N:∀b,w.heap.size<=b->hw b=0){x:H}{v:aX}(hx:Mf x=il l)(hv:Ww w hw x v):Calls cB QG #[v] w (Mg w hw (oP l)):=by
 obtain⟨p,E,b,o,f,rfl,hp,P⟩:=Ux hx hv;by_cases R:l.length<=200;rotate_left
 ·refine(Wv p l.length E (by omega) w).mono λe w' A=>?_
  obtain⟨rfl,rfl⟩:=A;unfold oP;rw[if_neg R];refine⟨_,hw,rfl,Below.refl _ _,λ_ _=>rfl,N,.bL _ (λ|0=>.string ⟨#[]⟩|_=>.iface 57 (.int V 3)) λj a g=>?_⟩;match j,g with
  |0,g=>cases g;exact .str ⟨#[]⟩
  |1,g=>cases g;exact .eD _ _ _ rfl (.int _ _)
  |j+2,g=>simp at g
 obtain⟨m,hm,h0,z⟩:=CO l 0 [];have T:oP l=BP 0 l []:=if_pos R;rw[T];have X:∀i a,l[i]? =J a->∀d,Below w.heap.size w d->Calls cB 6 #[.agg ((jB 35).map (f i)).toArray] d (Mg d hw (aI [] a.eW).1):=by
  intro i a s d q;have⟨h2,h3⟩:=hF.wf a (fA s);refine Gd (uk a h2 h3 []) (Mi hg k q) (nh k q.size) (λb n=>N b (nh q.size n)) rfl λj x g=>?_;match j,g with
  |j+1,g=>simp at g
  |0,g=>
   cases g;refine⟨_,rfl, ?_,rfl⟩;have:=RV.agg (w:=d) (mu:=λ_=>D) (hw:=hw) (lk:=λ_=>False) a.aq (f i) (λj x g=>(P i a s j x g).1) (λj x g=>Wz (P i a s j x g).2.2 q);rw[a.kR]at this;exact this
 have e0:∀a:aD,a.code=0->(aI [] a.eW).1=.bL [.S a.line,.aB]:=λa h=>by unfold aD.eW;rw[if_pos h];rfl
 have e1:∀a:aD,a.code≠0->(aI [] a.eW).1=.bL [.S [],.eD 57 (.I V (a.code:Int))]:=λa h=>by unfold aD.eW qy;rw[if_neg h,if_neg h];rfl
 have y:∀i j,i<l.length->j<35->(f i j).oneCell'=Y/\w.cell? ⟨b,o+i*35+j,D⟩=J (f i j):=λi j s g=>by
  have Q:j<(l[i]).aq.length:=by rw[aD.kR];exact g
  have⟨x1,x3,x4⟩:=P i l[i] (cf s) j _ (cf Q);exact⟨x4.one x1,x3⟩
 refine Wu l.length R b o E p hp f (λi j s g=>(y i j s g).1) w (λi j s g=>(y i j s g).2) m hm (λi=>(l[i]?.map aD.line).getD []) (λi s=>?_) (λi s d q=>?_) _ (λI w' q=>?_) (λI d q=>?_)
 ·have u:i<l.length:=by omega
  rw[cf u];exact hF.len l[i] (List.getElem_mem u) (h0 i _ s (cf u))
 ·have u:i<l.length:=by omega
  have C:=cf u;have U:=h0 i _ s C;have c:=X i _ C d q;rw[e0 _ U]at c;rw[C];exact c.mono λe w' A=>NZ A
 ·rw[Mh l l.length (eE _),wL]
  rcases z with⟨_,z⟩|⟨a,M,_,_⟩
  ·rw[z]
   refine⟨_,hw,rfl,q,λ_ _=>rfl,λb n=>N b (nh q.size n),.bL _ (λ|0=>.string ⟨(l.flatMap λa=>a.line++[10]).toArray⟩|_=>.nilIface) λj a g=>?_⟩;match j,g with
   |0,g=>cases g;rw[tQ];exact .str ⟨(l.flatMap λa=>a.line++[10]).toArray⟩
   |1,g=>cases g;exact .aB
   |j+2,g=>simp at g
  ·rw[I]at M;simp at M
 ·rcases z with⟨z,_⟩|⟨a,M,U,z⟩
  ·omega
  have c:=X m a M d q;rw[e1 a U]at c;rw[z];refine c.mono λe w1 A=>?_;obtain⟨rfl,t⟩:=QK A;have r:Below w.heap.size w w1:=q.trans ⟨t.os,t.tape,t.output,t.size,λj g=>t.block j (wJ g q.size)⟩;refine⟨_,_,rfl, ?_⟩;refine(Gd (wq a.code m []) (Mi hg k r) (nh k r.size) (λb n=>N b (nh r.size n)) (args:= #[.iface 57 (.int V (a.code:Int)),.int V (m:Int)]) rfl λj x g=>?_).mono λe' w2 B=>?_
  ·match j,g with
   |0,g=>cases g;exact⟨_,rfl,.eD _ _ _ rfl (.int _ _),rfl⟩
   |1,g=>cases g;exact⟨_,rfl,.int _ _,rfl⟩
   |j+2,g=>simp at g
  ·obtain⟨v,S,rfl,L,k2,k3,k4⟩:=B
   refine⟨v,rfl,_,S,rfl,r.trans ⟨L.os,L.tape,L.output,L.size,λj g=>L.block j (wJ g r.size)⟩,λb n=>k2 b (wJ n r.size),k3,.bL _ (λ|0=>.string ⟨#[]⟩|_=>v) λj a' g=>?_⟩;match j,g with
   |0,g=>cases g;exact .str ⟨#[]⟩
   |1,g=>cases g;rw[A_];exact k4
   |j+2,g=>simp at g
def QL:iL cB (λg c S=>if g=QG then rX c S else D):=by
 intro f c S r S' h n p w mu hw U b I E z;simp only at h;split at h;case isFalse=>cases h
 rename_i B;subst B;refine⟨wm Tryz.func14 (by kernel_rfl), ?_⟩;unfold rX at h;split at h;case isFalse=>cases h
 rename_i o;obtain⟨x,u,j,L,y⟩:=o.choose_spec;generalize o.choose=l at*;cases h;subst u;obtain⟨v,t,Q,_⟩:=z 0 _ rfl;have m:b= #[v]:=by
  apply Ab;intro k;match k with
  |0=>simpa using t
  |k+1=>
   have:b.size=1:=by simpa using E.symm
   rw[uY (by omega)];simp
 subst m;have R:Ww w hw x v:=Km (λ_ _ e=>e) j Q;have⟨d,t2,T⟩:=DB l;refine(Mj l y I.qY I.lK I.qX L R).mono λe w' a=>?_;obtain⟨X,hw',rfl,A,M,N,P⟩:=a;obtain⟨q,s⟩:=Cw (hw':=hw') Fw I A M N;refine⟨X,rfl,mu,hw',U, ?_,s, ?_, ?_, ?_,λi C _=>⟨rfl,C⟩⟩;·rw[d];exact q
 ·rw[d];exact gX.refl _ _
 ·rw[d];exact P.mono (λ_ _ e=>by cases e) (λ_ _ e=>e) (λ_ e=>e.elim) (λ_ _ _ _ e=>e)
 ·rw[d];exact T _ _ _
def QM:fZ (λg a S=>if g=QG then rX a S else D):=by
 intro f a S r b h;simp only at h;split at h;case isFalse=>cases h
 unfold rX at h;split at h;case isFalse=>cases h
 cases h;exact tt (DB _).2.1
def Zy:xU cB Ts:=by
 refine⟨λf p h=>?_,λf p h=>?_⟩
 ·have h:(if f=QG then J rX else nk.jQ f)=J p:=h
  by_cases c:f=QG
  ·subst c
   rw[if_pos rfl]at h;cases h;exact QL
  ·rw[if_neg c]at h
   exact Tp.sim f p h
 ·have h:(if f=QG then J rX else nk.jQ f)=J p:=h
  by_cases c:f=QG
  ·subst c
   rw[if_pos rfl]at h;cases h;exact QM
  ·rw[if_neg c]at h
   exact Tp.old f p h
end
section
section
variable{H:Type}{aq:bA × aX->H}{W:bm}{base:Nat}{sp:Nat->Bool}{held:Bool}
def V3:Tryz.prog.cellsOf 31=1:=by kernel_rfl
def TJ:Tryz.prog.cellsOf 34=1:=by kernel_rfl
def TK:Tryz.prog.cellsOf 35=1:=by kernel_rfl
def NL:Tryz.prog.cellsOf 33=3:=by kernel_rfl
def OT:Tryz.prog.cellsOf 114=12:=by kernel_rfl
def Jq:Tryz.prog.cellsOf 37=20:=by kernel_rfl
def XL:Tryz.prog.cellsOf 30=10:=by kernel_rfl
def afj:Tryz.prog.cellsOf 5=1:=by kernel_rfl
def ZP:∀(n:Nat)(cs:List aX)(y:DataW H × List MemPlace),DataW.trod aq cB W base sp held n 33 cs=J y->∃v:bw,v.Wf/\tX W v.aq cs:=by
 intro n;induction n using Nat.strongRecOn with
 |ind n p=>
  intro cs y h;cases n with
  |zero=>trivial
  |succ n=>
   have⟨b,a⟩:=qA (P:=cB) Tryz.underlying33 h;rw[NL]at b;have⟨x,j⟩:=a 0 _ rfl;have⟨z,l⟩:=a 1 _ rfl;have⟨A,m⟩:=a 2 _ rfl;have⟨k,c,t⟩:=kq Tryz.underlying3 j wx;have⟨q,g,d,u⟩:=kM (f:=λs:K=>[AV.S s]) Tryz.underlying24 Cy xf (TL _) l OU;have⟨r,i,e,w⟩:=kM (f:=bw.aq) Tryz.underlying31 NL xf (p (n+1 -1 -1) Z) m V3;refine⟨.mk k q r,(.mk _ ⟨(wf_i64 c).1,(wf_i64 c).2,g,d,i⟩ e), ?_⟩;rw[bw.gG];have:=(t.part (o:=0) (n:=1) rfl (u.part rfl (w.part rfl (.end_ (o:=3) b))));assumption
def V4:∀(n:Nat)(cs:List aX)(y:DataW H × List MemPlace),DataW.trod aq cB W base sp held n 114 cs=J y->∃v:dQ,(v.x.Wf/\v.y.Wf)/\tX W v.aq cs:=by intro n cs y h;have⟨f,e⟩:=qA (P:=cB) Tryz.underlying114 h;rw[OT]at f;have⟨l,g⟩:=e 0 _ rfl;have⟨m,i⟩:=e 1 _ rfl;have⟨a,j,c⟩:=rd_val _ _ _ g;have⟨b,k,d⟩:=rd_val _ _ _ i;have c:tX W a.aq ((cs.drop 0).take (Tryz.prog.cellsOf 28)):=c;rw[AI]at c;have d:tX W b.aq ((cs.drop 6).take (Tryz.prog.cellsOf 28)):=d;rw[AI]at d;refine⟨⟨a,b⟩,⟨j,k⟩, ?_⟩;have:=(c.part (o:=0) (n:=6) b5 (d.part b5 (.end_ (o:=12) f)));simpa[dQ.aq]using this
def V2:∀(n:Nat)(cs:List aX)(y:DataW H × List MemPlace),DataW.trod aq cB W base sp held n 37 cs=J y->∃v:bj,v.Wf/\tX W v.aq cs:=by
 intro n;induction n using Nat.strongRecOn with
 |ind n I=>
  intro cs y h;cases n with
  |zero=>trivial
  |succ n=>
   have⟨i,c⟩:=qA (P:=cB) Tryz.underlying37 h;rw[Jq]at i;have⟨y0,r⟩:=c 0 _ rfl;have⟨y1,s⟩:=c 1 _ rfl;have⟨y2,x⟩:=c 2 _ rfl;have⟨y3,z⟩:=c 3 _ rfl;have⟨y4,A⟩:=c 4 _ rfl;have⟨y5,B⟩:=c 5 _ rfl;have⟨y6,C⟩:=c 6 _ rfl;have⟨y7,E⟩:=c 7 _ rfl;have⟨k,j,N⟩:=kq Tryz.underlying3 r wx;have⟨a,w1,Q⟩:=zE Tryz.underlying9 s Cy;have⟨b,w2,R⟩:=zE Tryz.underlying9 x Cy;have⟨t,U,d⟩:=ZP _ _ _ z;have⟨u,X,e⟩:=rd_val _ _ _ A;have⟨w,s5,g⟩:=rd_val _ _ _ B;have d:tX W t.aq ((cs.drop 3).take (Tryz.prog.cellsOf 33)):=d;rw[NL]at d;have e:tX W u.aq ((cs.drop 6).take (Tryz.prog.cellsOf 28)):=e;rw[AI]at e;have g:tX W w.aq ((cs.drop 12).take (Tryz.prog.cellsOf 28)):=g;rw[AI]at g;have⟨M,p,l,S⟩:=kM (f:=dQ.aq) Tryz.underlying34 OT xf (V4 _) C TJ;have⟨L,q,m,T⟩:=kM (f:=bj.aq) Tryz.underlying35 Jq xf (I (n+1 -1 -1) Z) E TK;refine⟨.mk k a b t u w M L,(.mk _ ⟨(wf_i64 j).1,(wf_i64 j).2,w1,w2,U,X,s5,p,l,q⟩ m), ?_⟩;rw[bj.gG];have:=(N.part (o:=0) (n:=1) rfl (Q.part rfl (R.part rfl (d.part b5 (e.part b5 (g.part b5 (S.part rfl (T.part rfl (.end_ (o:=20) i)))))))));assumption
def afi:∀(n:Nat)(cs:List aX)(y:DataW H × List MemPlace),DataW.trod aq cB W base sp held n 30 cs=J y->∃v:k7,v.Wf/\tX W v.aq cs:=by intro n cs y h;have⟨g,b⟩:=qA (P:=cB) Tryz.underlying30 h;rw[XL]at g;have⟨I,q⟩:=b 0 _ rfl;have⟨L,r⟩:=b 1 _ rfl;have⟨M,t⟩:=b 2 _ rfl;have⟨N,u⟩:=b 3 _ rfl;have⟨Q,w⟩:=b 4 _ rfl;have⟨k,j,z⟩:=kq Tryz.underlying3 q wx;have⟨x,p,d,A⟩:=kM (f:=dG.aq) Tryz.underlying22 OV xf (V5 _) r TM;have⟨i,l,B⟩:=kq Tryz.underlying23 t Jr;have⟨a,m,C⟩:=kq Tryz.underlying23 u Jr;have⟨v,E,c⟩:=rd_val _ _ _ w;have c:tX W v.aq ((cs.drop 4).take (Tryz.prog.cellsOf 28)):=c;rw[AI]at c;refine⟨⟨k,x,i,a,v⟩,⟨(wf_i64 j).1,(wf_i64 j).2,p,λs e=>⟨(d s e).1,(d s e).2.1,(d s e).2.2⟩,(wf_u64 l).1,(wf_u64 l).2,(wf_u64 m).1,(wf_u64 m).2,E⟩, ?_⟩;have:=(z.part (o:=0) (n:=1) rfl (A.part rfl (B.part rfl (C.part rfl (c.part b5 (.end_ (o:=10) g))))));simpa[k7.aq,dZ]using this
end
end
section
section
variable{H:Type}{aq:bA × aX->H}{W:bm}{base:Nat}{sp:Nat->Bool}{held:Bool}
def ZJ:Tryz.prog.cellsOf 38=1:=by kernel_rfl
def ZM:Tryz.prog.cellsOf 40=35:=by kernel_rfl
def ZN{k:Int}(h:(Lit.int .u8 k).wf=Y):∃b:UInt8,k=(b.toNat:Int):=by
 have c:0<=k/\k<=255:=by simpa[Lit.wf,IntKind.min,IntKind.max,IntKind.signed,IntKind.bits]using h
 refine⟨cY k.toNat, ?_⟩;have a:(cY k.toNat).toNat=k.toNat:=UInt8.toNat_ofNat_of_lt (show k.toNat<256 by omega);rw[a];omega
def afh(n:Nat)(cs:List aX)(y:DataW H × List MemPlace)(h:DataW.trod aq cB W base sp held n 5 cs=J y):∃b:UInt8,True/\tX W [c_ b] cs:=by obtain⟨i,a,c,_⟩:=Nn (P:=cB) Tryz.underlying5 h;subst a;obtain⟨b,rfl⟩:=ZN c;exact⟨b,trivial,.cons (λ_ _=>.int .u8 _) rfl .nil⟩
def Tr(n:Nat)(cs:List aX)(y:DataW H × List MemPlace)(h:DataW.trod aq cB W base sp held n 40 cs=J y):∃v:aD,(v.Wf/\v.wv/\v.raw.length<9223372036854775808)/\tX W v.aq cs:=by
 have⟨g,c⟩:=qA (P:=cB) Tryz.underlying40 h;rw[ZM]at g;have⟨y0,t⟩:=c 0 _ rfl;have⟨i,u⟩:=c 1 _ rfl;have⟨j,w⟩:=c 2 _ rfl;have⟨m,x⟩:=c 3 _ rfl;have⟨y4,z⟩:=c 4 _ rfl;have⟨y5,A⟩:=c 5 _ rfl;have⟨y6,B⟩:=c 6 _ rfl;have⟨k,w0,C⟩:=kq Tryz.underlying3 t wx;have⟨a,N,E⟩:=kq Tryz.underlying3 u wx;have⟨b,Q,I⟩:=kq Tryz.underlying3 w wx;have⟨v,R,L⟩:=kq Tryz.underlying3 x wx;have⟨o,p,d⟩:=afi _ _ _ z;have⟨l,q,e⟩:=V2 _ _ _ A;have⟨s,r,X,M⟩:=kM (f:=λb=>[c_ b]) Tryz.underlying38 afj xf (afh _) B ZJ;have d:tX W o.aq ((cs.drop 4).take (Tryz.prog.cellsOf 30)):=d;rw[XL]at d;have e:tX W l.aq ((cs.drop 14).take (Tryz.prog.cellsOf 37)):=e;rw[Jq]at e;have S:=wf_i64 N;have T:=wf_i64 Q;have U:=wf_i64 R;have i:a<=9223372036854775807:=by omega
 have j:b<=9223372036854775807:=by omega
 have m:v<=9223372036854775807:=by omega
 refine⟨⟨k,a,b,v,o,l,s⟩,⟨⟨p,q⟩,⟨S.1,i,T.1,j,U.1,m⟩,r⟩, ?_⟩;have:=(C.part (o:=0) (n:=1) rfl (E.part rfl (I.part rfl (L.part rfl (d.part b5 (e.part b5 (M.part rfl (.end_ (o:=35) g))))))));simpa[aD.aq,b_]using this
end
end
end Go.Proofs.YtnhnmkgfgfmmhaaGreatDoor.am
namespace Go.Proofs.YtnhnmkgfgfmmhaaGreatDoor.tapeLines
open Go Go.RowKit Go.ChangeShapes Go.Proofs.YtnhnmkgfgfmmhaaGreatDoor.am
open Option renaming some->J,none->D,map_eq_some_iff->ng
open Bool renaming false->O,true->Y,and_eq_true->jM
open Go.IntKind renaming i64->V,wrap->fH,u64->bh
open Option.some renaming inj->eO
open UInt8 renaming ofNat->cY
open Decidable renaming decide->bN
open List renaming drop_eq_nil_of_le->gY,length_append->jn,take_of_length_le->m_,length_cons->jN,length_nil->mH,append_assoc->pX,range->jB
open Go.Proofs.Tryz renaming prog->cB
open Go renaming TypeId->bA,Program->bX,Value->aX,World->bm,FuncId->db
open Nat renaming le_refl->eE
open Go.Value renaming pointer->cP
open Go.Proofs.YtnhnmkgfgfmmhaaGreatDoor.am renaming om->Z,St->G,aC->F,AV->H,nk->W,bf->K
def ae_:Array aX:= #[.int V 0,.int V 0,.int V 0,.int V 0]++ #[.int V 0,.slice D 0 0,.int bh 0,.int bh 0,.int V 0,.int V 0,.string ⟨#[]⟩,.slice D 0 0,.slice D 0 0,.slice D 0 0]++ #[.int V 0,.string ⟨#[]⟩,.string ⟨#[]⟩,.int V 0,.slice D 0 0,.slice D 0 0,.int V 0,.int V 0,.string ⟨#[]⟩,.slice D 0 0,.slice D 0 0,.slice D 0 0,.int V 0,.int V 0,.string ⟨#[]⟩,.slice D 0 0,.slice D 0 0,.slice D 0 0,.slice D 0 0,.slice D 0 0]++ #[.slice D 0 0]
def own:ownKnob Tryz.prog.godebug=D:=by kernel_rfl
def laidOut:laidOutB cB=Y:=by kernel_rfl
def mixed:Tryz.prog.follows .mixedOrders=Y:=by kernel_rfl
set_option maxRecDepth 100000 in
def Tq(b:Type)(aq:bA × aX->b)(W:bm)(base:Nat)(args:Array aX)(w L:List (DataW b))(d:List MemPlace)
 (c:∀(j:Nat) t v,Tryz.f3.params[j]? =J t->args[j]? =J v->Value.okWide cB W .any base t v)
 (z:DataW.Whole aq cB Tryz.f3.params.toList Rows.tapeLinesSpec.vars O W args.toList w L d) (P:laidMetH cB laidB W):
 Calls cB 3 args W λe u=>∃v,e=.returned v/\Rows.tapeLinesSpec.post aq cB Tryz.f3 O Y O O W args v u:=by
 have m:=z;obtain⟨p,q,l,hV,rfl,R,T⟩:=z;have y:DataW.TrodAll aq cB W 0 (λ_=>Y) Y Tryz.f3.params.toList args.toList w p:=l;rw[Tryz.params3]at y c;obtain⟨B,C,d0,d1,p0,p1,rfl,rfl,rfl,⟨n0,M⟩,⟨n1,N⟩⟩:=trodAll_two y;obtain⟨a,⟨Q,S,X⟩,r⟩:=Tr _ _ _ M;obtain⟨o,⟨U,_,_⟩,s⟩:=Tr _ _ _ N;have E:∃k,B=.agg k:=HL Tryz.underlying40 (c 0 40 B (by simp) (by simp));have I:∃k,C=.agg k:=HL Tryz.underlying40 (c 1 40 C (by simp) (by simp));obtain⟨g,rfl⟩:=E;obtain⟨i,rfl⟩:=I;have r:tX W a.aq g.toList:=r;have s:tX W o.aq i.toList:=s;refine(P8 (nk:=Ts) mixed named Zy Th (LF a o Q U S X) (W:=W) (ae9 P) (args:= #[.agg g,.agg i]) (by simp) rfl (λj x f=>?_)).mono λe u h=>?_
 ·match j,f with
  |0,f=>simp at f;subst f;exact⟨_,rfl,QW.agg r⟩
  |1,f=>simp at f;subst f;exact⟨_,rfl,QW.agg s⟩
  |j+2,f=>simp at f
 ·obtain⟨rfl,n⟩:=h
  refine⟨_,rfl,Sj (tb:=4) laidOut (by rw[Tryz.params3];intro t A;simp at A;subst A;exact⟨by kernel_rfl,of_decide_eq_true (by kernel_rfl)⟩) rfl (by kernel_rfl) Tryz.underlying4 (λe=>?_) m n⟩;subst e;rfl
set_option maxRecDepth 100000 in
def lifted(os:Os)(d:os.Started)(a:Type)(aq:bA × aX->a):
 ReturnsInHanded {} Tryz.checked os 3 .any (λw c=>(Rows.tapeLinesSpec.pre aq cB Tryz.f3 [] O w c/\laidMetH cB laidB w)/\sizedMet aq cB Tryz.f3 (OpenSpec.ofChange Rows.tapeLinesSpec) O w c)
  (Rows.tapeLinesSpec.post aq cB Tryz.f3 O Y O O):=by
 refine returnsInHanded_of_change_and (C:=Tryz.checked) (X:=λw _=>laidMetH cB laidB w) (λ_ _ _ m h=>h.of_heap m) own d (by kernel_rfl) Tryz.func3
  (ChangeSpec.witness_at (enc:=aq) (C:=Tryz.checked) (os:=os) (X:=λw _=>laidMetH cB laidB w) O (Cv os)
   #[.agg ae_,.agg ae_] 8 rfl (by kernel_rfl) (by kernel_rfl) (by kernel_rfl) (by kernel_rfl) (by kernel_rfl) (Lz os _)) ?_
 intro b f c i j e g l _ _ k _;exact Tq a aq b f c i j e g l k
def j1:(Rows.tapeLinesRow.inPlace==Tryz.pinned.checked.prog.inPlace 3)=Y:=by kernel_rfl
def j2:(Rows.tapeLinesRow.unfollowed==Tryz.pinned.checked.prog.unfollowed 3)=Y:=by kernel_rfl
def j3:(Rows.tapeLinesRow.recurses==Tryz.pinned.checked.prog.recurses 3)=Y:=by kernel_rfl
def j4:(Rows.tapeLinesRow.named==Tryz.pinned.checked.prog.varsNamed 3)=Y:=by kernel_rfl
def closed:joinedFacts Tryz.pinned.checked.prog 3 Tryz.f3 Rows.tapeLinesSpec Rows.tapeLinesRow=Y:=by unfold joinedFacts;rw[j1,j2,j3,j4];kernel_rfl
def GK:Rows.TapeLinesSaid:=
 OpenClaim.holds_of_wide 3 Tryz.f3 rfl rfl rfl rfl rfl rfl rfl ⟨rfl,rfl,rfl,rfl,rfl⟩ rfl rfl rfl rfl rfl (by kernel_rfl) Tryz.func3 closed
  (of_decide_eq_true (by kernel_rfl)) (by unfold Func.isWrapper;first|(rw[if_pos (by decide+kernel)];kernel_rfl)|(rw[if_neg (by decide+kernel)];exact⟨rfl,rfl⟩))
  (λd b a c _=>lifted d b a c)
theorem tapeLines_holds:Rows.TapeLinesCardSaid:=
 Claim7.holds_tied_plain_at .later [] [.data,.data,.data,.data,.handle,.sentinel,.sentinel,.pinned] Y (Y,"4e2e806ff8c4227d4a7b9051674b3905d60f37dd6a38fda8211070e18e7db02a") Y
  GK (λ_ h=>by cases h) (by kernel_rfl) (λ_ h=>by cases h) tapeLines_row_tie rfl ⟨rfl,rfl⟩ (by kernel_rfl) rfl
  (λf c d b=>by
   obtain rfl:f=3:=eO ((show Tryz.prog.funcNamed "dioptre/dioptrelaw30.TapeLines" =J 3 by kernel_rfl).symm.trans d)|>.symm;obtain rfl:c=Tryz.f3:=(eO (Tryz.func3.symm.trans b)).symm
   exact⟨by kernel_rfl,λj t a=>by
    rw[Tryz.params3]at a;rcases j with _|_|j;·simp at a;subst a;exact(show Tryz.prog.wantsStandIn 40=O by kernel_rfl)
    ·simp at a;subst a;exact(show Tryz.prog.wantsStandIn 40=O by kernel_rfl)
    ·simp at a⟩)
  (by kernel_rfl)
end Go.Proofs.YtnhnmkgfgfmmhaaGreatDoor.tapeLines
