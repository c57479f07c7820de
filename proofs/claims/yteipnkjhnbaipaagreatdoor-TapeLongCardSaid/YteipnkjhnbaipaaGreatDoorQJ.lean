/- Parts. No condition. -/
import Derived.Lib.AppendIntMem
import Derived.Test.YteipnkjhnbaipaaGreatDoorRows
import Derived.WideShapes
import Derived.RowKitTokens
import Derived.Test.YteipnkjhnbaipaaGreatDoorTie
import Derived.Test.YteipnkjhnbaipaaGreatDoorCards
import Derived.SevenTiedAt
import Derived.Test.YteipnkjhnbaipaaGreatDoorQI
set_option linter.all false
namespace Go.Proofs.YteipnkjhnbaipaaGreatDoor.am
open Go Go.RowKit
open Option renaming some->J,none->Z,map_eq_some_iff->od
open Bool renaming false->O,true->Y,and_eq_true->j5
open Go.IntKind renaming i64->V,wrap->gh,u64->bm
open Option.some renaming inj->ff
open UInt8 renaming ofNat->dt
open Go.Proofs.Tryz renaming prog->dE
open Decidable renaming decide->aN
open Go.Value renaming pointer->bn
open List renaming drop_eq_nil_of_le->iy,replicate->eL,length_append->jf,take_of_length_le->ob,length_cons->jI,append_assoc->oH,length_nil->nI,range->jX
open Go renaming TypeId->bH,Value->aW,Program->cj,World->bh,FuncId->db
open Nat renaming le_refl->eI
open Go.Obj renaming cells->cN
open Go.Proofs.YteipnkjhnbaipaaGreatDoor.am renaming St->G,om->D,aG->F,AV->H,nk->W,bu->K
def pj(f:db)(C E:bN)(j:C.length=35)(o:bQ C=Y)(p:C.map aH=C)(m:C.map bO=E)(k:bQ E=Y)(S:G)(i:bN)(q:i.length=35):
 f_ (.A 35) C 0=J (.A C)/\(∀ab X h g U,a_ ab S.length (S++[.M i [] O,X,h,g,U]) 35 (.P S.length 0) (.A C)=J (ab,S++[.M C [] O,X,h,g,U]))/\(∀ab d,cd f ab [.A C,.aD] S (S++d)=J (.bP [.A E,.aD],S)):=by
 refine⟨?_,λab X h g U=>?_,λab d=>?_⟩
 ·have:=jQ (l:=C) (a:=[]) (b:=C) (c:=[]) (off:=0) (n:=35) (by simp) rfl j p
  exact this
 ·rw[u7 (S:=S) rfl o]
  simp[j,q,aY]
 ·have e:bD (.A C)=.A E:=by rw[<-m];rfl
  have r:bD .aD=.aD:=rfl;simp[dr,e,r,bI,aP,aC,aO,k]
def nF.cell{o:H}{ab:ch}{b:K}(h:nF o ab b)(i:Nat):∃c aS bt' d,iR ab i [] o=(c,aS,bt')/\fL o=Y/\o.cells=[o]/\c.cells=[c]/\aH c=d/\aO d=Y/\aH d=d/\bO d=cq b:=by
 rcases h with⟨h,rfl⟩|rfl|⟨k,rfl,a⟩
 ·have e:=(v8 b).1 h
  subst e;exact⟨.ar,ab,[],.ar,rfl,rfl,rfl,rfl,rfl,rfl,rfl,rfl⟩
 ·refine⟨.sl .X 1 (fA b),ab,[],.sl .X 1 (fA b),rfl,rfl,rfl,rfl,rfl,ez b,rfl, ?_⟩
  cases b<;>rfl
 ·refine⟨.sl (.bx i 0) 1 (fA b),ab.set k Z,[J (fA b).length],.sl .N 1 (fA b), ?_,rfl,rfl,rfl,rfl,ez b,rfl, ?_⟩
  ·simp only[iR]
   rw[if_pos a];rfl
  ·cases b<;>rfl
set_option maxRecDepth 4000 in
def Zo(a:aB)(ha:a.Wf)(q:a.v7)(S:G)(h:a.ae=1)(hB:a.cR=Y)(hl:a.raw.length<=4096)(ho:De a.op=Y)(hx:(jW a.op).length<=4096)(I:a.line.length<=1000000):DF F W 33 [.S a.line] S=J (.bP [.A a.aq,.aD],S):=by
 have wd:a.ax=[[119,114,105,116,101],a7 a.fst,a7 a.b_,dI (jW a.op)]:=by simp[aB.ax,cm,cZ,c7,h]
 have z:=λT=>im a.line I T;rw[aB.lJ,wd]at z;have z:∀T,DF F W 67 [.S a.line,.S [32]] T=J (.sl .N 1 (strs [[119,114,105,116,101],a7 a.fst,a7 a.b_,dI (jW a.op)]),T):=z;have Xg:aK [] (.sl .N 1 (strs [[119,114,105,116,101],a7 a.fst,a7 a.b_,dI (jW a.op)]))=(.sl .N 1 (strs [[119,114,105,116,101],a7 a.fst,a7 a.b_,dI (jW a.op)]),[]):=rfl;have fb:∀k,bE [.ar,.aD] [(0,1,.sl .N 1 k)]=J [.sl .N 1 k,.aD]:=λ_=>rfl;have B:∀k,bE [.ar,.aD] [(0,2,.A [.sl .N 1 k,.aD])]=J [.sl .N 1 k,.aD]:=λ_=>rfl;have N:∀ws,eR.M [.sl .N 1 (strs ws),.aD] [] O=gw ws .aD:=λ_=>rfl;have sg:∀k,aH (.A [.sl .N 1 k,.aD])=.A [.sl .N 1 k,.aD]:=λ_=>rfl;have kd:=dX;have ee:a.aq=a.bare.aq:=congrArg aB.aq (iA.1 (by rw[aB.gR];exact hB));have hz:ah.length=35:=rfl;have o:cr.length=60:=rfl;have R:aU.length=6:=rfl;have E:bE ah []=J ah:=rfl;have pz:bQ ah=Y:=rfl;have u:aM.length=60:=rfl;have t:=fq;have pK:=cG u t;have cK:(AV.A aM).cells=aM:=rfl;have s5:∀ab X c,a_ ab S.length (S++[X,c,.M ah [] O]) 35 (.P (S.length+2) 0) (.A ah)=J (ab,S++[X,c,.M (kC 0) [] O]):=λab X c=>by rw[pA (S:=S) rfl pz];simp only[wT,uY];rw[if_pos ⟨rfl,by rw[hz];omega⟩,aY rfl];rfl
 have s6:∀ab X c d,a_ ab S.length (S++[X,c,d,.M cr [] O]) 60 (.P (S.length+3) 0) (.A aM)=J (ab,S++[X,c,d,.M aM [] O]):=λab X c d=>by rw[pA (S:=S) rfl t.aO];simp only[wT,uY];rw[if_pos ⟨u,by rw[o];omega⟩,aY (by rw[u,o])];rfl
 have L:=uA 1 (by omega) (by omega) [a7 a.fst,a7 a.b_,dI (jW a.op)] (.M ah [] O) [] S 9 1 rfl (by omega);rw[show(if(1:Int)<((1:Nat):Int)then(1:Int)else 0)=0 from if_neg (by omega),show cm 1=[119,114,105,116,101]from rfl]at L;have l0:∀X c d b,bk (S++X::c::.M (kC 1) [] O::d::b) .C (.P (S.length+2) 0)=J (.I V 1):=λX c d b=>by rw[bV (cs:=kC 1) (ab:=[]) (l:=O) (by rw[pG (by omega)];simp)];rfl
 have i6:o_ 10 6 (.P (S.length+3) 0) (.I V 1)=J (.P (S.length+3) 6):=Jh (S.length+3) 1 (by omega);have lU:∀X c d b,bk (S++X::c::d::.M aM [] O::b) (.A 6) (.P (S.length+3) 6)=J (.A (aF 1)):=λX c d b=>by rw[bV (cs:=aM) (ab:=[]) (l:=O) (by rw[pG (by omega)];simp)];exact nO 1 (by omega)
 have hu:(aF 1).length=6:=rfl;have du:=fo 1;have pu:=cG hu du;have cu:(AV.A (aF 1)).cells=aF 1:=rfl;have u1:(aF 1)[1]? =J (.B O):=rfl;have u2:(aF 1)[2]? =J (.B Y):=rfl;have u3:(aF 1)[3]? =J (.B Y):=rfl;have u4:(aF 1)[4]? =J (.B O):=rfl;have u5:(aF 1)[5]? =J (.B O):=rfl;have ct:=λT=>j_ 1 T;rw[show 2+xm [cZ 1,c7 1,aN ((1:Int)=1),aN ((1:Int)=2),aN ((1:Int)=8)]=4 from rfl]at ct;have P:∀ws C b,bk (S++[.M ah [] O,gw ws .aD,C,.M aM [] O,b]) .C (.P (S.length+1) 0)=J (.sl .N 1 (strs ws)):=λws C b=>sr (cS S _ 1);have Q:∀ws C b,bk (S++[.M ah [] O,gw ws .aD,C,.M aM [] O,b]) .C (.P (S.length+1) 1)=J .aD:=λws C b=>tI (cS S _ 1) rfl;have lns:gM (.sl .N 1 (strs [[119,114,105,116,101],a7 a.fst,a7 a.b_,dI (jW a.op)]))=J (.I V 4):=rfl;have k0:aE .eql (.I V 1) (.I V 0)=J (.B O):=rfl;have k1:aE .neq (.I V 4) (.I V 4)=J (.B O):=rfl;have b0:b6 .neq (.dA cC) Y .aD .aD=J (.B O):=rfl;have M:∀i,cn (.P i 0)=J (.P i 0):=λ_=>rfl;have gp:∀T i,b7 T (.P i 0)=J (.P i 0):=λ_ _=>rfl;have kp:∀T i,ca T (.P i 0)=T:=λ_ _=>rfl;have up:∀T T' i,bC T T' (.P i 0)=T':=λ_ _ _=>rfl;have np:∀i,cJ (.P i 0)=.P i 0:=λ_=>rfl;have nx:∀w ws C b,DF F W 69 [.P (S.length+1) 0] (S++[.M ah [] O,gw (w::ws) .aD,C,.M aM [] O,b])=J (.S w,S++[.M ah [] O,gw ws .aD,C,.M aM [] O,b]):=λw ws C b=>by have:=ik (S:=S++[.M ah [] O,gw (w::ws) .aD,C,.M aM [] O,b]) (j:=S.length+1) (w:=w) (ws:=ws) (e:=.aD) (cS S _ 1);rw[this];simp
 have y:∀n ws C b, -9223372036854775808<=n->n<=9223372036854775807->DF F W 70 [.P (S.length+1) 0] (S++[.M ah [] O,gw (a7 n::ws) .aD,C,.M aM [] O,b])=J (.I V n,S++[.M ah [] O,gw ws .aD,C,.M aM [] O,b]):=λn ws C b h0 h1=>by have:=il (S:=S++[.M ah [] O,gw (a7 n::ws) .aD,C,.M aM [] O,b]) (j:=S.length+1) (ws:=ws) n h0 h1 (cS S _ 1);rw[this];simp
 have n0:=λws C b=>y a.fst ws C b q.f0 q.f1;have n1:=λws C b=>y a.snd ws C b q.s0 q.s1;have n2:=λws C b=>y a.b_ ws C b q.v0 q.v1;have st:∀ab X c d b C A g x,aV C g [.I V x]=A->g+1<=C.length->a_ ab S.length (S++[X,c,.M C [] O,d,b]) 1 (.P (S.length+2) g) (.I V x)=J (ab,S++[X,c,.M A [] O,d,b]):=λab X c d b C A g x h hl=>by rw[en (mm V x).y_ (cS S [X,c,.M C [] O,d,b] 2),if_pos ⟨rfl,hl⟩,show(AV.I V x).cells=[.I V x]from rfl,h];simp
 have zo:ag.length=10:=rfl;have zl:ad.length=20:=rfl;have po:bQ ag=Y:=rfl;have pl:bQ ad=Y:=rfl;have so:ag.map aH=ag:=rfl;have sl:ad.map aH=ad:=rfl;have no:ag.map bO=r9.aq:=rfl;have nl:ad.map bO=jh.aq:=rfl;have nr:bO .ar=cq []:=rfl;have pB:=(aB.dB a.bare).aO;have r:∀f s v,(dm 1 f s v ag ad .ar).length=35:=λ_ _ _=>gu zo zl;have t1:=λab X c d b=>st ab X c d b (kC 1) (dm 1 a.fst 0 0 ag ad .ar) 1 a.fst rfl (by rw[show(kC 1).length=35 from r 0 0 0];omega);have t2:=λab X c d b=>st ab X c d b (dm 1 a.fst 0 0 ag ad .ar) (dm 1 a.fst 0 a.b_ ag ad .ar) 3 a.b_ rfl (by rw[r];omega);have eC:aV (dm 1 a.fst 0 a.b_ ag ad .ar) 4 a.op.aq=(dm 1 a.fst 0 a.b_ a.op.aq ad .ar):=RM _ _ _ _ _ _ (by simp[zo]);have bd:∀b,DF F W 71 [.P (S.length+1) 0,.P (S.length+2) 0,.A (aF 1)] (S++[.M ah [] O,gw [dI (jW a.op)] .aD,.M (dm 1 a.fst 0 a.b_ ag ad .ar) [] O,.M aM [] O,b])=J (.bP [],S++[.M ah [] O,gw [] .aD,.M (dm 1 a.fst 0 a.b_ a.op.aq ad .ar) [] O,.M aM [] O,b]):=λb=>by have:=EB (S:=S++[.M ah [] O,gw [dI (jW a.op)] .aD,.M (dm 1 a.fst 0 a.b_ ag ad .ar) [] O,.M aM [] O,b]) (j:=S.length+1) (m:=S.length+2) (ws:=[]) (C:=(dm 1 a.fst 0 a.b_ ag ad .ar)) a.op ha.op ho hx (by omega) (cS S _ 1) (cS S _ 2) (r _ _ _);rw[this,eC];simp
 have dO:a.op.aq.map bO=a.op.aq:=(l9.dB a.op).jg;have dL:a.bU.aq.map bO=a.bU.aq:=(bF.dB a.bU).jg;have⟨p1,p2,p3⟩:=pj 33 (dm 1 a.fst 0 a.b_ a.op.aq ad .ar) a.bare.aq (gu (by simp) zl) (kB _ _ _ _ _ _ _ (l9.dB _).aO pl rfl) (lW _ _ _ _ _ _ _ (l9.dB _).ml sl rfl) ((lV _ _ _ _ _ _ _).trans (by simp only[no,nl,dO,dL,nr,aB.jk,aB.bare,h];rfl)) pB S ah hz;rw[ee];have hkC:kC 0=ah:=rfl;clear ee wd no nl dO dL nr pB y st r hB E;have E:bE ah []=J ah:=rfl;rw[fI Lz];generalize hU:aF 1=U at*;have v1:∀p:1<U.length,U[1]'p=_:=λp=>ff ((cx p).symm.trans u1);have v2:∀p:2<U.length,U[2]'p=_:=λp=>ff ((cx p).symm.trans u2);have v3:∀p:3<U.length,U[3]'p=_:=λp=>ff ((cx p).symm.trans u3);have v4:∀p:4<U.length,U[4]'p=_:=λp=>ff ((cx p).symm.trans u4);have v5:∀p:5<U.length,U[5]'p=_:=λp=>ff ((cx p).symm.trans u5);generalize hZ:ah=d,cr=ZK,aU=ZU,(dm 1 a.fst 0 a.b_ a.op.aq ad .ar)=CF,kC 1=C1,aM=KC_ at*;simp-implicitDefEqProofs [-aE, -o_,z,Xg,fb,B,sg,N,kd,E,s5,s6,o,u,t,pK,cK,t.agg];rw[ak dw];try simp at L
 simp-implicitDefEqProofs [-aE, -o_,L,l0,i6,lU,hu,du,pu,cu,R,aY,P,Q,lns,ct,k0,k1,M,gp,kp,up,np,dd,cz,nx,n0,n1,n2,t1,t2,bd,v1,v2,v3,v4,v5,b0,p1,p2,p3]
set_option maxRecDepth 4000 in
def Zp(a:aB)(ha:a.Wf)(q:a.v7)(S:G)(h:a.ae=2)(hB:a.cR=Y)(hl:a.raw.length<=4096)(ho:a.bU.ba 5=Y)(hx:a.bU.bytes.length<=4096)(I:a.line.length<=1000000):DF F W 33 [.S a.line] S=J (.bP [.A a.aq,.aD],S):=by
 have wd:a.ax=[[112,117,98,108,105,115,104],a7 a.fst,a7 a.b_,dI a.bU.bytes]:=by simp[aB.ax,cm,cZ,c7,h]
 have z:=λT=>im a.line I T;rw[aB.lJ,wd]at z;have z:∀T,DF F W 67 [.S a.line,.S [32]] T=J (.sl .N 1 (strs [[112,117,98,108,105,115,104],a7 a.fst,a7 a.b_,dI a.bU.bytes]),T):=z;have Xg:aK [] (.sl .N 1 (strs [[112,117,98,108,105,115,104],a7 a.fst,a7 a.b_,dI a.bU.bytes]))=(.sl .N 1 (strs [[112,117,98,108,105,115,104],a7 a.fst,a7 a.b_,dI a.bU.bytes]),[]):=rfl;have fb:∀k,bE [.ar,.aD] [(0,1,.sl .N 1 k)]=J [.sl .N 1 k,.aD]:=λ_=>rfl;have B:∀k,bE [.ar,.aD] [(0,2,.A [.sl .N 1 k,.aD])]=J [.sl .N 1 k,.aD]:=λ_=>rfl;have N:∀ws,eR.M [.sl .N 1 (strs ws),.aD] [] O=gw ws .aD:=λ_=>rfl;have sg:∀k,aH (.A [.sl .N 1 k,.aD])=.A [.sl .N 1 k,.aD]:=λ_=>rfl;have kd:=dX;have ee:a.aq=a.bare.aq:=congrArg aB.aq (iA.1 (by rw[aB.gR];exact hB));have hz:ah.length=35:=rfl;have o:cr.length=60:=rfl;have R:aU.length=6:=rfl;have E:bE ah []=J ah:=rfl;have pz:bQ ah=Y:=rfl;have u:aM.length=60:=rfl;have t:=fq;have pK:=cG u t;have cK:(AV.A aM).cells=aM:=rfl;have s5:∀ab X c,a_ ab S.length (S++[X,c,.M ah [] O]) 35 (.P (S.length+2) 0) (.A ah)=J (ab,S++[X,c,.M (kC 0) [] O]):=λab X c=>by rw[pA (S:=S) rfl pz];simp only[wT,uY];rw[if_pos ⟨rfl,by rw[hz];omega⟩,aY rfl];rfl
 have s6:∀ab X c d,a_ ab S.length (S++[X,c,d,.M cr [] O]) 60 (.P (S.length+3) 0) (.A aM)=J (ab,S++[X,c,d,.M aM [] O]):=λab X c d=>by rw[pA (S:=S) rfl t.aO];simp only[wT,uY];rw[if_pos ⟨u,by rw[o];omega⟩,aY (by rw[u,o])];rfl
 have L:=uA 2 (by omega) (by omega) [a7 a.fst,a7 a.b_,dI a.bU.bytes] (.M ah [] O) [] S 9 1 rfl (by omega);rw[show(if(2:Int)<((1:Nat):Int)then(2:Int)else 0)=0 from if_neg (by omega),show cm 2=[112,117,98,108,105,115,104]from rfl]at L;have l0:∀X c d b,bk (S++X::c::.M (kC 2) [] O::d::b) .C (.P (S.length+2) 0)=J (.I V 2):=λX c d b=>by rw[bV (cs:=kC 2) (ab:=[]) (l:=O) (by rw[pG (by omega)];simp)];rfl
 have i6:o_ 10 6 (.P (S.length+3) 0) (.I V 2)=J (.P (S.length+3) 12):=Jh (S.length+3) 2 (by omega);have lU:∀X c d b,bk (S++X::c::d::.M aM [] O::b) (.A 6) (.P (S.length+3) 12)=J (.A (aF 2)):=λX c d b=>by rw[bV (cs:=aM) (ab:=[]) (l:=O) (by rw[pG (by omega)];simp)];exact nO 2 (by omega)
 have hu:(aF 2).length=6:=rfl;have du:=fo 2;have pu:=cG hu du;have cu:(AV.A (aF 2)).cells=aF 2:=rfl;have u1:(aF 2)[1]? =J (.B O):=rfl;have u2:(aF 2)[2]? =J (.B Y):=rfl;have u3:(aF 2)[3]? =J (.B O):=rfl;have u4:(aF 2)[4]? =J (.B Y):=rfl;have u5:(aF 2)[5]? =J (.B O):=rfl;have ct:=λT=>j_ 2 T;rw[show 2+xm [cZ 2,c7 2,aN ((2:Int)=1),aN ((2:Int)=2),aN ((2:Int)=8)]=4 from rfl]at ct;have P:∀ws C b,bk (S++[.M ah [] O,gw ws .aD,C,.M aM [] O,b]) .C (.P (S.length+1) 0)=J (.sl .N 1 (strs ws)):=λws C b=>sr (cS S _ 1);have Q:∀ws C b,bk (S++[.M ah [] O,gw ws .aD,C,.M aM [] O,b]) .C (.P (S.length+1) 1)=J .aD:=λws C b=>tI (cS S _ 1) rfl;have lns:gM (.sl .N 1 (strs [[112,117,98,108,105,115,104],a7 a.fst,a7 a.b_,dI a.bU.bytes]))=J (.I V 4):=rfl;have k0:aE .eql (.I V 2) (.I V 0)=J (.B O):=rfl;have k1:aE .neq (.I V 4) (.I V 4)=J (.B O):=rfl;have b0:b6 .neq (.dA cC) Y .aD .aD=J (.B O):=rfl;have M:∀i,cn (.P i 0)=J (.P i 0):=λ_=>rfl;have gp:∀T i,b7 T (.P i 0)=J (.P i 0):=λ_ _=>rfl;have kp:∀T i,ca T (.P i 0)=T:=λ_ _=>rfl;have up:∀T T' i,bC T T' (.P i 0)=T':=λ_ _ _=>rfl;have np:∀i,cJ (.P i 0)=.P i 0:=λ_=>rfl;have nx:∀w ws C b,DF F W 69 [.P (S.length+1) 0] (S++[.M ah [] O,gw (w::ws) .aD,C,.M aM [] O,b])=J (.S w,S++[.M ah [] O,gw ws .aD,C,.M aM [] O,b]):=λw ws C b=>by have:=ik (S:=S++[.M ah [] O,gw (w::ws) .aD,C,.M aM [] O,b]) (j:=S.length+1) (w:=w) (ws:=ws) (e:=.aD) (cS S _ 1);rw[this];simp
 have y:∀n ws C b, -9223372036854775808<=n->n<=9223372036854775807->DF F W 70 [.P (S.length+1) 0] (S++[.M ah [] O,gw (a7 n::ws) .aD,C,.M aM [] O,b])=J (.I V n,S++[.M ah [] O,gw ws .aD,C,.M aM [] O,b]):=λn ws C b h0 h1=>by have:=il (S:=S++[.M ah [] O,gw (a7 n::ws) .aD,C,.M aM [] O,b]) (j:=S.length+1) (ws:=ws) n h0 h1 (cS S _ 1);rw[this];simp
 have n0:=λws C b=>y a.fst ws C b q.f0 q.f1;have n1:=λws C b=>y a.snd ws C b q.s0 q.s1;have n2:=λws C b=>y a.b_ ws C b q.v0 q.v1;have st:∀ab X c d b C A g x,aV C g [.I V x]=A->g+1<=C.length->a_ ab S.length (S++[X,c,.M C [] O,d,b]) 1 (.P (S.length+2) g) (.I V x)=J (ab,S++[X,c,.M A [] O,d,b]):=λab X c d b C A g x h hl=>by rw[en (mm V x).y_ (cS S [X,c,.M C [] O,d,b] 2),if_pos ⟨rfl,hl⟩,show(AV.I V x).cells=[.I V x]from rfl,h];simp
 have zo:ag.length=10:=rfl;have zl:ad.length=20:=rfl;have po:bQ ag=Y:=rfl;have pl:bQ ad=Y:=rfl;have so:ag.map aH=ag:=rfl;have sl:ad.map aH=ad:=rfl;have no:ag.map bO=r9.aq:=rfl;have nl:ad.map bO=jh.aq:=rfl;have nr:bO .ar=cq []:=rfl;have pB:=(aB.dB a.bare).aO;have r:∀f s v,(dm 2 f s v ag ad .ar).length=35:=λ_ _ _=>gu zo zl;have t1:=λab X c d b=>st ab X c d b (kC 2) (dm 2 a.fst 0 0 ag ad .ar) 1 a.fst rfl (by rw[show(kC 2).length=35 from r 0 0 0];omega);have t2:=λab X c d b=>st ab X c d b (dm 2 a.fst 0 0 ag ad .ar) (dm 2 a.fst 0 a.b_ ag ad .ar) 3 a.b_ rfl (by rw[r];omega);have eC:aV (dm 2 a.fst 0 a.b_ ag ad .ar) 14 a.bU.aq=(dm 2 a.fst 0 a.b_ ag a.bU.aq .ar):=Kn _ _ _ _ _ _ zo (by simp[zl]);have bd:∀b,DF F W 71 [.P (S.length+1) 0,.P (S.length+2) 0,.A (aF 2)] (S++[.M ah [] O,gw [dI a.bU.bytes] .aD,.M (dm 2 a.fst 0 a.b_ ag ad .ar) [] O,.M aM [] O,b])=J (.bP [],S++[.M ah [] O,gw [] .aD,.M (dm 2 a.fst 0 a.b_ ag a.bU.aq .ar) [] O,.M aM [] O,b]):=λb=>by have:=Cq (S:=S++[.M ah [] O,gw [dI a.bU.bytes] .aD,.M (dm 2 a.fst 0 a.b_ ag ad .ar) [] O,.M aM [] O,b]) (j:=S.length+1) (m:=S.length+2) (ws:=[]) (C:=(dm 2 a.fst 0 a.b_ ag ad .ar)) a.bU ha.bU ho hx (by omega) (cS S _ 1) (cS S _ 2) (r _ _ _);rw[this,eC];simp
 have dO:a.op.aq.map bO=a.op.aq:=(l9.dB a.op).jg;have dL:a.bU.aq.map bO=a.bU.aq:=(bF.dB a.bU).jg;have⟨p1,p2,p3⟩:=pj 33 (dm 2 a.fst 0 a.b_ ag a.bU.aq .ar) a.bare.aq (gu zo (by simp)) (kB _ _ _ _ _ _ _ po (bF.dB _).aO rfl) (lW _ _ _ _ _ _ _ so (bF.dB _).ml rfl) ((lV _ _ _ _ _ _ _).trans (by simp only[no,nl,dO,dL,nr,aB.jk,aB.bare,h];rfl)) pB S ah hz;rw[ee];have hkC:kC 0=ah:=rfl;clear ee wd no nl dO dL nr pB y st r hB E;have E:bE ah []=J ah:=rfl;rw[fI Lz];generalize hU:aF 2=U at*;have v1:∀p:1<U.length,U[1]'p=_:=λp=>ff ((cx p).symm.trans u1);have v2:∀p:2<U.length,U[2]'p=_:=λp=>ff ((cx p).symm.trans u2);have v3:∀p:3<U.length,U[3]'p=_:=λp=>ff ((cx p).symm.trans u3);have v4:∀p:4<U.length,U[4]'p=_:=λp=>ff ((cx p).symm.trans u4);have v5:∀p:5<U.length,U[5]'p=_:=λp=>ff ((cx p).symm.trans u5);generalize hZ:ah=d,cr=ZK,aU=ZU,(dm 2 a.fst 0 a.b_ ag a.bU.aq .ar)=CF,kC 2=C1,aM=KC_ at*;simp-implicitDefEqProofs [-aE, -o_,z,Xg,fb,B,sg,N,kd,E,s5,s6,o,u,t,pK,cK,t.agg];rw[ak dw];try simp at L
 simp-implicitDefEqProofs [-aE, -o_,L,l0,i6,lU,hu,du,pu,cu,R,aY,P,Q,lns,ct,k0,k1,M,gp,kp,up,np,dd,cz,nx,n0,n1,n2,t1,t2,bd,v1,v2,v3,v4,v5,b0,p1,p2,p3]
set_option maxRecDepth 4000 in
def Zq(a:aB)(ha:a.Wf)(o:a.v7)(S:G)(h:a.ae=3)(hB:a.cR=Y)(hl:a.raw.length<=4096)(E:a.line.length<=1000000):DF F W 33 [.S a.line] S=J (.bP [.A a.aq,.aD],S):=by
 have wd:a.ax=[[115,121,110,99],a7 a.fst,a7 a.snd]:=by simp[aB.ax,cm,cZ,c7,h]
 have u:=λT=>im a.line E T;rw[aB.lJ,wd]at u;have u:∀T,DF F W 67 [.S a.line,.S [32]] T=J (.sl .N 1 (strs [[115,121,110,99],a7 a.fst,a7 a.snd]),T):=u;have Xg:aK [] (.sl .N 1 (strs [[115,121,110,99],a7 a.fst,a7 a.snd]))=(.sl .N 1 (strs [[115,121,110,99],a7 a.fst,a7 a.snd]),[]):=rfl;have fb:∀k,bE [.ar,.aD] [(0,1,.sl .N 1 k)]=J [.sl .N 1 k,.aD]:=λ_=>rfl;have A:∀k,bE [.ar,.aD] [(0,2,.A [.sl .N 1 k,.aD])]=J [.sl .N 1 k,.aD]:=λ_=>rfl;have M:∀ws,eR.M [.sl .N 1 (strs ws),.aD] [] O=gw ws .aD:=λ_=>rfl;have sg:∀k,aH (.A [.sl .N 1 k,.aD])=.A [.sl .N 1 k,.aD]:=λ_=>rfl;have kd:=dX;have ee:a.aq=a.bare.aq:=congrArg aB.aq (iA.1 (by rw[aB.gR];exact hB));have hz:ah.length=35:=rfl;have m:cr.length=60:=rfl;have Q:aU.length=6:=rfl;have B:bE ah []=J ah:=rfl;have pz:bQ ah=Y:=rfl;have r:aM.length=60:=rfl;have q:=fq;have pK:=cG r q;have cK:(AV.A aM).cells=aM:=rfl;have s5:∀ab X c,a_ ab S.length (S++[X,c,.M ah [] O]) 35 (.P (S.length+2) 0) (.A ah)=J (ab,S++[X,c,.M (kC 0) [] O]):=λab X c=>by rw[pA (S:=S) rfl pz];simp only[wT,uY];rw[if_pos ⟨rfl,by rw[hz];omega⟩,aY rfl];rfl
 have s6:∀ab X c d,a_ ab S.length (S++[X,c,d,.M cr [] O]) 60 (.P (S.length+3) 0) (.A aM)=J (ab,S++[X,c,d,.M aM [] O]):=λab X c d=>by rw[pA (S:=S) rfl q.aO];simp only[wT,uY];rw[if_pos ⟨r,by rw[m];omega⟩,aY (by rw[r,m])];rfl
 have L:=uA 3 (by omega) (by omega) [a7 a.fst,a7 a.snd] (.M ah [] O) [] S 9 1 rfl (by omega);rw[show(if(3:Int)<((1:Nat):Int)then(3:Int)else 0)=0 from if_neg (by omega),show cm 3=[115,121,110,99]from rfl]at L;have l0:∀X c d b,bk (S++X::c::.M (kC 3) [] O::d::b) .C (.P (S.length+2) 0)=J (.I V 3):=λX c d b=>by rw[bV (cs:=kC 3) (ab:=[]) (l:=O) (by rw[pG (by omega)];simp)];rfl
 have i6:o_ 10 6 (.P (S.length+3) 0) (.I V 3)=J (.P (S.length+3) 18):=Jh (S.length+3) 3 (by omega);have lU:∀X c d b,bk (S++X::c::d::.M aM [] O::b) (.A 6) (.P (S.length+3) 18)=J (.A (aF 3)):=λX c d b=>by rw[bV (cs:=aM) (ab:=[]) (l:=O) (by rw[pG (by omega)];simp)];exact nO 3 (by omega)
 have hu:(aF 3).length=6:=rfl;have du:=fo 3;have pu:=cG hu du;have cu:(AV.A (aF 3)).cells=aF 3:=rfl;have u1:(aF 3)[1]? =J (.B Y):=rfl;have u2:(aF 3)[2]? =J (.B O):=rfl;have u3:(aF 3)[3]? =J (.B O):=rfl;have u4:(aF 3)[4]? =J (.B O):=rfl;have u5:(aF 3)[5]? =J (.B O):=rfl;have ct:=λT=>j_ 3 T;rw[show 2+xm [cZ 3,c7 3,aN ((3:Int)=1),aN ((3:Int)=2),aN ((3:Int)=8)]=3 from rfl]at ct;have N:∀ws C b,bk (S++[.M ah [] O,gw ws .aD,C,.M aM [] O,b]) .C (.P (S.length+1) 0)=J (.sl .N 1 (strs ws)):=λws C b=>sr (cS S _ 1);have P:∀ws C b,bk (S++[.M ah [] O,gw ws .aD,C,.M aM [] O,b]) .C (.P (S.length+1) 1)=J .aD:=λws C b=>tI (cS S _ 1) rfl;have R:gM (.sl .N 1 (strs [[115,121,110,99],a7 a.fst,a7 a.snd]))=J (.I V 3):=rfl;have k0:aE .eql (.I V 3) (.I V 0)=J (.B O):=rfl;have k1:aE .neq (.I V 3) (.I V 3)=J (.B O):=rfl;have b0:b6 .neq (.dA cC) Y .aD .aD=J (.B O):=rfl;have I:∀i,cn (.P i 0)=J (.P i 0):=λ_=>rfl;have gp:∀T i,b7 T (.P i 0)=J (.P i 0):=λ_ _=>rfl;have kp:∀T i,ca T (.P i 0)=T:=λ_ _=>rfl;have up:∀T T' i,bC T T' (.P i 0)=T':=λ_ _ _=>rfl;have np:∀i,cJ (.P i 0)=.P i 0:=λ_=>rfl;have nx:∀w ws C b,DF F W 69 [.P (S.length+1) 0] (S++[.M ah [] O,gw (w::ws) .aD,C,.M aM [] O,b])=J (.S w,S++[.M ah [] O,gw ws .aD,C,.M aM [] O,b]):=λw ws C b=>by have:=ik (S:=S++[.M ah [] O,gw (w::ws) .aD,C,.M aM [] O,b]) (j:=S.length+1) (w:=w) (ws:=ws) (e:=.aD) (cS S _ 1);rw[this];simp
 have t:∀n ws C b, -9223372036854775808<=n->n<=9223372036854775807->DF F W 70 [.P (S.length+1) 0] (S++[.M ah [] O,gw (a7 n::ws) .aD,C,.M aM [] O,b])=J (.I V n,S++[.M ah [] O,gw ws .aD,C,.M aM [] O,b]):=λn ws C b h0 h1=>by have:=il (S:=S++[.M ah [] O,gw (a7 n::ws) .aD,C,.M aM [] O,b]) (j:=S.length+1) (ws:=ws) n h0 h1 (cS S _ 1);rw[this];simp
 have n0:=λws C b=>t a.fst ws C b o.f0 o.f1;have n1:=λws C b=>t a.snd ws C b o.s0 o.s1;have n2:=λws C b=>t a.b_ ws C b o.v0 o.v1;have st:∀ab X c d b C y g x,aV C g [.I V x]=y->g+1<=C.length->a_ ab S.length (S++[X,c,.M C [] O,d,b]) 1 (.P (S.length+2) g) (.I V x)=J (ab,S++[X,c,.M y [] O,d,b]):=λab X c d b C y g x h hl=>by rw[en (mm V x).y_ (cS S [X,c,.M C [] O,d,b] 2),if_pos ⟨rfl,hl⟩,show(AV.I V x).cells=[.I V x]from rfl,h];simp
 have zo:ag.length=10:=rfl;have zl:ad.length=20:=rfl;have po:bQ ag=Y:=rfl;have pl:bQ ad=Y:=rfl;have so:ag.map aH=ag:=rfl;have sl:ad.map aH=ad:=rfl;have no:ag.map bO=r9.aq:=rfl;have nl:ad.map bO=jh.aq:=rfl;have nr:bO .ar=cq []:=rfl;have pB:=(aB.dB a.bare).aO;have z:∀f s v,(dm 3 f s v ag ad .ar).length=35:=λ_ _ _=>gu zo zl;have t1:=λab X c d b=>st ab X c d b (kC 3) (dm 3 a.fst 0 0 ag ad .ar) 1 a.fst rfl (by rw[show(kC 3).length=35 from z 0 0 0];omega);have t2:=λab X c d b=>st ab X c d b (dm 3 a.fst 0 0 ag ad .ar) (dm 3 a.fst a.snd 0 ag ad .ar) 2 a.snd rfl (by rw[z];omega);have dO:a.op.aq.map bO=a.op.aq:=(l9.dB a.op).jg;have dL:a.bU.aq.map bO=a.bU.aq:=(bF.dB a.bU).jg;have⟨p1,p2,p3⟩:=pj 33 (dm 3 a.fst a.snd 0 ag ad .ar) a.bare.aq (gu zo zl) (kB _ _ _ _ _ _ _ po pl rfl) (lW _ _ _ _ _ _ _ so sl rfl) ((lV _ _ _ _ _ _ _).trans (by simp only[no,nl,dO,dL,nr,aB.jk,aB.bare,h];rfl)) pB S ah hz;rw[ee];have hkC:kC 0=ah:=rfl;clear ee wd no nl dO dL nr pB t st z hB B;have B:bE ah []=J ah:=rfl;rw[fI Lz];generalize hU:aF 3=U at*;have v1:∀p:1<U.length,U[1]'p=_:=λp=>ff ((cx p).symm.trans u1);have v2:∀p:2<U.length,U[2]'p=_:=λp=>ff ((cx p).symm.trans u2);have v3:∀p:3<U.length,U[3]'p=_:=λp=>ff ((cx p).symm.trans u3);have v4:∀p:4<U.length,U[4]'p=_:=λp=>ff ((cx p).symm.trans u4);have v5:∀p:5<U.length,U[5]'p=_:=λp=>ff ((cx p).symm.trans u5);generalize hZ:ah=d,cr=ZK,aU=ZU,(dm 3 a.fst a.snd 0 ag ad .ar)=CF,kC 3=C1,aM=KC_ at*;simp-implicitDefEqProofs [-aE, -o_,u,Xg,fb,A,sg,M,kd,B,s5,s6,m,r,q,pK,cK,q.agg];rw[ak dw];try simp at L
 simp-implicitDefEqProofs [-aE, -o_,L,l0,i6,lU,hu,du,pu,cu,Q,aY,N,P,R,ct,k0,k1,I,gp,kp,up,np,dd,cz,nx,n0,n1,n2,t1,t2,v1,v2,v3,v4,v5,b0,p1,p2,p3]
set_option maxRecDepth 4000 in
def Zr(a:aB)(ha:a.Wf)(o:a.v7)(S:G)(h:a.ae=4)(hB:a.cR=Y)(hl:a.raw.length<=4096)(B:a.line.length<=1000000):DF F W 33 [.S a.line] S=J (.bP [.A a.aq,.aD],S):=by
 have wd:a.ax=[[100,101,108,105,118,101,114],a7 a.fst]:=by simp[aB.ax,cm,cZ,c7,h]
 have u:=λT=>im a.line B T;rw[aB.lJ,wd]at u;have u:∀T,DF F W 67 [.S a.line,.S [32]] T=J (.sl .N 1 (strs [[100,101,108,105,118,101,114],a7 a.fst]),T):=u;have R:aK [] (.sl .N 1 (strs [[100,101,108,105,118,101,114],a7 a.fst]))=(.sl .N 1 (strs [[100,101,108,105,118,101,114],a7 a.fst]),[]):=rfl;have fb:∀k,bE [.ar,.aD] [(0,1,.sl .N 1 k)]=J [.sl .N 1 k,.aD]:=λ_=>rfl;have z:∀k,bE [.ar,.aD] [(0,2,.A [.sl .N 1 k,.aD])]=J [.sl .N 1 k,.aD]:=λ_=>rfl;have I:∀ws,eR.M [.sl .N 1 (strs ws),.aD] [] O=gw ws .aD:=λ_=>rfl;have sg:∀k,aH (.A [.sl .N 1 k,.aD])=.A [.sl .N 1 k,.aD]:=λ_=>rfl;have kd:=dX;have ee:a.aq=a.bare.aq:=congrArg aB.aq (iA.1 (by rw[aB.gR];exact hB));have hz:ah.length=35:=rfl;have m:cr.length=60:=rfl;have P:aU.length=6:=rfl;have A:bE ah []=J ah:=rfl;have pz:bQ ah=Y:=rfl;have r:aM.length=60:=rfl;have q:=fq;have pK:=cG r q;have cK:(AV.A aM).cells=aM:=rfl;have s5:∀ab X c,a_ ab S.length (S++[X,c,.M ah [] O]) 35 (.P (S.length+2) 0) (.A ah)=J (ab,S++[X,c,.M (kC 0) [] O]):=λab X c=>by rw[pA (S:=S) rfl pz];simp only[wT,uY];rw[if_pos ⟨rfl,by rw[hz];omega⟩,aY rfl];rfl
 have s6:∀ab X c d,a_ ab S.length (S++[X,c,d,.M cr [] O]) 60 (.P (S.length+3) 0) (.A aM)=J (ab,S++[X,c,d,.M aM [] O]):=λab X c d=>by rw[pA (S:=S) rfl q.aO];simp only[wT,uY];rw[if_pos ⟨r,by rw[m];omega⟩,aY (by rw[r,m])];rfl
 have L:=uA 4 (by omega) (by omega) [a7 a.fst] (.M ah [] O) [] S 9 1 rfl (by omega);rw[show(if(4:Int)<((1:Nat):Int)then(4:Int)else 0)=0 from if_neg (by omega),show cm 4=[100,101,108,105,118,101,114]from rfl]at L;have l0:∀X c d b,bk (S++X::c::.M (kC 4) [] O::d::b) .C (.P (S.length+2) 0)=J (.I V 4):=λX c d b=>by rw[bV (cs:=kC 4) (ab:=[]) (l:=O) (by rw[pG (by omega)];simp)];rfl
 have i6:o_ 10 6 (.P (S.length+3) 0) (.I V 4)=J (.P (S.length+3) 24):=Jh (S.length+3) 4 (by omega);have lU:∀X c d b,bk (S++X::c::d::.M aM [] O::b) (.A 6) (.P (S.length+3) 24)=J (.A (aF 4)):=λX c d b=>by rw[bV (cs:=aM) (ab:=[]) (l:=O) (by rw[pG (by omega)];simp)];exact nO 4 (by omega)
 have hu:(aF 4).length=6:=rfl;have du:=fo 4;have pu:=cG hu du;have cu:(AV.A (aF 4)).cells=aF 4:=rfl;have u1:(aF 4)[1]? =J (.B O):=rfl;have u2:(aF 4)[2]? =J (.B O):=rfl;have u3:(aF 4)[3]? =J (.B O):=rfl;have u4:(aF 4)[4]? =J (.B O):=rfl;have u5:(aF 4)[5]? =J (.B O):=rfl;have ct:=λT=>j_ 4 T;rw[show 2+xm [cZ 4,c7 4,aN ((4:Int)=1),aN ((4:Int)=2),aN ((4:Int)=8)]=2 from rfl]at ct;have M:∀ws C b,bk (S++[.M ah [] O,gw ws .aD,C,.M aM [] O,b]) .C (.P (S.length+1) 0)=J (.sl .N 1 (strs ws)):=λws C b=>sr (cS S _ 1);have N:∀ws C b,bk (S++[.M ah [] O,gw ws .aD,C,.M aM [] O,b]) .C (.P (S.length+1) 1)=J .aD:=λws C b=>tI (cS S _ 1) rfl;have Q:gM (.sl .N 1 (strs [[100,101,108,105,118,101,114],a7 a.fst]))=J (.I V 2):=rfl;have k0:aE .eql (.I V 4) (.I V 0)=J (.B O):=rfl;have k1:aE .neq (.I V 2) (.I V 2)=J (.B O):=rfl;have b0:b6 .neq (.dA cC) Y .aD .aD=J (.B O):=rfl;have E:∀i,cn (.P i 0)=J (.P i 0):=λ_=>rfl;have gp:∀T i,b7 T (.P i 0)=J (.P i 0):=λ_ _=>rfl;have kp:∀T i,ca T (.P i 0)=T:=λ_ _=>rfl;have up:∀T T' i,bC T T' (.P i 0)=T':=λ_ _ _=>rfl;have np:∀i,cJ (.P i 0)=.P i 0:=λ_=>rfl;have nx:∀w ws C b,DF F W 69 [.P (S.length+1) 0] (S++[.M ah [] O,gw (w::ws) .aD,C,.M aM [] O,b])=J (.S w,S++[.M ah [] O,gw ws .aD,C,.M aM [] O,b]):=λw ws C b=>by have:=ik (S:=S++[.M ah [] O,gw (w::ws) .aD,C,.M aM [] O,b]) (j:=S.length+1) (w:=w) (ws:=ws) (e:=.aD) (cS S _ 1);rw[this];simp
 have t:∀n ws C b, -9223372036854775808<=n->n<=9223372036854775807->DF F W 70 [.P (S.length+1) 0] (S++[.M ah [] O,gw (a7 n::ws) .aD,C,.M aM [] O,b])=J (.I V n,S++[.M ah [] O,gw ws .aD,C,.M aM [] O,b]):=λn ws C b h0 h1=>by have:=il (S:=S++[.M ah [] O,gw (a7 n::ws) .aD,C,.M aM [] O,b]) (j:=S.length+1) (ws:=ws) n h0 h1 (cS S _ 1);rw[this];simp
 have n0:=λws C b=>t a.fst ws C b o.f0 o.f1;have n1:=λws C b=>t a.snd ws C b o.s0 o.s1;have n2:=λws C b=>t a.b_ ws C b o.v0 o.v1;have st:∀ab X c d b C y g x,aV C g [.I V x]=y->g+1<=C.length->a_ ab S.length (S++[X,c,.M C [] O,d,b]) 1 (.P (S.length+2) g) (.I V x)=J (ab,S++[X,c,.M y [] O,d,b]):=λab X c d b C y g x h hl=>by rw[en (mm V x).y_ (cS S [X,c,.M C [] O,d,b] 2),if_pos ⟨rfl,hl⟩,show(AV.I V x).cells=[.I V x]from rfl,h];simp
 have zo:ag.length=10:=rfl;have zl:ad.length=20:=rfl;have po:bQ ag=Y:=rfl;have pl:bQ ad=Y:=rfl;have so:ag.map aH=ag:=rfl;have sl:ad.map aH=ad:=rfl;have no:ag.map bO=r9.aq:=rfl;have nl:ad.map bO=jh.aq:=rfl;have nr:bO .ar=cq []:=rfl;have pB:=(aB.dB a.bare).aO;have LC:∀f s v,(dm 4 f s v ag ad .ar).length=35:=λ_ _ _=>gu zo zl;have t1:=λab X c d b=>st ab X c d b (kC 4) (dm 4 a.fst 0 0 ag ad .ar) 1 a.fst rfl (by rw[show(kC 4).length=35 from LC 0 0 0];omega);have dO:a.op.aq.map bO=a.op.aq:=(l9.dB a.op).jg;have dL:a.bU.aq.map bO=a.bU.aq:=(bF.dB a.bU).jg;have⟨p1,p2,p3⟩:=pj 33 (dm 4 a.fst 0 0 ag ad .ar) a.bare.aq (gu zo zl) (kB _ _ _ _ _ _ _ po pl rfl) (lW _ _ _ _ _ _ _ so sl rfl) ((lV _ _ _ _ _ _ _).trans (by simp only[no,nl,dO,dL,nr,aB.jk,aB.bare,h];rfl)) pB S ah hz;rw[ee];have hkC:kC 0=ah:=rfl;clear ee wd no nl dO dL nr pB t st LC hB A;have A:bE ah []=J ah:=rfl;rw[fI Lz];generalize hU:aF 4=U at*;have v1:∀p:1<U.length,U[1]'p=_:=λp=>ff ((cx p).symm.trans u1);have v2:∀p:2<U.length,U[2]'p=_:=λp=>ff ((cx p).symm.trans u2);have v3:∀p:3<U.length,U[3]'p=_:=λp=>ff ((cx p).symm.trans u3);have v4:∀p:4<U.length,U[4]'p=_:=λp=>ff ((cx p).symm.trans u4);have v5:∀p:5<U.length,U[5]'p=_:=λp=>ff ((cx p).symm.trans u5);generalize hZ:ah=d,cr=ZK,aU=ZU,(dm 4 a.fst 0 0 ag ad .ar)=CF,kC 4=C1,aM=KC_ at*;simp-implicitDefEqProofs [-aE, -o_,u,R,fb,z,sg,I,kd,A,s5,s6,m,r,q,pK,cK,q.agg];rw[ak dw];try simp at L
 simp-implicitDefEqProofs [-aE, -o_,L,l0,i6,lU,hu,du,pu,cu,P,aY,M,N,Q,ct,k0,k1,E,gp,kp,up,np,dd,cz,nx,n0,n1,n2,t1,v1,v2,v3,v4,v5,b0,p1,p2,p3]
set_option maxRecDepth 4000 in
def Zs(a:aB)(ha:a.Wf)(o:a.v7)(S:G)(h:a.ae=5)(hB:a.cR=Y)(hl:a.raw.length<=4096)(B:a.line.length<=1000000):DF F W 33 [.S a.line] S=J (.bP [.A a.aq,.aD],S):=by
 have wd:a.ax=[[108,111,115,101],a7 a.fst]:=by simp[aB.ax,cm,cZ,c7,h]
 have u:=λT=>im a.line B T;rw[aB.lJ,wd]at u;have u:∀T,DF F W 67 [.S a.line,.S [32]] T=J (.sl .N 1 (strs [[108,111,115,101],a7 a.fst]),T):=u;have R:aK [] (.sl .N 1 (strs [[108,111,115,101],a7 a.fst]))=(.sl .N 1 (strs [[108,111,115,101],a7 a.fst]),[]):=rfl;have fb:∀k,bE [.ar,.aD] [(0,1,.sl .N 1 k)]=J [.sl .N 1 k,.aD]:=λ_=>rfl;have z:∀k,bE [.ar,.aD] [(0,2,.A [.sl .N 1 k,.aD])]=J [.sl .N 1 k,.aD]:=λ_=>rfl;have I:∀ws,eR.M [.sl .N 1 (strs ws),.aD] [] O=gw ws .aD:=λ_=>rfl;have sg:∀k,aH (.A [.sl .N 1 k,.aD])=.A [.sl .N 1 k,.aD]:=λ_=>rfl;have kd:=dX;have ee:a.aq=a.bare.aq:=congrArg aB.aq (iA.1 (by rw[aB.gR];exact hB));have hz:ah.length=35:=rfl;have m:cr.length=60:=rfl;have P:aU.length=6:=rfl;have A:bE ah []=J ah:=rfl;have pz:bQ ah=Y:=rfl;have r:aM.length=60:=rfl;have q:=fq;have pK:=cG r q;have cK:(AV.A aM).cells=aM:=rfl;have s5:∀ab X c,a_ ab S.length (S++[X,c,.M ah [] O]) 35 (.P (S.length+2) 0) (.A ah)=J (ab,S++[X,c,.M (kC 0) [] O]):=λab X c=>by rw[pA (S:=S) rfl pz];simp only[wT,uY];rw[if_pos ⟨rfl,by rw[hz];omega⟩,aY rfl];rfl
 have s6:∀ab X c d,a_ ab S.length (S++[X,c,d,.M cr [] O]) 60 (.P (S.length+3) 0) (.A aM)=J (ab,S++[X,c,d,.M aM [] O]):=λab X c d=>by rw[pA (S:=S) rfl q.aO];simp only[wT,uY];rw[if_pos ⟨r,by rw[m];omega⟩,aY (by rw[r,m])];rfl
 have L:=uA 5 (by omega) (by omega) [a7 a.fst] (.M ah [] O) [] S 9 1 rfl (by omega);rw[show(if(5:Int)<((1:Nat):Int)then(5:Int)else 0)=0 from if_neg (by omega),show cm 5=[108,111,115,101]from rfl]at L;have l0:∀X c d b,bk (S++X::c::.M (kC 5) [] O::d::b) .C (.P (S.length+2) 0)=J (.I V 5):=λX c d b=>by rw[bV (cs:=kC 5) (ab:=[]) (l:=O) (by rw[pG (by omega)];simp)];rfl
 have i6:o_ 10 6 (.P (S.length+3) 0) (.I V 5)=J (.P (S.length+3) 30):=Jh (S.length+3) 5 (by omega);have lU:∀X c d b,bk (S++X::c::d::.M aM [] O::b) (.A 6) (.P (S.length+3) 30)=J (.A (aF 5)):=λX c d b=>by rw[bV (cs:=aM) (ab:=[]) (l:=O) (by rw[pG (by omega)];simp)];exact nO 5 (by omega)
 have hu:(aF 5).length=6:=rfl;have du:=fo 5;have pu:=cG hu du;have cu:(AV.A (aF 5)).cells=aF 5:=rfl;have u1:(aF 5)[1]? =J (.B O):=rfl;have u2:(aF 5)[2]? =J (.B O):=rfl;have u3:(aF 5)[3]? =J (.B O):=rfl;have u4:(aF 5)[4]? =J (.B O):=rfl;have u5:(aF 5)[5]? =J (.B O):=rfl;have ct:=λT=>j_ 5 T;rw[show 2+xm [cZ 5,c7 5,aN ((5:Int)=1),aN ((5:Int)=2),aN ((5:Int)=8)]=2 from rfl]at ct;have M:∀ws C b,bk (S++[.M ah [] O,gw ws .aD,C,.M aM [] O,b]) .C (.P (S.length+1) 0)=J (.sl .N 1 (strs ws)):=λws C b=>sr (cS S _ 1);have N:∀ws C b,bk (S++[.M ah [] O,gw ws .aD,C,.M aM [] O,b]) .C (.P (S.length+1) 1)=J .aD:=λws C b=>tI (cS S _ 1) rfl;have Q:gM (.sl .N 1 (strs [[108,111,115,101],a7 a.fst]))=J (.I V 2):=rfl;have k0:aE .eql (.I V 5) (.I V 0)=J (.B O):=rfl;have k1:aE .neq (.I V 2) (.I V 2)=J (.B O):=rfl;have b0:b6 .neq (.dA cC) Y .aD .aD=J (.B O):=rfl;have E:∀i,cn (.P i 0)=J (.P i 0):=λ_=>rfl;have gp:∀T i,b7 T (.P i 0)=J (.P i 0):=λ_ _=>rfl;have kp:∀T i,ca T (.P i 0)=T:=λ_ _=>rfl;have up:∀T T' i,bC T T' (.P i 0)=T':=λ_ _ _=>rfl;have np:∀i,cJ (.P i 0)=.P i 0:=λ_=>rfl;have nx:∀w ws C b,DF F W 69 [.P (S.length+1) 0] (S++[.M ah [] O,gw (w::ws) .aD,C,.M aM [] O,b])=J (.S w,S++[.M ah [] O,gw ws .aD,C,.M aM [] O,b]):=λw ws C b=>by have:=ik (S:=S++[.M ah [] O,gw (w::ws) .aD,C,.M aM [] O,b]) (j:=S.length+1) (w:=w) (ws:=ws) (e:=.aD) (cS S _ 1);rw[this];simp
 have t:∀n ws C b, -9223372036854775808<=n->n<=9223372036854775807->DF F W 70 [.P (S.length+1) 0] (S++[.M ah [] O,gw (a7 n::ws) .aD,C,.M aM [] O,b])=J (.I V n,S++[.M ah [] O,gw ws .aD,C,.M aM [] O,b]):=λn ws C b h0 h1=>by have:=il (S:=S++[.M ah [] O,gw (a7 n::ws) .aD,C,.M aM [] O,b]) (j:=S.length+1) (ws:=ws) n h0 h1 (cS S _ 1);rw[this];simp
 have n0:=λws C b=>t a.fst ws C b o.f0 o.f1;have n1:=λws C b=>t a.snd ws C b o.s0 o.s1;have n2:=λws C b=>t a.b_ ws C b o.v0 o.v1;have st:∀ab X c d b C y g x,aV C g [.I V x]=y->g+1<=C.length->a_ ab S.length (S++[X,c,.M C [] O,d,b]) 1 (.P (S.length+2) g) (.I V x)=J (ab,S++[X,c,.M y [] O,d,b]):=λab X c d b C y g x h hl=>by rw[en (mm V x).y_ (cS S [X,c,.M C [] O,d,b] 2),if_pos ⟨rfl,hl⟩,show(AV.I V x).cells=[.I V x]from rfl,h];simp
 have zo:ag.length=10:=rfl;have zl:ad.length=20:=rfl;have po:bQ ag=Y:=rfl;have pl:bQ ad=Y:=rfl;have so:ag.map aH=ag:=rfl;have sl:ad.map aH=ad:=rfl;have no:ag.map bO=r9.aq:=rfl;have nl:ad.map bO=jh.aq:=rfl;have nr:bO .ar=cq []:=rfl;have pB:=(aB.dB a.bare).aO;have LC:∀f s v,(dm 5 f s v ag ad .ar).length=35:=λ_ _ _=>gu zo zl;have t1:=λab X c d b=>st ab X c d b (kC 5) (dm 5 a.fst 0 0 ag ad .ar) 1 a.fst rfl (by rw[show(kC 5).length=35 from LC 0 0 0];omega);have dO:a.op.aq.map bO=a.op.aq:=(l9.dB a.op).jg;have dL:a.bU.aq.map bO=a.bU.aq:=(bF.dB a.bU).jg;have⟨p1,p2,p3⟩:=pj 33 (dm 5 a.fst 0 0 ag ad .ar) a.bare.aq (gu zo zl) (kB _ _ _ _ _ _ _ po pl rfl) (lW _ _ _ _ _ _ _ so sl rfl) ((lV _ _ _ _ _ _ _).trans (by simp only[no,nl,dO,dL,nr,aB.jk,aB.bare,h];rfl)) pB S ah hz;rw[ee];have hkC:kC 0=ah:=rfl;clear ee wd no nl dO dL nr pB t st LC hB A;have A:bE ah []=J ah:=rfl;rw[fI Lz];generalize hU:aF 5=U at*;have v1:∀p:1<U.length,U[1]'p=_:=λp=>ff ((cx p).symm.trans u1);have v2:∀p:2<U.length,U[2]'p=_:=λp=>ff ((cx p).symm.trans u2);have v3:∀p:3<U.length,U[3]'p=_:=λp=>ff ((cx p).symm.trans u3);have v4:∀p:4<U.length,U[4]'p=_:=λp=>ff ((cx p).symm.trans u4);have v5:∀p:5<U.length,U[5]'p=_:=λp=>ff ((cx p).symm.trans u5);generalize hZ:ah=d,cr=ZK,aU=ZU,(dm 5 a.fst 0 0 ag ad .ar)=CF,kC 5=C1,aM=KC_ at*;simp-implicitDefEqProofs [-aE, -o_,u,R,fb,z,sg,I,kd,A,s5,s6,m,r,q,pK,cK,q.agg];rw[ak dw];try simp at L
 simp-implicitDefEqProofs [-aE, -o_,L,l0,i6,lU,hu,du,pu,cu,P,aY,M,N,Q,ct,k0,k1,E,gp,kp,up,np,dd,cz,nx,n0,n1,n2,t1,v1,v2,v3,v4,v5,b0,p1,p2,p3]
set_option maxRecDepth 4000 in
def Zt(a:aB)(ha:a.Wf)(o:a.v7)(S:G)(h:a.ae=6)(hB:a.cR=Y)(hl:a.raw.length<=4096)(B:a.line.length<=1000000):DF F W 33 [.S a.line] S=J (.bP [.A a.aq,.aD],S):=by
 have wd:a.ax=[[99,111,112,121],a7 a.fst]:=by simp[aB.ax,cm,cZ,c7,h]
 have u:=λT=>im a.line B T;rw[aB.lJ,wd]at u;have u:∀T,DF F W 67 [.S a.line,.S [32]] T=J (.sl .N 1 (strs [[99,111,112,121],a7 a.fst]),T):=u;have R:aK [] (.sl .N 1 (strs [[99,111,112,121],a7 a.fst]))=(.sl .N 1 (strs [[99,111,112,121],a7 a.fst]),[]):=rfl;have fb:∀k,bE [.ar,.aD] [(0,1,.sl .N 1 k)]=J [.sl .N 1 k,.aD]:=λ_=>rfl;have z:∀k,bE [.ar,.aD] [(0,2,.A [.sl .N 1 k,.aD])]=J [.sl .N 1 k,.aD]:=λ_=>rfl;have I:∀ws,eR.M [.sl .N 1 (strs ws),.aD] [] O=gw ws .aD:=λ_=>rfl;have sg:∀k,aH (.A [.sl .N 1 k,.aD])=.A [.sl .N 1 k,.aD]:=λ_=>rfl;have kd:=dX;have ee:a.aq=a.bare.aq:=congrArg aB.aq (iA.1 (by rw[aB.gR];exact hB));have hz:ah.length=35:=rfl;have m:cr.length=60:=rfl;have P:aU.length=6:=rfl;have A:bE ah []=J ah:=rfl;have pz:bQ ah=Y:=rfl;have r:aM.length=60:=rfl;have q:=fq;have pK:=cG r q;have cK:(AV.A aM).cells=aM:=rfl;have s5:∀ab X c,a_ ab S.length (S++[X,c,.M ah [] O]) 35 (.P (S.length+2) 0) (.A ah)=J (ab,S++[X,c,.M (kC 0) [] O]):=λab X c=>by rw[pA (S:=S) rfl pz];simp only[wT,uY];rw[if_pos ⟨rfl,by rw[hz];omega⟩,aY rfl];rfl
 have s6:∀ab X c d,a_ ab S.length (S++[X,c,d,.M cr [] O]) 60 (.P (S.length+3) 0) (.A aM)=J (ab,S++[X,c,d,.M aM [] O]):=λab X c d=>by rw[pA (S:=S) rfl q.aO];simp only[wT,uY];rw[if_pos ⟨r,by rw[m];omega⟩,aY (by rw[r,m])];rfl
 have L:=uA 6 (by omega) (by omega) [a7 a.fst] (.M ah [] O) [] S 9 1 rfl (by omega);rw[show(if(6:Int)<((1:Nat):Int)then(6:Int)else 0)=0 from if_neg (by omega),show cm 6=[99,111,112,121]from rfl]at L;have l0:∀X c d b,bk (S++X::c::.M (kC 6) [] O::d::b) .C (.P (S.length+2) 0)=J (.I V 6):=λX c d b=>by rw[bV (cs:=kC 6) (ab:=[]) (l:=O) (by rw[pG (by omega)];simp)];rfl
 have i6:o_ 10 6 (.P (S.length+3) 0) (.I V 6)=J (.P (S.length+3) 36):=Jh (S.length+3) 6 (by omega);have lU:∀X c d b,bk (S++X::c::d::.M aM [] O::b) (.A 6) (.P (S.length+3) 36)=J (.A (aF 6)):=λX c d b=>by rw[bV (cs:=aM) (ab:=[]) (l:=O) (by rw[pG (by omega)];simp)];exact nO 6 (by omega)
 have hu:(aF 6).length=6:=rfl;have du:=fo 6;have pu:=cG hu du;have cu:(AV.A (aF 6)).cells=aF 6:=rfl;have u1:(aF 6)[1]? =J (.B O):=rfl;have u2:(aF 6)[2]? =J (.B O):=rfl;have u3:(aF 6)[3]? =J (.B O):=rfl;have u4:(aF 6)[4]? =J (.B O):=rfl;have u5:(aF 6)[5]? =J (.B O):=rfl;have ct:=λT=>j_ 6 T;rw[show 2+xm [cZ 6,c7 6,aN ((6:Int)=1),aN ((6:Int)=2),aN ((6:Int)=8)]=2 from rfl]at ct;have M:∀ws C b,bk (S++[.M ah [] O,gw ws .aD,C,.M aM [] O,b]) .C (.P (S.length+1) 0)=J (.sl .N 1 (strs ws)):=λws C b=>sr (cS S _ 1);have N:∀ws C b,bk (S++[.M ah [] O,gw ws .aD,C,.M aM [] O,b]) .C (.P (S.length+1) 1)=J .aD:=λws C b=>tI (cS S _ 1) rfl;have Q:gM (.sl .N 1 (strs [[99,111,112,121],a7 a.fst]))=J (.I V 2):=rfl;have k0:aE .eql (.I V 6) (.I V 0)=J (.B O):=rfl;have k1:aE .neq (.I V 2) (.I V 2)=J (.B O):=rfl;have b0:b6 .neq (.dA cC) Y .aD .aD=J (.B O):=rfl;have E:∀i,cn (.P i 0)=J (.P i 0):=λ_=>rfl;have gp:∀T i,b7 T (.P i 0)=J (.P i 0):=λ_ _=>rfl;have kp:∀T i,ca T (.P i 0)=T:=λ_ _=>rfl;have up:∀T T' i,bC T T' (.P i 0)=T':=λ_ _ _=>rfl;have np:∀i,cJ (.P i 0)=.P i 0:=λ_=>rfl;have nx:∀w ws C b,DF F W 69 [.P (S.length+1) 0] (S++[.M ah [] O,gw (w::ws) .aD,C,.M aM [] O,b])=J (.S w,S++[.M ah [] O,gw ws .aD,C,.M aM [] O,b]):=λw ws C b=>by have:=ik (S:=S++[.M ah [] O,gw (w::ws) .aD,C,.M aM [] O,b]) (j:=S.length+1) (w:=w) (ws:=ws) (e:=.aD) (cS S _ 1);rw[this];simp
 have t:∀n ws C b, -9223372036854775808<=n->n<=9223372036854775807->DF F W 70 [.P (S.length+1) 0] (S++[.M ah [] O,gw (a7 n::ws) .aD,C,.M aM [] O,b])=J (.I V n,S++[.M ah [] O,gw ws .aD,C,.M aM [] O,b]):=λn ws C b h0 h1=>by have:=il (S:=S++[.M ah [] O,gw (a7 n::ws) .aD,C,.M aM [] O,b]) (j:=S.length+1) (ws:=ws) n h0 h1 (cS S _ 1);rw[this];simp
 have n0:=λws C b=>t a.fst ws C b o.f0 o.f1;have n1:=λws C b=>t a.snd ws C b o.s0 o.s1;have n2:=λws C b=>t a.b_ ws C b o.v0 o.v1;have st:∀ab X c d b C y g x,aV C g [.I V x]=y->g+1<=C.length->a_ ab S.length (S++[X,c,.M C [] O,d,b]) 1 (.P (S.length+2) g) (.I V x)=J (ab,S++[X,c,.M y [] O,d,b]):=λab X c d b C y g x h hl=>by rw[en (mm V x).y_ (cS S [X,c,.M C [] O,d,b] 2),if_pos ⟨rfl,hl⟩,show(AV.I V x).cells=[.I V x]from rfl,h];simp
 have zo:ag.length=10:=rfl;have zl:ad.length=20:=rfl;have po:bQ ag=Y:=rfl;have pl:bQ ad=Y:=rfl;have so:ag.map aH=ag:=rfl;have sl:ad.map aH=ad:=rfl;have no:ag.map bO=r9.aq:=rfl;have nl:ad.map bO=jh.aq:=rfl;have nr:bO .ar=cq []:=rfl;have pB:=(aB.dB a.bare).aO;have LC:∀f s v,(dm 6 f s v ag ad .ar).length=35:=λ_ _ _=>gu zo zl;have t1:=λab X c d b=>st ab X c d b (kC 6) (dm 6 a.fst 0 0 ag ad .ar) 1 a.fst rfl (by rw[show(kC 6).length=35 from LC 0 0 0];omega);have dO:a.op.aq.map bO=a.op.aq:=(l9.dB a.op).jg;have dL:a.bU.aq.map bO=a.bU.aq:=(bF.dB a.bU).jg;have⟨p1,p2,p3⟩:=pj 33 (dm 6 a.fst 0 0 ag ad .ar) a.bare.aq (gu zo zl) (kB _ _ _ _ _ _ _ po pl rfl) (lW _ _ _ _ _ _ _ so sl rfl) ((lV _ _ _ _ _ _ _).trans (by simp only[no,nl,dO,dL,nr,aB.jk,aB.bare,h];rfl)) pB S ah hz;rw[ee];have hkC:kC 0=ah:=rfl;clear ee wd no nl dO dL nr pB t st LC hB A;have A:bE ah []=J ah:=rfl;rw[fI Lz];generalize hU:aF 6=U at*;have v1:∀p:1<U.length,U[1]'p=_:=λp=>ff ((cx p).symm.trans u1);have v2:∀p:2<U.length,U[2]'p=_:=λp=>ff ((cx p).symm.trans u2);have v3:∀p:3<U.length,U[3]'p=_:=λp=>ff ((cx p).symm.trans u3);have v4:∀p:4<U.length,U[4]'p=_:=λp=>ff ((cx p).symm.trans u4);have v5:∀p:5<U.length,U[5]'p=_:=λp=>ff ((cx p).symm.trans u5);generalize hZ:ah=d,cr=ZK,aU=ZU,(dm 6 a.fst 0 0 ag ad .ar)=CF,kC 6=C1,aM=KC_ at*;simp-implicitDefEqProofs [-aE, -o_,u,R,fb,z,sg,I,kd,A,s5,s6,m,r,q,pK,cK,q.agg];rw[ak dw];try simp at L
 simp-implicitDefEqProofs [-aE, -o_,L,l0,i6,lU,hu,du,pu,cu,P,aY,M,N,Q,ct,k0,k1,E,gp,kp,up,np,dd,cz,nx,n0,n1,n2,t1,v1,v2,v3,v4,v5,b0,p1,p2,p3]
set_option maxRecDepth 4000 in
def Zu(a:aB)(ha:a.Wf)(o:a.v7)(S:G)(h:a.ae=7)(hB:a.cR=Y)(hl:a.raw.length<=4096)(E:a.line.length<=1000000):DF F W 33 [.S a.line] S=J (.bP [.A a.aq,.aD],S):=by
 have wd:a.ax=[[115,119,97,112],a7 a.fst,a7 a.snd]:=by simp[aB.ax,cm,cZ,c7,h]
 have u:=λT=>im a.line E T;rw[aB.lJ,wd]at u;have u:∀T,DF F W 67 [.S a.line,.S [32]] T=J (.sl .N 1 (strs [[115,119,97,112],a7 a.fst,a7 a.snd]),T):=u;have Xg:aK [] (.sl .N 1 (strs [[115,119,97,112],a7 a.fst,a7 a.snd]))=(.sl .N 1 (strs [[115,119,97,112],a7 a.fst,a7 a.snd]),[]):=rfl;have fb:∀k,bE [.ar,.aD] [(0,1,.sl .N 1 k)]=J [.sl .N 1 k,.aD]:=λ_=>rfl;have A:∀k,bE [.ar,.aD] [(0,2,.A [.sl .N 1 k,.aD])]=J [.sl .N 1 k,.aD]:=λ_=>rfl;have M:∀ws,eR.M [.sl .N 1 (strs ws),.aD] [] O=gw ws .aD:=λ_=>rfl;have sg:∀k,aH (.A [.sl .N 1 k,.aD])=.A [.sl .N 1 k,.aD]:=λ_=>rfl;have kd:=dX;have ee:a.aq=a.bare.aq:=congrArg aB.aq (iA.1 (by rw[aB.gR];exact hB));have hz:ah.length=35:=rfl;have m:cr.length=60:=rfl;have Q:aU.length=6:=rfl;have B:bE ah []=J ah:=rfl;have pz:bQ ah=Y:=rfl;have r:aM.length=60:=rfl;have q:=fq;have pK:=cG r q;have cK:(AV.A aM).cells=aM:=rfl;have s5:∀ab X c,a_ ab S.length (S++[X,c,.M ah [] O]) 35 (.P (S.length+2) 0) (.A ah)=J (ab,S++[X,c,.M (kC 0) [] O]):=λab X c=>by rw[pA (S:=S) rfl pz];simp only[wT,uY];rw[if_pos ⟨rfl,by rw[hz];omega⟩,aY rfl];rfl
 have s6:∀ab X c d,a_ ab S.length (S++[X,c,d,.M cr [] O]) 60 (.P (S.length+3) 0) (.A aM)=J (ab,S++[X,c,d,.M aM [] O]):=λab X c d=>by rw[pA (S:=S) rfl q.aO];simp only[wT,uY];rw[if_pos ⟨r,by rw[m];omega⟩,aY (by rw[r,m])];rfl
 have L:=uA 7 (by omega) (by omega) [a7 a.fst,a7 a.snd] (.M ah [] O) [] S 9 1 rfl (by omega);rw[show(if(7:Int)<((1:Nat):Int)then(7:Int)else 0)=0 from if_neg (by omega),show cm 7=[115,119,97,112]from rfl]at L;have l0:∀X c d b,bk (S++X::c::.M (kC 7) [] O::d::b) .C (.P (S.length+2) 0)=J (.I V 7):=λX c d b=>by rw[bV (cs:=kC 7) (ab:=[]) (l:=O) (by rw[pG (by omega)];simp)];rfl
 have i6:o_ 10 6 (.P (S.length+3) 0) (.I V 7)=J (.P (S.length+3) 42):=Jh (S.length+3) 7 (by omega);have lU:∀X c d b,bk (S++X::c::d::.M aM [] O::b) (.A 6) (.P (S.length+3) 42)=J (.A (aF 7)):=λX c d b=>by rw[bV (cs:=aM) (ab:=[]) (l:=O) (by rw[pG (by omega)];simp)];exact nO 7 (by omega)
 have hu:(aF 7).length=6:=rfl;have du:=fo 7;have pu:=cG hu du;have cu:(AV.A (aF 7)).cells=aF 7:=rfl;have u1:(aF 7)[1]? =J (.B Y):=rfl;have u2:(aF 7)[2]? =J (.B O):=rfl;have u3:(aF 7)[3]? =J (.B O):=rfl;have u4:(aF 7)[4]? =J (.B O):=rfl;have u5:(aF 7)[5]? =J (.B O):=rfl;have ct:=λT=>j_ 7 T;rw[show 2+xm [cZ 7,c7 7,aN ((7:Int)=1),aN ((7:Int)=2),aN ((7:Int)=8)]=3 from rfl]at ct;have N:∀ws C b,bk (S++[.M ah [] O,gw ws .aD,C,.M aM [] O,b]) .C (.P (S.length+1) 0)=J (.sl .N 1 (strs ws)):=λws C b=>sr (cS S _ 1);have P:∀ws C b,bk (S++[.M ah [] O,gw ws .aD,C,.M aM [] O,b]) .C (.P (S.length+1) 1)=J .aD:=λws C b=>tI (cS S _ 1) rfl;have R:gM (.sl .N 1 (strs [[115,119,97,112],a7 a.fst,a7 a.snd]))=J (.I V 3):=rfl;have k0:aE .eql (.I V 7) (.I V 0)=J (.B O):=rfl;have k1:aE .neq (.I V 3) (.I V 3)=J (.B O):=rfl;have b0:b6 .neq (.dA cC) Y .aD .aD=J (.B O):=rfl;have I:∀i,cn (.P i 0)=J (.P i 0):=λ_=>rfl;have gp:∀T i,b7 T (.P i 0)=J (.P i 0):=λ_ _=>rfl;have kp:∀T i,ca T (.P i 0)=T:=λ_ _=>rfl;have up:∀T T' i,bC T T' (.P i 0)=T':=λ_ _ _=>rfl;have np:∀i,cJ (.P i 0)=.P i 0:=λ_=>rfl;have nx:∀w ws C b,DF F W 69 [.P (S.length+1) 0] (S++[.M ah [] O,gw (w::ws) .aD,C,.M aM [] O,b])=J (.S w,S++[.M ah [] O,gw ws .aD,C,.M aM [] O,b]):=λw ws C b=>by have:=ik (S:=S++[.M ah [] O,gw (w::ws) .aD,C,.M aM [] O,b]) (j:=S.length+1) (w:=w) (ws:=ws) (e:=.aD) (cS S _ 1);rw[this];simp
 have t:∀n ws C b, -9223372036854775808<=n->n<=9223372036854775807->DF F W 70 [.P (S.length+1) 0] (S++[.M ah [] O,gw (a7 n::ws) .aD,C,.M aM [] O,b])=J (.I V n,S++[.M ah [] O,gw ws .aD,C,.M aM [] O,b]):=λn ws C b h0 h1=>by have:=il (S:=S++[.M ah [] O,gw (a7 n::ws) .aD,C,.M aM [] O,b]) (j:=S.length+1) (ws:=ws) n h0 h1 (cS S _ 1);rw[this];simp
 have n0:=λws C b=>t a.fst ws C b o.f0 o.f1;have n1:=λws C b=>t a.snd ws C b o.s0 o.s1;have n2:=λws C b=>t a.b_ ws C b o.v0 o.v1;have st:∀ab X c d b C y g x,aV C g [.I V x]=y->g+1<=C.length->a_ ab S.length (S++[X,c,.M C [] O,d,b]) 1 (.P (S.length+2) g) (.I V x)=J (ab,S++[X,c,.M y [] O,d,b]):=λab X c d b C y g x h hl=>by rw[en (mm V x).y_ (cS S [X,c,.M C [] O,d,b] 2),if_pos ⟨rfl,hl⟩,show(AV.I V x).cells=[.I V x]from rfl,h];simp
 have zo:ag.length=10:=rfl;have zl:ad.length=20:=rfl;have po:bQ ag=Y:=rfl;have pl:bQ ad=Y:=rfl;have so:ag.map aH=ag:=rfl;have sl:ad.map aH=ad:=rfl;have no:ag.map bO=r9.aq:=rfl;have nl:ad.map bO=jh.aq:=rfl;have nr:bO .ar=cq []:=rfl;have pB:=(aB.dB a.bare).aO;have z:∀f s v,(dm 7 f s v ag ad .ar).length=35:=λ_ _ _=>gu zo zl;have t1:=λab X c d b=>st ab X c d b (kC 7) (dm 7 a.fst 0 0 ag ad .ar) 1 a.fst rfl (by rw[show(kC 7).length=35 from z 0 0 0];omega);have t2:=λab X c d b=>st ab X c d b (dm 7 a.fst 0 0 ag ad .ar) (dm 7 a.fst a.snd 0 ag ad .ar) 2 a.snd rfl (by rw[z];omega);have dO:a.op.aq.map bO=a.op.aq:=(l9.dB a.op).jg;have dL:a.bU.aq.map bO=a.bU.aq:=(bF.dB a.bU).jg;have⟨p1,p2,p3⟩:=pj 33 (dm 7 a.fst a.snd 0 ag ad .ar) a.bare.aq (gu zo zl) (kB _ _ _ _ _ _ _ po pl rfl) (lW _ _ _ _ _ _ _ so sl rfl) ((lV _ _ _ _ _ _ _).trans (by simp only[no,nl,dO,dL,nr,aB.jk,aB.bare,h];rfl)) pB S ah hz;rw[ee];have hkC:kC 0=ah:=rfl;clear ee wd no nl dO dL nr pB t st z hB B;have B:bE ah []=J ah:=rfl;rw[fI Lz];generalize hU:aF 7=U at*;have v1:∀p:1<U.length,U[1]'p=_:=λp=>ff ((cx p).symm.trans u1);have v2:∀p:2<U.length,U[2]'p=_:=λp=>ff ((cx p).symm.trans u2);have v3:∀p:3<U.length,U[3]'p=_:=λp=>ff ((cx p).symm.trans u3);have v4:∀p:4<U.length,U[4]'p=_:=λp=>ff ((cx p).symm.trans u4);have v5:∀p:5<U.length,U[5]'p=_:=λp=>ff ((cx p).symm.trans u5);generalize hZ:ah=d,cr=ZK,aU=ZU,(dm 7 a.fst a.snd 0 ag ad .ar)=CF,kC 7=C1,aM=KC_ at*;simp-implicitDefEqProofs [-aE, -o_,u,Xg,fb,A,sg,M,kd,B,s5,s6,m,r,q,pK,cK,q.agg];rw[ak dw];try simp at L
 simp-implicitDefEqProofs [-aE, -o_,L,l0,i6,lU,hu,du,pu,cu,Q,aY,N,P,R,ct,k0,k1,I,gp,kp,up,np,dd,cz,nx,n0,n1,n2,t1,t2,v1,v2,v3,v4,v5,b0,p1,p2,p3]
set_option maxRecDepth 4000 in
def Zv(a:aB)(ha:a.Wf)(t:a.v7)(S:G)(h:a.ae=8)(hB:a.cR=Y)(hl:a.raw.length<=4096)(hll:a.line.length<=1000000):DF F W 33 [.S a.line] S=J (.bP [.A a.aq,.aD],S):=by
 have wd:a.ax=[[105,110,106,101,99,116],a7 a.fst,a7 a.snd,(if a.raw=[]then[45]else dI a.raw)]:=by simp[aB.ax,cm,cZ,c7,h]
 have B:=λT=>im a.line hll T;rw[aB.lJ,wd]at B;have B:∀T,DF F W 67 [.S a.line,.S [32]] T=J (.sl .N 1 (strs [[105,110,106,101,99,116],a7 a.fst,a7 a.snd,(if a.raw=[]then[45]else dI a.raw)]),T):=B;have Xg:aK [] (.sl .N 1 (strs [[105,110,106,101,99,116],a7 a.fst,a7 a.snd,(if a.raw=[]then[45]else dI a.raw)]))=(.sl .N 1 (strs [[105,110,106,101,99,116],a7 a.fst,a7 a.snd,(if a.raw=[]then[45]else dI a.raw)]),[]):=rfl;have fb:∀o,bE [.ar,.aD] [(0,1,.sl .N 1 o)]=J [.sl .N 1 o,.aD]:=λ_=>rfl;have P:∀o,bE [.ar,.aD] [(0,2,.A [.sl .N 1 o,.aD])]=J [.sl .N 1 o,.aD]:=λ_=>rfl;have hrw:∀ws,eR.M [.sl .N 1 (strs ws),.aD] [] O=gw ws .aD:=λ_=>rfl;have sg:∀o,aH (.A [.sl .N 1 o,.aD])=.A [.sl .N 1 o,.aD]:=λ_=>rfl;have kd:=dX;have ee:a.aq=a.bare.aq:=congrArg aB.aq (iA.1 (by rw[aB.gR];exact hB));have hz:ah.length=35:=rfl;have r:cr.length=60:=rfl;have hzU:aU.length=6:=rfl;have Q:bE ah []=J ah:=rfl;have pz:bQ ah=Y:=rfl;have z:aM.length=60:=rfl;have y:=fq;have pK:=cG z y;have cK:(AV.A aM).cells=aM:=rfl;have s5:∀ab X g,a_ ab S.length (S++[X,g,.M ah [] O]) 35 (.P (S.length+2) 0) (.A ah)=J (ab,S++[X,g,.M (kC 0) [] O]):=λab X g=>by rw[pA (S:=S) rfl pz];simp only[wT,uY];rw[if_pos ⟨rfl,by rw[hz];omega⟩,aY rfl];rfl
 have s6:∀ab X g k,a_ ab S.length (S++[X,g,k,.M cr [] O]) 60 (.P (S.length+3) 0) (.A aM)=J (ab,S++[X,g,k,.M aM [] O]):=λab X g k=>by rw[pA (S:=S) rfl y.aO];simp only[wT,uY];rw[if_pos ⟨z,by rw[r];omega⟩,aY (by rw[z,r])];rfl
 have L:=uA 8 (by omega) (by omega) [a7 a.fst,a7 a.snd,(if a.raw=[]then[45]else dI a.raw)] (.M ah [] O) [] S 9 1 rfl (by omega);rw[show(if(8:Int)<((1:Nat):Int)then(8:Int)else 0)=0 from if_neg (by omega),show cm 8=[105,110,106,101,99,116]from rfl]at L;have l0:∀X g k b,bk (S++X::g::.M (kC 8) [] O::k::b) .C (.P (S.length+2) 0)=J (.I V 8):=λX g k b=>by rw[bV (cs:=kC 8) (ab:=[]) (l:=O) (by rw[pG (by omega)];simp)];rfl
 have i6:o_ 10 6 (.P (S.length+3) 0) (.I V 8)=J (.P (S.length+3) 48):=Jh (S.length+3) 8 (by omega);have lU:∀X g k b,bk (S++X::g::k::.M aM [] O::b) (.A 6) (.P (S.length+3) 48)=J (.A (aF 8)):=λX g k b=>by rw[bV (cs:=aM) (ab:=[]) (l:=O) (by rw[pG (by omega)];simp)];exact nO 8 (by omega)
 have hu:(aF 8).length=6:=rfl;have du:=fo 8;have pu:=cG hu du;have cu:(AV.A (aF 8)).cells=aF 8:=rfl;have u1:(aF 8)[1]? =J (.B Y):=rfl;have u2:(aF 8)[2]? =J (.B O):=rfl;have u3:(aF 8)[3]? =J (.B O):=rfl;have u4:(aF 8)[4]? =J (.B O):=rfl;have u5:(aF 8)[5]? =J (.B Y):=rfl;have ct:=λT=>j_ 8 T;rw[show 2+xm [cZ 8,c7 8,aN ((8:Int)=1),aN ((8:Int)=2),aN ((8:Int)=8)]=4 from rfl]at ct;have hw0:∀ws C b,bk (S++[.M ah [] O,gw ws .aD,C,.M aM [] O,b]) .C (.P (S.length+1) 0)=J (.sl .N 1 (strs ws)):=λws C b=>sr (cS S _ 1);have tR:∀ws C b,bk (S++[.M ah [] O,gw ws .aD,C,.M aM [] O,b]) .C (.P (S.length+1) 1)=J .aD:=λws C b=>tI (cS S _ 1) rfl;have lns:gM (.sl .N 1 (strs [[105,110,106,101,99,116],a7 a.fst,a7 a.snd,(if a.raw=[]then[45]else dI a.raw)]))=J (.I V 4):=rfl;have k0:aE .eql (.I V 8) (.I V 0)=J (.B O):=rfl;have k1:aE .neq (.I V 4) (.I V 4)=J (.B O):=rfl;have b0:b6 .neq (.dA cC) Y .aD .aD=J (.B O):=rfl;have hnc:∀i,cn (.P i 0)=J (.P i 0):=λ_=>rfl;have gp:∀T i,b7 T (.P i 0)=J (.P i 0):=λ_ _=>rfl;have kp:∀T i,ca T (.P i 0)=T:=λ_ _=>rfl;have up:∀T T' i,bC T T' (.P i 0)=T':=λ_ _ _=>rfl;have np:∀i,cJ (.P i 0)=.P i 0:=λ_=>rfl;have nx:∀w ws C b,DF F W 69 [.P (S.length+1) 0] (S++[.M ah [] O,gw (w::ws) .aD,C,.M aM [] O,b])=J (.S w,S++[.M ah [] O,gw ws .aD,C,.M aM [] O,b]):=λw ws C b=>by have:=ik (S:=S++[.M ah [] O,gw (w::ws) .aD,C,.M aM [] O,b]) (j:=S.length+1) (w:=w) (ws:=ws) (e:=.aD) (cS S _ 1);rw[this];simp
 have A:∀n ws C b, -9223372036854775808<=n->n<=9223372036854775807->DF F W 70 [.P (S.length+1) 0] (S++[.M ah [] O,gw (a7 n::ws) .aD,C,.M aM [] O,b])=J (.I V n,S++[.M ah [] O,gw ws .aD,C,.M aM [] O,b]):=λn ws C b h0 R=>by have:=il (S:=S++[.M ah [] O,gw (a7 n::ws) .aD,C,.M aM [] O,b]) (j:=S.length+1) (ws:=ws) n h0 R (cS S _ 1);rw[this];simp
 have n0:=λws C b=>A a.fst ws C b t.f0 t.f1;have n1:=λws C b=>A a.snd ws C b t.s0 t.s1;have n2:=λws C b=>A a.b_ ws C b t.v0 t.v1;have st:∀ab X g k b C M m x,aV C m [.I V x]=M->m+1<=C.length->a_ ab S.length (S++[X,g,.M C [] O,k,b]) 1 (.P (S.length+2) m) (.I V x)=J (ab,S++[X,g,.M M [] O,k,b]):=λab X g k b C M m x h hl=>by rw[en (mm V x).y_ (cS S [X,g,.M C [] O,k,b] 2),if_pos ⟨rfl,hl⟩,show(AV.I V x).cells=[.I V x]from rfl,h];simp
 have I:ag.length=10:=rfl;have E:ad.length=20:=rfl;have po:bQ ag=Y:=rfl;have pl:bQ ad=Y:=rfl;have so:ag.map aH=ag:=rfl;have sl:ad.map aH=ad:=rfl;have no:ag.map bO=r9.aq:=rfl;have nl:ad.map bO=jh.aq:=rfl;have nr:bO .ar=cq []:=rfl;have pB:=(aB.dB a.bare).aO;have u:∀f s v,(dm 8 f s v ag ad .ar).length=35:=λ_ _ _=>gu I E;have t1:=λab X g k b=>st ab X g k b (kC 8) (dm 8 a.fst 0 0 ag ad .ar) 1 a.fst rfl (by rw[show(kC 8).length=35 from u 0 0 0];omega);have t2:=λab X g k b=>st ab X g k b (dm 8 a.fst 0 0 ag ad .ar) (dm 8 a.fst a.snd 0 ag ad .ar) 2 a.snd rfl (by rw[u];omega);have⟨q,rq,pq⟩:=Mh (S:=S++[.M ah [] O,gw [(if a.raw=[]then[45]else dI a.raw)] .aD,.M (dm 8 a.fst a.snd 0 ag ad .ar) [] O,.M aM [] O,.M (aF 8) [] O]) (j:=S.length+1) (ws:=[]) a.raw hl (cS S _ 1);have pq:DF F W 72 [.P (S.length+1) 0] (S++[.M ah [] O,gw [(if a.raw=[]then[45]else dI a.raw)] .aD,.M (dm 8 a.fst a.snd 0 ag ad .ar) [] O,.M aM [] O,.M (aF 8) [] O])=J (q,S++[.M ah [] O,gw [] .aD,.M (dm 8 a.fst a.snd 0 ag ad .ar) [] O,.M aM [] O,.M (aF 8) [] O]):=by rw[pq];simp
 have⟨q1,tq,N,bq⟩:=rq.1.take [];have dO:a.op.aq.map bO=a.op.aq:=(l9.dB a.op).jg;have dL:a.bU.aq.map bO=a.bU.aq:=(bF.dB a.bU).jg;have⟨c,tc,bc,d,x1,x2,x3,x4,x5,x6,x7,x8⟩:=nF.cell bq (S.length+2);simp only[rB]at x1 N;have tr:∀X g k b,a_ tq S.length (S++[X,g,.M (dm 8 a.fst a.snd 0 ag ad .ar) [] O,k,b]) 1 (.P (S.length+2) 34) q1=J (tc,S++[X,g,.M (dm 8 a.fst a.snd 0 ag ad c) bc O,k,b]):=λX g k b=>by have hg:=cS S [X,g,.M (dm 8 a.fst a.snd 0 ag ad .ar) [] O,k,b] 2;simp only[wT,uY]at hg;simp only[a_,hg];rw[if_pos ⟨x2,by rw[x3];rfl,by rw[u];omega,.inl (by omega)⟩,x1];show J (tc,(S++[X,g,.M (dm 8 a.fst a.snd 0 ag ad .ar) [] O,k,b]).set (S.length+2) (.M (aV (dm 8 a.fst a.snd 0 ag ad .ar) 34 c.cells) bc O))=_;rw[x4,Ov _ _ _ _ _ _ _ _ I E];simp
 have⟨p1',p2,p3⟩:=pj 33 (dm 8 a.fst a.snd 0 ag ad d) a.bare.aq (gu I E) (kB _ _ _ _ _ _ _ po pl x6) (lW _ _ _ _ _ _ _ so sl x7) ((lV _ _ _ _ _ _ _).trans (by rw[x8];simp only[no,nl,dO,dL,nr,aB.jk,aB.bare,h];rfl)) pB S ah hz;have p1:f_ (.A 35) (dm 8 a.fst a.snd 0 ag ad c) 0=J (.A (dm 8 a.fst a.snd 0 ag ad d)):=by
  have e:((dm 8 a.fst a.snd 0 ag ad c)).map aH=(dm 8 a.fst a.snd 0 ag ad d):=by have R:∀n,aH (.I V n)=.I V n:=λ_=>rfl;simp only[dm,List.map_append,EP,NM,R,so,sl,x5]
  have lc:((dm 8 a.fst a.snd 0 ag ad c)).length=35:=gu I E;simp only[f_,sub,qf];rw[ob (by rw[lc];omega),if_pos (by rw[lc];omega),e]
 rw[ee];have hkC:kC 0=ah:=rfl;clear ee wd no nl dO dL nr pB A st u hB Q;have Q:bE ah []=J ah:=rfl;try simp at N
 try simp at tr
 rw[fI Lz];generalize hU:aF 8=U at*;have v1:∀p:1<U.length,U[1]'p=_:=λp=>ff ((cx p).symm.trans u1);have v2:∀p:2<U.length,U[2]'p=_:=λp=>ff ((cx p).symm.trans u2);have v3:∀p:3<U.length,U[3]'p=_:=λp=>ff ((cx p).symm.trans u3);have v4:∀p:4<U.length,U[4]'p=_:=λp=>ff ((cx p).symm.trans u4);have v5:∀p:5<U.length,U[5]'p=_:=λp=>ff ((cx p).symm.trans u5);generalize hZ:ah=k,cr=ZK,aU=ZU,(dm 8 a.fst a.snd 0 ag ad d)=CD,(dm 8 a.fst a.snd 0 ag ad c)=CF,kC 8=C1,aM=KC_,(if a.raw=[]then[45]else dI a.raw)=RW at*;simp-implicitDefEqProofs [-aE, -o_,B,Xg,fb,P,sg,hrw,kd,Q,s5,s6,r,z,y,pK,cK,y.agg];rw[ak dw];try simp at L
 simp-implicitDefEqProofs [-aE, -o_,L,l0,i6,lU,hu,du,pu,cu,hzU,aY,hw0,tR,lns,ct,k0,k1,hnc,gp,kp,up,np,dd,cz,nx,n0,n1,n2,t1,t2,pq,N,tr,v1,v2,v3,v4,v5,b0,p1,p1',p2,p3]
set_option maxRecDepth 4000 in
def Zw(a:aB)(ha:a.Wf)(o:a.v7)(S:G)(h:a.ae=9)(hB:a.cR=Y)(hl:a.raw.length<=4096)(E:a.line.length<=1000000):DF F W 33 [.S a.line] S=J (.bP [.A a.aq,.aD],S):=by
 have wd:a.ax=[[114,101,97,100],a7 a.fst,a7 a.b_]:=by simp[aB.ax,cm,cZ,c7,h]
 have u:=λT=>im a.line E T;rw[aB.lJ,wd]at u;have u:∀T,DF F W 67 [.S a.line,.S [32]] T=J (.sl .N 1 (strs [[114,101,97,100],a7 a.fst,a7 a.b_]),T):=u;have Xg:aK [] (.sl .N 1 (strs [[114,101,97,100],a7 a.fst,a7 a.b_]))=(.sl .N 1 (strs [[114,101,97,100],a7 a.fst,a7 a.b_]),[]):=rfl;have fb:∀k,bE [.ar,.aD] [(0,1,.sl .N 1 k)]=J [.sl .N 1 k,.aD]:=λ_=>rfl;have A:∀k,bE [.ar,.aD] [(0,2,.A [.sl .N 1 k,.aD])]=J [.sl .N 1 k,.aD]:=λ_=>rfl;have M:∀ws,eR.M [.sl .N 1 (strs ws),.aD] [] O=gw ws .aD:=λ_=>rfl;have sg:∀k,aH (.A [.sl .N 1 k,.aD])=.A [.sl .N 1 k,.aD]:=λ_=>rfl;have kd:=dX;have ee:a.aq=a.bare.aq:=congrArg aB.aq (iA.1 (by rw[aB.gR];exact hB));have hz:ah.length=35:=rfl;have m:cr.length=60:=rfl;have Q:aU.length=6:=rfl;have B:bE ah []=J ah:=rfl;have pz:bQ ah=Y:=rfl;have r:aM.length=60:=rfl;have q:=fq;have pK:=cG r q;have cK:(AV.A aM).cells=aM:=rfl;have s5:∀ab X c,a_ ab S.length (S++[X,c,.M ah [] O]) 35 (.P (S.length+2) 0) (.A ah)=J (ab,S++[X,c,.M (kC 0) [] O]):=λab X c=>by rw[pA (S:=S) rfl pz];simp only[wT,uY];rw[if_pos ⟨rfl,by rw[hz];omega⟩,aY rfl];rfl
 have s6:∀ab X c d,a_ ab S.length (S++[X,c,d,.M cr [] O]) 60 (.P (S.length+3) 0) (.A aM)=J (ab,S++[X,c,d,.M aM [] O]):=λab X c d=>by rw[pA (S:=S) rfl q.aO];simp only[wT,uY];rw[if_pos ⟨r,by rw[m];omega⟩,aY (by rw[r,m])];rfl
 have L:=uA 9 (by omega) (by omega) [a7 a.fst,a7 a.b_] (.M ah [] O) [] S 9 1 rfl (by omega);rw[show(if(9:Int)<((1:Nat):Int)then(9:Int)else 0)=0 from if_neg (by omega),show cm 9=[114,101,97,100]from rfl]at L;have l0:∀X c d b,bk (S++X::c::.M (kC 9) [] O::d::b) .C (.P (S.length+2) 0)=J (.I V 9):=λX c d b=>by rw[bV (cs:=kC 9) (ab:=[]) (l:=O) (by rw[pG (by omega)];simp)];rfl
 have i6:o_ 10 6 (.P (S.length+3) 0) (.I V 9)=J (.P (S.length+3) 54):=Jh (S.length+3) 9 (by omega);have lU:∀X c d b,bk (S++X::c::d::.M aM [] O::b) (.A 6) (.P (S.length+3) 54)=J (.A (aF 9)):=λX c d b=>by rw[bV (cs:=aM) (ab:=[]) (l:=O) (by rw[pG (by omega)];simp)];exact nO 9 (by omega)
 have hu:(aF 9).length=6:=rfl;have du:=fo 9;have pu:=cG hu du;have cu:(AV.A (aF 9)).cells=aF 9:=rfl;have u1:(aF 9)[1]? =J (.B O):=rfl;have u2:(aF 9)[2]? =J (.B Y):=rfl;have u3:(aF 9)[3]? =J (.B O):=rfl;have u4:(aF 9)[4]? =J (.B O):=rfl;have u5:(aF 9)[5]? =J (.B O):=rfl;have ct:=λT=>j_ 9 T;rw[show 2+xm [cZ 9,c7 9,aN ((9:Int)=1),aN ((9:Int)=2),aN ((9:Int)=8)]=3 from rfl]at ct;have N:∀ws C b,bk (S++[.M ah [] O,gw ws .aD,C,.M aM [] O,b]) .C (.P (S.length+1) 0)=J (.sl .N 1 (strs ws)):=λws C b=>sr (cS S _ 1);have P:∀ws C b,bk (S++[.M ah [] O,gw ws .aD,C,.M aM [] O,b]) .C (.P (S.length+1) 1)=J .aD:=λws C b=>tI (cS S _ 1) rfl;have R:gM (.sl .N 1 (strs [[114,101,97,100],a7 a.fst,a7 a.b_]))=J (.I V 3):=rfl;have k0:aE .eql (.I V 9) (.I V 0)=J (.B O):=rfl;have k1:aE .neq (.I V 3) (.I V 3)=J (.B O):=rfl;have b0:b6 .neq (.dA cC) Y .aD .aD=J (.B O):=rfl;have I:∀i,cn (.P i 0)=J (.P i 0):=λ_=>rfl;have gp:∀T i,b7 T (.P i 0)=J (.P i 0):=λ_ _=>rfl;have kp:∀T i,ca T (.P i 0)=T:=λ_ _=>rfl;have up:∀T T' i,bC T T' (.P i 0)=T':=λ_ _ _=>rfl;have np:∀i,cJ (.P i 0)=.P i 0:=λ_=>rfl;have nx:∀w ws C b,DF F W 69 [.P (S.length+1) 0] (S++[.M ah [] O,gw (w::ws) .aD,C,.M aM [] O,b])=J (.S w,S++[.M ah [] O,gw ws .aD,C,.M aM [] O,b]):=λw ws C b=>by have:=ik (S:=S++[.M ah [] O,gw (w::ws) .aD,C,.M aM [] O,b]) (j:=S.length+1) (w:=w) (ws:=ws) (e:=.aD) (cS S _ 1);rw[this];simp
 have t:∀n ws C b, -9223372036854775808<=n->n<=9223372036854775807->DF F W 70 [.P (S.length+1) 0] (S++[.M ah [] O,gw (a7 n::ws) .aD,C,.M aM [] O,b])=J (.I V n,S++[.M ah [] O,gw ws .aD,C,.M aM [] O,b]):=λn ws C b h0 h1=>by have:=il (S:=S++[.M ah [] O,gw (a7 n::ws) .aD,C,.M aM [] O,b]) (j:=S.length+1) (ws:=ws) n h0 h1 (cS S _ 1);rw[this];simp
 have n0:=λws C b=>t a.fst ws C b o.f0 o.f1;have n1:=λws C b=>t a.snd ws C b o.s0 o.s1;have n2:=λws C b=>t a.b_ ws C b o.v0 o.v1;have st:∀ab X c d b C y g x,aV C g [.I V x]=y->g+1<=C.length->a_ ab S.length (S++[X,c,.M C [] O,d,b]) 1 (.P (S.length+2) g) (.I V x)=J (ab,S++[X,c,.M y [] O,d,b]):=λab X c d b C y g x h hl=>by rw[en (mm V x).y_ (cS S [X,c,.M C [] O,d,b] 2),if_pos ⟨rfl,hl⟩,show(AV.I V x).cells=[.I V x]from rfl,h];simp
 have zo:ag.length=10:=rfl;have zl:ad.length=20:=rfl;have po:bQ ag=Y:=rfl;have pl:bQ ad=Y:=rfl;have so:ag.map aH=ag:=rfl;have sl:ad.map aH=ad:=rfl;have no:ag.map bO=r9.aq:=rfl;have nl:ad.map bO=jh.aq:=rfl;have nr:bO .ar=cq []:=rfl;have pB:=(aB.dB a.bare).aO;have z:∀f s v,(dm 9 f s v ag ad .ar).length=35:=λ_ _ _=>gu zo zl;have t1:=λab X c d b=>st ab X c d b (kC 9) (dm 9 a.fst 0 0 ag ad .ar) 1 a.fst rfl (by rw[show(kC 9).length=35 from z 0 0 0];omega);have t2:=λab X c d b=>st ab X c d b (dm 9 a.fst 0 0 ag ad .ar) (dm 9 a.fst 0 a.b_ ag ad .ar) 3 a.b_ rfl (by rw[z];omega);have dO:a.op.aq.map bO=a.op.aq:=(l9.dB a.op).jg;have dL:a.bU.aq.map bO=a.bU.aq:=(bF.dB a.bU).jg;have⟨p1,p2,p3⟩:=pj 33 (dm 9 a.fst 0 a.b_ ag ad .ar) a.bare.aq (gu zo zl) (kB _ _ _ _ _ _ _ po pl rfl) (lW _ _ _ _ _ _ _ so sl rfl) ((lV _ _ _ _ _ _ _).trans (by simp only[no,nl,dO,dL,nr,aB.jk,aB.bare,h];rfl)) pB S ah hz;rw[ee];have hkC:kC 0=ah:=rfl;clear ee wd no nl dO dL nr pB t st z hB B;have B:bE ah []=J ah:=rfl;rw[fI Lz];generalize hU:aF 9=U at*;have v1:∀p:1<U.length,U[1]'p=_:=λp=>ff ((cx p).symm.trans u1);have v2:∀p:2<U.length,U[2]'p=_:=λp=>ff ((cx p).symm.trans u2);have v3:∀p:3<U.length,U[3]'p=_:=λp=>ff ((cx p).symm.trans u3);have v4:∀p:4<U.length,U[4]'p=_:=λp=>ff ((cx p).symm.trans u4);have v5:∀p:5<U.length,U[5]'p=_:=λp=>ff ((cx p).symm.trans u5);generalize hZ:ah=d,cr=ZK,aU=ZU,(dm 9 a.fst 0 a.b_ ag ad .ar)=CF,kC 9=C1,aM=KC_ at*;simp-implicitDefEqProofs [-aE, -o_,u,Xg,fb,A,sg,M,kd,B,s5,s6,m,r,q,pK,cK,q.agg];rw[ak dw];try simp at L
 simp-implicitDefEqProofs [-aE, -o_,L,l0,i6,lU,hu,du,pu,cu,Q,aY,N,P,R,ct,k0,k1,I,gp,kp,up,np,dd,cz,nx,n0,n1,n2,t1,t2,v1,v2,v3,v4,v5,b0,p1,p2,p3]
def aB.RS{a:aB}(h:a.code=0):(1<=a.ae/\a.ae<=9)/\a.cR=Y/\a.raw.length<=4096/\(a.ae=1->De a.op=Y/\(jW a.op).length<=4096)/\(a.ae=2->a.bU.ba 5=Y/\a.bU.bytes.length<=4096):=by
 unfold aB.code at h;split at h;·omega
 rename_i c;split at h;·omega
 rename_i b;have c:1<=a.ae/\a.ae<=9:=Classical.not_not.1 c;have b:a.cR=Y/\a.raw.length<=4096:=Classical.not_not.1 b;refine⟨c,b.1,b.2,λk=>?_,λk=>?_⟩
 ·rw[if_pos k]at h
  split at h
  ·rename_i d
   split at h;·omega
   ·exact⟨d,by omega⟩
  ·omega
 ·rw[if_neg (by omega),if_pos k]at h
  split at h
  ·rename_i d
   split at h;·omega
   ·exact⟨d,by omega⟩
  ·omega
def aB.pT{a:aB}(b:a.v7)(h:a.code=0):a.line.length<=20000:=by
 have⟨c,f,g,d,e⟩:=aB.RS h;have i:=bZ a.fst b.f0 b.f1;have j:=bZ a.snd b.s0 b.s1;have l:=bZ a.b_ b.v0 b.v1;have m:=kA a.raw;have n:=kA (jW a.op);have o:=kA a.bU.bytes;have p:(if a.raw=[]then([45]:K)else dI a.raw).length<=8192:=by split<;>first|decide|omega
 unfold aB.line;rcases qm c.1 c.2 with k|k|k|k|k|k|k|k|k
 ·have:=(d k).2
  simp[aB.ax,cm,cZ,c7,k,fE];omega
 ·have:=(e k).2
  simp[aB.ax,cm,cZ,c7,k,fE];omega
 all_goals(simp[aB.ax,cm,cZ,c7,k,fE];omega)
def Dw(a:aB)(c:a.Wf)(b:a.v7)(h:a.code=0)(S:G):DF F W 33 [.S a.line] S=J (.bP [.A a.aq,.aD],S):=by
 have⟨j,d,f,g,i⟩:=aB.RS h;have e:a.line.length<=1000000:=by have:=aB.pT b h;omega
 rcases qm j.1 j.2 with k|k|k|k|k|k|k|k|k;·exact Zo a c b S k d f (g k).1 (g k).2 e
 ·exact Zp a c b S k d f (i k).1 (i k).2 e
 ·exact Zq a c b S k d f e
 ·exact Zr a c b S k d f e
 ·exact Zs a c b S k d f e
 ·exact Zt a c b S k d f e
 ·exact Zu a c b S k d f e
 ·exact Zv a c b S k d f e
 ·exact Zw a c b S k d f e
def Qa{n:Nat}(h:n<128):gh .u8 (n:Int)=(((dt n).toNat:Nat):Int)/\cB n=[dt n]:=by refine⟨?_,LX h⟩;rfl
def Oc(p:List ej)(R:∀s∈p,s.Wf)(hr:tZ p=Y)(S:G):∃r,BD r (kg p)/\DF F W 56 [eO p] S=J (r,S):=by
 have g:=hr;unfold tZ at g;simp only[j5,decide_eq_true_eq]at g;have fl:=yc p R g.2;have⟨w0,n0⟩:=Qa (n:=p.length) D;have A:∀d i(f:H)(c:ch)(s:K),i+d=p.length->nF f c s->s.length+((p.drop i).flatMap jV).length+100<=2^30->
  ∃b a,nF b a (s++(p.drop i).flatMap jV)/\DC F W (.L qM) ⟨[(0,eO p),(3,f),(4,.I V (i:Nat))],c,S.length⟩ S=J (.E 0,⟨[(3,b)],a,S.length⟩,S):=by
  intro d;induction d with
  |zero=>
   intro i f c s hi Q j;have e3:=iy D;refine⟨f,c,by simp_all, ?_⟩;rw[av,bf eV];simp[(D:¬i<p.length)]
  |succ d U=>
   intro i f c s hi Q j;have N:i<p.length:=D;have⟨y,T,k⟩:=aQ (l:=p) (i:=i) D;have v:=bj (i:=i) D;have m:=R y (fH T);have e0:y.aq[0]? =J (.S y.name):=rfl;have e1:y.aq[1]? =J (.I bm y.id):=rfl;rw[aZ T,vM]at j⊢;simp only[jf]at j;have lb:(jV y).length=(aR y.name).length+(if y.name=[]then cB y.id.toNat else[]).length:=by unfold jV;simp
   have la:y.name.length<=(aR y.name).length:=by unfold aR;simp
   have⟨ra,B,h⟩:=ql y.name S D;have⟨o1,t1,o2,t2,E,I,L⟩:=Q.call B D S;have w:=AP (s:=y.name) D;by_cases P:y.name=[]
   ·have x:jV y=aR y.name++cB y.id.toNat:=by unfold jV;simp_all
    rw[x]at j⊢;simp only[jf]at j;have⟨rb,C,q⟩:=sk y.id.toNat (by have:=m.Ti;omega) S;rw[(by have:=m.XL;omega:((y.id.toNat:Nat):Int)=y.id)]at q;have⟨o3,t3,o4,t4,X,b2,b3⟩:=L.call C (by grind) S;have⟨b,a,z,e⟩:=U (i+1) o4 t4 _ D b3 (by grind);refine⟨b,a,by simp_all, ?_⟩;rw[av,bf eV];rw[P]at w h e0;simp at v e;simp[N,k,P,w,pX,pY,kY,j9,h,E,I,q,X,b2];rw[ak eV];simp[v,e]
   ·have x:jV y=aR y.name:=by unfold jV;simp_all
    rw[x]at j⊢;have⟨b,a,z,e⟩:=U (i+1) o2 t2 _ D L (by grind);refine⟨b,a,by simp_all, ?_⟩;rw[av,bf eV];simp at v e;simp[N,k,(by simp_all:y.name.isEmpty=false),w,pX,pY,kY,j9,h,E,I];rw[ak eV];simp[v,e]
 have⟨o,t,g1,M⟩:=A p.length 0 _ [] _ D (nF.new (dt p.length) []) (by grind);have⟨r,t',f1,f2,f3,f4,f5⟩:=g1.fin;have eb:kg p=[dt p.length]++(p.drop 0).flatMap jV:=by unfold kg;grind
 refine⟨r,by simp_all, ?_⟩;rw[fI amh];generalize dt p.length=u at*;simp at M;simp[w0];rw[ak eV];simp[M,f1,f2,f3,f4]
def Od(v:bM)(T:v.DI)(h5:v.ae=5->v.an.length=v.ax.length)(S:G)(nb:Nat)
 (P:∀x∈v.an,∀S,∃r,BD r x.bytes/\DF F W 64 [.A x.aq] S=J (r,S)):
 ∀d i(c:H)(ab:ch)(s:K),i+d=v.ax.length->nF c ab s->s.length+(v.cD i).length+100<=1073741824->
 ∃b aS,nF b aS (s++v.cD i)/\DC F W (.L qO) ⟨[(1,.P S.length 0),(3,c),(4,.I V (i:Nat))],ab,nb⟩ (S++[.M v.aq [] O])=J (.E 0,⟨[(1,.P S.length 0),(3,b)],aS,nb⟩,S++[.M v.aq [] O]):=by
 have hl:=T.ax;intro d;induction d with
 |zero=>
  intro i c ab s R p Q;have e3:v.ax.drop i=[]:=iy D;have w:v.cD i=[]:=by grind [bM.cD,bM.dF]
  refine⟨c,ab,by simp_all, ?_⟩;simp[av,bf cX,(D:¬i<v.ax.length)]
 |succ d B=>
  intro i c ab s R p Q;have z:i<v.ax.length:=D;have⟨a,ha,h⟩:=aQ (l:=v.ax) (i:=i) D;have k:=bj (i:=i) D;have la:a.length<=(aR a).length:=by unfold aR;simp
  by_cases C:v.ae=5
  ·have⟨y,A,U⟩:=aQ (l:=v.an) (i:=i) D
   have⟨ry,q,t⟩:=P y (fH A) (S++[.M v.aq [] O]);have w:v.cD i=aR a++(y.bytes++v.cD (i+1)):=by unfold bM.cD;simp_all[aZ,bM.dF]
   have X:(aR a).length+(y.bytes.length+(v.cD (i+1)).length)=(v.cD i).length:=by grind
   have N:=AP (s:=a) D;have⟨ra,e,f⟩:=ql a (S++[.M v.aq [] O]) D;have⟨o1,t1,E,I,m,g,n⟩:=p.call e D (S++[.M v.aq [] O]);have⟨o3,t3,o4,t4,L,u,M⟩:=n.call q (by grind) (S++[.M v.aq [] O]);have⟨b,aS,o,j⟩:=B (i+1) o4 t4 (s++aR a++y.bytes) D M (by grind);refine⟨b,aS,by grind, ?_⟩;rw[av,bf cX];simp at k j g u;simp[z,A,C,h,N,pX,pY,kY,j9,f,m,g,t,L,u];rw[ak cX];simp[k,j]
  ·have w:v.cD i=aR a++v.cD (i+1):=by simp_all[bM.cD,aZ]
   have X:(aR a).length+(v.cD (i+1)).length=(v.cD i).length:=by grind
   have⟨ra,e,f⟩:=ql a (S++[.M v.aq [] O]) D;have⟨o1,t1,E,I,m,g,n⟩:=p.call e D (S++[.M v.aq [] O]);have⟨b,aS,o,j⟩:=B (i+1) E I (s++aR a) D n (by grind);refine⟨b,aS,by grind, ?_⟩;rw[av,bf cX];simp at k j g;simp[z,C,h,AP (s:=a) D,pX,pY,kY,j9,f,m,g];rw[ak cX];simp[k,j]
def Fo:∀(d:Nat)(v:bM),v.Wf->v.ba d=Y->d<=5->∀S,∃r,BD r v.bytes/\DF F W 64 [.A v.aq] S=J (r,S):=by
 intro d;induction d with
 |zero=>nofun
 |succ d ih=>
  intro v T h hd S;have R:=bM.fP h;have b:=bM.sR (d+1) v h;have h13:13^(d+1)<=13^5:=Q4 y9 hd;have e13:13^5=371293:=y9;have lb:=v.lr;have kr:=R.ae;have M:=Dj (k:=v.ae) D D;have z:=nF.new (dt v.ae.toNat) [];have e:=Od v T.one;have y:∀x∈v.an,∀S,∃r,BD r x.bytes/\DF F W 64 [.A x.aq] S=J (r,S):=λx m S=>ih x (T.all x m) (R.all x m) D S;rw[fI aml];by_cases o:v.ae=1\/v.ae=2\/v.ae=3
  ·have⟨B,hp0⟩:=R.S9 o
   have P:v.bytes=[dt v.ae.toNat]:=by grind [bM.fa]
   have n6:¬v.ae=6:=D;have s:v.cD 0=[]:=by grind [bM.cD]
   have⟨U,X,c,a⟩:=e (λg=>by omega) S S.length y v.ax.length 0 _ [] _ D z (by grind);rw[s,wV]at c;have⟨r,t,f,i,j,l,Q⟩:=c.fin;refine⟨r,by simp_all, ?_⟩;generalize dt v.ae.toNat=u at*;simp at a;simp[M,(D:¬v.ae=4),(D:¬v.ae=5)];rw[ak cX];simp[a,n6,f,i,j,l]
  by_cases E:v.ae=6
  ·have⟨B,A⟩:=R.k6 E
   have⟨x,m⟩:=zS.1 A;have P:v.bytes=[dt v.ae.toNat]++x.bytes:=by grind [bM.fa]
   have s:v.cD 0=[]:=by grind [bM.cD]
   rw[P]at b;simp at b;have⟨U,X,c,a⟩:=e (λg=>by omega) S S.length y v.ax.length 0 _ [] _ D z (by grind);rw[s,wV]at c;have⟨ry,I,L⟩:=y x (by grind) (S++[.M v.aq [] O]);have⟨o4,t4,o5,t5,b1,b2,b3⟩:=c.call I (by grind) (S++[.M v.aq [] O]);have⟨r,t,f,i,j,l,Q⟩:=b3.fin;have C:=vb v.an V 0;rw[m]at C;refine⟨r,by simp_all, ?_⟩;have q:gh .u8 6=(((dt v.ae.toNat).toNat:Nat):Int):=by simp_all
   generalize dt v.ae.toNat=u at*;simp at a C;simp[q,E];rw[ak cX];simp[a,E,m,C,L,b1,b2,f,i,j,l]
  have p:v.ae=4\/v.ae=5:=D;have hw8:v.ax.length<=8:=by
   rcases p with k|k;·exact(R.k4 k).2.1
   ·exact(R.k5 k).2.1
  have⟨w0,n0⟩:=Qa (n:=v.ax.length) D;have s:v.cD 0=if v.ae=4 then v.ax.flatMap aR else if v.ae=5 then bM.dF v.ax v.an else bM.fa v.an:=by grind [bM.cD]
  rw[(by simp_all:v.bytes=[UInt8.ofNat v.ae.toNat]++[UInt8.ofNat v.ax.length]++v.cD 0)]at b;simp at b;have⟨o2,t2,N,a2⟩:=z.one (dt v.ax.length) ck (S++[.M v.aq [] O]);have⟨U,X,c,a⟩:=e (λg=>(R.k5 g).2.2) S S.length y v.ax.length 0 _ _ _ D a2 (by grind);have⟨r,t,f,i,j,l,Q⟩:=c.fin;refine⟨r,by simp_all, ?_⟩;rcases p with k|k
  ·have q:gh .u8 4=(((dt v.ae.toNat).toNat:Nat):Int):=by simp_all
   generalize dt v.ae.toNat=u,dt v.ax.length=w at*;simp at a;simp[q,w0,k,N];rw[ak cX];simp[a,k,f,i,j,l]
  ·have q:gh .u8 5=(((dt v.ae.toNat).toNat:Nat):Int):=by simp_all
   generalize dt v.ae.toNat=u,dt v.ax.length=w at*;simp at a;simp[q,w0,k,N];rw[ak cX];simp[a,k,f,i,j,l]
def Oe(o:l9)(a:o.Wf)(y:De o=Y)(S:G):∃r,BD r (jW o)/\DF F W 27 [.A o.aq] S=J (r,S):=by
 have kr:=HO y;have hle:=Wx a y;have wk0:=Dj (k:=o.ae) D D;have pl:=HP a.eJ (xf y);have b1:=fg (n:=o.id.toNat) (by have:=a.Ti;omega);have b2:=fg (n:=o.after.toNat) (by have:=a.af1;omega);have hb:=nF.new (dt o.ae.toNat) [];have⟨rp,Q,f⟩:=Oc o.eJ a.eJ (xf y) (S++[.M o.aq [] O]);have⟨o1,t1,o2,t2,A,B,C⟩:=hb.call Q (by grind) (S++[.M o.aq [] O]);have⟨ri,s,d⟩:=sk o.id.toNat (by have:=a.Ti;omega) (S++[.M o.aq [] O]);have⟨ra,z,q⟩:=sk o.after.toNat (by have:=a.af1;omega) (S++[.M o.aq [] O]);rw[(by have:=a.XL;omega:((o.id.toNat:Nat):Int)=o.id)]at d;rw[(by have:=a.af0;omega:((o.after.toNat:Nat):Int)=o.after)]at q;have b:=rS o.ae (S++[.M o.aq [] O]);rw[fI al2];rcases kr with k|k|k|k
 ·have c:=Bo y (.inl k)
  have vl:=a8.kW a.value c;have⟨rv,v,w⟩:=oS 5 o.value a.value c D (S++[.M o.aq [] O]);have⟨N,R,P,T,g,h,i⟩:=C.call v (by grind) (S++[.M o.aq [] O]);have⟨r,t,j,l,m,p,M⟩:=i.fin;have e:jW o=[dt o.ae.toNat]++kg o.eJ++o.value.bytes:=by unfold jW;simp[k]
  refine⟨r,by simp_all, ?_⟩;have x:gh .u8 1=(((dt o.ae.toNat).toNat:Nat):Int):=by simp_all
  rw[k]at b;generalize dt o.ae.toNat=u at*;simp at b;simp[x,k,f,A,B,b,w,g,h,j,l,m,p]
 ·have c:=Bo y (.inr k)
  have vl:=a8.kW a.value c;have⟨N,R,P,T,g,h,i⟩:=C.call s (by grind) (S++[.M o.aq [] O]);have⟨o5,t5,o6,t6,E,I,L⟩:=i.call z (by grind) (S++[.M o.aq [] O]);have⟨rv,v,w⟩:=oS 5 o.value a.value c D (S++[.M o.aq [] O]);have⟨o7,t7,o8,t8,U,X,e3⟩:=L.call v (by grind) (S++[.M o.aq [] O]);have⟨r,t,j,l,m,p,M⟩:=e3.fin;have e:jW o=[dt o.ae.toNat]++kg o.eJ++cB o.id.toNat++cB o.after.toNat++o.value.bytes:=by unfold jW;simp[k]
  refine⟨r,by simp_all, ?_⟩;have x:gh .u8 2=(((dt o.ae.toNat).toNat:Nat):Int):=by simp_all
  rw[k]at b;generalize dt o.ae.toNat=u at*;simp at b;simp[x,k,f,A,B,b,d,g,h,q,E,I,w,U,X,j,l,m,p]
 ·have⟨N,R,P,T,g,h,i⟩:=C.call s (by grind) (S++[.M o.aq [] O])
  have⟨r,t,j,l,m,p,M⟩:=i.fin;have e:jW o=[dt o.ae.toNat]++kg o.eJ++cB o.id.toNat:=by unfold jW;simp[k]
  refine⟨r,by simp_all, ?_⟩;have x:gh .u8 3=(((dt o.ae.toNat).toNat:Nat):Int):=by simp_all
  rw[k]at b;generalize dt o.ae.toNat=u at*;simp at b;simp[x,k,f,A,B,b,d,g,h,j,l,m,p]
 ·have⟨N,R,P,T,g,h,i⟩:=C.call s (by grind) (S++[.M o.aq [] O])
  have⟨o5,t5,o6,t6,E,I,L⟩:=i.call z (by grind) (S++[.M o.aq [] O]);have⟨r,t,j,l,m,p,M⟩:=L.fin;have e:jW o=[dt o.ae.toNat]++kg o.eJ++cB o.id.toNat++cB o.after.toNat:=by unfold jW;simp[k]
  refine⟨r,by simp_all, ?_⟩;have x:gh .u8 4=(((dt o.ae.toNat).toNat:Nat):Int):=by simp_all
  rw[k]at b;generalize dt o.ae.toNat=u at*;simp at b;simp[x,k,f,A,B,b,d,g,h,q,E,I,j,l,m,p]
def bF.sR:∀(d:Nat)(l:bF),l.Wf->l.ba d=Y->l.bytes.length<=149000000+100*d:=by
 intro d;induction d with
 |zero=>nofun
 |succ d i=>
  intro l f h;have R:=bF.fP h;have j:=iz (fR R.a) D;have m:(if rn l.ae=Y then aR l.b else[]).length<=22:=by
   split;·rename_i k;exact iz (fR (R.b1 k).1) D
   ·simp
  have o:(if qb l.ae=Y then l.type.bytes++l.base.bytes else[]).length<=148517200:=by
   split
   ·rename_i k
    have r:=nq (R.t1 k);have:=a8.kW f.one.base r.1;have:=bM.kW r.2
    grind
   ·simp
  have n:(if sa l.ae=Y then l.back.bytes++(cB l.aT.length++l.aT.flatMap jZ)else[]).length<=2000:=by
   split
   ·rename_i k
    have⟨a,b,c,e⟩:=R.y1 k;have q:=uF f.one.back b;have s:=zZ l.type a l.aT f.one.pair e
    grind [fg]
   ·simp
  simp[bF.vh];cases g:tn l.ae;·rw[R.i0 g];simp[bF.fa];omega
  ·have⟨x,p⟩:=zS.1 (R.i1 g)
   have:=i x (f.all x (by grind)) (R.all x (by grind))
   grind [qb,sa,tn,bF.fa]
def Of(l:bF)(M:l.aT.length<=8)(hw:∀p∈l.aT,p.x.I_/\p.y.I_)(S:G)(nb:Nat):
 ∀d i(b:H)(ab:ch)(s:K),i+d=l.aT.length->nF b ab s->s.length+((l.aT.drop i).flatMap jZ).length+100<=1073741824->
 ∃a aS,nF a aS (s++(l.aT.drop i).flatMap jZ)/\DC F W (.L mZ) ⟨[(1,.P S.length 0),(3,b),(4,.I V (i:Nat))],ab,nb⟩ (S++[.M l.aq [] O])=J (.E 0,⟨[(1,.P S.length 0),(3,a)],aS,nb⟩,S++[.M l.aq [] O]):=by
 intro d;induction d with
 |zero=>
  intro i b ab s z r f;have I:=iy D;refine⟨b,ab,by simp_all, ?_⟩;simp[av,bf jv,(D:¬i<l.aT.length)]
 |succ d B=>
  intro i b ab s z r f;have⟨y,t,g⟩:=aQ (l:=l.aT) (i:=i) D;have c:=bj (i:=i) D;have e:=hw y (fH t);rw[aZ t,vM]at f⊢;simp only[jf]at f;have L:(jZ y).length=y.x.bytes.length+y.y.bytes.length:=by simp[jZ]
  have⟨R,h,j⟩:=oS 5 y.x e.1.wf e.1.right D (S++[.M l.aq [] O]);have⟨T,k,m⟩:=oS 5 y.y e.2.wf e.2.right D (S++[.M l.aq [] O]);have⟨N,U,P,X,u,n,v⟩:=r.call h D (S++[.M l.aq [] O]);have⟨Q,t3,C,E,w,o,x⟩:=v.call k (by grind) (S++[.M l.aq [] O]);have⟨a,aS,A,q⟩:=B (i+1) C E (s++y.x.bytes++y.y.bytes) D x (by grind);refine⟨a,aS,by grind [jZ], ?_⟩;rw[av,bf jv];simp at c q n o;simp[(D:i<l.aT.length),g,j,u,n,m,w,o];rw[ak jv];simp[c,q]
def Og:∀(d:Nat)(l:bF),l.Wf->l.ba d=Y->d<=5->∀S,∃r,BD r l.bytes/\DF F W 30 [.A l.aq] S=J (r,S):=by
 intro d;induction d with
 |zero=>nofun
 |succ d ih=>
  intro l c h hd S;have R:=bF.fP h;have hle:=bF.sR (d+1) l c h;have lb:=l.vh;have k1:=R.k1;have Y6:=R.Y6;have P:=Dj (k:=l.ae) D D;have la:=fR R.a;have ea:=iz la D;have ho:=nF.new (dt l.ae.toNat) [];have e:=AP (s:=l.a) D;have⟨ra,ra1,f⟩:=ql l.a (S++[.M l.aq [] O]) D;have⟨o1,t1,o2,t2,Q,T,U⟩:=ho.call ra1 (by grind) (S++[.M l.aq [] O]);have o:=sY l.ae (S++[.M l.aq [] O]);have p:=sZ l.ae (S++[.M l.aq [] O]);rw[fI al4];rcases(Rt R.k1 R.Y6)with⟨y,z,N⟩|⟨y,z,N⟩|⟨y,z,N⟩|⟨y,z,N⟩
  ·have v:¬l.ae=8/\¬8<l.ae:=by unfold rn at y;grind
   have hi:=R.i0 (by grind [tn]);have lbb:=fR (R.b1 y).1;have ebb:=iz lbb D;have⟨rb,a,b⟩:=ql l.b (S++[.M l.aq [] O]) D;have⟨o3,t3,o4,t4,B,C,E⟩:=U.call a (by grind) (S++[.M l.aq [] O]);have⟨r,t,g,i,j,m,f5⟩:=E.fin;have X:l.bytes=[dt l.ae.toNat]++aR l.a++aR l.b:=by grind [bF.fa]
   refine⟨r,by simp_all, ?_⟩;rw[y]at o;rw[z]at p;generalize dt l.ae.toNat=u at*;simp[P,e,pX,pY,kY,j9,f,Q,T,o,p,v.1,v.2,AP (s:=l.b) D,b,B,C,g,i,j,m]
  ·have v:¬l.ae=8/\¬8<l.ae:=by grind [qb,sa]
   have hi:=R.i0 (by grind [tn]);have q:=nq (R.t1 z);have s1:=bM.kW q.2;have s2:=a8.kW c.one.base q.1;have⟨rb,a,b⟩:=Fo 5 l.type c.one.type q.2 D (S++[.M l.aq [] O]);have⟨o3,t3,o4,t4,B,C,E⟩:=U.call a (by grind) (S++[.M l.aq [] O]);have⟨rc,L,M⟩:=oS 5 l.base c.one.base q.1 D (S++[.M l.aq [] O]);have⟨o5,t5,o6,t6,c1,c2,c3⟩:=E.call L (by grind) (S++[.M l.aq [] O]);have⟨r,t,g,i,j,m,f5⟩:=c3.fin;have X:l.bytes=[dt l.ae.toNat]++aR l.a++l.type.bytes++l.base.bytes:=by grind [bF.fa]
   refine⟨r,by simp_all, ?_⟩;rw[y]at o;rw[z]at p;generalize dt l.ae.toNat=u at*;simp[P,e,pX,pY,kY,j9,f,Q,T,o,p,v.1,v.2,b,B,C,M,c1,c2,g,i,j,m]
  ·rw[y]at o
   rw[z]at p;have A:¬l.ae=8:=by unfold sa at N;simp_all
   cases hu:tn l.ae
   ·have v:¬8<l.ae:=by unfold tn at hu;grind
    have hi:=R.i0 hu;have⟨r,t,g,i,j,m,f5⟩:=U.fin;have X:l.bytes=[dt l.ae.toNat]++aR l.a:=by grind [bF.fa]
    refine⟨r,by simp_all, ?_⟩;generalize dt l.ae.toNat=u at*;simp[P,e,pX,pY,kY,j9,f,Q,T,o,p,A,v,g,i,j,m]
   ·have v:8<l.ae:=by unfold tn at hu;grind
    have⟨x,hx⟩:=zS.1 (R.i1 hu);have hxl:=bF.sR d x (c.all x (by grind)) (R.all x (by grind));have⟨rb,a,b⟩:=ih x (c.all x (by grind)) (R.all x (by grind)) D (S++[.M l.aq [] O]);have⟨o3,t3,o4,t4,B,C,E⟩:=U.call a (by grind) (S++[.M l.aq [] O]);have⟨r,t,g,i,j,m,f5⟩:=E.fin;have X:l.bytes=[dt l.ae.toNat]++aR l.a++x.bytes:=by grind [bF.fa]
    have ix:=xU l.bT V 0;rw[hx]at ix;simp at ix;refine⟨r,by simp_all, ?_⟩;generalize dt l.ae.toNat=u at*;simp[P,e,pX,pY,kY,j9,f,Q,T,o,p,A,v,hx,ix,b,B,C,g,i,j,m]
  ·have A:l.ae=8:=by unfold sa at N;simp_all
   have hi:=R.i0 (by rw[A];decide);have q:=nq (R.t1 z);have s1:=bM.kW q.2;have s2:=a8.kW c.one.base q.1;have⟨q1,q2,q3,q4⟩:=R.y1 N;have s3:=uF c.one.back q2;have s4:=zZ l.type q1 l.aT c.one.pair q4;have I:=q2;unfold ib at I;simp at I;have⟨w0,n0⟩:=Qa (n:=l.aT.length) D;have⟨rb,a,b⟩:=Fo 5 l.type c.one.type q.2 D (S++[.M l.aq [] O]);have⟨o3,t3,o4,t4,B,C,E⟩:=U.call a (by grind) (S++[.M l.aq [] O]);have⟨rc,L,M⟩:=oS 5 l.base c.one.base q.1 D (S++[.M l.aq [] O]);have⟨o5,t5,o6,t6,c1,c2,c3⟩:=E.call L (by grind) (S++[.M l.aq [] O]);have⟨rd,rd1,rd2⟩:=oS 5 l.back c.one.back I.1 D (S++[.M l.aq [] O]);have⟨o7,t7,o8,t8,d1,d2,d3⟩:=c3.call rd1 (by grind) (S++[.M l.aq [] O]);have⟨o9,t9,e1,e2⟩:=d3.one (dt l.aT.length) (by simp;omega) (S++[.M l.aq [] O]);have⟨oA,tA,g1,g2⟩:=Of l q3 (bF.HQ c R N) S S.length l.aT.length 0 o9 t9 _ D e2 (by grind);have⟨r,t,g,i,j,m,f5⟩:=g1.fin;have X:l.bytes=[dt l.ae.toNat]++aR l.a++l.type.bytes++l.base.bytes++l.back.bytes++[dt l.aT.length]++(l.aT.drop 0).flatMap jZ:=by grind [bF.fa]
   refine⟨r,by simp_all, ?_⟩;rw[y,A]at o;rw[z,A]at p;have P:gh .u8 8=(((dt l.ae.toNat).toNat:Nat):Int):=by simp_all
   generalize dt l.ae.toNat=u,dt l.aT.length=w at*;simp at g2;simp[P,w0,e,pX,pY,kY,j9,f,Q,T,o,p,A,b,B,C,M,c1,c2,rd2,d1,d2,e1];rw[ak jv];simp[g2,A,g,i,j,m]
def ai8(a:aB)(ha:a.Wf)(hf:a.Flat)(g:a.v7)(S:G)(h:a.ae=1)(hB:a.cR=Y)(hl:a.raw.length<=4096):DF F W 8 [.A a.aq] S=J (a.gK,S):=by
 have X:=λT=>fK a.ae T;have fb:=λT=>kQ a.ae T;have fv:=λT=>dN a.ae T;rw[h]at X fb fv;rw[show cm 1=[119,114,105,116,101]from rfl]at X;rw[show cZ 1=O from rfl]at fb;rw[show c7 1=Y from rfl]at fv;have be:=kD [119,114,105,116,101] [];rw[decide_eq_false (by decide)]at be;have c1:=bX 1 1;have c2:=bX 1 2;have c8:=bX 1 8;rw[decide_eq_false (by decide)]at c1;rw[decide_eq_true (by decide)]at c2;rw[decide_eq_true (by decide)]at c8;have n2:=bX a.snd 0;have n3:=bX a.b_ 0;have gl:=eQ (a.raw.length:Int) 0;have gm:=eQ (a.raw.length:Int) 4096;have ln:=cl a.raw;have sO:=λT=>b9 a.op r9 ha.op.cO gP T;have sL:=λT=>b8 a.bU jh (bF.Wf.cO _ ha.bU) fJ T;have E:bE ag []=J ag:=rfl;have C:bE ad []=J ad:=rfl;have Q:=kG;have L:=kH;have N:=kJ;have U:=hE;have P:=kK;have I:=kL;have M:=kM;have R:=hH;have m:aE .gtr (.I V (a.raw.length:Int)) (.I V 4096)=J (.B O):=by rw[gm,decide_eq_false (by omega)]
 clear gm;unfold aB.cR at hB;simp[cZ,c7,h]at hB;obtain⟨i,d,f⟩:=hB;rw[decide_eq_false (by omega)]at n2;rw[d]at sL;have l:aE .gtr (.I V (a.raw.length:Int)) (.I V 0)=J (.B O):=by rw[gl,decide_eq_false (by rw[f];simp)]
 have l0:=bZ a.fst g.f0 g.f1;have l1:=bZ a.snd g.s0 g.s1;have l2:=bZ a.b_ g.v0 g.v1;have i0:=λT=>bA a.fst g.f0 (by have:=g.f1;omega) T;have i1:=λT=>bA a.snd g.s0 (by have:=g.s1;omega) T;have i2:=λT=>bA a.b_ g.v0 (by have:=g.v1;omega) T;have e1:=jj 1 1;have e2:=jj 1 2;have e8:=jj 1 8;rw[decide_eq_true (by decide)]at e1;rw[decide_eq_false (by decide)]at e2;rw[decide_eq_false (by decide)]at e8;have rs:∀k b x n,cd 8 k [.S x,.I V n] S (S++b)=J (.bP [.S x,.I V n],S):=λk b x n=>by simp[dr,bI,bD,aP,aC,aO]
 have hz:ag.length=10:=rfl;have re:=bK;obtain⟨w0,B⟩:∃w:K,w=[119,114,105,116,101]:=⟨_,rfl⟩;have mw:w0.length=5:=by rw[B];rfl
 rw[<-B]at X be;obtain⟨A0,p⟩:∃A:K,A=w0++[32]:=⟨_,rfl⟩;have m0:A0.length=w0.length+1:=by rw[p,jf];try rfl
 have s0:bG .add (.S w0) (.S ([32]))=J (.S A0):=by rw[p];exact eW _ _ (by(try simp only[jI,nI]);omega)
 obtain⟨A1,s⟩:∃A:K,A=A0++a7 a.fst:=⟨_,rfl⟩;have m1:A1.length=A0.length+(a7 a.fst).length:=by rw[s,jf];try rfl
 have s1:bG .add (.S A0) (.S (a7 a.fst))=J (.S A1):=by rw[s];exact eW _ _ (by(try simp only[jI,nI]);omega)
 obtain⟨A2,t⟩:∃A:K,A=A1++[32]:=⟨_,rfl⟩;have m2:A2.length=A1.length+1:=by rw[t,jf];try rfl
 have s2:bG .add (.S A1) (.S ([32]))=J (.S A2):=by rw[t];exact eW _ _ (by(try simp only[jI,nI]);omega)
 obtain⟨A3,v⟩:∃A:K,A=A2++a7 a.b_:=⟨_,rfl⟩;have m3:A3.length=A2.length+(a7 a.b_).length:=by rw[v,jf];try rfl
 have s3:bG .add (.S A2) (.S (a7 a.b_))=J (.S A3):=by rw[v];exact eW _ _ (by(try simp only[jI,nI]);omega)
 have rt:=λT=>AM a.op ha.op hf.op T;rcases(show(De a.op)=O\/(De a.op)=Y by cases(De a.op)<;>simp)with ho|ho
 ·rw[ho]at rt
  have e:a.gK=.bP [.S [],.I V 1]:=by
   have c:a.code=1:=by unfold aB.code;rw[if_neg (λq:¬_=>q (by omega)),if_neg (λq:¬_=>q ⟨by unfold aB.cR;simp[cZ,c7,h,i,d,f],hl⟩),if_pos h,if_neg (by rw[ho];simp)]
   unfold aB.gK;rw[c];rfl
  rw[e,fI Gj];clear e;generalize ag=ZO,ad=ZL at*;simp-implicitDefEqProofs [re, -aE, -bG,h,X,fb,fv,be,c1,c2,c8,bw,ln,E,C,Q,L,N,U,P,I,M,R,rs,m,i0,i1,i2,e1,e2,e8,n2,sL,l,rt,s0,s1,s2,s3]
 ·rw[ho]at rt
  have⟨r,r1,r2⟩:=Oe a.op ha.op ho (S++[.M a.aq [] O]);have⟨o,u,a1,a2⟩:=r1.1.take [];have lo:=cY.len a2;rw[Ll]at lo;have gg:=eQ ((jW a.op).length:Int) 4096;by_cases hx:4096<(jW a.op).length
  ·rw[decide_eq_true (by omega)]at gg
   have e:a.gK=.bP [.S [],.I V 3]:=by
    have c:a.code=3:=by unfold aB.code;rw[if_neg (λq:¬_=>q (by omega)),if_neg (λq:¬_=>q ⟨by unfold aB.cR;simp[cZ,c7,h,i,d,f],hl⟩),if_pos h,if_pos ho,if_pos hx]
    unfold aB.gK;rw[c];rfl
   try simp at a1
   rw[e,fI Gj];clear e;generalize ag=ZO,ad=ZL at*;simp-implicitDefEqProofs [re, -aE, -bG,h,X,fb,fv,be,c1,c2,c8,bw,ln,E,C,Q,L,N,U,P,I,M,R,rs,m,i0,i1,i2,e1,e2,e8,n2,sL,l,rt,r2,a1,lo,gg,s0,s1,s2,s3]
  ·rw[decide_eq_false (by omega)]at gg
   have⟨o',u',a1',j⟩:=r1.1.take u;have g1:=cY.z6 j;have g2:cJ (aH o')=cq (jW a.op):=cY.cJ j;have g3:=cY.lock j;have g4:=cY.oM j;have hx':=λT=>qe (jW a.op) (by omega) T;have lx:=kA (jW a.op);obtain⟨A4,y⟩:∃A:K,A=A3++[32]:=⟨_,rfl⟩;have m4:A4.length=A3.length+1:=by rw[y,jf];try rfl
   have s4:bG .add (.S A3) (.S ([32]))=J (.S A4):=by rw[y];exact eW _ _ (by(try simp only[jI,nI]);omega)
   obtain⟨A5,z⟩:∃A:K,A=A4++dI (jW a.op):=⟨_,rfl⟩;have m5:A5.length=A4.length+(dI (jW a.op)).length:=by rw[z,jf];try rfl
   have s5:bG .add (.S A4) (.S (dI (jW a.op)))=J (.S A5):=by rw[z];exact eW _ _ (by(try simp only[jI,nI]);omega)
   have el:a.line=A5:=by rw[z,y,v,t,s,p,B];unfold aB.line;simp[aB.ax,cm,cZ,c7,h,fE]
   have e:a.gK=.bP [.S a.line,.I V 0]:=by
    have c:a.code=0:=by unfold aB.code;rw[if_neg (λq:¬_=>q (by omega)),if_neg (λq:¬_=>q ⟨by unfold aB.cR;simp[cZ,c7,h,i,d,f],hl⟩),if_pos h,if_pos ho,if_neg hx]
    unfold aB.gK;rw[c,if_pos rfl]
   rw[el]at e;try simp at a1 a1'
   rw[e,fI Gj];clear e;generalize ag=ZO,ad=ZL at*;simp-implicitDefEqProofs [re, -aE, -bG,h,X,fb,fv,be,c1,c2,c8,bw,ln,E,C,Q,L,N,U,P,I,M,R,rs,m,i0,i1,i2,e1,e2,e8,n2,sL,l,rt,r2,a1,lo,gg,a1',g1,g2,g3,g4,dd,cz,hx',s0,s1,s2,s3,s4,s5]
def ai_(a:aB)(ha:a.Wf)(hf:a.Flat)(f:a.v7)(S:G)(h:a.ae=2)(hB:a.cR=Y)(hl:a.raw.length<=4096):DF F W 8 [.A a.aq] S=J (a.gK,S):=by
 have X:=λT=>fK a.ae T;have fb:=λT=>kQ a.ae T;have fv:=λT=>dN a.ae T;rw[h]at X fb fv;rw[show cm 2=[112,117,98,108,105,115,104]from rfl]at X;rw[show cZ 2=O from rfl]at fb;rw[show c7 2=Y from rfl]at fv;have be:=kD [112,117,98,108,105,115,104] [];rw[decide_eq_false (by decide)]at be;have c1:=bX 2 1;have c2:=bX 2 2;have c8:=bX 2 8;rw[decide_eq_true (by decide)]at c1;rw[decide_eq_false (by decide)]at c2;rw[decide_eq_true (by decide)]at c8;have n2:=bX a.snd 0;have n3:=bX a.b_ 0;have gl:=eQ (a.raw.length:Int) 0;have gm:=eQ (a.raw.length:Int) 4096;have ln:=cl a.raw;have sO:=λT=>b9 a.op r9 ha.op.cO gP T;have sL:=λT=>b8 a.bU jh (bF.Wf.cO _ ha.bU) fJ T;have E:bE ag []=J ag:=rfl;have C:bE ad []=J ad:=rfl;have Q:=kG;have L:=kH;have N:=kJ;have U:=hE;have P:=kK;have I:=kL;have M:=kM;have R:=hH;have m:aE .gtr (.I V (a.raw.length:Int)) (.I V 4096)=J (.B O):=by rw[gm,decide_eq_false (by omega)]
 clear gm;unfold aB.cR at hB;simp[cZ,c7,h]at hB;obtain⟨g,j,d⟩:=hB;rw[decide_eq_false (by omega)]at n2;rw[j]at sO;have l:aE .gtr (.I V (a.raw.length:Int)) (.I V 0)=J (.B O):=by rw[gl,decide_eq_false (by rw[d];simp)]
 have l0:=bZ a.fst f.f0 f.f1;have l1:=bZ a.snd f.s0 f.s1;have l2:=bZ a.b_ f.v0 f.v1;have i0:=λT=>bA a.fst f.f0 (by have:=f.f1;omega) T;have i1:=λT=>bA a.snd f.s0 (by have:=f.s1;omega) T;have i2:=λT=>bA a.b_ f.v0 (by have:=f.v1;omega) T;have e1:=jj 2 1;have e2:=jj 2 2;have e8:=jj 2 8;rw[decide_eq_false (by decide)]at e1;rw[decide_eq_true (by decide)]at e2;rw[decide_eq_false (by decide)]at e8;have rs:∀k b x n,cd 8 k [.S x,.I V n] S (S++b)=J (.bP [.S x,.I V n],S):=λk b x n=>by simp[dr,bI,bD,aP,aC,aO]
 have hz:ag.length=10:=rfl;have re:=bK;obtain⟨w0,B⟩:∃w:K,w=[112,117,98,108,105,115,104]:=⟨_,rfl⟩;have mw:w0.length=7:=by rw[B];rfl
 rw[<-B]at X be;obtain⟨A0,p⟩:∃A:K,A=w0++[32]:=⟨_,rfl⟩;have m0:A0.length=w0.length+1:=by rw[p,jf];try rfl
 have s0:bG .add (.S w0) (.S ([32]))=J (.S A0):=by rw[p];exact eW _ _ (by(try simp only[jI,nI]);omega)
 obtain⟨A1,s⟩:∃A:K,A=A0++a7 a.fst:=⟨_,rfl⟩;have m1:A1.length=A0.length+(a7 a.fst).length:=by rw[s,jf];try rfl
 have s1:bG .add (.S A0) (.S (a7 a.fst))=J (.S A1):=by rw[s];exact eW _ _ (by(try simp only[jI,nI]);omega)
 obtain⟨A2,t⟩:∃A:K,A=A1++[32]:=⟨_,rfl⟩;have m2:A2.length=A1.length+1:=by rw[t,jf];try rfl
 have s2:bG .add (.S A1) (.S ([32]))=J (.S A2):=by rw[t];exact eW _ _ (by(try simp only[jI,nI]);omega)
 obtain⟨A3,v⟩:∃A:K,A=A2++a7 a.b_:=⟨_,rfl⟩;have m3:A3.length=A2.length+(a7 a.b_).length:=by rw[v,jf];try rfl
 have s3:bG .add (.S A2) (.S (a7 a.b_))=J (.S A3):=by rw[v];exact eW _ _ (by(try simp only[jI,nI]);omega)
 have rt:=λT=>Au a.bU ha.bU hf.bU hf.deep T;rcases(show(a.bU.ba 5)=O\/(a.bU.ba 5)=Y by cases(a.bU.ba 5)<;>simp)with ho|ho
 ·rw[ho]at rt
  have e:a.gK=.bP [.S [],.I V 1]:=by
   have c:a.code=1:=by unfold aB.code;rw[if_neg (λq:¬_=>q (by omega)),if_neg (λq:¬_=>q ⟨by unfold aB.cR;simp[cZ,c7,h,g,j,d],hl⟩),if_neg (by omega),if_pos h,if_neg (by rw[ho];simp)]
   unfold aB.gK;rw[c];rfl
  rw[e,fI Gj];clear e;generalize ag=ZO,ad=ZL at*;simp-implicitDefEqProofs [re, -aE, -bG,h,X,fb,fv,be,c1,c2,c8,bw,ln,E,C,Q,L,N,U,P,I,M,R,rs,m,i0,i1,i2,e1,e2,e8,n2,sO,l,rt,s0,s1,s2,s3]
 ·rw[ho]at rt
  have⟨r,r1,r2⟩:=Og 5 a.bU ha.bU ho (by omega) (S++[.M a.aq [] O]);have⟨o,u,a1,a2⟩:=r1.1.take [];have lo:=cY.len a2;rw[Ll]at lo;have gg:=eQ ((a.bU.bytes).length:Int) 4096;by_cases hx:4096<(a.bU.bytes).length
  ·rw[decide_eq_true (by omega)]at gg
   have e:a.gK=.bP [.S [],.I V 3]:=by
    have c:a.code=3:=by unfold aB.code;rw[if_neg (λq:¬_=>q (by omega)),if_neg (λq:¬_=>q ⟨by unfold aB.cR;simp[cZ,c7,h,g,j,d],hl⟩),if_neg (by omega),if_pos h,if_pos ho,if_pos hx]
    unfold aB.gK;rw[c];rfl
   try simp at a1
   rw[e,fI Gj];clear e;generalize ag=ZO,ad=ZL at*;simp-implicitDefEqProofs [re, -aE, -bG,h,X,fb,fv,be,c1,c2,c8,bw,ln,E,C,Q,L,N,U,P,I,M,R,rs,m,i0,i1,i2,e1,e2,e8,n2,sO,l,rt,r2,a1,lo,gg,s0,s1,s2,s3]
  ·rw[decide_eq_false (by omega)]at gg
   have⟨o',u',a1',i⟩:=r1.1.take u;have g1:=cY.z6 i;have g2:cJ (aH o')=cq (a.bU.bytes):=cY.cJ i;have g3:=cY.lock i;have g4:=cY.oM i;have hx':=λT=>qe (a.bU.bytes) (by omega) T;have lx:=kA (a.bU.bytes);obtain⟨A4,y⟩:∃A:K,A=A3++[32]:=⟨_,rfl⟩;have m4:A4.length=A3.length+1:=by rw[y,jf];try rfl
   have s4:bG .add (.S A3) (.S ([32]))=J (.S A4):=by rw[y];exact eW _ _ (by(try simp only[jI,nI]);omega)
   obtain⟨A5,z⟩:∃A:K,A=A4++dI a.bU.bytes:=⟨_,rfl⟩;have m5:A5.length=A4.length+(dI a.bU.bytes).length:=by rw[z,jf];try rfl
   have s5:bG .add (.S A4) (.S (dI a.bU.bytes))=J (.S A5):=by rw[z];exact eW _ _ (by(try simp only[jI,nI]);omega)
   have el:a.line=A5:=by rw[z,y,v,t,s,p,B];unfold aB.line;simp[aB.ax,cm,cZ,c7,h,fE]
   have e:a.gK=.bP [.S a.line,.I V 0]:=by
    have c:a.code=0:=by unfold aB.code;rw[if_neg (λq:¬_=>q (by omega)),if_neg (λq:¬_=>q ⟨by unfold aB.cR;simp[cZ,c7,h,g,j,d],hl⟩),if_neg (by omega),if_pos h,if_pos ho,if_neg hx]
    unfold aB.gK;rw[c,if_pos rfl]
   rw[el]at e;try simp at a1 a1'
   rw[e,fI Gj];clear e;generalize ag=ZO,ad=ZL at*;simp-implicitDefEqProofs [re, -aE, -bG,h,X,fb,fv,be,c1,c2,c8,bw,ln,E,C,Q,L,N,U,P,I,M,R,rs,m,i0,i1,i2,e1,e2,e8,n2,sO,l,rt,r2,a1,lo,gg,a1',g1,g2,g3,g4,dd,cz,hx',s0,s1,s2,s3,s4,s5]
def aja(a:aB)(ha:a.Wf)(hf:a.Flat)(d:a.v7)(S:G)(h:a.ae=3)(M:a.cR=Y)(hl:a.raw.length<=4096):DF F W 8 [.A a.aq] S=J (a.gK,S):=by
 have v:=λT=>fK a.ae T;have C:=λT=>kQ a.ae T;have E:=λT=>dN a.ae T;rw[h]at v C E;rw[show cm 3=[115,121,110,99]from rfl]at v;rw[show cZ 3=Y from rfl]at C;rw[show c7 3=O from rfl]at E;have B:=kD [115,121,110,99] [];rw[decide_eq_false (by decide)]at B;have c1:=bX 3 1;have c2:=bX 3 2;have c8:=bX 3 8;rw[decide_eq_true (by decide)]at c1;rw[decide_eq_true (by decide)]at c2;rw[decide_eq_true (by decide)]at c8;have n2:=bX a.snd 0;have n3:=bX a.b_ 0;have gl:=eQ (a.raw.length:Int) 0;have gm:=eQ (a.raw.length:Int) 4096;have ln:=cl a.raw;have sO:=λT=>b9 a.op r9 ha.op.cO gP T;have sL:=λT=>b8 a.bU jh (bF.Wf.cO _ ha.bU) fJ T;have P:bE ag []=J ag:=rfl;have N:bE ad []=J ad:=rfl;have zno:=kG;have R:=kH;have X:=kJ;have RQ:=hE;have znl:=kK;have Q:=kL;have U:=kM;have zul:=hH;have L:aE .gtr (.I V (a.raw.length:Int)) (.I V 4096)=J (.B O):=by rw[gm,decide_eq_false (by omega)]
 clear gm;unfold aB.cR at M;simp[cZ,c7,h]at M;obtain⟨p,u,f,g⟩:=M;rw[decide_eq_false (by omega)]at n3;rw[u]at sO;rw[f]at sL;have I:aE .gtr (.I V (a.raw.length:Int)) (.I V 0)=J (.B O):=by rw[gl,decide_eq_false (by rw[g];simp)]
 have l0:=bZ a.fst d.f0 d.f1;have l1:=bZ a.snd d.s0 d.s1;have l2:=bZ a.b_ d.v0 d.v1;have i0:=λT=>bA a.fst d.f0 (by have:=d.f1;omega) T;have i1:=λT=>bA a.snd d.s0 (by have:=d.s1;omega) T;have i2:=λT=>bA a.b_ d.v0 (by have:=d.v1;omega) T;have e1:=jj 3 1;have e2:=jj 3 2;have e8:=jj 3 8;rw[decide_eq_false (by decide)]at e1;rw[decide_eq_false (by decide)]at e2;rw[decide_eq_false (by decide)]at e8;have rs:∀i b x n,cd 8 i [.S x,.I V n] S (S++b)=J (.bP [.S x,.I V n],S):=λi b x n=>by simp[dr,bI,bD,aP,aC,aO]
 have hz:ag.length=10:=rfl;have re:=bK;obtain⟨y,o⟩:∃w:K,w=[115,121,110,99]:=⟨_,rfl⟩;have mw:y.length=4:=by rw[o];rfl
 rw[<-o]at v B;obtain⟨r,j⟩:∃A:K,A=y++[32]:=⟨_,rfl⟩;have m0:r.length=y.length+1:=by rw[j,jf];try rfl
 have s0:bG .add (.S y) (.S ([32]))=J (.S r):=by rw[j];exact eW _ _ (by(try simp only[jI,nI]);omega)
 obtain⟨s,k⟩:∃A:K,A=r++a7 a.fst:=⟨_,rfl⟩;have m1:s.length=r.length+(a7 a.fst).length:=by rw[k,jf];try rfl
 have s1:bG .add (.S r) (.S (a7 a.fst))=J (.S s):=by rw[k];exact eW _ _ (by(try simp only[jI,nI]);omega)
 obtain⟨t,l⟩:∃A:K,A=s++[32]:=⟨_,rfl⟩;have m2:t.length=s.length+1:=by rw[l,jf];try rfl
 have s2:bG .add (.S s) (.S ([32]))=J (.S t):=by rw[l];exact eW _ _ (by(try simp only[jI,nI]);omega)
 obtain⟨z,m⟩:∃A:K,A=t++a7 a.snd:=⟨_,rfl⟩;have m3:z.length=t.length+(a7 a.snd).length:=by rw[m,jf];try rfl
 have s3:bG .add (.S t) (.S (a7 a.snd))=J (.S z):=by rw[m];exact eW _ _ (by(try simp only[jI,nI]);omega)
 have el:a.line=z:=by rw[m,l,k,j,o];unfold aB.line;simp[aB.ax,cm,cZ,c7,h,fE]
 have e:a.gK=.bP [.S a.line,.I V 0]:=by
  have c:a.code=0:=by unfold aB.code;rw[if_neg (λq:¬_=>q (by omega)),if_neg (λq:¬_=>q ⟨by unfold aB.cR;simp[cZ,c7,h,p,u,f,g],hl⟩),if_neg (by omega),if_neg (by omega)]
  unfold aB.gK;rw[c,if_pos rfl]
 rw[el]at e;rw[e,fI Gj];clear e;generalize ag=ZO,ad=ZL at*;simp-implicitDefEqProofs [re, -aE, -bG,h,v,C,E,B,c1,c2,c8,bw,ln,P,N,zno,R,X,RQ,znl,Q,U,zul,rs,L,i0,i1,i2,e1,e2,e8,n3,sO,sL,I,s0,s1,s2,s3]
def aje(a:aB)(ha:a.Wf)(hf:a.Flat)(d:a.v7)(S:G)(h:a.ae=4)(E:a.cR=Y)(hl:a.raw.length<=4096):DF F W 8 [.A a.aq] S=J (a.gK,S):=by
 have s:=λT=>fK a.ae T;have y:=λT=>kQ a.ae T;have z:=λT=>dN a.ae T;rw[h]at s y z;rw[show cm 4=[100,101,108,105,118,101,114]from rfl]at s;rw[show cZ 4=O from rfl]at y;rw[show c7 4=O from rfl]at z;have v:=kD [100,101,108,105,118,101,114] [];rw[decide_eq_false (by decide)]at v;have c1:=bX 4 1;have c2:=bX 4 2;have c8:=bX 4 8;rw[decide_eq_true (by decide)]at c1;rw[decide_eq_true (by decide)]at c2;rw[decide_eq_true (by decide)]at c8;have n2:=bX a.snd 0;have n3:=bX a.b_ 0;have gl:=eQ (a.raw.length:Int) 0;have gm:=eQ (a.raw.length:Int) 4096;have ln:=cl a.raw;have sO:=λT=>b9 a.op r9 ha.op.cO gP T;have sL:=λT=>b8 a.bU jh (bF.Wf.cO _ ha.bU) fJ T;have L:bE ag []=J ag:=rfl;have I:bE ad []=J ad:=rfl;have U:=kG;have N:=kH;have Q:=kJ;have RQ:=hE;have R:=kK;have M:=kL;have P:=kM;have X:=hH;have C:aE .gtr (.I V (a.raw.length:Int)) (.I V 4096)=J (.B O):=by rw[gm,decide_eq_false (by omega)]
 clear gm;unfold aB.cR at E;simp[cZ,c7,h]at E;obtain⟨r,m,p,f,g⟩:=E;rw[decide_eq_false (by omega)]at n2;rw[decide_eq_false (by omega)]at n3;rw[p]at sO;rw[f]at sL;have B:aE .gtr (.I V (a.raw.length:Int)) (.I V 0)=J (.B O):=by rw[gl,decide_eq_false (by rw[g];simp)]
 have l0:=bZ a.fst d.f0 d.f1;have l1:=bZ a.snd d.s0 d.s1;have l2:=bZ a.b_ d.v0 d.v1;have i0:=λT=>bA a.fst d.f0 (by have:=d.f1;omega) T;have i1:=λT=>bA a.snd d.s0 (by have:=d.s1;omega) T;have i2:=λT=>bA a.b_ d.v0 (by have:=d.v1;omega) T;have e1:=jj 4 1;have e2:=jj 4 2;have e8:=jj 4 8;rw[decide_eq_false (by decide)]at e1;rw[decide_eq_false (by decide)]at e2;rw[decide_eq_false (by decide)]at e8;have rs:∀i b x n,cd 8 i [.S x,.I V n] S (S++b)=J (.bP [.S x,.I V n],S):=λi b x n=>by simp[dr,bI,bD,aP,aC,aO]
 have hz:ag.length=10:=rfl;have re:=bK;obtain⟨t,l⟩:∃w:K,w=[100,101,108,105,118,101,114]:=⟨_,rfl⟩;have mw:t.length=7:=by rw[l];rfl
 rw[<-l]at s v;obtain⟨o,j⟩:∃A:K,A=t++[32]:=⟨_,rfl⟩;have m0:o.length=t.length+1:=by rw[j,jf];try rfl
 have s0:bG .add (.S t) (.S ([32]))=J (.S o):=by rw[j];exact eW _ _ (by(try simp only[jI,nI]);omega)
 obtain⟨u,k⟩:∃A:K,A=o++a7 a.fst:=⟨_,rfl⟩;have m1:u.length=o.length+(a7 a.fst).length:=by rw[k,jf];try rfl
 have s1:bG .add (.S o) (.S (a7 a.fst))=J (.S u):=by rw[k];exact eW _ _ (by(try simp only[jI,nI]);omega)
 have el:a.line=u:=by rw[k,j,l];unfold aB.line;simp[aB.ax,cm,cZ,c7,h,fE]
 have e:a.gK=.bP [.S a.line,.I V 0]:=by
  have c:a.code=0:=by unfold aB.code;rw[if_neg (λq:¬_=>q (by omega)),if_neg (λq:¬_=>q ⟨by unfold aB.cR;simp[cZ,c7,h,r,m,p,f,g],hl⟩),if_neg (by omega),if_neg (by omega)]
  unfold aB.gK;rw[c,if_pos rfl]
 rw[el]at e;rw[e,fI Gj];clear e;generalize ag=ZO,ad=ZL at*;simp-implicitDefEqProofs [re, -aE, -bG,h,s,y,z,v,c1,c2,c8,bw,ln,L,I,U,N,Q,RQ,R,M,P,X,rs,C,i0,i1,i2,e1,e2,e8,n2,n3,sO,sL,B,s0,s1]
def ajf(a:aB)(ha:a.Wf)(hf:a.Flat)(d:a.v7)(S:G)(h:a.ae=5)(E:a.cR=Y)(hl:a.raw.length<=4096):DF F W 8 [.A a.aq] S=J (a.gK,S):=by
 have s:=λT=>fK a.ae T;have y:=λT=>kQ a.ae T;have z:=λT=>dN a.ae T;rw[h]at s y z;rw[show cm 5=[108,111,115,101]from rfl]at s;rw[show cZ 5=O from rfl]at y;rw[show c7 5=O from rfl]at z;have v:=kD [108,111,115,101] [];rw[decide_eq_false (by decide)]at v;have c1:=bX 5 1;have c2:=bX 5 2;have c8:=bX 5 8;rw[decide_eq_true (by decide)]at c1;rw[decide_eq_true (by decide)]at c2;rw[decide_eq_true (by decide)]at c8;have n2:=bX a.snd 0;have n3:=bX a.b_ 0;have gl:=eQ (a.raw.length:Int) 0;have gm:=eQ (a.raw.length:Int) 4096;have ln:=cl a.raw;have sO:=λT=>b9 a.op r9 ha.op.cO gP T;have sL:=λT=>b8 a.bU jh (bF.Wf.cO _ ha.bU) fJ T;have L:bE ag []=J ag:=rfl;have I:bE ad []=J ad:=rfl;have U:=kG;have N:=kH;have Q:=kJ;have RQ:=hE;have R:=kK;have M:=kL;have P:=kM;have X:=hH;have C:aE .gtr (.I V (a.raw.length:Int)) (.I V 4096)=J (.B O):=by rw[gm,decide_eq_false (by omega)]
 clear gm;unfold aB.cR at E;simp[cZ,c7,h]at E;obtain⟨r,m,p,f,g⟩:=E;rw[decide_eq_false (by omega)]at n2;rw[decide_eq_false (by omega)]at n3;rw[p]at sO;rw[f]at sL;have B:aE .gtr (.I V (a.raw.length:Int)) (.I V 0)=J (.B O):=by rw[gl,decide_eq_false (by rw[g];simp)]
 have l0:=bZ a.fst d.f0 d.f1;have l1:=bZ a.snd d.s0 d.s1;have l2:=bZ a.b_ d.v0 d.v1;have i0:=λT=>bA a.fst d.f0 (by have:=d.f1;omega) T;have i1:=λT=>bA a.snd d.s0 (by have:=d.s1;omega) T;have i2:=λT=>bA a.b_ d.v0 (by have:=d.v1;omega) T;have e1:=jj 5 1;have e2:=jj 5 2;have e8:=jj 5 8;rw[decide_eq_false (by decide)]at e1;rw[decide_eq_false (by decide)]at e2;rw[decide_eq_false (by decide)]at e8;have rs:∀i b x n,cd 8 i [.S x,.I V n] S (S++b)=J (.bP [.S x,.I V n],S):=λi b x n=>by simp[dr,bI,bD,aP,aC,aO]
 have hz:ag.length=10:=rfl;have re:=bK;obtain⟨t,l⟩:∃w:K,w=[108,111,115,101]:=⟨_,rfl⟩;have mw:t.length=4:=by rw[l];rfl
 rw[<-l]at s v;obtain⟨o,j⟩:∃A:K,A=t++[32]:=⟨_,rfl⟩;have m0:o.length=t.length+1:=by rw[j,jf];try rfl
 have s0:bG .add (.S t) (.S ([32]))=J (.S o):=by rw[j];exact eW _ _ (by(try simp only[jI,nI]);omega)
 obtain⟨u,k⟩:∃A:K,A=o++a7 a.fst:=⟨_,rfl⟩;have m1:u.length=o.length+(a7 a.fst).length:=by rw[k,jf];try rfl
 have s1:bG .add (.S o) (.S (a7 a.fst))=J (.S u):=by rw[k];exact eW _ _ (by(try simp only[jI,nI]);omega)
 have el:a.line=u:=by rw[k,j,l];unfold aB.line;simp[aB.ax,cm,cZ,c7,h,fE]
 have e:a.gK=.bP [.S a.line,.I V 0]:=by
  have c:a.code=0:=by unfold aB.code;rw[if_neg (λq:¬_=>q (by omega)),if_neg (λq:¬_=>q ⟨by unfold aB.cR;simp[cZ,c7,h,r,m,p,f,g],hl⟩),if_neg (by omega),if_neg (by omega)]
  unfold aB.gK;rw[c,if_pos rfl]
 rw[el]at e;rw[e,fI Gj];clear e;generalize ag=ZO,ad=ZL at*;simp-implicitDefEqProofs [re, -aE, -bG,h,s,y,z,v,c1,c2,c8,bw,ln,L,I,U,N,Q,RQ,R,M,P,X,rs,C,i0,i1,i2,e1,e2,e8,n2,n3,sO,sL,B,s0,s1]
def ajg(a:aB)(ha:a.Wf)(hf:a.Flat)(d:a.v7)(S:G)(h:a.ae=6)(E:a.cR=Y)(hl:a.raw.length<=4096):DF F W 8 [.A a.aq] S=J (a.gK,S):=by
 have s:=λT=>fK a.ae T;have y:=λT=>kQ a.ae T;have z:=λT=>dN a.ae T;rw[h]at s y z;rw[show cm 6=[99,111,112,121]from rfl]at s;rw[show cZ 6=O from rfl]at y;rw[show c7 6=O from rfl]at z;have v:=kD [99,111,112,121] [];rw[decide_eq_false (by decide)]at v;have c1:=bX 6 1;have c2:=bX 6 2;have c8:=bX 6 8;rw[decide_eq_true (by decide)]at c1;rw[decide_eq_true (by decide)]at c2;rw[decide_eq_true (by decide)]at c8;have n2:=bX a.snd 0;have n3:=bX a.b_ 0;have gl:=eQ (a.raw.length:Int) 0;have gm:=eQ (a.raw.length:Int) 4096;have ln:=cl a.raw;have sO:=λT=>b9 a.op r9 ha.op.cO gP T;have sL:=λT=>b8 a.bU jh (bF.Wf.cO _ ha.bU) fJ T;have L:bE ag []=J ag:=rfl;have I:bE ad []=J ad:=rfl;have U:=kG;have N:=kH;have Q:=kJ;have RQ:=hE;have R:=kK;have M:=kL;have P:=kM;have X:=hH;have C:aE .gtr (.I V (a.raw.length:Int)) (.I V 4096)=J (.B O):=by rw[gm,decide_eq_false (by omega)]
 clear gm;unfold aB.cR at E;simp[cZ,c7,h]at E;obtain⟨r,m,p,f,g⟩:=E;rw[decide_eq_false (by omega)]at n2;rw[decide_eq_false (by omega)]at n3;rw[p]at sO;rw[f]at sL;have B:aE .gtr (.I V (a.raw.length:Int)) (.I V 0)=J (.B O):=by rw[gl,decide_eq_false (by rw[g];simp)]
 have l0:=bZ a.fst d.f0 d.f1;have l1:=bZ a.snd d.s0 d.s1;have l2:=bZ a.b_ d.v0 d.v1;have i0:=λT=>bA a.fst d.f0 (by have:=d.f1;omega) T;have i1:=λT=>bA a.snd d.s0 (by have:=d.s1;omega) T;have i2:=λT=>bA a.b_ d.v0 (by have:=d.v1;omega) T;have e1:=jj 6 1;have e2:=jj 6 2;have e8:=jj 6 8;rw[decide_eq_false (by decide)]at e1;rw[decide_eq_false (by decide)]at e2;rw[decide_eq_false (by decide)]at e8;have rs:∀i b x n,cd 8 i [.S x,.I V n] S (S++b)=J (.bP [.S x,.I V n],S):=λi b x n=>by simp[dr,bI,bD,aP,aC,aO]
 have hz:ag.length=10:=rfl;have re:=bK;obtain⟨t,l⟩:∃w:K,w=[99,111,112,121]:=⟨_,rfl⟩;have mw:t.length=4:=by rw[l];rfl
 rw[<-l]at s v;obtain⟨o,j⟩:∃A:K,A=t++[32]:=⟨_,rfl⟩;have m0:o.length=t.length+1:=by rw[j,jf];try rfl
 have s0:bG .add (.S t) (.S ([32]))=J (.S o):=by rw[j];exact eW _ _ (by(try simp only[jI,nI]);omega)
 obtain⟨u,k⟩:∃A:K,A=o++a7 a.fst:=⟨_,rfl⟩;have m1:u.length=o.length+(a7 a.fst).length:=by rw[k,jf];try rfl
 have s1:bG .add (.S o) (.S (a7 a.fst))=J (.S u):=by rw[k];exact eW _ _ (by(try simp only[jI,nI]);omega)
 have el:a.line=u:=by rw[k,j,l];unfold aB.line;simp[aB.ax,cm,cZ,c7,h,fE]
 have e:a.gK=.bP [.S a.line,.I V 0]:=by
  have c:a.code=0:=by unfold aB.code;rw[if_neg (λq:¬_=>q (by omega)),if_neg (λq:¬_=>q ⟨by unfold aB.cR;simp[cZ,c7,h,r,m,p,f,g],hl⟩),if_neg (by omega),if_neg (by omega)]
  unfold aB.gK;rw[c,if_pos rfl]
 rw[el]at e;rw[e,fI Gj];clear e;generalize ag=ZO,ad=ZL at*;simp-implicitDefEqProofs [re, -aE, -bG,h,s,y,z,v,c1,c2,c8,bw,ln,L,I,U,N,Q,RQ,R,M,P,X,rs,C,i0,i1,i2,e1,e2,e8,n2,n3,sO,sL,B,s0,s1]
def ajh(a:aB)(ha:a.Wf)(hf:a.Flat)(d:a.v7)(S:G)(h:a.ae=7)(M:a.cR=Y)(hl:a.raw.length<=4096):DF F W 8 [.A a.aq] S=J (a.gK,S):=by
 have v:=λT=>fK a.ae T;have C:=λT=>kQ a.ae T;have E:=λT=>dN a.ae T;rw[h]at v C E;rw[show cm 7=[115,119,97,112]from rfl]at v;rw[show cZ 7=Y from rfl]at C;rw[show c7 7=O from rfl]at E;have B:=kD [115,119,97,112] [];rw[decide_eq_false (by decide)]at B;have c1:=bX 7 1;have c2:=bX 7 2;have c8:=bX 7 8;rw[decide_eq_true (by decide)]at c1;rw[decide_eq_true (by decide)]at c2;rw[decide_eq_true (by decide)]at c8;have n2:=bX a.snd 0;have n3:=bX a.b_ 0;have gl:=eQ (a.raw.length:Int) 0;have gm:=eQ (a.raw.length:Int) 4096;have ln:=cl a.raw;have sO:=λT=>b9 a.op r9 ha.op.cO gP T;have sL:=λT=>b8 a.bU jh (bF.Wf.cO _ ha.bU) fJ T;have P:bE ag []=J ag:=rfl;have N:bE ad []=J ad:=rfl;have zno:=kG;have R:=kH;have X:=kJ;have RQ:=hE;have znl:=kK;have Q:=kL;have U:=kM;have zul:=hH;have L:aE .gtr (.I V (a.raw.length:Int)) (.I V 4096)=J (.B O):=by rw[gm,decide_eq_false (by omega)]
 clear gm;unfold aB.cR at M;simp[cZ,c7,h]at M;obtain⟨p,u,f,g⟩:=M;rw[decide_eq_false (by omega)]at n3;rw[u]at sO;rw[f]at sL;have I:aE .gtr (.I V (a.raw.length:Int)) (.I V 0)=J (.B O):=by rw[gl,decide_eq_false (by rw[g];simp)]
 have l0:=bZ a.fst d.f0 d.f1;have l1:=bZ a.snd d.s0 d.s1;have l2:=bZ a.b_ d.v0 d.v1;have i0:=λT=>bA a.fst d.f0 (by have:=d.f1;omega) T;have i1:=λT=>bA a.snd d.s0 (by have:=d.s1;omega) T;have i2:=λT=>bA a.b_ d.v0 (by have:=d.v1;omega) T;have e1:=jj 7 1;have e2:=jj 7 2;have e8:=jj 7 8;rw[decide_eq_false (by decide)]at e1;rw[decide_eq_false (by decide)]at e2;rw[decide_eq_false (by decide)]at e8;have rs:∀i b x n,cd 8 i [.S x,.I V n] S (S++b)=J (.bP [.S x,.I V n],S):=λi b x n=>by simp[dr,bI,bD,aP,aC,aO]
 have hz:ag.length=10:=rfl;have re:=bK;obtain⟨y,o⟩:∃w:K,w=[115,119,97,112]:=⟨_,rfl⟩;have mw:y.length=4:=by rw[o];rfl
 rw[<-o]at v B;obtain⟨r,j⟩:∃A:K,A=y++[32]:=⟨_,rfl⟩;have m0:r.length=y.length+1:=by rw[j,jf];try rfl
 have s0:bG .add (.S y) (.S ([32]))=J (.S r):=by rw[j];exact eW _ _ (by(try simp only[jI,nI]);omega)
 obtain⟨s,k⟩:∃A:K,A=r++a7 a.fst:=⟨_,rfl⟩;have m1:s.length=r.length+(a7 a.fst).length:=by rw[k,jf];try rfl
 have s1:bG .add (.S r) (.S (a7 a.fst))=J (.S s):=by rw[k];exact eW _ _ (by(try simp only[jI,nI]);omega)
 obtain⟨t,l⟩:∃A:K,A=s++[32]:=⟨_,rfl⟩;have m2:t.length=s.length+1:=by rw[l,jf];try rfl
 have s2:bG .add (.S s) (.S ([32]))=J (.S t):=by rw[l];exact eW _ _ (by(try simp only[jI,nI]);omega)
 obtain⟨z,m⟩:∃A:K,A=t++a7 a.snd:=⟨_,rfl⟩;have m3:z.length=t.length+(a7 a.snd).length:=by rw[m,jf];try rfl
 have s3:bG .add (.S t) (.S (a7 a.snd))=J (.S z):=by rw[m];exact eW _ _ (by(try simp only[jI,nI]);omega)
 have el:a.line=z:=by rw[m,l,k,j,o];unfold aB.line;simp[aB.ax,cm,cZ,c7,h,fE]
 have e:a.gK=.bP [.S a.line,.I V 0]:=by
  have c:a.code=0:=by unfold aB.code;rw[if_neg (λq:¬_=>q (by omega)),if_neg (λq:¬_=>q ⟨by unfold aB.cR;simp[cZ,c7,h,p,u,f,g],hl⟩),if_neg (by omega),if_neg (by omega)]
  unfold aB.gK;rw[c,if_pos rfl]
 rw[el]at e;rw[e,fI Gj];clear e;generalize ag=ZO,ad=ZL at*;simp-implicitDefEqProofs [re, -aE, -bG,h,v,C,E,B,c1,c2,c8,bw,ln,P,N,zno,R,X,RQ,znl,Q,U,zul,rs,L,i0,i1,i2,e1,e2,e8,n3,sO,sL,I,s0,s1,s2,s3]
def aji(a:aB)(ha:a.Wf)(hf:a.Flat)(g:a.v7)(S:G)(h:a.ae=8)(hB:a.cR=Y)(hl:a.raw.length<=4096):DF F W 8 [.A a.aq] S=J (a.gK,S):=by
 have C:=λT=>fK a.ae T;have fb:=λT=>kQ a.ae T;have fv:=λT=>dN a.ae T;rw[h]at C fb fv;rw[show cm 8=[105,110,106,101,99,116]from rfl]at C;rw[show cZ 8=Y from rfl]at fb;rw[show c7 8=O from rfl]at fv;have be:=kD [105,110,106,101,99,116] [];rw[decide_eq_false (by decide)]at be;have c1:=bX 8 1;have c2:=bX 8 2;have c8:=bX 8 8;rw[decide_eq_true (by decide)]at c1;rw[decide_eq_true (by decide)]at c2;rw[decide_eq_false (by decide)]at c8;have n2:=bX a.snd 0;have n3:=bX a.b_ 0;have gl:=eQ (a.raw.length:Int) 0;have gm:=eQ (a.raw.length:Int) 4096;have ln:=cl a.raw;have sO:=λT=>b9 a.op r9 ha.op.cO gP T;have sL:=λT=>b8 a.bU jh (bF.Wf.cO _ ha.bU) fJ T;have L:bE ag []=J ag:=rfl;have I:bE ad []=J ad:=rfl;have U:=kG;have N:=kH;have Q:=kJ;have RQ:=hE;have R:=kK;have M:=kL;have P:=kM;have X:=hH;have E:aE .gtr (.I V (a.raw.length:Int)) (.I V 4096)=J (.B O):=by rw[gm,decide_eq_false (by omega)]
 clear gm;unfold aB.cR at hB;simp[cZ,c7,h]at hB;obtain⟨i,v,f⟩:=hB;rw[decide_eq_false (by omega)]at n3;rw[v]at sO;rw[f]at sL;have l0:=bZ a.fst g.f0 g.f1;have l1:=bZ a.snd g.s0 g.s1;have l2:=bZ a.b_ g.v0 g.v1;have i0:=λT=>bA a.fst g.f0 (by have:=g.f1;omega) T;have i1:=λT=>bA a.snd g.s0 (by have:=g.s1;omega) T;have i2:=λT=>bA a.b_ g.v0 (by have:=g.v1;omega) T;have e1:=jj 8 1;have e2:=jj 8 2;have e8:=jj 8 8;rw[decide_eq_false (by decide)]at e1;rw[decide_eq_false (by decide)]at e2;rw[decide_eq_true (by decide)]at e8;have rs:∀t b x n,cd 8 t [.S x,.I V n] S (S++b)=J (.bP [.S x,.I V n],S):=λt b x n=>by simp[dr,bI,bD,aP,aC,aO]
 have hz:ag.length=10:=rfl;have re:=bK;obtain⟨w0,r⟩:∃w:K,w=[105,110,106,101,99,116]:=⟨_,rfl⟩;have mw:w0.length=6:=by rw[r];rfl
 rw[<-r]at C be;obtain⟨y,k⟩:∃A:K,A=w0++[32]:=⟨_,rfl⟩;have m0:y.length=w0.length+1:=by rw[k,jf];try rfl
 have s0:bG .add (.S w0) (.S ([32]))=J (.S y):=by rw[k];exact eW _ _ (by(try simp only[jI,nI]);omega)
 obtain⟨z,l⟩:∃A:K,A=y++a7 a.fst:=⟨_,rfl⟩;have m1:z.length=y.length+(a7 a.fst).length:=by rw[l,jf];try rfl
 have s1:bG .add (.S y) (.S (a7 a.fst))=J (.S z):=by rw[l];exact eW _ _ (by(try simp only[jI,nI]);omega)
 obtain⟨B,m⟩:∃A:K,A=z++[32]:=⟨_,rfl⟩;have m2:B.length=z.length+1:=by rw[m,jf];try rfl
 have s2:bG .add (.S z) (.S ([32]))=J (.S B):=by rw[m];exact eW _ _ (by(try simp only[jI,nI]);omega)
 obtain⟨s,o⟩:∃A:K,A=B++a7 a.snd:=⟨_,rfl⟩;have m3:s.length=B.length+(a7 a.snd).length:=by rw[o,jf];try rfl
 have s3:bG .add (.S B) (.S (a7 a.snd))=J (.S s):=by rw[o];exact eW _ _ (by(try simp only[jI,nI]);omega)
 by_cases p:a.raw=[]
 ·have gz:aE .eql (.I V (a.raw.length:Int)) (.I V 0)=J (.B Y):=by rw[p];rfl
  obtain⟨j,d⟩:∃A:K,A=s++[32,45]:=⟨_,rfl⟩;have m4:j.length=s.length+2:=by rw[d,jf];try rfl
  have s4:bG .add (.S s) (.S ([32,45]))=J (.S j):=by rw[d];exact eW _ _ (by(try simp only[jI,nI]);omega)
  have el:a.line=j:=by rw[d,o,m,l,k,r];unfold aB.line;simp[aB.ax,cm,cZ,c7,h,fE,p]
  have e:a.gK=.bP [.S a.line,.I V 0]:=by
   have c:a.code=0:=by unfold aB.code;rw[if_neg (λq:¬_=>q (by omega)),if_neg (λq:¬_=>q ⟨by unfold aB.cR;simp[cZ,c7,h,i,v,f],hl⟩),if_neg (by omega),if_neg (by omega)]
   unfold aB.gK;rw[c,if_pos rfl]
  rw[el]at e;rw[e,fI Gj];clear e;generalize ag=ZO,ad=ZL at*;simp-implicitDefEqProofs [re, -aE, -bG,h,C,fb,fv,be,c1,c2,c8,bw,ln,L,I,U,N,Q,RQ,R,M,P,X,rs,E,i0,i1,i2,e1,e2,e8,n3,sO,sL,gz,s0,s1,s2,s3,s4]
 ·have gz:aE .eql (.I V (a.raw.length:Int)) (.I V 0)=J (.B O):=by rw[jj,decide_eq_false (by have:=BT.2 p;omega)]
  have hx:=λT=>qe a.raw (by omega) T;have lx:=kA a.raw;obtain⟨j,d⟩:∃A:K,A=s++[32]:=⟨_,rfl⟩;have m4:j.length=s.length+1:=by rw[d,jf];try rfl
  have s4:bG .add (.S s) (.S ([32]))=J (.S j):=by rw[d];exact eW _ _ (by(try simp only[jI,nI]);omega)
  obtain⟨A5,u⟩:∃A:K,A=j++dI a.raw:=⟨_,rfl⟩;have m5:A5.length=j.length+(dI a.raw).length:=by rw[u,jf];try rfl
  have s5:bG .add (.S j) (.S (dI a.raw))=J (.S A5):=by rw[u];exact eW _ _ (by(try simp only[jI,nI]);omega)
  have el:a.line=A5:=by rw[u,d,o,m,l,k,r];unfold aB.line;simp[aB.ax,cm,cZ,c7,h,fE,p]
  have e:a.gK=.bP [.S a.line,.I V 0]:=by
   have c:a.code=0:=by unfold aB.code;rw[if_neg (λq:¬_=>q (by omega)),if_neg (λq:¬_=>q ⟨by unfold aB.cR;simp[cZ,c7,h,i,v,f],hl⟩),if_neg (by omega),if_neg (by omega)]
   unfold aB.gK;rw[c,if_pos rfl]
  rw[el]at e;rw[e,fI Gj];clear e;generalize ag=ZO,ad=ZL at*;simp-implicitDefEqProofs [re, -aE, -bG,h,C,fb,fv,be,c1,c2,c8,bw,ln,L,I,U,N,Q,RQ,R,M,P,X,rs,E,i0,i1,i2,e1,e2,e8,n3,sO,sL,gz,hx,s0,s1,s2,s3,s4,s5]
def ajj(a:aB)(ha:a.Wf)(hf:a.Flat)(d:a.v7)(S:G)(h:a.ae=9)(M:a.cR=Y)(hl:a.raw.length<=4096):DF F W 8 [.A a.aq] S=J (a.gK,S):=by
 have v:=λT=>fK a.ae T;have C:=λT=>kQ a.ae T;have E:=λT=>dN a.ae T;rw[h]at v C E;rw[show cm 9=[114,101,97,100]from rfl]at v;rw[show cZ 9=O from rfl]at C;rw[show c7 9=Y from rfl]at E;have B:=kD [114,101,97,100] [];rw[decide_eq_false (by decide)]at B;have c1:=bX 9 1;have c2:=bX 9 2;have c8:=bX 9 8;rw[decide_eq_true (by decide)]at c1;rw[decide_eq_true (by decide)]at c2;rw[decide_eq_true (by decide)]at c8;have n2:=bX a.snd 0;have n3:=bX a.b_ 0;have gl:=eQ (a.raw.length:Int) 0;have gm:=eQ (a.raw.length:Int) 4096;have ln:=cl a.raw;have sO:=λT=>b9 a.op r9 ha.op.cO gP T;have sL:=λT=>b8 a.bU jh (bF.Wf.cO _ ha.bU) fJ T;have P:bE ag []=J ag:=rfl;have N:bE ad []=J ad:=rfl;have zno:=kG;have R:=kH;have X:=kJ;have RQ:=hE;have znl:=kK;have Q:=kL;have U:=kM;have zul:=hH;have L:aE .gtr (.I V (a.raw.length:Int)) (.I V 4096)=J (.B O):=by rw[gm,decide_eq_false (by omega)]
 clear gm;unfold aB.cR at M;simp[cZ,c7,h]at M;obtain⟨u,t,f,g⟩:=M;rw[decide_eq_false (by omega)]at n2;rw[t]at sO;rw[f]at sL;have I:aE .gtr (.I V (a.raw.length:Int)) (.I V 0)=J (.B O):=by rw[gl,decide_eq_false (by rw[g];simp)]
 have l0:=bZ a.fst d.f0 d.f1;have l1:=bZ a.snd d.s0 d.s1;have l2:=bZ a.b_ d.v0 d.v1;have i0:=λT=>bA a.fst d.f0 (by have:=d.f1;omega) T;have i1:=λT=>bA a.snd d.s0 (by have:=d.s1;omega) T;have i2:=λT=>bA a.b_ d.v0 (by have:=d.v1;omega) T;have e1:=jj 9 1;have e2:=jj 9 2;have e8:=jj 9 8;rw[decide_eq_false (by decide)]at e1;rw[decide_eq_false (by decide)]at e2;rw[decide_eq_false (by decide)]at e8;have rs:∀i b x n,cd 8 i [.S x,.I V n] S (S++b)=J (.bP [.S x,.I V n],S):=λi b x n=>by simp[dr,bI,bD,aP,aC,aO]
 have hz:ag.length=10:=rfl;have re:=bK;obtain⟨y,o⟩:∃w:K,w=[114,101,97,100]:=⟨_,rfl⟩;have mw:y.length=4:=by rw[o];rfl
 rw[<-o]at v B;obtain⟨p,j⟩:∃A:K,A=y++[32]:=⟨_,rfl⟩;have m0:p.length=y.length+1:=by rw[j,jf];try rfl
 have s0:bG .add (.S y) (.S ([32]))=J (.S p):=by rw[j];exact eW _ _ (by(try simp only[jI,nI]);omega)
 obtain⟨r,k⟩:∃A:K,A=p++a7 a.fst:=⟨_,rfl⟩;have m1:r.length=p.length+(a7 a.fst).length:=by rw[k,jf];try rfl
 have s1:bG .add (.S p) (.S (a7 a.fst))=J (.S r):=by rw[k];exact eW _ _ (by(try simp only[jI,nI]);omega)
 obtain⟨s,l⟩:∃A:K,A=r++[32]:=⟨_,rfl⟩;have m2:s.length=r.length+1:=by rw[l,jf];try rfl
 have s2:bG .add (.S r) (.S ([32]))=J (.S s):=by rw[l];exact eW _ _ (by(try simp only[jI,nI]);omega)
 obtain⟨z,m⟩:∃A:K,A=s++a7 a.b_:=⟨_,rfl⟩;have m3:z.length=s.length+(a7 a.b_).length:=by rw[m,jf];try rfl
 have s3:bG .add (.S s) (.S (a7 a.b_))=J (.S z):=by rw[m];exact eW _ _ (by(try simp only[jI,nI]);omega)
 have el:a.line=z:=by rw[m,l,k,j,o];unfold aB.line;simp[aB.ax,cm,cZ,c7,h,fE]
 have e:a.gK=.bP [.S a.line,.I V 0]:=by
  have c:a.code=0:=by unfold aB.code;rw[if_neg (λq:¬_=>q (by omega)),if_neg (λq:¬_=>q ⟨by unfold aB.cR;simp[cZ,c7,h,u,t,f,g],hl⟩),if_neg (by omega),if_neg (by omega)]
  unfold aB.gK;rw[c,if_pos rfl]
 rw[el]at e;rw[e,fI Gj];clear e;generalize ag=ZO,ad=ZL at*;simp-implicitDefEqProofs [re, -aE, -bG,h,v,C,E,B,c1,c2,c8,bw,ln,P,N,zno,R,X,RQ,znl,Q,U,zul,rs,L,i0,i1,i2,e1,e2,e8,n2,sO,sL,I,s0,s1,s2,s3]
def Cp(a:aB)(c:a.Wf)(d:a.Flat)(e:a.v7)(S:G):DF F W 8 [.A a.aq] S=J (a.gK,S):=by
 by_cases h:1<=a.ae/\a.ae<=9;rotate_left;·exact adu a S h
 by_cases b:a.cR=Y/\a.raw.length<=4096;rotate_left
 ·rcases qm h.1 h.2 with k|k|k|k|k|k|k|k|k
  ·exact W0 a c S k b
  ·exact W1 a c S k b
  ·exact W2 a c S k b
  ·exact W3 a c S k b
  ·exact W4 a c S k b
  ·exact W5 a c S k b
  ·exact W6 a c S k b
  ·exact W7 a c S k b
  ·exact W8 a c S k b
 rcases qm h.1 h.2 with k|k|k|k|k|k|k|k|k;·exact ai8 a c d e S k b.1 b.2
 ·exact ai_ a c d e S k b.1 b.2
 ·exact aja a c d e S k b.1 b.2
 ·exact aje a c d e S k b.1 b.2
 ·exact ajf a c d e S k b.1 b.2
 ·exact ajg a c d e S k b.1 b.2
 ·exact ajh a c d e S k b.1 b.2
 ·exact aji a c d e S k b.1 b.2
 ·exact ajj a c d e S k b.1 b.2
def Je(l:List aB)(hw:∀a∈l,a.Wf)(P:l.length<=16)(S:G):∀(n i:Nat),i+n=l.length->∃g:Bool,(g=O->∀a∈l.drop i,a.Flat/\a.raw.length<=300)/\
 DC F W (.L qH) ⟨[(0,cb l),(3,.I V (i:Int))],[],S.length⟩ S=if g=Y then J (.R,⟨[(2,.B Y)],[],S.length⟩,S)else J (.E 0,⟨[],[],S.length⟩,S):=by
 intro n;induction n with
 |zero=>
  intro i C;refine⟨O,λ_ a c=>?_, ?_⟩
  ·rw[iy (by omega)]at c
   cases c
  ·have e:¬(i:Int)<(l.length:Int):=by omega
   have d:=fZ l;rw[av,bf dZ];generalize cb l=L at*;simp-implicitDefEqProofs [-aE,dR,e,d]
 |succ n I=>
  intro i C;have A:i<l.length:=by omega
  obtain⟨a,c,_⟩:=aQ (l:=l) (i:=i) A;have u:=fH c;have⟨g,B,w⟩:=I (i+1) (by omega);rw[aZ c];have e:(i:Int)<(l.length:Int):=by omega
  have d:=fZ l;have m:oZ 35 (cb l) (.I V (i:Int))=J (.dP .N a.aq 0):=by rw[qZ,c];rfl
  have⟨M,h,z⟩:=Ao a.op (hw a u).op S;have⟨N,r,v⟩:=An a.bU (hw a u).bU S;have y:=cl a.raw;have k:=eQ (a.raw.length:Int) 300;have o:∀T,bk T (.A 10) (.dP .N a.aq 4)=J (.A a.op.aq):=λ_=>aB.f4 a;have b:∀T,bk T (.A 20) (.dP .N a.aq 14)=J (.A a.bU.aq):=λ_=>aB.f14 a;have f:∀T,bk T .C (.dP .N a.aq 34)=J (cq a.raw):=λ_=>aB.f34 a;have t:gh V ((i:Int)+1)=((i+1:Nat):Int):=bj (by omega);have p:=lS;have j:tz (.A a.op.aq):=(l9.dB a.op).agg;have s:tz (.A a.bU.aq):=(bF.dB a.bU).agg;rcases M with _|_;rotate_left
  ·refine⟨Y,by simp, ?_⟩
   rw[if_pos rfl];rw[av,bf dZ];generalize cb l=L at*;simp-implicitDefEqProofs [p, -aE,dR,e,d,m,o,j,h]
  rcases N with _|_;rotate_left
  ·refine⟨Y,by simp, ?_⟩
   rw[if_pos rfl];rw[av,bf dZ];generalize cb l=L at*;simp-implicitDefEqProofs [p, -aE,dR,e,d,m,o,j,h,b,s,r]
  by_cases E:a.raw.length<=300;rotate_left
  ·refine⟨Y,by simp, ?_⟩
   rw[if_pos rfl];rw[decide_eq_true (by omega)]at k;rw[av,bf dZ];generalize cb l=L at*;simp-implicitDefEqProofs [p, -aE,dR,e,d,m,o,j,h,b,s,r,f,y,k]
  ·refine⟨g,λq x hx=>?_, ?_⟩
   ·rcases yC.1 hx with rfl|hx
    ·exact⟨⟨by have:=z rfl;omega,by have:=(v rfl).1;omega,(v rfl).2⟩,E⟩
    ·exact B q x hx
   ·rw[decide_eq_false (by omega)]at k
    rw[av,bf dZ];generalize cb l=L at*;simp-implicitDefEqProofs [p, -aE,dR,e,d,m,o,j,h,b,s,r,f,y,k,ku];rw[ak dZ];try simp at w
    simp-implicitDefEqProofs [-aE,t,w]
def Jf(l:List aB)(hw:∀a∈l,a.Wf)(f:l.length<1000000)(S:G):∃g:Bool,DF F W 5 [cb l] S=J (.B g,S)/\(g=O->l.length<=16/\∀a∈l,a.Flat/\a.raw.length<=300):=by
 have d:=fZ l;have b:=eQ (l.length:Int) 16;by_cases h:l.length<=16;rotate_left
 ·refine⟨Y, ?_,by simp⟩
  rw[decide_eq_true (by omega)]at b;rw[fI e_5];generalize cb l=L at*;simp-implicitDefEqProofs [-aE,d,b]
 have⟨g,e,c⟩:=Je l hw h S l.length 0 (by omega);refine⟨g, ?_,λq=>⟨h,by simpa using e q⟩⟩;rw[decide_eq_false (by omega)]at b;rw[fI e_5];generalize cb l=L at*;simp-implicitDefEqProofs [-aE,d,b];rw[ak dZ];try simp at c
 cases g<;>simp-implicitDefEqProofs [-aE,c]
abbrev Mw:db:=7
noncomputable def vw:Nat->List aB->K->H
 |_,[],tF=>.bP [.S tF,.aD]
 |i,a::l,tF=>if a.code=0 then vw (i+1) l (tF++(a.line++[10]))else .bP [.S [],cE a.code i]
noncomputable def nu(l:List aB):H:=if l.length<=200 then vw 0 l []else .bP [.S [],.dA 59 (.I V 3)]
structure Fit(l:List aB):Prop where
 wf:∀a∈l,a.Wf/\a.v7
 len:∀a∈l,a.code=0->a.line.length<=1000000
def TK{sz:Nat}:∀{l m:jb},gG sz l=gG sz m->l=m:=by intro l m h;cases l<;>cases m<;>simp_all[gG]
def TL{a b:aB}(h:a.aq=b.aq)(d:a.Wf/\a.v7)(e:b.Wf/\b.v7):a.eG=b.eG:=by have c:=v_ a d.1 d.2 [];have f:=v_ b e.1 e.2 [];rw[h,f]at c;simpa using c.symm
def Qj{a b:aB}(h:a.eG=b.eG):a.code=b.code/\(a.code=0->a.line=b.line):=by
 unfold aB.eG at h;have d:∀n,n≠0->r6 n≠.aD:=λn c=>by unfold r6;rw[if_neg c];nofun
 have f:∀n m,n≠0->m≠0->r6 n=r6 m->n=m:=λn m c g e=>by unfold r6 at e;rw[if_neg c,if_neg g]at e;simpa using e
 by_cases x:a.code=0<;>by_cases y:b.code=0;·simp_all
 ·simp only[if_pos x,if_neg y,AV.bP.injEq,Q6,and_true]at h
  exact absurd h.2.symm (d _ y)
 ·simp only[if_neg x,if_pos y,AV.bP.injEq,Q6,and_true]at h
  exact absurd h.2 (d _ x)
 ·simp only[if_neg x,if_neg y,AV.bP.injEq,Q6,and_true]at h
  exact⟨f _ _ x y h.2,λk=>absurd k x⟩
def Kr:∀(l m:List aB)(i:Nat)(d:K),l.map aB.aq=m.map aB.aq->(∀a∈l,a.Wf/\a.v7)->(∀a∈m,a.Wf/\a.v7)->vw i l d=vw i m d
 |[],[],_,_,_,_,_=>rfl
 |[],_::_,_,_,h,_,_=>by simp at h
 |_::_,[],_,_,h,_,_=>by simp at h
 |a::l,b::m,i,d,h,ha,hb=>by
  simp only[EP,Q6]at h;have⟨c,k⟩:=Qj (TL h.1 (ha a (by simp)) (hb b (by simp)));unfold vw;rw[<-c];by_cases x:a.code=0
  ·rw[if_pos x,if_pos x,k x]
   exact Kr l m _ _ h.2 (λy e=>ha y (by simp[e])) (λy e=>hb y (by simp[e]))
  ·rw[if_neg x,if_neg x]
def OC{l m:List aB}(h:cb l=cb m)(a:Fit l)(b:Fit m):nu l=nu m:=by
 have e:=TK h;have n:l.length=m.length:=by simpa using congrArg List.length e
 unfold nu;rw[n,Kr l m _ _ e a.wf b.wf]
def Ks:H->H
 |.sl _ sz es=>gG sz (es.map λ(c:bN)=>c.map bO)
 |.ar=>gG 35 []
 |v=>v
def Xh(args:List H)(l:List aB):Prop:=∃x,args=[x]/\aO x=Y/\Ks x=cb l/\Fit l
open Classical in
noncomputable def oU(args:List H)(S:G):Option (H × G):=if h:∃l:List aB,Xh args l then J (nu h.choose,S)else Z
def Ez{x:H}(l:List aB)(e:aO x=Y)(a:Ks x=cb l)(h:Fit l)(S:G):oU [x] S=J (nu l,S):=by have k:∃m:List aB,Xh [x] m:=⟨l,x,rfl,e,a,h⟩;unfold oU;rw[dif_pos k];obtain⟨y,b,_,c,d⟩:=k.choose_spec;obtain rfl:=(Hh b).1;rw[OC (a.symm.trans c).symm d h]
noncomputable def ID:NK:=⟨λ_=>O,λf=>if f=Mw then J oU else nk.j6 f⟩
def via{f:db}{args:List H}{S:G}{r:H × G}(h:DF F W f args S=J r):DF F ID f args S=J r:=by
 refine adB (nk:=W) (nk':=ID) (λ_=>rfl) (λf p e=>?_) (λf p e b=>?_) h
 ·show(if f=Mw then J oU else nk.j6 f)=J p
  by_cases c:f=Mw
  ·subst c
   have:nk.j6 Mw=Z:=rfl;rw[this]at e;cases e
  ·rw[if_neg c];exact e
 ·have a:(if f=Mw then J oU else nk.j6 f)=J p:=b
  by_cases c:f=Mw;·subst c;rfl
  ·rw[if_neg c,e]at a;cases a
def q_(f:db):ID.j6 f=if f=7 then J oU else nk.j6 f:=rfl
def rf(f:db):ID.dJ f=O:=rfl
def Mf(n:Int)(S:G):DF F W 13 [.dA 59 (.I V n)] S=J (.I V n,S):=W_ n S
def Ey(S:G):DF F W 13 [.aD] S=J (.I V 0,S):=by have a:b6 .eql (.dA cC) Y .aD .aD=J (.B Y):=rfl;rw[fI acy];simp-implicitDefEqProofs [a]
def Fs:aB:=⟨3,0,1,0,r9,jh,[]⟩
def Qg:aB:=⟨4,0,0,0,r9,jh,[]⟩
def Ko(n:Nat)(h:n<10):dec n=[Lt n]:=by rw[dec,dif_pos h]
def Kp:Fs.line=[115,121,110,99,32,48,32,49]:=by simp[aB.line,aB.ax,Fs,cm,cZ,c7,a7,Ko,fE];decide
def Oz:Qg.line=[100,101,108,105,118,101,114,32,48]:=by simp[aB.line,aB.ax,Qg,cm,cZ,c7,a7,Ko,fE];decide
def TG:Fs.code=0:=by simp[aB.code,aB.cR,Fs,cZ,c7,uG]
def Xa:Qg.code=0:=by simp[aB.code,aB.cR,Qg,cZ,c7,uG]
def Xb:Fit [Fs,Qg]:=by
 have c:mD.Wf:=.mk _ ⟨by decide,by decide,by decide,by decide,by decide,by decide,by nofun,by decide,by nofun,by decide⟩ (by nofun);have d:(bM.mk 0 [] []).Wf:=.mk _ ⟨by decide,by decide,by decide,by nofun,by decide⟩ (by nofun);have b:r9.Wf/\jh.Wf:=by refine⟨⟨by decide,by decide,by decide,by nofun,by decide,by decide,by decide,by decide,c⟩,.mk _ ⟨by decide,by decide,by decide,by decide,d,c,c,by decide,by nofun,by decide⟩ (by nofun)⟩
 refine⟨λa h=>?_,λa h _=>?_⟩
 ·simp only[yC,J1,or_false]at h
  rcases h with rfl|rfl;·exact⟨⟨b.1,b.2⟩,⟨by decide,by decide,by decide,by decide,by decide,by decide⟩⟩
  ·exact⟨⟨b.1,b.2⟩,⟨by decide,by decide,by decide,by decide,by decide,by decide⟩⟩
 ·simp only[yC,J1,or_false]at h
  rcases h with rfl|rfl;·rw[Kp];decide
  ·rw[Oz];decide
def Xc:nu [Fs,Qg]=.bP [.S [115,121,110,99,32,48,32,49,10,100,101,108,105,118,101,114,32,48,10],.aD]:=by unfold nu;rw[if_pos (by decide)];unfold vw;rw[if_pos TG];unfold vw;rw[if_pos Xa];unfold vw;rw[Kp,Oz];rfl
def Kq(S:G):DF F ID 6 [] S=J (.B Y,S):=by
 have c:dq 35 (eL 2 ah) [(0,.A ((ah.set 0 (.I V 3)).set 2 (.I V 1))),(1,.A (ah.set 0 (.I V 4)))]=J [(ah.set 0 (.I V 3)).set 2 (.I V 1),ah.set 0 (.I V 4)]:=rfl;have d:=λT=>Ez (x:=.sl .X 35 [(ah.set 0 (.I V 3)).set 2 (.I V 1),ah.set 0 (.I V 4)]) [Fs,Qg] rfl rfl Xb T;rw[Xc]at d;have e:b6 .eql (.dA cC) Y .aD .aD=J (.B Y):=rfl;have f:bE ah [(0,1,.I V 3),(2,1,.I V 1)]=J ((ah.set 0 (.I V 3)).set 2 (.I V 1)):=rfl;have g:bE ah [(0,1,.I V 4)]=J (ah.set 0 (.I V 4)):=rfl;generalize(ah.set 0 (.I V 3)).set 2 (.I V 1)=A,ah.set 0 (.I V 4)=B at*;have h:∀T,b7 T (.sl .X 35 [A,B])=J (.sl .X 35 [A,B]):=λ_=>rfl;have j:∀T,ca T (.sl .X 35 [A,B])=T:=λ_=>rfl;have l:∀T b,bC T b (.sl .X 35 [A,B])=b:=λ_ _=>rfl;generalize i:([115,121,110,99,32,48,32,49,10,100,101,108,105,118,101,114,32,48,10]:K)=s at*;have k:∀t,aK t (.bP [.S s,.aD])=(.bP [.S s,.aD],t):=λ_=>rfl;rw[rn0 e_6,i];try simp only[eL]at c
 generalize ah=a at*;simp-implicitDefEqProofs [q_,rf,f,g,c,h,j,l,d,k,bJ,e]
def OG(f:db)(t:ch)(u v:K)(b:Bool)(S S':G):cd f t [.S u,.S v,.B b] S S'=J (.bP [.S u,.S v,.B b],S'.take S.length):=by have e:bY (aJ t ([AV.S u,.S v,.B b].map bD))=.bP [.S u,.S v,.B b]:=rfl;unfold cd;rw[e,if_pos (by rfl),if_pos (by rfl)]
def Xo(w r:K)(c:UInt8)(f:c∉w)(g:(w++c::r).length<=1000000000)(S:G):DF F W 66 [.S (w++c::r),.S [c]] S=J (.bP [.S w,.S r,.B Y],S):=by
 have b:=λT=>Ik (w++c::r) c T;rw[Ii f,wL]at b;simp only[jf,jI]at g;have e:aE .geq (.I V (w.length:Int)) (.I V 0)=J (.B Y):=by show J (AV.B (aN ((w.length:Int)≥0)))=_;rw[decide_eq_true (by omega)]
 have d:aE .add (.I V (w.length:Int)) (.I V 1)=J (.I V ((w.length:Int)+1)):=by rw[ku,dS (by omega)]
 have i:FH (.S (w++c::r)) Z (J (.I V (w.length:Int)))=J (.S w):=by simp only[FH,hJ];rw[if_pos (by simp;omega)];simp
 have j:FH (.S (w++c::r)) (J (.I V ((w.length:Int)+1))) Z=J (.S r):=by simp only[FH,hJ];rw[if_pos (by simp;omega)];simp only[uP];rw[show((w.length:Int)+1).toNat=(w++[c]).length by simp,show w++c::r=(w++[c])++r by simp];exact congrArg (λx=>J (AV.S x)) Q7
 have h:∀a,cd 66 a [.S w,.S r,.B Y] S S=J (.bP [.S w,.S r,.B Y],S):=λa=>by rw[OG,uP]
 rw[jE amm];generalize w++c::r=s at*;simp-implicitDefEqProofs [-aE,b,e,d,i,j,h]
def B3(w r:K)(c:UInt8)(b:c∉w)(d:(w++c::r).length<=1000000000)(S:G):DF F W 32 [.S (w++c::r),.S [c]] S=J (.bP [.S w,.S r,.B Y],S):=by
 have f:=λT=>Xo w r c b d T;have e:∀a,cd 32 a [.S w,.S r,.B Y] S S=J (.bP [.S w,.S r,.B Y],S):=λa=>by rw[OG,uP]
 have g:∀t,aK t (.bP [.S w,.S r,.B Y])=(.bP [.S w,.S r,.B Y],t):=λ_=>rfl;rw[jE al5];generalize w++c::r=s at*;simp-implicitDefEqProofs [f,e,g,bJ]
def Kw{c x:UInt8}:∀{l:List K},x≠c->(∀w∈l,x∉w)->x∉fE [c] l
 |[],_,_=>by simp[fE]
 |[w],_,h=>by simpa[fE]using h w (by simp)
 |w::v::r,hx,h=>by have b:=Kw (l:=v::r) hx (λy a=>h y (U5 _ a));rw[fE.eq_3 _ _ _ (by simp)];simp only[BM,sN,not_or];exact⟨h w (by simp),hx,b⟩
def cw(l:List aB):K:=l.flatMap λa=>a.line++[10]
def oV(a:aB)(l:List aB):cw (a::l)=a.line++10::cw l:=by simp[cw]
def xn(l:List aB)(h:∀a∈l,a.line.length<=20000):(cw l).length<=l.length*20001:=by
 induction l with
 |nil=>simp[cw]
 |cons a r c=>
  have d:=h a (by simp);have e:=c (λx b=>h x (by simp[b]));rw[oV];simp;omega
def OH(a:aB)(l:List aB):cw (a::l)≠[]:=by rw[oV];simp
def R0(a:aB):(10:UInt8)∉a.line:=Kw (by decide) λw b=>H9 (a.H_ w b) 10 (.inr rfl)
def Io(l:List aB):Prop:=∀a∈l,a.Wf/\a.v7/\a.code=0
def Fy(nb:Nat):∀(l done:List aB)(f:H)(ab:ch)(S:G),Io l->done.length+l.length<=200->cY 35 f ab (done.map aB.aq)->
 ∃h aS c,cY 35 h aS ((done++l).map aB.aq)/\
  DC F W (.L wu) ⟨[(0,.S (cw l)),(4,f),(5,.I V (done.length:Int))],ab,nb⟩ S=J (.E 0,⟨[(4,h)],aS,nb⟩,S++c)
 |[],done,f,ab,S,_,_,ho=>by refine⟨f,ab,[],by simpa using ho, ?_⟩;have e:cw []=[]:=rfl;have i:bG .neq (.S ([]:K)) (.S [])=J (.B O):=rfl;rw[av,bf ij,e];simp-implicitDefEqProofs [i]
 |a::l,done,f,ab,S,hl,hn,ho=>by
  have⟨L,I,M⟩:=hl a (by simp);have k:Io l:=λx j=>hl x (U5 _ j);have g:(cw (a::l)).length<=1000000000:=by have:=xn (a::l) (λx j=>aB.pT (hl x j).2.1 (hl x j).2.2);simp only[jI]at hn this;omega
  have i:bG .neq (.S (cw (a::l))) (.S [])=J (.B Y):=by show J (AV.B (!(cw (a::l)==[])))=_;simp[OH]
  rw[oV]at g i;have z:=λT=>B3 a.line (cw l) 10 (R0 a) g T;have pr:=λT=>Dw a L I M T;have t1:∀t,aK t (.bP [.S a.line,.S (cw l),.B Y])=(.bP [.S a.line,.S (cw l),.B Y],t):=λ_=>rfl;have t2:∀t,aK t (.bP [.A a.aq,.aD])=(.bP [.A a.aq,.aD],t):=λ_=>rfl;have N:ah.length=35:=rfl;have st:∀T,a_ ab nb (T++[.M ah [] O]) 35 (.P T.length 0) (.A a.aq)=J (ab,T++[.M a.aq [] O]):=λT=>by rw[u7 rfl (aB.dB a).aO];simp[N,aY]
  have P:aE .eql (.I V (done.length:Int)) (.I V 200)=J (.B O):=by
   rw[show aE .eql (.I V (done.length:Int)) (.I V 200)=J (.B ((done.length:Int)==200))from rfl];simp only[jI]at hn;have:((done.length:Int)==200)=O:=by simp;omega
   rw[this]
  have w:b6 .neq (.dA cC) Y .aD .aD=J (.B O):=rfl;have R:∀T,bk (T++[.M a.aq [] O]) (.A 35) (.P T.length 0)=J (.A a.aq):=λT=>by rw[bV (ug T _)];exact aB.all a
  have o:dq 35 (eL 1 ah) [(0,.A a.aq)]=J [a.aq]:=by have E:fL (.A a.aq)=Y:=rfl;have Q:=aB.lO a;have x1:aH (.A a.aq)=.A a.aq:=(aB.dB a).agg.aH;have y:(AV.A a.aq).cells=a.aq:=rfl;generalize a.aq=A,ah=d at*;simp[dq,E,Q,x1,y]
  obtain⟨U,m,v,p⟩:=cY.app ho (xs:=[a.aq]) (by simp) (by simp at hn⊢;omega) .X (S++[.M a.aq [] O]);have B:done.map aB.aq++[a.aq]=(done++[a]).map aB.aq:=by simp
  rw[B]at p;obtain⟨X,n,c,C,q⟩:=Fy nb l (done++[a]) U m (S++[.M a.aq [] O]) k (by simp at hn⊢;omega) p;refine⟨X,n,.M a.aq [] O::c,by simpa using C, ?_⟩;have u:aE .add (.I V (done.length:Int)) (.I V 1)=J (.I V ((done++[a]).length:Int)):=by simp only[jI]at hn;rw[ku,dS (by omega)];simp
  rw[av,bf ij,oV];generalize a.line++10::cw l=s at*;generalize((done++[a]).length:Int)=b at*;generalize cw l=r at*;try simp only[eL]at o
  generalize ah=d at*;simp-implicitDefEqProofs [-aE, -bG,i,z,pr,t1,t2,bJ,P,w,st,R,o,v,u,bw];rw[oH]at q;rw[ak ij];simp-implicitDefEqProofs [-aE,q]
def Mk(l:List aB):dy (l.map aB.aq)=Y:=by
 induction l with
 |nil=>rfl
 |cons a r b=>
  have h:=(aB.dB a).aO;simp[dy,h,b]
def FA(l:List aB)(j:Io l)(k:l.length<=200)(S:G):∃r,F0 35 r (l.map aB.aq)/\DF F W 10 [.S (cw l)] S=J (.bP [r,.aD],S):=by
 obtain⟨d,b,a,g,f⟩:=Fy S.length l [] .ar [] S j (by simpa using k) (.inl ⟨rfl,rfl⟩);obtain⟨r,e,h,c,o⟩:=g.res (Mk _);rw[rB]at c;refine⟨r,c, ?_⟩;have m:=g.nt;have i:∀t,aP t (bD .aD)=(.aD,t):=λ_=>rfl;have n:cd 10 b [d,.aD] S (S++a)=J (.bP [r,.aD],S):=by rw[dr,h];simp only[i,m];rw[if_pos ⟨trivial,rfl⟩,if_pos (by rcases c with⟨_,rfl⟩|rfl|rfl<;>simp_all[aC,aO])];simp
 rw[show(([]:List aB).length:Int)=0 from rfl]at f;rw[fI agT];generalize cw l=s at*;simp-implicitDefEqProofs [-aE];rw[ak ij];simp-implicitDefEqProofs [-aE,f,n]
def Kx(l:List aB)(i:∀a∈l,a.fc/\a.raw.length<9223372036854775808)(p:l.length<1000000)(nb:Nat)(S:G):∀(r c:List aB),l=c++r->
 DC F W (.L oQ) ⟨[(0,cb l),(1,cb l),(5,.I V (c.length:Int))],[],nb⟩ S=J (.E 0,⟨[],[],nb⟩,S)
 |[],c,h=>by
  have d:=fZ l;rw[show l.length=c.length by rw[h];simp]at d;have e:aE .lss (.I V (c.length:Int)) (.I V (c.length:Int))=J (.B O):=by rw[dR];simp
  rw[av,bf dW];generalize cb l=L at*;simp-implicitDefEqProofs [-aE,d,e]
 |a::r,c,h=>by
  have q:=Kx l i p nb S r (c++[a]) (by simp[h]);have g:l.length=c.length+r.length+1:=by rw[h];simp;omega
  have d:=fZ l;have e:aE .lss (.I V (c.length:Int)) (.I V (l.length:Int))=J (.B Y):=by rw[dR,decide_eq_true (by omega)]
  have j:=qZ l V c.length;rw[show l[c.length]? =J a by rw[h];simp,zG]at j;have s:∀T,bk T (.A 35) (.dP .N a.aq 0)=J (.A a.aq):=λT=>aB.all a;have⟨f,o⟩:=i a (by rw[h];simp);have k:=λT=>Ib a a f f o T;rw[show same a a=Y from uG a]at k;have m:aE .add (.I V (c.length:Int)) (.I V 1)=J (.I V ((c++[a]).length:Int)):=by rw[ku,dS (by omega)];simp
  have n:tz (.A a.aq):=(aB.dB a).agg;rw[av,bf dW];generalize cb l=L,((c++[a]).length:Int)=b at*;simp-implicitDefEqProofs [-aE,d,e,j,s,k,n,bw,m];rw[ak dW];simp-implicitDefEqProofs [-aE,q]
def TS(l:List aB)(d:∀a∈l,a.fc/\a.raw.length<9223372036854775808)(c:l.length<1000000)(S:G):DF F W 11 [cb l,cb l] S=J (.B Y,S):=by
 have L:=Kx l d c S.length S l [] rfl;rw[show(([]:List aB).length:Int)=0 from rfl]at L;have e:=fZ l;have b:aE .neq (.I V (l.length:Int)) (.I V (l.length:Int))=J (.B O):=by show J (AV.B (!((l.length:Int)==(l.length:Int))))=_;simp
 rw[jE agU];generalize cb l=f at*;simp-implicitDefEqProofs [-aE,e,b];rw[ak dW];simp-implicitDefEqProofs [-aE,L]
section
open Go.Lib
def Bm{base:Nat}{bg:Nat->Prop}{ab:ch}{S:G}{w w':bh}{mu:kF}{hw hw':Nat->Nat}{ti:Id->TI}(N:GW=O)(I:Inv base bg ab S w mu hw ti)(C:Below w.heap.size w w')
 (q:∀b,b<w.heap.size->hw' b=hw b) (B:∀b,w'.heap.size<=b->hw' b=0):
 Inv base bg ab S w' mu hw' ti/\Ext base bg S w mu hw S w' mu hw':=by
 have⟨s,t,u,x,j⟩:=C
 have p:∀b,hw b<=hw' b:=λb=>by
  rcases pF b w.heap.size with h|h;·simp_all
  ·rw[I.qq b h];omega
 have e:Ext base bg S w mu hw S w' mu hw':=by refine⟨λ_ _ h=>h,p,λ_ h=>h,λb o v _ h=>?_,λb h=>⟨j b (I.lq b h),q b (I.lq b h)⟩,⟨⟨s,t,u,x,λk P=>j k (by have:=I.mf;omega)⟩,λh=>by trivial⟩,eI _⟩;rw[Gg (j b (World.block_lt_of_cell? w _ h)) o];exact h
 refine⟨⟨λi z b n m=>(I.oC i z b n m).ext e (j _ (I.iS i b m).2.2.1),λi g y l b n m E A r=>I.pk i g y l b n m E A (by rw[<-j _ (I.iS i b m).2.2.1];exact r),I.sI,λi b h=>?_,B,λid L h=>?_,I.pn,λb h=>by have:=I.lq b h;omega,by have:=I.mf;omega,e.X4 I.rW⟩,e⟩
 ·have⟨a,M,c,d,f⟩:=I.iS i b h
  grind
 ·have⟨a,b⟩:=I.ub id L h
  exact⟨a.dJ (q _ a.lt) (j _ a.lt),b⟩
def Dc:GW=O:=rfl
def uu{f:db}{fn:Func}(h:Tryz.prog.funcs[f]? =J fn)(a:fn.body.isSome=Y):∃fn c,Tryz.prog.funcs[f]? =J fn/\fn.body=J c:=by grind [Option.isSome_iff_exists]
def qV{S:G}{r:H}(h:aC r=Y):S.length<=S.length/\ia S.length (λk=>aN (S.length<=k)) r=Y/\eZ S.length S S/\Ju S.length S:=
 ⟨eI _,nK h _ _,eZ.refl _ _,λi b a l d c=>by simp_all⟩
def oR{P:cj}{base:Nat}{bg:Nat->Prop}{S:G}{w w':bh}{mu:kF}{hw:Nat->Nat}{ti:Id->TI}{r:H}{v:aW}(I:Inv base bg [] S w mu hw ti)(c:Below w.heap.size w w')
 (j:∀mu hw lk,RV w' mu hw lk r v) (a:aK [] r=(r,[])) (g:∀k ti,dx k ti r v):Cz P base bg S w mu hw ti r S (.returned v) w':=by
 obtain⟨d,e⟩:=Bm (hw':=hw) Dc I c (λ_ _=>rfl) (λb h=>I.qq b (nB c.size h));refine⟨v,rfl,mu,hw,ti, ?_,e, ?_, ?_, ?_,λi f _=>⟨rfl,f⟩⟩;·rw[a];exact d
 ·rw[a];exact iq.refl _ _
 ·rw[a];exact j _ _ _
 ·rw[a];exact g _ _
abbrev acN:db:=133
def I0(l:K)(c:Int)(i:0<=c)(j:c<256):∀k:Nat,Ej l c k=if indexByte l c.toNat.toUInt8= -1 then-1 else indexByte l c.toNat.toUInt8+k:=by
 induction l with
 |nil=>intro k;simp[Ej,indexByte]
 |cons b l g=>
  intro k;have d:((b==c.toNat.toUInt8)=Y)↔(b.toNat:Int)=c:=by
   rw[beq_iff_eq];constructor
   ·rintro rfl
    simp[Nat.toUInt8,zT];omega
   ·intro e
    apply UInt8.toNat_inj.1;simp[Nat.toUInt8,zT];omega
  unfold Ej indexByte;rw[g (k+1)];by_cases e:(b.toNat:Int)=c;·simp[e,d.2 e]
  ·have f:¬(b==c.toNat.toUInt8)=Y:=λh=>e (d.1 h)
   rw[if_neg e,if_neg f];by_cases a:indexByte l c.toNat.toUInt8= -1;·simp[a]
   ·have:¬(indexByte l c.toNat.toUInt8== -1)=Y:=by simpa using a
    rw[if_neg a,if_neg this];have m:=indexByte_ge l c.toNat.toUInt8;rw[if_neg (by omega)];omega
def YW:iT dE (λg b S=>if g=acN then qU b S else Z):=by
 intro f b S r x h i m w z y B a I t j;simp only at h;split at h;case isFalse=>cases h
 rename_i p;subst p;refine⟨uu Tryz.func133 (by kernel_rfl), ?_⟩;unfold qU at h;split at h;case h_2=>cases h
 rename_i s c;split at h;case isFalse=>cases h
 rename_i l;cases h;obtain⟨C,n,u,_⟩:=j 0 _ rfl;obtain⟨E,o,v,_⟩:=j 1 _ rfl;cases u with
 |str s=>
 cases v with
 |int=>
 have d:a= #[.string s,.int .u8 c]:=by
  apply zJ;intro k;match k with
  |0=>simpa using n
  |1=>simpa using o
  |k+2=>
   have:a.size=2:=by simpa using t.symm
   rw[zR (by omega)];simp
 subst d;refine(Any.stringslite_IndexByte Tryz.YV s c w).mono λe L A=>?_;obtain⟨rfl,rfl⟩:=A;have q:Ej s.data.toList c 0=indexByte s.data.toList c.toNat.toUInt8:=by
  rw[I0 _ _ l.1 l.2];split;·rename_i e;exact e.symm
  ·simp
 rw[q];exact oR I (Below.refl _ _) (λ_ _ _=>.int _ _) rfl (λ_ _=>trivial)
def YX:gD (λg a S=>if g=acN then qU a S else Z):=by
 intro f a S r b h;simp only at h;split at h;case isFalse=>cases h
 unfold qU at h;split at h;case h_2=>cases h
 split at h;case isFalse=>cases h
 cases h;exact qV rfl
abbrev Te:db:=43
def Cj(a:K):∀l:List (K),fE a l=Go.Lib.join l a
 |[]=>rfl
 |[s]=>by simp[fE,Go.Lib.join_one]
 |s::t::r=>by
  have:=Cj a (t::r);rw[fE,this];·simp[Go.Lib.join,List.intercalate_cons_cons]
  ·simp
def Ff:∀(es:List (List H))(l:List (K)),AJ es=J l->es=l.map λs=>[.S s]
 |[],l,h=>by simp[AJ]at h;subst h;rfl
 |c::r,l,h=>by
  unfold AJ at h;split at h;·cases‹c::r=[]›
  ·rename_i s d e
   cases e;simp only[od]at h;obtain⟨b,a,rfl⟩:=h;rw[Ff r b a];rfl
  ·cases h
def acS(l:K):ByteArray:=⟨l.toArray⟩
def ad1(l:K):(acS l).data.toList=l:=rfl
def aaW{x:ByteArray}{s:K}(h:x.data.toList=s):x=acS s:=by subst h;cases x;rfl
def Wd:iT dE (λg N S=>if g=Te then xd N S else Z):=by
 intro f N S r S' h P R w mu hw ti d I hl ha;simp only at h;split at h;case isFalse=>cases h
 rename_i hf;subst hf;refine⟨uu Tryz.func43 (by kernel_rfl), ?_⟩;unfold xd at h;split at h
 ·rename_i n
  cases h;obtain⟨v0,h0,r0,_⟩:=ha 0 _ rfl;obtain⟨v1,h1,r1,_⟩:=ha 1 _ rfl;cases r0 with
  |ar=>
  cases r1 with
  |str c=>
  have X:d= #[.slice Z 0 0,.string c]:=by
   apply zJ;intro k;match k with
   |0=>simpa using h0
   |1=>simpa using h1
   |k+2=>
    have:d.size=2:=by simpa using hl.symm
    rw[zR (by omega)];simp
  subst X;refine(Any.strings_Join_none Tryz.Bl Tryz.iX Z 0 c w).mono λe w' A=>?_;obtain⟨rfl,rfl⟩:=A;exact oR I (Below.refl _ _) (λmu hw lk=>.str (w:=w') (mu:=mu) (hw:=hw) (lk:=lk) ⟨#[]⟩) rfl (λ_ _=>trivial)
 rotate_left;·cases h
 rename_i rr sz es n;split at h;case h_2=>cases h
 rename_i l hes;split at h;case isFalse=>cases h
 rename_i hc;cases h;obtain⟨v0,h0,r0,_⟩:=ha 0 _ rfl;obtain⟨v1,h1,r1,_⟩:=ha 1 _ rfl;have m:=Ff es l hes
 have fin:∀(v:aW)(c:ByteArray),c.data.toList=n->d[0]? =J v->d[1]? =J (.string c)->(∀x:bh,x=w->Calls dE Te #[v,.string c] x λe w'=>e=.returned (.string ⟨(fE n l).toArray⟩)/\Below w.heap.size w w')->
  Calls dE Te d w (Cz dE P R S w mu hw ti (.S (fE n l)) S):=by
  intro v c hs e0 e1 L;have X:d= #[v,.string c]:=by
   apply zJ;intro k;match k with
   |0=>simpa using e0
   |1=>simpa using e1
   |k+2=>
    have:d.size=2:=by simpa using hl.symm
    rw[zR (by omega)];simp
  subst X;refine(L w rfl).mono λe w' A=>?_;obtain⟨rfl,hb⟩:=A;exact oR I hb (λmu hw lk=>.str (w:=w') (mu:=mu) (hw:=hw) (lk:=lk) ⟨(fE n l).toArray⟩) rfl (λ_ _=>trivial)
 generalize hx:AV.S n=x at r1;cases r1 with
 |str c=>
  have B:c.data.toList=n:=by cases hx;rfl
  have u:l=[]->∀(p:Option Addr)(i:Nat),v0=.slice p 0 i->Calls dE Te d w (Cz dE P R S w mu hw ti (.S (fE n l)) S):=by intro hl0 p i hv0;subst hl0 hv0;refine fin _ c B h0 h1 λx hx=>?_;subst hx;refine(Any.strings_Join_none Tryz.Bl Tryz.iX p i c x).mono λe w' A=>?_;obtain⟨rfl,rfl⟩:=A;exact⟨rfl,Below.refl _ _⟩
  generalize hy:AV.sl rr sz es=y at r0;cases r0 with
  |emp B4 p i=>
   cases hy;exact u (by simpa using m.symm) p i rfl
  |tv B4 p=>
   cases hy;exact u (by simpa using m.symm) p 0 rfl
  |sl r' B4 es' b o len i f hh hr hb hl' hs hh1 hh2=>
   cases hy;have Q:es.length=l.length:=by rw[m];simp
   by_cases M:l=[]
   ·refine u M (J ⟨b,o,Z⟩) i ?_
    rw[hh.1,Q,M];rfl
   ·have FG:sz=1:=by
     cases E:l with
     |nil=>exact absurd E M
     |cons a t=>
      have:=hs 0 [.S a] (by rw[m,E];rfl);simpa using this.symm
    subst FG;have C:∀(j:Nat) x,(l.map acS)[j]? =J x->w.cell? ⟨b,o+j,Z⟩=J (.string x):=by
     intro j x hj;simp only[uU,od]at hj;obtain⟨s,hs',rfl⟩:=hj;have he:es[j]? =J [.S s]:=by rw[m];simp[hs']
     obtain⟨_,_,T⟩:=hh1 j _ 0 _ he rfl;have U:=hh2 j _ 0 _ he rfl;generalize f j 0=z at T U;generalize hq:AV.S s=q at U;cases U with
     |str t=>
      cases hq;rw[Nat.mul_one,Nat.add_zero]at T;rw[T,<-aaW (x:=t) rfl]
     |_=>cases hq
    have hbk:b<w.heap.size:=by
     cases E:l with
     |nil=>exact absurd E M
     |cons a t=>exact World.block_lt_of_cell? w _ (C 0 (acS a) (by rw[E];rfl))
    have hmm:(l.map acS).map (·.data.toList)=l:=by
     rw[List.map_map];conv=>rhs;rw[<-List.map_id l]
     exact EW λx _=>rfl
    have hL:(l.map acS).length=len:=by rw[List.length_map,hh.1,Q]
    have XF:=Any.strings_Join Tryz.Bl Tryz.iX b o i (l.map acS) c w C hbk (by simp;omega) (by rw[hL];exact hh.2.1) (by rw[hmm,B,<-Cj];omega);rw[hmm,B,<-Cj,hL]at XF;exact fin _ c B h0 h1 λx hx=>by subst hx;exact XF
  |_=>cases hy
 |_=>cases hx
def We:gD (λg a S=>if g=Te then xd a S else Z):=by
 intro f a S r b h;simp only at h;split at h;case isFalse=>cases h
 unfold xd at h;split at h
 ·cases h
  exact qV rfl
 rotate_left;·cases h
 split at h;case h_2=>cases h
 split at h;case isFalse=>cases h
 cases h;exact qV rfl
def YY{lk:Nat->Prop}{w:bh}{mu:kF}{hw:Nat->Nat}{S:G}{ti:Id->TI}{s:K}{c:nR}(h:1=c.size)
 (g:∀(j:Nat)(a:H),[AV.S s][j]? =J a->∃v,c[j]? =J v/\RV w mu hw lk a v/\dx (bp [] S mu) ti a v):∃b:ByteArray,b.data.toList=s/\c= #[.string b]:=by
 obtain⟨i,f,e,_⟩:=g 0 _ rfl;generalize d:AV.S s=x at e;cases e with
 |str b=>
  refine⟨b,by cases d;rfl, ?_⟩;apply zJ;intro k;match k with
  |0=>simpa using f
  |k+1=>
   have:c.size=1:=h.symm;rw[zR (by omega)];simp
 |_=>cases d
abbrev CNT:db:=138
def J8(c:UInt8):∀l:K,vg c l=countByte l c
 |[]=>rfl
 |b::r=>by
  have:=J8 c r;unfold countByte at this⊢;rw[vg,List.count_cons,<-this];by_cases h:b=c;·rw[if_pos h,if_pos (by simp[h])]
  ·rw[if_neg h,if_neg (by simpa using h)];rfl
def Tf:iT dE (λg i S=>if g=CNT then countP i S else Z):=by
 intro f i S r M h l p w P N Q d I L m;simp only at h;split at h;case isFalse=>cases h
 rename_i E;subst E;refine⟨uu Tryz.func138 (by kernel_rfl), ?_⟩;unfold countP at h;split at h;case h_2=>cases h
 rename_i s c;cases h;obtain⟨R,z,q,_⟩:=m 0 _ rfl;obtain⟨T,B,t,_⟩:=m 1 _ rfl;generalize n:AV.S s=x at q;generalize o:AV.S [c]=y at t;cases q with
 |str a=>
  cases t with
  |str b=>
   have u:a.data.toList=s:=(AV.S.inj n).symm;have v:b.data.toList=[c]:=(AV.S.inj o).symm;have j:d= #[.string a,.string ⟨#[c]⟩]:=by
    have C:b=⟨#[c]⟩:=aaW v;rw[<-C];apply zJ;intro k;match k with
    |0=>simpa using z
    |1=>simpa using B
    |k+2=>
     have:d.size=2:=by simpa using L.symm
     rw[zR (by omega)];simp
   subst j;refine(Any.strings_Count_one Tryz.YU a c w).mono λe U A=>?_;obtain⟨rfl,rfl⟩:=A;rw[J8,<-u];exact oR I (Below.refl _ _) (λ_ _ _=>.int _ _) rfl (λ_ _=>trivial)
  |_=>cases o
 |_=>cases n
def Tg:gD (λg a S=>if g=CNT then countP a S else Z):=by
 intro f a S r b h;simp only at h;split at h;case isFalse=>cases h
 unfold countP at h;split at h;case h_2=>cases h
 cases h;exact qV rfl
abbrev FMT:db:=114
def YZ:iT dE (λg b S=>if g=FMT then LI b S else Z):=by
 intro f b S r y h d l w mu hw C a I s i;simp only at h;split at h;case isFalse=>cases h
 rename_i p;subst p;refine⟨uu Tryz.func114 (by kernel_rfl), ?_⟩;unfold LI at h;split at h;case h_2=>cases h
 rename_i n;split at h;case isFalse=>cases h
 rename_i j;cases h;obtain⟨E,m,v,_⟩:=i 0 _ rfl;obtain⟨L,o,x,_⟩:=i 1 _ rfl;cases v with
 |int=>
 cases x with
 |int=>
 have c:a= #[.int V n,.int V 10]:=by
  apply zJ;intro k;match k with
  |0=>simpa using m
  |1=>simpa using o
  |k+2=>
   have:a.size=2:=by simpa using s.symm
   rw[zR (by omega)];simp
 subst c;have u:TabIs dE w "internal/strconv.uint64pow10" bm pow10Tab:=by obtain⟨_,t,z,q⟩:=I.rW.2.2 2 _ (List.mem_cons_self ..);unfold TabIs World.var?;rw[show Tryz.prog.globalNamed "internal/strconv.uint64pow10" =J 2 by kernel_rfl];simp only[MI,q]
 refine(Any.internal_strconv_FormatInt_10 Tryz.Wb n j.1 j.2 w u).mono λe M A=>?_;obtain⟨rfl,k,B,rfl⟩:=A;rw[Th];exact oR I (below_grow _ _ (eI _) _ _) (λmu hw lk=>.str (mu:=mu) (hw:=hw) (lk:=lk) ⟨(itoa n).toArray⟩) rfl (λ_ _=>trivial)
def Y0:gD (λg a S=>if g=FMT then LI a S else Z):=by
 intro f a S r b h;simp only at h;split at h;case isFalse=>cases h
 unfold LI at h;split at h;case h_2=>cases h
 split at h;case isFalse=>cases h
 cases h;exact qV rfl
abbrev acO:db:=102
def Wg:iT dE (λg d S=>if g=acO then Db 229 d S else Z):=by
 intro f d S r N h m o w E C L l I y q;simp only at h;split at h;case isFalse=>cases h
 rename_i v;subst v;refine⟨uu Tryz.func102 (by kernel_rfl), ?_⟩;unfold Db at h;split at h;case h_2=>cases h
 rename_i s;split at h;case isFalse=>cases h
 rename_i z;obtain⟨b,rfl,rfl⟩:=YY (by simpa using y) q;have B:b.size<=1073741824:=by rw[Go.Lib.size_eq];exact z
 cases i:Go.Lib.atoiAll b.data.toList with
 |ok n=>
  rw[i]at h;cases h;refine(Any.strconv_Atoi_ok Tryz.Wc b (by omega) n i w).mono λe M A=>?_;obtain⟨rfl,k⟩:=A;have u:Below w.heap.size w M:=by
   rcases k with rfl|⟨t,rfl⟩;·exact Below.refl _ _
   ·exact bytesWorld_below _ _ _
  exact oR I u (λE C Q=>.bP _ (λ|0=>.int V n|_=>.nilIface) λj a c=>by
   match j,c with
   |0,c=>cases c;exact .int _ _
   |1,c=>cases c;exact .aD
   |j+2,c=>simp at c) rfl (λR L p e j a x c P=>by
   match j,c with
   |0,c=>cases c;trivial
   |1,c=>cases c;trivial
   |j+2,c=>simp at c)
 |_=>rw[i]at h;cases h
def Wh:gD (λg a S=>if g=acO then Db 229 a S else Z):=by
 intro f a S r b h;simp only at h;split at h;case isFalse=>cases h
 unfold Db at h;split at h;case h_2=>cases h
 split at h;case isFalse=>cases h
 split at h
 ·cases h
  exact qV rfl
 ·cases h
abbrev ASF:db:=44
abbrev TE:bH:=59
abbrev TP:bH:=90
abbrev TA:bH:=94
abbrev TQ:bH:=155
abbrev asR:=YS TP TE TQ TA
def Hz{base:Nat}{bg:Nat->Prop}{S:G}{w o:bh}{mu:Nat->Option Nat}{hw:Nat->Nat}{ti:Id->TI}(I:Inv base bg [] S w mu hw ti){T:bH}(k:gW dE T=J 1){i b:Nat}{a0 a:H}{bt:List (Option Nat)}{v:aW}
 (hS:S[i]? =J (.M [a0] bt O)) (z:mu i=J b) (hv:fL a=Y) (f:a.cells=[a]) (C:aO (aH a)=Y) (j:iR [] i bt a=(a,[],bt)) (M:RV w mu hw (fM S mu) a v) (A:∀lv ti,dx lv ti a v) (e:v.cells= #[v]) (g:v.oneCell'=Y) (u:Below w.heap.size w o):
 Cz dE base bg S w mu hw ti (.B Y) (S.set i (.M [a] bt O)) (.returned (.bool Y)) (o.setCell ⟨b,0,Z⟩ v):=by
 obtain⟨vs,el,Q,L⟩:=I.oC i _ b hS z;obtain⟨di,q,r,dhw,s⟩:=I.iS i b z;obtain⟨_,y,m,hry⟩:=L.2 0 _ rfl;obtain⟨I1,e1⟩:=Bm Dc I u (λ_ _=>rfl) (λb h=>I.qq b (nB u.size h));have l:o.heap[b]? =J (cN vs el (0,0)):=by rw[u.block b r];exact Q
 have he:k8 dE ⟨[],[],0⟩ S T (.P i 0) a=J ([],S.set i (.M [a] bt O)):=by simp only[k8,k,hS];rw[if_pos ⟨hv,by rw[f];rfl,by simp,.inr C⟩,j];simp only[f];rfl
 obtain⟨w2,c,N⟩:=zL (P:=dE) I1 (E:=⟨[],[],0⟩) rfl (t:=T) (p:=.P i 0) (x:=a) (vp:=bn (J ⟨b,0,Z⟩)) (vx:=v) (.ptr i 0 b z) (e1.rv M) (A _ _) he;have hvl:0<vs.size:=by
  rcases pF 0 vs.size with h|h;·exact h
  ·rw[zR h]at m;cases m
 have d:=vG (P:=dE) (w:=o) (t:=T) (b:=b) (off:=0) (n:=1) (x:=v) k (by rw[e];rfl) (by rw[e];intro y m;simp at m;subst m;exact g) l (by omega);have U:w2=o.setCell ⟨b,0,Z⟩ v:=by rw[d]at c;have:=(Result.ok.inj c).2;rw[<-this,e];rfl
 subst U;obtain⟨mu',R,ti',I2,e2,X,_,_,B⟩:=N .nilIface;refine⟨.bool Y,rfl,mu',R,ti', ?_,e1.trans e2, ?_, ?_, ?_, ?_⟩;·exact I2
 ·exact X
 ·exact .bool Y
 ·trivial
 ·exact B
def Wi{e t:aW}{a:Array aW}(d:a.size=2)(b:a[0]? =J e)(c:a[1]? =J t):a= #[e,t]:=by
 apply zJ;intro k;match k with
 |0=>simpa using b
 |1=>simpa using c
 |k+2=>
  rw[zR (by omega)];simp
def acP{w:bh}{mu:Nat->Option Nat}{hw:Nat->Nat}{lk:Nat->Prop}{e:H}{n:Int}{v:aW}(h:AK TA TE 2 e=J n)(d:RV w mu hw lk e v):
 v=.iface TE (.int V n)\/∃b o,v=.iface TA (bn (J ⟨b,o,Z⟩))/\w.cell? ⟨b,o+1,Z⟩=J (.iface TE (.int V n)):=by
 have g:∀{e:H}{v:aW},AK TA TE 1 e=J n->RV w mu hw lk e v->v=.iface TE (.int V n):=by
  intro e v h d;unfold AK at h;split at h
  ·split at h
   ·rename_i a
    cases h;subst a;cases d with
    |dA _ _ y _ c=>cases c;rfl
   ·cases h
  ·split at h
   ·simp[AK]at h
   ·cases h
  ·cases h
 unfold AK at h;split at h
 ·split at h
  ·rename_i a
   cases h;subst a;cases d with
   |dA _ _ y _ c=>cases c;exact .inl rfl
  ·cases h
 ·split at h
  ·rename_i a
   subst a;cases d with
   |dA _ _ y _ c=>
    cases c with
    |dP _ p m b o f l i j=>
     refine .inr ⟨b,o,by simp, ?_⟩;obtain⟨_,_,k⟩:=i 1 _ rfl;rw[k,g h (j 1 _ rfl)]
  ·cases h
 ·cases h
def acQ:iT dE (λg l S=>if g=ASF then asR l S else Z):=by
 intro f l S r S' h T bg w mu hw ti Q I hl ha;simp only at h;split at h;case isFalse=>cases h
 rename_i hf;subst hf;refine⟨uu Tryz.func44 (by kernel_rfl), ?_⟩;unfold asR YS at h;split at h;case h_2=>cases h
 rename_i e t i;obtain⟨v0,h0,s,_⟩:=ha 0 _ rfl;obtain⟨v1,h1,P,_⟩:=ha 1 _ rfl;obtain⟨hg1,k⟩:=I.rW.2.1 0 _ (List.mem_cons_self ..);have q:gW dE TE=J 1:=by kernel_rfl
 have z:gW dE TA=J 1:=by kernel_rfl
 cases P with
 |dA _ _ v1 _ P=>
 cases P with
 |ptr _ _ b v=>
 obtain rfl:=Wi (by simpa using hl.symm) h0 h1;split at h
 ·rename_i M
  subst M;split at h;case h_2=>cases h
  rename_i n m U hn p;cases h;obtain⟨vs,X,c,j⟩:=I.oC i _ b p v;obtain⟨_,y,B,x⟩:=j.2 0 _ rfl;have a:w.cell? ⟨b,0,Z⟩=J y:=by rw[dY c];exact B
  have d:w.frozen? ⟨b,0,Z⟩=O:=by simp[World.frozen?,c]
  have hB:=λ(w1:bh)(N:w1=((((w.alloc (cN #[bn (J ⟨b,0,Z⟩)] 90)).alloc (cN #[bn (J ⟨9,90,Z⟩),bn (J ⟨w.heap.size,0,Z⟩),.int bm 150] 137)).alloc (cN #[bn (J ⟨9,90,Z⟩),bn (J ⟨w.heap.size,0,Z⟩),.int bm 150] 137)).alloc (cN #[.int V n] 59)))=>
   (show Below w.heap.size w w1 from N▸((((Below.refl _ w).alloc (eI _) _).alloc (by simp) _).alloc (by simp;omega) _).alloc (by simp;omega) _)
  rcases acP hn s with rfl|⟨bb,o,rfl,E⟩
  ·refine(acv n ⟨b,0,Z⟩ y w k a d).mono λe R A=>?_
   obtain⟨rfl,rfl⟩:=A;exact Hz I q p v rfl rfl rfl rfl (.int _ _) (λ_ _=>trivial) rfl rfl (hB _ rfl)
  ·refine(YC n bb o ⟨b,0,Z⟩ y w k a d E).mono λe R A=>?_
   obtain⟨rfl,rfl⟩:=A;exact Hz I q p v rfl rfl rfl rfl (.int _ _) (λ_ _=>trivial) rfl rfl (hB _ rfl)
 ·split at h
  case isFalse=>cases h
  rename_i M;subst M;split at h
  ·rename_i t' cs U p _
   split at h;case isFalse=>cases h
   rename_i u;obtain⟨rfl,L⟩:=u;cases h;obtain⟨vs,X,c,j⟩:=I.oC i _ b p v;obtain⟨_,y,B,x⟩:=j.2 0 _ rfl;have a:w.cell? ⟨b,0,Z⟩=J y:=by rw[dY c];exact B
   have d:w.frozen? ⟨b,0,Z⟩=O:=by simp[World.frozen?,c]
   cases s with
   |dA _ _ x0 _ s=>
    have C:=s;cases s with
    |dP _ cs off b' o f hr' h1' h2'=>
     simp only[Nat.add_zero]at C⊢;refine(YD ⟨b',o,Z⟩ ⟨b,0,Z⟩ y w k a d).mono λe R A=>?_;obtain⟨rfl,rfl⟩:=A;exact Hz I z p v rfl rfl (by simpa[aH,aO]using L) rfl C (λ_ _=>trivial) rfl rfl (((((Below.refl _ w).alloc (eI _) _).alloc (by simp) _).alloc (by simp;omega) _).alloc (by simp;omega) _)
  ·rename_i t' n U p _
   split at h;case isFalse=>cases h
   rename_i u;subst u;cases h;obtain⟨vs,X,c,j⟩:=I.oC i _ b p v;obtain⟨_,y,B,x⟩:=j.2 0 _ rfl;have a:w.cell? ⟨b,0,Z⟩=J y:=by rw[dY c];exact B
   cases s with
   |dA _ _ x0 _ s=>
    cases s with
    |int=>
     refine(YE n ⟨b,0,Z⟩ y w k a).mono λe R A=>?_;obtain⟨rfl,rfl⟩:=A;obtain⟨I1,e1⟩:=Bm Dc I ((((Below.refl _ w).alloc (eI _) _).alloc (by simp) _).alloc (by simp;omega) _) (λ_ _=>rfl) (λb h=>I.qq b (nB (by simp;omega) h));exact⟨.bool O,rfl,mu,hw,ti,I1,e1,iq.refl _ _,.bool O,trivial,λi hi _=>⟨rfl,hi⟩⟩
  ·cases h
def acR:gD (λg b S=>if g=ASF then asR b S else Z):=by
 have c:∀{S:G}{i:Nat}{j a:H}{d:List (Option Nat)},S[i]? =J (.M [j] d O)->aO a=Y->
  S.length<=(S.set i (.M [a] d O)).length/\ia (S.set i (.M [a] d O)).length (λk=>aN (S.length<=k)) (.B Y)=Y/\eZ S.length S (S.set i (.M [a] d O))/\Ju S.length (S.set i (.M [a] d O)):=by
  intro S i j a d e s;have o:=eZ.write (nb:=S.length) (off:=0) (bt':=d) (l':=O) (new:=[a]) e (.inr λm q _=>rZ m q _ (by simp[bQ,s]));rw[aY (cs:=[j]) (vs:=[a]) rfl]at o;refine⟨by simp,nK rfl _ _,o,λk cs p l v n=>?_⟩;have:=eH n;simp at this;omega
 intro f b S r u h;simp only at h;split at h;case isFalse=>cases h
 unfold asR YS at h;split at h;case h_2=>cases h
 split at h
 ·split at h
  case h_2=>cases h
  rename_i e;cases h;exact c e rfl
 ·split at h
  case isFalse=>cases h
  split at h
  ·rename_i e
   split at h;case isFalse=>cases h
   rename_i t;cases h;exact c e (by simpa[aO]using t.2)
  ·split at h
   case isFalse=>cases h
   cases h;exact qV rfl
  ·cases h
def Rj:xG dE W:=by
 have a:∀f p,nk.j6 f=J p->(f=ASF/\p=asR)\/(f=FMT/\p=LI)\/(f=acN/\p=qU)\/(f=acO/\p=Db 229)\/(f=CNT/\p=countP)\/(f=Te/\p=xd):=by
  intro f p h;simp only[W,Wa,List.lookup]at h;split at h;·rename_i e;cases h;exact .inl ⟨by simpa using e,rfl⟩
  split at h;·rename_i e;cases h;exact .inr (.inl ⟨by simpa using e,rfl⟩)
  split at h;·rename_i e;cases h;exact .inr (.inr (.inl ⟨by simpa using e,rfl⟩))
  split at h;·rename_i e;cases h;exact .inr (.inr (.inr (.inl ⟨by simpa using e,rfl⟩)))
  split at h;·rename_i e;cases h;exact .inr (.inr (.inr (.inr (.inl ⟨by simpa using e,rfl⟩))))
  split at h;·rename_i e;cases h;exact .inr (.inr (.inr (.inr (.inr ⟨by simpa using e,rfl⟩))))
  ·cases h
 refine⟨λf p h=>?_,λf p h=>?_⟩
 ·rcases a f p h with⟨rfl,rfl⟩|⟨rfl,rfl⟩|⟨rfl,rfl⟩|⟨rfl,rfl⟩|⟨rfl,rfl⟩|⟨rfl,rfl⟩
  ·exact acQ
  ·exact YZ
  ·exact YW
  ·exact Wg
  ·exact Tf
  ·exact Wd
 ·rcases a f p h with⟨rfl,rfl⟩|⟨rfl,rfl⟩|⟨rfl,rfl⟩|⟨rfl,rfl⟩|⟨rfl,rfl⟩|⟨rfl,rfl⟩
  ·exact acR
  ·exact Y0
  ·exact YX
  ·exact Wh
  ·exact Tg
  ·exact We
end
section
open Go.Lib
abbrev RY(W:bh)(hw:Nat->Nat):H->aW->Prop:=RV W (λ_=>Z) hw (λ_=>False)
def Qk:Tryz.prog.follows .mixedOrders=Y:=by kernel_rfl
def B2(w:bh)(hw:Nat->Nat)(r:H)(e:Ending)(w':bh):Prop:=
 ∃v hw',e=.returned v/\Below w.heap.size w w'/\(∀b,b<w.heap.size->hw' b=hw b)/\(∀b,w'.heap.size<=b->hw' b=0)/\RY w' hw' r v
def Im{f:db}{c:bN}{r:H}(h:DF F nk f c []=J (r,[])){base:Nat}{W:bh}{hw:Nat->Nat}(u:IB base W hw)(d:base<=W.heap.size)(B:∀b,W.heap.size<=b->hw b=0){args:nR}(y:c.length=args.size)
 (q:∀(j:Nat)(a:H),c[j]? =J a->∃v,args[j]? =J v/\RY W hw a v/\FF a=Y):Calls dE f args W (B2 W hw (aK [] r).1):=by
 obtain⟨n,z⟩:=(ue _).1 h
 have I:Inv W.heap.size (λb=>b<W.heap.size) [] [] W (λ_=>Z) hw (λ_=>⟨0,0,0,0⟩):=by
  refine⟨λi S b h=>by simp at h,λi T R l b h=>by simp at h,λi j b h=>by simp at h,λi b h=>by simp at h,B,λid L h=>?_,λid M L Q h=>?_,λb h=>h,eI _,u.mono (λ_=>eI _) (λ_ _ _ _ h=>h) d (λ_ _=>rfl)⟩;·cases id<;>simp[bp]at h
  ·cases id<;>simp[bp]at h
 have⟨_,s⟩:=xH Qk named Rj Ei n f c [] _ _ z W.heap.size (λb=>b<W.heap.size) W (λ_=>Z) hw (λ_=>⟨0,0,0,0⟩) args I y (λj a x=>by have⟨v,E,C,t⟩:=q j a x;exact⟨v,E,C.mono (λ_ _ e=>e) (λ_ _ e=>e) (λ_ e=>e.elim) (λ_ _ _ _ e=>e),dx.rY t⟩);refine s.mono λe U A=>?_;obtain⟨v,rfl,o,m,P,p,ext,_,N,_⟩:=A;have k:∀i b,o i=J b->False:=λi b g=>by have:=(p.iS i b g).1;simp at this
 refine⟨v,m,rfl,ext.xC.toBelow,λb g=>(ext.zB b g).2,p.qq, ?_⟩;exact N.mono (λi b e=>(k i b e).elim) (λ_ _ e=>e) (λb e=>by obtain⟨i,_,_,h,_⟩:=e;simp at h) (λ_ _ _ _ e=>e)
section
variable{w:bh}{mu:kF}{hw:Nat->Nat}{lk:Nat->Prop}{v:aW}
def RZ{s:K}(h:RV w mu hw lk (.S s) v):v=.string ⟨s.toArray⟩:=by
 generalize a:AV.S s=x at h;cases h with
 |str b=>
  have e:s=b.data.toList:=AV.S.inj a;subst e;cases b;rfl
 |_=>cases a
def Xj(h:RV w mu hw lk .aD v):v=.nilIface:=by cases h;rfl
def ZA{k:IntKind}{n:Int}(h:RV w mu hw lk (.I k n) v):v=.int k n:=by cases h;rfl
def ZB{t:bH}{a:H}(h:RV w mu hw lk (.dA t a) v):∃x,v=.iface t x/\RV w mu hw lk a x:=by
 cases h with
 |dA _ _ x _ b=>exact⟨x,rfl,b⟩
def Xk{a b:H}(h:RV w mu hw lk (.bP [a,b]) v):∃x y,v=.tuple #[x,y]/\RV w mu hw lk a x/\RV w mu hw lk b y:=by
 cases h with
 |bP _ c d=>exact⟨c 0,c 1,rfl,d 0 _ rfl,d 1 _ rfl⟩
end
def Ql{w w':bh}{hw:Nat->Nat}{e:Ending}{s:K}(h:B2 w hw (.bP [.S s,.aD]) e w'):e=.returned (.tuple #[.string ⟨s.toArray⟩,.nilIface])/\Below w.heap.size w w':=by obtain⟨v,b,rfl,a,_,_,f⟩:=h;obtain⟨x,y,rfl,c,d⟩:=Xk f;exact⟨by rw[RZ c,Xj d],a⟩
def TN{w w':bh}{hw:Nat->Nat}{e:Ending}{c:Int}(h:B2 w hw (.bP [.S [],.dA 59 (.I V c)]) e w'):e=.returned (.tuple #[.string ⟨#[]⟩,.iface 59 (.int V c)])/\Below w.heap.size w w':=by obtain⟨v,b,rfl,a,_,_,i⟩:=h;obtain⟨x,y,rfl,d,f⟩:=Xk i;obtain⟨z,rfl,g⟩:=ZB f;exact⟨by rw[RZ d,ZA g],a⟩
def Xl{w:bh}{hw:Nat->Nat}{l:List aB}{x:H}{v:aW}(k:Ks x=cb l)(h:RY w hw x v):∃(p:Option Addr)(cap b o:Nat)(f:Nat->Nat->aW),v=.slice p l.length cap/\(0<l.length->p=J ⟨b,o,Z⟩)/\
 ∀i a,l[i]? =J a->∀j x,a.aq[j]? =J x->nf x=Y/\w.cell? ⟨b,o+i*35+j,Z⟩=J (f i j)/\RY w hw x (f i j):=by
 have g:∀q cap,v=.slice q 0 cap->l=[]->∃(p:Option Addr)(cap b o:Nat)(f:Nat->Nat->aW),v=.slice p l.length cap/\(0<l.length->p=J ⟨b,o,Z⟩)/\∀i a,l[i]? =J a->∀j x,a.aq[j]? =J x->nf x=Y/\w.cell? ⟨b,o+i*35+j,Z⟩=J (f i j)/\RY w hw x (f i j):=
  λq cap e n=>⟨q,cap,0,0,λ_ _=>undef,by rw[e,n];rfl,by simp[n],by simp[n]⟩
 have d:gG 35 (l.map aB.aq)=.sl .N 1 []->l=[]:=λe=>by
  cases l with
  |nil=>rfl
  |cons a r=>cases e
 have k:Ks x=gG 35 (l.map aB.aq):=k;obtain⟨s1,s2,s3,t⟩:∃r z e,gG 35 (l.map aB.aq)=.sl r z e:=by cases l<;>exact⟨_,_,_,rfl⟩
 cases h with
 |ar=>exact g Z 0 rfl (d k.symm)
 |emp _ q cap=>exact g q cap rfl (d k.symm)
 |tv _ q=>exact g q 0 rfl (d k.symm)
 |sl r Q S b o len cap f I hr hb hl hs T U=>
  cases S with
  |nil=>exact g _ cap (by rw[I.1];rfl) (d k.symm)
  |cons B C=>
   cases l with
   |nil=>cases k
   |cons u A=>
    have k:AV.sl .N Q ((B::C).map λ(c:bN)=>c.map bO)=.sl .N 35 ((u::A).map aB.aq):=k;generalize u::A=L,B::C=E at*;have R:Q=35:=(AV.sl.inj k).2.1;have n:=(AV.sl.inj k).2.2;subst R;have s:E.length=L.length:=by simpa using congrArg List.length n
    refine⟨J ⟨b,o,Z⟩,cap,b,o,f,by rw[I.1,s],λ_=>rfl,λi a X j x hj=>?_⟩;have q:=congrArg (λm:jb=>m[i]?) n;simp only[uU,X,zG]at q;obtain⟨c,M,hq⟩:=Q3.1 q;have P:=congrArg (λm:bN=>m[j]?) hq;simp only[uU,hj]at P;obtain⟨y,N,rfl⟩:=Q3.1 P;have⟨x1,x2,x3⟩:=T i c j y M N;exact⟨Nb x1,x3,RV.bO (U i c j y M N)⟩
 |_=>rw[t]at k;cases k
def EC:∀(l:List aB)(i:Nat)(c:K),∃m,m<=l.length/\(∀k a,k<m->l[k]? =J a->a.code=0)/\
 (m=l.length/\vw i l c=.bP [.S (c++l.flatMap λa=>a.line++[10]),.aD]\/∃a,l[m]? =J a/\a.code≠0/\vw i l c=.bP [.S [],cE a.code (i+m)])
 |[],i,c=>⟨0,by simp,by simp,.inl ⟨rfl,by simp[vw]⟩⟩
 |a::l,i,c=>by
  by_cases h:a.code=0
  ·obtain⟨m,j,g,d⟩:=EC l (i+1) (c++(a.line++[10]))
   refine⟨m+1,by simp;omega,λk b n f=>?_, ?_⟩
   ·cases k with
    |zero=>simp at f;subst f;exact h
    |succ k=>exact g k b (by omega) (by simpa using f)
   ·unfold vw
    rw[if_pos h];rcases d with⟨e,d⟩|⟨b,e,f,d⟩;·exact .inl ⟨by simp[e],by rw[d];simp⟩
    ·exact .inr ⟨b,by simpa using e,f,by rw[d];congr 4;omega⟩
  ·refine⟨0,by simp,by simp,.inr ⟨a,rfl,h, ?_⟩⟩
   unfold vw;rw[if_neg h];rfl
def OD(l:List aB):∀k,k<=l.length->TM (λi=>(l[i]?.map aB.line).getD []) k=(l.take k).flatMap λa=>a.line++[10]
 |0,_=>by simp[TM]
 |k+1,hk=>by
  have h:=OD l k (by omega);have e:l.take (k+1)=l.take k++[l[k]]:=by rw[sP,cx (by omega)];rfl
  have b:(l[k]?.map aB.line).getD []=l[k].line:=by rw[cx (by omega)];rfl
  rw[TM,h,e,U7,b];simp only[vM,List.flatMap_nil,wV,oH]
def ZC{w W:bh}{hw:Nat->Nat}{a:H}{v:aW}(h:RY w hw a v)(c:Below w.heap.size w W):RY W hw a v:=
 h.mono (λ_ _ e=>e) (λ_ _ e=>e) (λ_ e=>e) (λb o v _ e=>by rw[c.cell (p:=⟨b,o,Z⟩) (World.block_lt_of_cell? w _ e)];exact e)
def OF{base:Nat}{w W:bh}{hw:Nat->Nat}(h:IB base w hw)(a:base<=w.heap.size)(c:Below w.heap.size w W):IB base W hw:=
 h.mono (λ_=>eI _) (λb o v _ e=>by rw[c.cell (p:=⟨b,o,Z⟩) (World.block_lt_of_cell? w _ e)];exact e) (eI _) (λb d=>c.block b (by omega))
def Fw(l:List aB):aK [] (nu l)=(nu l,[])/\aC (nu l)=Y/\∀c ti v,dx c ti (nu l) v:=by
 have i:∀a b:H,(∀t,cy t a=(a,t))->(∀t,cy t b=(b,t))->aK [] (.bP [a,b])=(.bP [a,b],[]):=λa b f g=>by simp[aK,dD,f,g]
 have k:∀(a b:H),(∀c ti v,fO c ti a v)->(∀c ti v,fO c ti b v)->∀c ti v,dx c ti (.bP [a,b]) v:=λa b f g c ti v n e j x y d o=>by
  match j,d with
  |0,d=>cases d;exact f _ _ _
  |1,d=>cases d;exact g _ _ _
  |j+2,d=>simp at d
 unfold nu;split
 ·obtain⟨m,_,_,⟨_,h⟩|⟨a,_,_,h⟩⟩:=EC l 0 []
  ·rw[h];exact⟨i _ _ (λ_=>rfl) (λ_=>rfl),rfl,k _ _ (λ_ _ _=>trivial) (λ_ _ _=>trivial)⟩
  ·rw[h];exact⟨i _ _ (λ_=>rfl) (λ_=>rfl),rfl,k _ _ (λ_ _ _=>trivial) (λ_ _ _=>trivial)⟩
 ·exact⟨i _ _ (λ_=>rfl) (λ_=>rfl),rfl,k _ _ (λ_ _ _=>trivial) (λ_ _ _=>trivial)⟩
def Fx(l:List aB)(hF:Fit l){base:Nat}{w:bh}{hw:Nat->Nat}(hg:IB base w hw)(k:base<=w.heap.size)(N:∀b,w.heap.size<=b->hw b=0){x:H}{v:aW}(hx:Ks x=cb l)(hv:RY w hw x v):Calls dE Mw #[v] w (B2 w hw (nu l)):=by
 obtain⟨p,E,b,o,f,rfl,hp,P⟩:=Xl hx hv;by_cases R:l.length<=200;rotate_left
 ·refine(Zz p l.length E (by omega) w).mono λe w' A=>?_
  obtain⟨rfl,rfl⟩:=A;unfold nu;rw[if_neg R];refine⟨_,hw,rfl,Below.refl _ _,λ_ _=>rfl,N,.bP _ (λ|0=>.string ⟨#[]⟩|_=>.iface 59 (.int V 3)) λj a g=>?_⟩;match j,g with
  |0,g=>cases g;exact .str ⟨#[]⟩
  |1,g=>cases g;exact .dA _ _ _ rfl (.int _ _)
  |j+2,g=>simp at g
 obtain⟨m,hm,h0,z⟩:=EC l 0 [];have T:nu l=vw 0 l []:=if_pos R;rw[T];have X:∀i a,l[i]? =J a->∀d,Below w.heap.size w d->Calls dE 12 #[.agg ((jX 35).map (f i)).toArray] d (B2 d hw (aK [] a.eG).1):=by
  intro i a s d q;have⟨h2,h3⟩:=hF.wf a (fH s);refine Im (v_ a h2 h3 []) (OF hg k q) (nB k q.size) (λb n=>N b (nB q.size n)) rfl λj x g=>?_;match j,g with
  |j+1,g=>simp at g
  |0,g=>
   cases g;refine⟨_,rfl, ?_,rfl⟩;have:=RV.agg (w:=d) (mu:=λ_=>Z) (hw:=hw) (lk:=λ_=>False) a.aq (f i) (λj x g=>(P i a s j x g).1) (λj x g=>ZC (P i a s j x g).2.2 q);rw[a.lO]at this;exact this
 have e0:∀a:aB,a.code=0->(aK [] a.eG).1=.bP [.S a.line,.aD]:=λa h=>by unfold aB.eG;rw[if_pos h];rfl
 have e1:∀a:aB,a.code≠0->(aK [] a.eG).1=.bP [.S [],.dA 59 (.I V (a.code:Int))]:=λa h=>by unfold aB.eG r6;rw[if_neg h,if_neg h];rfl
 have y:∀i j,i<l.length->j<35->(f i j).oneCell'=Y/\w.cell? ⟨b,o+i*35+j,Z⟩=J (f i j):=λi j s g=>by
  have Q:j<(l[i]).aq.length:=by rw[aB.lO];exact g
  have⟨x1,x3,x4⟩:=P i l[i] (cx s) j _ (cx Q);exact⟨x4.one x1,x3⟩
 refine Zy l.length R b o E p hp f (λi j s g=>(y i j s g).1) w (λi j s g=>(y i j s g).2) m hm (λi=>(l[i]?.map aB.line).getD []) (λi s=>?_) (λi s d q=>?_) _ (λI w' q=>?_) (λI d q=>?_)
 ·have u:i<l.length:=by omega
  rw[cx u];exact hF.len l[i] (List.getElem_mem u) (h0 i _ s (cx u))
 ·have u:i<l.length:=by omega
  have C:=cx u;have U:=h0 i _ s C;have c:=X i _ C d q;rw[e0 _ U]at c;rw[C];exact c.mono λe w' A=>Ql A
 ·rw[OD l l.length (eI _),uP]
  rcases z with⟨_,z⟩|⟨a,M,_,_⟩
  ·rw[z]
   refine⟨_,hw,rfl,q,λ_ _=>rfl,λb n=>N b (nB q.size n),.bP _ (λ|0=>.string ⟨(l.flatMap λa=>a.line++[10]).toArray⟩|_=>.nilIface) λj a g=>?_⟩;match j,g with
   |0,g=>cases g;rw[rB];exact .str ⟨(l.flatMap λa=>a.line++[10]).toArray⟩
   |1,g=>cases g;exact .aD
   |j+2,g=>simp at g
  ·rw[I]at M;simp at M
 ·rcases z with⟨z,_⟩|⟨a,M,U,z⟩
  ·omega
  have c:=X m a M d q;rw[e1 a U]at c;rw[z];refine c.mono λe w1 A=>?_;obtain⟨rfl,t⟩:=TN A;have r:Below w.heap.size w w1:=q.trans ⟨t.os,t.tape,t.output,t.size,λj g=>t.block j (wN g q.size)⟩;refine⟨_,_,rfl, ?_⟩;refine(Im (uv a.code m []) (OF hg k r) (nB k r.size) (λb n=>N b (nB r.size n)) (args:= #[.iface 59 (.int V (a.code:Int)),.int V (m:Int)]) rfl λj x g=>?_).mono λe' w2 B=>?_
  ·match j,g with
   |0,g=>cases g;exact⟨_,rfl,.dA _ _ _ rfl (.int _ _),rfl⟩
   |1,g=>cases g;exact⟨_,rfl,.int _ _,rfl⟩
   |j+2,g=>simp at g
  ·obtain⟨v,S,rfl,L,k2,k3,k4⟩:=B
   refine⟨v,rfl,_,S,rfl,r.trans ⟨L.os,L.tape,L.output,L.size,λj g=>L.block j (wN g r.size)⟩,λb n=>k2 b (wN n r.size),k3,.bP _ (λ|0=>.string ⟨#[]⟩|_=>v) λj a' g=>?_⟩;match j,g with
   |0,g=>cases g;exact .str ⟨#[]⟩
   |1,g=>cases g;rw[wL];exact k4
   |j+2,g=>simp at g
def Kt:iT dE (λg c S=>if g=Mw then oU c S else Z):=by
 intro f c S r S' h n p w mu hw U b I E z;simp only at h;split at h;case isFalse=>cases h
 rename_i B;subst B;refine⟨uu Tryz.func7 (by kernel_rfl), ?_⟩;unfold oU at h;split at h;case isFalse=>cases h
 rename_i o;obtain⟨x,u,j,L,y⟩:=o.choose_spec;generalize o.choose=l at*;cases h;subst u;obtain⟨v,t,Q,_⟩:=z 0 _ rfl;have m:b= #[v]:=by
  apply zJ;intro k;match k with
  |0=>simpa using t
  |k+1=>
   have:b.size=1:=by simpa using E.symm
   rw[zR (by omega)];simp
 subst m;have R:RY w hw x v:=GR (λ_ _ e=>e) j Q;have⟨d,t2,T⟩:=Fw l;refine(Fx l y I.rW I.mf I.qq L R).mono λe w' a=>?_;obtain⟨X,hw',rfl,A,M,N,P⟩:=a;obtain⟨q,s⟩:=Bm (hw':=hw') Dc I A M N;refine⟨X,rfl,mu,hw',U, ?_,s, ?_, ?_, ?_,λi C _=>⟨rfl,C⟩⟩;·rw[d];exact q
 ·rw[d];exact iq.refl _ _
 ·rw[d];exact P.mono (λ_ _ e=>by cases e) (λ_ _ e=>e) (λ_ e=>e.elim) (λ_ _ _ _ e=>e)
 ·rw[d];exact T _ _ _
def Ku:gD (λg a S=>if g=Mw then oU a S else Z):=by
 intro f a S r b h;simp only at h;split at h;case isFalse=>cases h
 unfold oU at h;split at h;case isFalse=>cases h
 cases h;exact qV (Fw _).2.1
def HA:xG dE ID:=by
 refine⟨λf p h=>?_,λf p h=>?_⟩
 ·have h:(if f=Mw then J oU else nk.j6 f)=J p:=h
  by_cases c:f=Mw
  ·subst c
   rw[if_pos rfl]at h;cases h;exact Kt
  ·rw[if_neg c]at h
   exact Rj.sim f p h
 ·have h:(if f=Mw then J oU else nk.j6 f)=J p:=h
  by_cases c:f=Mw
  ·subst c
   rw[if_pos rfl]at h;cases h;exact Ku
  ·rw[if_neg c]at h
   exact Rj.old f p h
end
section
def Xp(l:List aB)(hw:∀a∈l,a.Wf)(S:G):∃g:Bool,DF F W 5 [cb l] S=J (.B g,S)/\(g=O->l.length<=16/\∀a∈l,a.Flat/\a.raw.length<=300):=by
 by_cases h:l.length<1000000;·exact Jf l hw h S
 ·have c:=fZ l
  have b:=eQ (l.length:Int) 16;refine⟨Y, ?_,by simp⟩;rw[decide_eq_true (by omega)]at b;rw[fI e_5];generalize cb l=L at*;simp-implicitDefEqProofs [-aE,c,b]
section
variable{l:List aB}(hw:∀a∈l,a.Wf/\a.v7/\a.Flat)(hl:l.length<=16)(X E:H)(nb:Nat)(S:G)
include hw hl
theorem ZF(c r:List aB)(a:aB)(h:l=c++a::r)(q:∀x∈c,x.code=0)(e:a.code=0):
 DC F ID (.L cQ) ⟨[(0,cb l),(3,X),(4,E),(5,.S (cw c)),(6,.I V 0),(7,.I V (-1)),(8,.I V (c.length:Int))],[],nb⟩ S=
  DC F ID (.L cQ) ⟨[(0,cb l),(3,X),(4,E),(5,.S (cw (c++[a]))),(6,.I V 0),(7,.I V (-1)),(8,.I V ((c++[a]).length:Int))],[],nb⟩ S:=by
 have f:l.length=c.length+r.length+1:=by rw[h];simp;omega
 have⟨o,g,p⟩:=hw a (by rw[h];simp);have z:=fZ l;have m:aE .lss (.I V (c.length:Int)) (.I V (l.length:Int))=J (.B Y):=by rw[dR,decide_eq_true (by omega)]
 have j:=qZ l V c.length;rw[show l[c.length]? =J a by rw[h];simp,zG]at j;have y:∀T,bk T (.A 35) (.dP .N a.aq 0)=J (.A a.aq):=λT=>aB.all a;have d:=λT=>via (Cp a o p g T);unfold aB.gK at d;rw[if_pos e]at d;have I:∀t,aK t (.bP [.S a.line,.I V 0])=(.bP [.S a.line,.I V 0],t):=λ_=>rfl;have u:aE .neq (.I V 0) (.I V 0)=J (.B O):=rfl;have v:aE .eql (.I V 0) (.I V 0)=J (.B Y):=rfl;have M:=xn c (λx i=>aB.pT (hw x (by rw[h];simp[i])).2.1 (q x i));have N:=aB.pT g e;have B:bG .add (.S (cw c)) (.S a.line)=J (.S (cw c++a.line)):=eW _ _ (by omega);have C:bG .add (.S (cw c++a.line)) (.S [10])=J (.S (cw (c++[a]))):=by rw[show cw (c++[a])=cw c++a.line++[10]by simp[cw]];exact eW _ _ (by simp;omega)
 have k:aE .add (.I V (c.length:Int)) (.I V 1)=J (.I V ((c++[a]).length:Int)):=by rw[ku,dS (by omega)];simp
 have n:tz (.A a.aq):=(aB.dB a).agg;rw[av,bf cW];generalize cb l=L,((c++[a]).length:Int)=b,cw c++a.line=P,cw (c++[a])=A,cw c=s,a.line=w at*;simp-implicitDefEqProofs [q_,rf, -aE, -bG,z,m,j,y,d,I,u,v,B,C,k,n,bJ];rw[ak cW];simp
theorem adE(c r:List aB)(a:aB)(h:l=c++a::r)(y:∀x∈c,x.code=0)(e:a.code≠0):
 ∃w,DC F ID (.L cQ) ⟨[(0,cb l),(3,X),(4,E),(5,.S (cw c)),(6,.I V 0),(7,.I V (-1)),(8,.I V (c.length:Int))],[],nb⟩ S=
  J (.E 0,⟨[(0,cb l),(3,X),(4,E),(5,w),(6,.I V (a.code:Int)),(7,.I V (c.length:Int))],[],nb⟩,S):=by
 have g:l.length=c.length+r.length+1:=by rw[h];simp;omega
 have⟨p,v,u⟩:=hw a (by rw[h];simp);have k:=fZ l;have n:aE .lss (.I V (c.length:Int)) (.I V (l.length:Int))=J (.B Y):=by rw[dR,decide_eq_true (by omega)]
 have j:=qZ l V c.length;rw[show l[c.length]? =J a by rw[h];simp,zG]at j;have I:∀T,bk T (.A 35) (.dP .N a.aq 0)=J (.A a.aq):=λT=>aB.all a;have f:=λT=>via (Cp a p u v T);unfold aB.gK at f;rw[if_neg e]at f;have Q:∀t,aK t (.bP [.S [],.I V (a.code:Int)])=(.bP [.S [],.I V (a.code:Int)],t):=λ_=>rfl;have z:aE .neq (.I V (a.code:Int)) (.I V 0)=J (.B Y):=by show J (AV.B (!((a.code:Int)==0)))=_;simp[e]
 have A:aE .eql (.I V 0) (.I V 0)=J (.B Y):=rfl;have B:aE .eql (.I V (a.code:Int)) (.I V 0)=J (.B O):=by show J (AV.B ((a.code:Int)==0))=_;simp[e]
 have R:=xn c (λx i=>aB.pT (hw x (by rw[h];simp[i])).2.1 (y x i));have N:bG .add (.S (cw c)) (.S [])=J (.S (cw c)):=by have:=eW (cw c) [] (by simp;omega);rwa [wV]at this
 have P:bG .add (.S (cw c)) (.S [10])=J (.S (cw c++[10])):=eW _ _ (by simp;omega);have m:aE .add (.I V (c.length:Int)) (.I V 1)=J (.I V ((c++[a]).length:Int)):=by rw[ku,dS (by omega)];simp
 have d:∃q,aE .lss (.I V ((c++[a]).length:Int)) (.I V (l.length:Int))=J (.B q):=⟨_,dR _ _⟩;obtain⟨q,d⟩:=d;have o:tz (.A a.aq):=(aB.dB a).agg;refine⟨.S (cw c++[10]), ?_⟩;rw[av,bf cW];generalize cb l=L,((c++[a]).length:Int)=b,cw c++[10]=M,cw c=s,(a.code:Int)=C at*;simp-implicitDefEqProofs [q_,rf, -aE, -bG,k,n,j,I,f,Q,z,A,N,P,m,o,bJ];rw[av,bf cW];cases q<;>simp-implicitDefEqProofs [q_,rf, -aE, -bG,k,d,B]
theorem adF(h:∀x∈l,x.code=0):
 DC F ID (.L cQ) ⟨[(0,cb l),(3,X),(4,E),(5,.S (cw l)),(6,.I V 0),(7,.I V (-1)),(8,.I V (l.length:Int))],[],nb⟩ S=
  J (.E 0,⟨[(0,cb l),(3,X),(4,E),(5,.S (cw l)),(6,.I V 0),(7,.I V (-1))],[],nb⟩,S):=by
 have b:=fZ l;have a:aE .lss (.I V (l.length:Int)) (.I V (l.length:Int))=J (.B O):=by rw[dR];simp
 rw[av,bf cW];generalize cb l=L,cw l=s at*;simp-implicitDefEqProofs [-aE,b,a]
theorem R6:∀(r b:List aB),l=b++r->(∀x∈b,x.code=0)->
 ((∀x∈l,x.code=0)/\DC F ID (.L cQ) ⟨[(0,cb l),(3,X),(4,E),(5,.S (cw b)),(6,.I V 0),(7,.I V (-1)),(8,.I V (b.length:Int))],[],nb⟩ S=
   J (.E 0,⟨[(0,cb l),(3,X),(4,E),(5,.S (cw l)),(6,.I V 0),(7,.I V (-1))],[],nb⟩,S))\/
 ∃p a f w,l=p++a::f/\(∀x∈p,x.code=0)/\a.code≠0/\DC F ID (.L cQ) ⟨[(0,cb l),(3,X),(4,E),(5,.S (cw b)),(6,.I V 0),(7,.I V (-1)),(8,.I V (b.length:Int))],[],nb⟩ S=
  J (.E 0,⟨[(0,cb l),(3,X),(4,E),(5,w),(6,.I V (a.code:Int)),(7,.I V (p.length:Int))],[],nb⟩,S)
 |[],b,h,hp=>by rw[wV]at h;subst h;exact .inl ⟨hp,adF hw hl X E nb S hp⟩
 |a::r,b,h,hp=>by
  by_cases c:a.code=0
  ·have e:=R6 r (b++[a]) (by simp[h]) (λx hx=>by
    rcases BM.1 hx with hx|hx;·exact hp x hx
    ·rw[sN.1 hx];exact c)
   rw[ZF hw hl X E nb S b r a h hp c];exact e
  ·obtain⟨w,d⟩:=adE hw hl X E nb S b r a h hp c
   exact .inr ⟨b,a,r,w,h,hp,c,d⟩
end
def OI(l:List aB)(i:Nat)(b:K)(h:∀x∈l,x.code=0):vw i l b=.bP [.S (b++cw l),.aD]:=by
 induction l generalizing i b with
 |nil=>simp[vw,cw]
 |cons a r d=>
  unfold vw;rw[if_pos (h a (by simp)),d _ _ (λx c=>h x (by simp[c])),oV];simp
def ZG(p r:List aB)(a:aB)(i:Nat)(c:K)(h:∀x∈p,x.code=0)(d:a.code≠0):vw i (p++a::r) c=.bP [.S [],cE a.code (i+p.length)]:=by
 induction p generalizing i c with
 |nil=>
  rw[rB];unfold vw;rw[if_neg d];rfl
 |cons b p f=>
  rw[zH];unfold vw;rw[if_pos (h b (by simp)),f _ _ (λx e=>h x (by simp[e]))];congr 4;simp;omega
def Ky:∀(p d r g:List aB)(a c:aB),p++a::r=d++c::g->(∀x∈p,x.code=0)->(∀x∈d,x.code=0)->a.code≠0->c.code≠0->d=p/\c=a
 |[],[],_,_,_,_,e,_,_,_,_=>⟨rfl,(Hh e).1.symm⟩
 |[],b::d,_,_,a,c,e,_,hp',hc,_=>absurd (hp' b (by simp)) (by rw[<-(Hh e).1];exact hc)
 |b::p,[],_,_,a,c,e,hp,_,_,hc'=>absurd (hp b (by simp)) (by rw[(Hh e).1];exact hc')
 |b::p,b'::d,r,g,a,c,e,hp,hp',hc,hc'=>by have⟨h,i⟩:=Hh e;have⟨j,k⟩:=Ky p d r g a c i (λx f=>hp x (by simp[f])) (λx f=>hp' x (by simp[f])) hc hc';exact⟨by rw[j,h],k⟩
def OJ(l:List aB):Ks (cb l)=cb l:=by
 have h:∀m:List aB,(m.map aB.aq).map (λ(c:bN)=>c.map bO)=m.map aB.aq:=λm=>by rw[List.map_map];exact EW λa _=>(aB.dB a).jg
 cases l with
 |nil=>rfl
 |cons a r=>exact congrArg (gG 35) (h (a::r))
def LM(l:List aB)(hw:∀a∈l,a.Wf/\a.v7/\a.raw.length<9223372036854775808)(S:G):DF F ID 3 [cb l] S=J (.B Y,S):=by
 have⟨g,f,hg⟩:=Xp l (λa h=>(hw a h).1) S;have f:=via f;have n:=Kq;have i:tz (cb l):=(jn 35 (kb λx _=>aB.dB x)).y_;cases g with
 |true=>
  rw[fI e_3];generalize cb l=L at*;simp-implicitDefEqProofs [q_,rf, -aE,i,f,n]
 |false=>
  have⟨hl,hf⟩:=hg rfl;have q:Fit l:=⟨λa h=>⟨(hw a h).1,(hw a h).2.1⟩,λa h c=>by have:=aB.pT (hw a h).2.1 c;omega⟩;have j:=λT=>Ez l i.aO (OJ l) q T;have wE:nu l=vw 0 l []:=if_pos (by omega);rw[wE]at j;have v:∀a∈l,a.Wf/\a.v7/\a.Flat:=λa h=>⟨(hw a h).1,(hw a h).2.1,(hf a h).1⟩;have L:=λX E=>R6 v hl X E S.length S l [] rfl (by simp);rw[show(([]:List aB).length:Int)=0 from rfl,show cw []=[]from rfl]at L;have U:b6 .eql (.dA cC) Y .aD .aD=J (.B Y):=rfl;by_cases b:∀x∈l,x.code=0
  ·rw[OI l 0 [] b,rB]at j
   have d:∀X E,DC F ID (.L cQ) ⟨[(0,cb l),(3,X),(4,E),(5,.S []),(6,.I V 0),(7,.I V (-1)),(8,.I V 0)],[],S.length⟩ S=
    J (.E 0,⟨[(0,cb l),(3,X),(4,E),(5,.S (cw l)),(6,.I V 0),(7,.I V (-1))],[],S.length⟩,S):=λX E=>by
    rcases L X E with⟨_,h⟩|⟨p,a,r,w,e,_,c,_⟩;·exact h
    ·exact absurd (b a (by rw[e];simp)) c
   obtain⟨r,g2,I⟩:=FA l (λa h=>⟨(hw a h).1,(hw a h).2.1,b a h⟩) (by omega) S;have I:=via I;obtain⟨o,N,tk,k⟩:∃o N,aK [] (.bP [r,.aD])=(.bP [o,.aD],N)/\cY 35 o N (l.map aB.aq):=by
    rcases g2 with⟨e,rfl⟩|rfl|rfl;·exact⟨.ar,[],rfl,.inl ⟨e,rfl⟩⟩
    ·exact⟨_,[],rfl,.inr (.inl rfl)⟩
    ·exact⟨.sl (.fr 0) 35 (l.map aB.aq),[J (l.map aB.aq).length],rfl,.inr (.inr ⟨0,rfl,rfl⟩)⟩
   have y1:=k.z6;have y2:cJ (aH o)=cb l:=k.cJ;have y3:=k.lock;have y4:=k.oM;have R:=λT=>via (TS l (λa h=>⟨(hw a h).1.cO,(hw a h).2.2⟩) (by omega) T);have M:∀t,aK t (.bP [.S (cw l),.aD])=(.bP [.S (cw l),.aD],t):=λ_=>rfl;have z:aE .neq (.I V 0) (.I V 0)=J (.B O):=rfl;have B:bG .eql (.S (cw l)) (.S (cw l))=J (.B Y):=by show J (AV.B (cw l==cw l))=_;simp
   have re:=mJ;rw[fI e_3];generalize cb l=P,cw l=s at*;simp-implicitDefEqProofs [q_,rf, -aE, -bG,i,f,j,M,bJ];rw[ak cW];simp-implicitDefEqProofs [q_,rf, -aE, -bG,d,z,I,tk,bJ,re,U,B,y1,y2,y3,y4,R,i,n]
  ·obtain⟨p,a,r,e,m,c,d⟩:∃p a r,l=p++a::r/\(∀x∈p,x.code=0)/\a.code≠0/\∀X E,∃w,DC F ID (.L cQ) ⟨[(0,cb l),(3,X),(4,E),(5,.S []),(6,.I V 0),(7,.I V (-1)),(8,.I V 0)],[],S.length⟩ S=
    J (.E 0,⟨[(0,cb l),(3,X),(4,E),(5,w),(6,.I V (a.code:Int)),(7,.I V (p.length:Int))],[],S.length⟩,S):=by
    rcases L .U .U with⟨h,_⟩|⟨p,a,r,w,e,m,c,_⟩;·exact absurd h b
    ·refine⟨p,a,r,e,m,c,λX E=>?_⟩
     rcases L X E with⟨h,_⟩|⟨p',Q,r',w',e',y,u,hd⟩;·exact absurd h b
     ·have A:=Ky p p' r r' a Q (e.symm.trans e') m y c u
      obtain⟨rfl,rfl⟩:=A;exact⟨w',hd⟩
   have wB:vw 0 l []=.bP [.S [],cE a.code p.length]:=by rw[e,ZG p r a 0 [] m c,wL]
   rw[wB]at j;obtain⟨w,d⟩:=d (.S []) (cE a.code p.length);have td:=λT=>via (Kv a.code p.length c T);have M:∀t,aK t (.bP [.S [],cE a.code p.length])=(.bP [.S [],cE a.code p.length],t):=λ_=>rfl;have z:aE .neq (.I V (a.code:Int)) (.I V 0)=J (.B Y):=by show J (AV.B (!((a.code:Int)==0)))=_;simp[c]
   have B:bG .eql (.S ([]:K)) (.S [])=J (.B Y):=rfl;have de:tz (cE a.code p.length):=(HD _ _).y_;rw[fI e_3];generalize cb l=P,(a.code:Int)=C,cE a.code p.length=Er at*;simp-implicitDefEqProofs [q_,rf, -aE, -bG,i,f,j,M,bJ];rw[ak cW];simp-implicitDefEqProofs [q_,rf, -aE, -bG,d,z,de,td,B,n]
end
section
section
variable{H:Type}{aq:bH × aW->H}{W:bh}{base:Nat}{sp:Nat->Bool}{held:Bool}
def Y8:Tryz.prog.cellsOf 40=1:=by kernel_rfl
def Wy:Tryz.prog.cellsOf 43=1:=by kernel_rfl
def Wz:Tryz.prog.cellsOf 44=1:=by kernel_rfl
def Qb:Tryz.prog.cellsOf 42=3:=by kernel_rfl
def Ru:Tryz.prog.cellsOf 102=12:=by kernel_rfl
def LZ:Tryz.prog.cellsOf 46=20:=by kernel_rfl
def aaX:Tryz.prog.cellsOf 39=10:=by kernel_rfl
def aiR:Tryz.prog.cellsOf 5=1:=by kernel_rfl
def ac6:∀(n:Nat)(cs:List aW)(y:DataW H × List MemPlace),DataW.trod aq dE W base sp held n 42 cs=J y->∃v:bM,v.Wf/\w5 W v.aq cs:=by
 intro n;induction n using Nat.strongRecOn with
 |ind n p=>
  intro cs y h;cases n with
  |zero=>trivial
  |succ n=>
   have⟨b,a⟩:=r_ (P:=dE) Tryz.underlying42 h;rw[Qb]at b;have⟨x,j⟩:=a 0 _ rfl;have⟨z,l⟩:=a 1 _ rfl;have⟨A,m⟩:=a 2 _ rfl;have⟨k,c,t⟩:=kZ Tryz.underlying3 j yd;have⟨q,g,d,u⟩:=lI (f:=λs:K=>[AV.S s]) Tryz.underlying33 Ek y9 (WA _) l Rv;have⟨r,i,e,w⟩:=lI (f:=bM.aq) Tryz.underlying40 Qb y9 (p (n+1 -1 -1) D) m Y8;refine⟨.mk k q r,(.mk _ ⟨(wf_i64 c).1,(wf_i64 c).2,g,d,i⟩ e), ?_⟩;rw[bM.hO];have:=(t.part (o:=0) (n:=1) rfl (u.part rfl (w.part rfl (.end_ (o:=3) b))));assumption
def Y9:∀(n:Nat)(cs:List aW)(y:DataW H × List MemPlace),DataW.trod aq dE W base sp held n 102 cs=J y->∃v:eB,(v.x.Wf/\v.y.Wf)/\w5 W v.aq cs:=by intro n cs y h;have⟨f,e⟩:=r_ (P:=dE) Tryz.underlying102 h;rw[Ru]at f;have⟨l,g⟩:=e 0 _ rfl;have⟨m,i⟩:=e 1 _ rfl;have⟨a,j,c⟩:=rd_val _ _ _ g;have⟨b,k,d⟩:=rd_val _ _ _ i;have c:w5 W a.aq ((cs.drop 0).take (Tryz.prog.cellsOf 37)):=c;rw[Ck]at c;have d:w5 W b.aq ((cs.drop 6).take (Tryz.prog.cellsOf 37)):=d;rw[Ck]at d;refine⟨⟨a,b⟩,⟨j,k⟩, ?_⟩;have:=(c.part (o:=0) (n:=6) ck (d.part ck (.end_ (o:=12) f)));simpa[eB.aq]using this
def Y7:∀(n:Nat)(cs:List aW)(y:DataW H × List MemPlace),DataW.trod aq dE W base sp held n 46 cs=J y->∃v:bF,v.Wf/\w5 W v.aq cs:=by
 intro n;induction n using Nat.strongRecOn with
 |ind n I=>
  intro cs y h;cases n with
  |zero=>trivial
  |succ n=>
   have⟨i,c⟩:=r_ (P:=dE) Tryz.underlying46 h;rw[LZ]at i;have⟨y0,r⟩:=c 0 _ rfl;have⟨y1,s⟩:=c 1 _ rfl;have⟨y2,x⟩:=c 2 _ rfl;have⟨y3,z⟩:=c 3 _ rfl;have⟨y4,A⟩:=c 4 _ rfl;have⟨y5,B⟩:=c 5 _ rfl;have⟨y6,C⟩:=c 6 _ rfl;have⟨y7,E⟩:=c 7 _ rfl;have⟨k,j,N⟩:=kZ Tryz.underlying3 r yd;have⟨a,w1,Q⟩:=Bp Tryz.underlying9 s Ek;have⟨b,w2,R⟩:=Bp Tryz.underlying9 x Ek;have⟨t,U,d⟩:=ac6 _ _ _ z;have⟨u,X,e⟩:=rd_val _ _ _ A;have⟨w,s5,g⟩:=rd_val _ _ _ B;have d:w5 W t.aq ((cs.drop 3).take (Tryz.prog.cellsOf 42)):=d;rw[Qb]at d;have e:w5 W u.aq ((cs.drop 6).take (Tryz.prog.cellsOf 37)):=e;rw[Ck]at e;have g:w5 W w.aq ((cs.drop 12).take (Tryz.prog.cellsOf 37)):=g;rw[Ck]at g;have⟨M,p,l,S⟩:=lI (f:=eB.aq) Tryz.underlying43 Ru y9 (Y9 _) C Wy;have⟨L,q,m,T⟩:=lI (f:=bF.aq) Tryz.underlying44 LZ y9 (I (n+1 -1 -1) D) E Wz;refine⟨.mk k a b t u w M L,(.mk _ ⟨(wf_i64 j).1,(wf_i64 j).2,w1,w2,U,X,s5,p,l,q⟩ m), ?_⟩;rw[bF.hO];have:=(N.part (o:=0) (n:=1) rfl (Q.part rfl (R.part rfl (d.part ck (e.part ck (g.part ck (S.part rfl (T.part rfl (.end_ (o:=20) i)))))))));assumption
def aiQ:∀(n:Nat)(cs:List aW)(y:DataW H × List MemPlace),DataW.trod aq dE W base sp held n 39 cs=J y->∃v:l9,v.Wf/\w5 W v.aq cs:=by intro n cs y h;have⟨g,b⟩:=r_ (P:=dE) Tryz.underlying39 h;rw[aaX]at g;have⟨I,q⟩:=b 0 _ rfl;have⟨L,r⟩:=b 1 _ rfl;have⟨M,t⟩:=b 2 _ rfl;have⟨N,u⟩:=b 3 _ rfl;have⟨Q,w⟩:=b 4 _ rfl;have⟨k,j,z⟩:=kZ Tryz.underlying3 q yd;have⟨x,p,d,A⟩:=lI (f:=ej.aq) Tryz.underlying31 Rw y9 (Y_ _) r WB;have⟨i,l,B⟩:=kZ Tryz.underlying32 t L2;have⟨a,m,C⟩:=kZ Tryz.underlying32 u L2;have⟨v,E,c⟩:=rd_val _ _ _ w;have c:w5 W v.aq ((cs.drop 4).take (Tryz.prog.cellsOf 37)):=c;rw[Ck]at c;refine⟨⟨k,x,i,a,v⟩,⟨(wf_i64 j).1,(wf_i64 j).2,p,λs e=>⟨(d s e).1,(d s e).2.1,(d s e).2.2⟩,(wf_u64 l).1,(wf_u64 l).2,(wf_u64 m).1,(wf_u64 m).2,E⟩, ?_⟩;have:=(z.part (o:=0) (n:=1) rfl (A.part rfl (B.part rfl (C.part rfl (c.part ck (.end_ (o:=10) g))))));simpa[l9.aq,eO]using this
end
end
section
section
variable{H:Type}{aq:bH × aW->H}{W:bh}{base:Nat}{sp:Nat->Bool}{held:Bool}
def ac5:Tryz.prog.cellsOf 47=1:=by kernel_rfl
def Wj:Tryz.prog.cellsOf 49=35:=by kernel_rfl
def P6{k:Int}(h:(Lit.int .u8 k).wf=Y):∃b:UInt8,k=(b.toNat:Int):=by
 have c:0<=k/\k<=255:=by simpa[Lit.wf,IntKind.min,IntKind.max,IntKind.signed,IntKind.bits]using h
 refine⟨dt k.toNat, ?_⟩;have a:(dt k.toNat).toNat=k.toNat:=UInt8.toNat_ofNat_of_lt (show k.toNat<256 by omega);rw[a];omega
def aiP(n:Nat)(cs:List aW)(y:DataW H × List MemPlace)(h:DataW.trod aq dE W base sp held n 5 cs=J y):∃b:UInt8,True/\w5 W [cg b] cs:=by obtain⟨i,a,c,_⟩:=Hq (P:=dE) Tryz.underlying5 h;subst a;obtain⟨b,rfl⟩:=P6 c;exact⟨b,trivial,.cons (λ_ _=>.int .u8 _) rfl .nil⟩
def acU(n:Nat)(cs:List aW)(y:DataW H × List MemPlace)(h:DataW.trod aq dE W base sp held n 49 cs=J y):∃v:aB,(v.Wf/\v.v7/\v.raw.length<9223372036854775808)/\w5 W v.aq cs:=by
 have⟨g,c⟩:=r_ (P:=dE) Tryz.underlying49 h;rw[Wj]at g;have⟨y0,t⟩:=c 0 _ rfl;have⟨i,u⟩:=c 1 _ rfl;have⟨j,w⟩:=c 2 _ rfl;have⟨m,x⟩:=c 3 _ rfl;have⟨y4,z⟩:=c 4 _ rfl;have⟨y5,A⟩:=c 5 _ rfl;have⟨y6,B⟩:=c 6 _ rfl;have⟨k,w0,C⟩:=kZ Tryz.underlying3 t yd;have⟨a,N,E⟩:=kZ Tryz.underlying3 u yd;have⟨b,Q,I⟩:=kZ Tryz.underlying3 w yd;have⟨v,R,L⟩:=kZ Tryz.underlying3 x yd;have⟨o,p,d⟩:=aiQ _ _ _ z;have⟨l,q,e⟩:=Y7 _ _ _ A;have⟨s,r,X,M⟩:=lI (f:=λb=>[cg b]) Tryz.underlying47 aiR y9 (aiP _) B ac5;have d:w5 W o.aq ((cs.drop 4).take (Tryz.prog.cellsOf 39)):=d;rw[aaX]at d;have e:w5 W l.aq ((cs.drop 14).take (Tryz.prog.cellsOf 46)):=e;rw[LZ]at e;have S:=wf_i64 N;have T:=wf_i64 Q;have U:=wf_i64 R;have i:a<=9223372036854775807:=by omega
 have j:b<=9223372036854775807:=by omega
 have m:v<=9223372036854775807:=by omega
 refine⟨⟨k,a,b,v,o,l,s⟩,⟨⟨p,q⟩,⟨S.1,i,T.1,j,U.1,m⟩,r⟩, ?_⟩;have:=(C.part (o:=0) (n:=1) rfl (E.part rfl (I.part rfl (L.part rfl (d.part ck (e.part ck (M.part rfl (.end_ (o:=35) g))))))));simpa[aB.aq,cq]using this
end
end
end Go.Proofs.YteipnkjhnbaipaaGreatDoor.am
namespace Go.Proofs.YteipnkjhnbaipaaGreatDoor.tapeWrites
open Go Go.RowKit Go.ChangeShapes Go.Proofs.YteipnkjhnbaipaaGreatDoor.am
open Option renaming some->J,none->Z,map_eq_some_iff->od
open Bool renaming false->O,true->Y,and_eq_true->j5
open Go.IntKind renaming i64->V,wrap->gh,u64->bm
open Option.some renaming inj->ff
open UInt8 renaming ofNat->dt
open Go.Proofs.Tryz renaming prog->dE
open Decidable renaming decide->aN
open Go.Value renaming pointer->bn
open List renaming drop_eq_nil_of_le->iy,replicate->eL,length_append->jf,take_of_length_le->ob,length_cons->jI,append_assoc->oH,length_nil->nI,range->jX
open Go renaming TypeId->bH,Value->aW,Program->cj,World->bh,FuncId->db
open Nat renaming le_refl->eI
open Go.Obj renaming cells->cN
open Go.Proofs.YteipnkjhnbaipaaGreatDoor.am renaming St->G,om->D,aG->F,AV->H,nk->W,bu->K
def own:ownKnob Tryz.prog.godebug=Z:=by kernel_rfl
def laidOut:laidOutB dE=Y:=by kernel_rfl
def mixed:Tryz.prog.follows .mixedOrders=Y:=by kernel_rfl
set_option maxRecDepth 100000 in
def abq(b:Type)(aq:bH × aW->b)(W:bh)(base:Nat)(args:Array aW)(w C:List (DataW b))(c:List MemPlace)
 (d:∀(j:Nat) t v,Tryz.f3.params[j]? =J t->args[j]? =J v->Value.okWide dE W .any base t v)
 (A:DataW.Whole aq dE Tryz.f3.params.toList Rows.tapeWritesSpec.vars O W args.toList w C c) (M:laidMetH dE laidB W):
 Calls dE 3 args W λe u=>∃v,e=.returned v/\Rows.tapeWritesSpec.post aq dE Tryz.f3 O Y O O W args v u:=by
 have o:=A;obtain⟨p,q,n,hV,rfl,P,S⟩:=A;have z:DataW.TrodAll aq dE W 0 (λ_=>Y) Y Tryz.f3.params.toList args.toList w p:=n;rw[Tryz.params3]at z d;obtain⟨U,X,rfl,s,n0,E⟩:=trodAll_one z;obtain⟨l,y,I,h3,Q,L⟩:=NS (f:=aB.aq) (R:=λv=>v.Wf/\v.v7/\v.raw.length<9223372036854775808) Tryz.underlying22 Wj (by decide) (acU _) E;obtain⟨m,i,g,rfl⟩:=Go.WideShapes.okWide_slice Tryz.underlying22 (d 0 22 U (by simp) (by simp));have T:YO W (cb l) (.slice m i g):=by
  have e:[Value.slice m i g]=[y]:=by simpa[Value.cells]using I
  cases e;exact L
 subst s;refine(J4 (nk:=ID) mixed named HA Ei (LM l Q []) (W:=W) (aaV M) (args:= #[.slice m i g]) (λa N=>by rw[sN.1 N];exact N5 l) rfl (λj x k=>?_)).mono λe u h=>?_
 ·match j,k with
  |0,k=>simp at k;subst k;exact⟨_,rfl,T⟩
  |j+1,k=>simp at k
 ·obtain⟨rfl,r⟩:=h
  refine⟨_,rfl,NT (tb:=4) laidOut (by rw[Tryz.params3];intro t B;simp at B;subst B;exact⟨by kernel_rfl,of_decide_eq_true (by kernel_rfl)⟩) rfl (by kernel_rfl) Tryz.underlying4 (λe=>?_) o r⟩;subst e;rfl
set_option maxRecDepth 100000 in
def lifted(os:Os)(d:os.Started)(a:Type)(aq:bH × aW->a):
 ReturnsInHanded {} Tryz.checked os 3 .any (λw c=>(Rows.tapeWritesSpec.pre aq dE Tryz.f3 [] O w c/\laidMetH dE laidB w)/\sizedMet aq dE Tryz.f3 (OpenSpec.ofChange Rows.tapeWritesSpec) O w c)
  (Rows.tapeWritesSpec.post aq dE Tryz.f3 O Y O O):=by
 refine returnsInHanded_of_change_and (C:=Tryz.checked) (X:=λw _=>laidMetH dE laidB w) (λ_ _ _ m h=>h.of_heap m) own d (by kernel_rfl) Tryz.func3
  (ChangeSpec.witness_at (enc:=aq) (C:=Tryz.checked) (os:=os) (X:=λw _=>laidMetH dE laidB w) O (Bk os)
   #[.slice Z 0 0] 8 rfl (by kernel_rfl) (by kernel_rfl) (by kernel_rfl) (by kernel_rfl) (by kernel_rfl) (Fe os _)) ?_
 intro b f c i j e g l _ _ k _;exact abq a aq b f c i j e g l k
def j1:(Rows.tapeWritesRow.inPlace==Tryz.pinned.checked.prog.inPlace 3)=Y:=by kernel_rfl
def j2:(Rows.tapeWritesRow.unfollowed==Tryz.pinned.checked.prog.unfollowed 3)=Y:=by kernel_rfl
def j3:(Rows.tapeWritesRow.recurses==Tryz.pinned.checked.prog.recurses 3)=Y:=by kernel_rfl
def j4:(Rows.tapeWritesRow.named==Tryz.pinned.checked.prog.varsNamed 3)=Y:=by kernel_rfl
def closed:joinedFacts Tryz.pinned.checked.prog 3 Tryz.f3 Rows.tapeWritesSpec Rows.tapeWritesRow=Y:=by unfold joinedFacts;rw[j1,j2,j3,j4];kernel_rfl
def abk:Rows.TapeWritesSaid:=
 OpenClaim.holds_of_wide 3 Tryz.f3 rfl rfl rfl rfl rfl rfl rfl ⟨rfl,rfl,rfl,rfl,rfl⟩ rfl rfl rfl rfl rfl (by kernel_rfl) Tryz.func3 closed
  (of_decide_eq_true (by kernel_rfl)) (by unfold Func.isWrapper;first|(rw[if_pos (by decide+kernel)];kernel_rfl)|(rw[if_neg (by decide+kernel)];exact⟨rfl,rfl⟩))
  (λd b a c _=>lifted d b a c)
theorem tapeWrites_holds:Rows.TapeWritesCardSaid:=
 Claim7.holds_tied_plain_at .later [] [.data,.data,.data,.data,.handle,.sentinel,.sentinel,.pinned] Y (Y,"9219b8cedbf17cfdf46ddaadfaf585a20939529e5416ce756c67cadf36503abb") Y
  abk (λ_ h=>by cases h) (by kernel_rfl) (λ_ h=>by cases h) tapeWrites_row_tie rfl ⟨rfl,rfl⟩ (by kernel_rfl) rfl
  (λf c d b=>by
   obtain rfl:f=3:=ff ((show Tryz.prog.funcNamed "dioptre/dioptrelaw30.TapeWrites" =J 3 by kernel_rfl).symm.trans d)|>.symm;obtain rfl:c=Tryz.f3:=(ff (Tryz.func3.symm.trans b)).symm
   exact⟨by kernel_rfl,λj t a=>by
    rw[Tryz.params3]at a;rcases j with _|j;·simp at a;subst a;exact(show Tryz.prog.wantsStandIn 22=O by kernel_rfl)
    ·simp at a⟩)
  (by kernel_rfl)
end Go.Proofs.YteipnkjhnbaipaaGreatDoor.tapeWrites
namespace Go.Proofs.YteipnkjhnbaipaaGreatDoor.am
open Go Go.RowKit
open Option renaming some->J,none->Z,map_eq_some_iff->od
open Bool renaming false->O,true->Y,and_eq_true->j5
open Go.IntKind renaming i64->V,wrap->gh,u64->bm
open Option.some renaming inj->ff
open UInt8 renaming ofNat->dt
open Go.Proofs.Tryz renaming prog->dE
open Decidable renaming decide->aN
open Go.Value renaming pointer->bn
open List renaming drop_eq_nil_of_le->iy,replicate->eL,length_append->jf,take_of_length_le->ob,length_cons->jI,append_assoc->oH,length_nil->nI,range->jX
open Go renaming TypeId->bH,Value->aW,Program->cj,World->bh,FuncId->db
open Nat renaming le_refl->eI
open Go.Obj renaming cells->cN
open Go.Proofs.YteipnkjhnbaipaaGreatDoor.am renaming St->G,om->D,aG->F,AV->H,nk->W,bu->K
section
open Go.Lib
def Qm(S:G):H->Option H
 |.sl (.l8 _) sz es=>if dy es=Y then J (.sl .N sz es)else Z
 |v=>wb S 0 12 v
section
variable{base:Nat}{bg:Nat->Prop}{S:G}{w:bh}{mu:kF}{hw:Nat->Nat}{ti:Id->TI}(I:Inv base bg [] S w mu hw ti)
include I
theorem Qn(b:Nat)(h:w.heap.size<=b):settle w 0 mu hw b=0:=by rw[uC (λi _ e=>by have:=(I.iS i b e).2.2.1;omega)];exact I.qq b h
theorem Qo:IB base w (settle w 0 mu hw):=I.rW.mono (λ_=>uD I) (λ_ _ _ _ h=>h) (eI _) (λ_ _=>rfl)
theorem ZH{v d:H}{x:aW}(h:RV w mu hw (fM S mu) v x)(e:Qm S v=J d):RY w (settle w 0 mu hw) d x/\aO d=Y:=by
 unfold Qm at e;split at e
 ·rename_i i t z
  split at e;case isFalse=>cases e
  rename_i u;cases e;refine⟨?_,u⟩;cases h with
  |sl _ _ _ b o s p f A U T E L B C=>
   refine .sl .N t z b o s p f A (by nofun) (by nofun) (by nofun) L (λc g j a l m=>?_) (λc g j a l m=>?_)
   ·have⟨P,x2,n⟩:=B c g j a l m
    refine⟨P, ?_,n⟩;cases k:w.heap[b]? with
    |none=>simp[World.cell?,k]at n
    |some M=>
     cases M with
     |cells X Q R=>
      have y:=n;rw[dY k]at y;rw[show SC .N (λ_=>Z) (settle w 0 mu hw) (λ_=>False) b (o+c*t+j)=(o+c*t+j<settle w 0 mu hw b)from rfl,Cc (rA _) (E i rfl).1 k];exact(ET.1 y).1
     |_=>simp[World.cell?,k]at n
   ·have N:aO a=Y:=by have q:=jc.1 u g (fH l);exact r8.1 q a (fH m)
    exact GR (λb o r=>wN r (uD I)) N (C c g j a l m)
 ·exact⟨Uv I 12 v d x h e,(rX 12 v d e).1⟩
end
def Ip:H->Bool
 |.B _|.I _ _|.S _|.aD=>Y
 |.dA _ (.I _ _)=>Y
 |_=>O
def A7:H->Bool
 |.bP vs=>vs.all Ip
 |v=>Ip v
def OK{w w':bh}{mu mu':kF}{hw hw':Nat->Nat}{lk lk':Nat->Prop}{a:H}{v:aW}(b:Ip a=Y)(h:RV w mu hw lk a v):RV w' mu' hw' lk' a v:=by
 cases h with
 |bool=>exact .bool _
 |int=>exact .int _ _
 |str=>exact .str _
 |aD=>exact .aD
 |dA t a v c h=>
  cases h with
  |int=>exact .dA _ _ _ c (.int _ _)
  |_=>cases b
 |_=>cases b
def Xq{w w':bh}{mu mu':kF}{hw hw':Nat->Nat}{lk lk':Nat->Prop}{a:H}{v:aW}(b:A7 a=Y)(h:RV w mu hw lk a v):RV w' mu' hw' lk' a v:=by
 cases h with
 |bP g f e=>exact .bP g f λj a c=>OK (qw.1 b a (fH c)) (e j a c)
 |bool=>exact .bool _
 |int=>exact .int _ _
 |str=>exact .str _
 |aD=>exact .aD
 |dA t a v d h=>exact OK (a:=.dA t a) b (.dA t a v d h)
 |_=>cases b
def OL{a:H}(b:Ip a=Y)(t:ch):cy t a=(a,t):=by cases a<;>first|rfl|cases b
def Qp{a:H}(d:A7 a=Y):aK [] a=(a,[]):=by
 cases a with
 |bP b=>
  have c:∀(b:bN) t,b.all Ip=Y->dD t b=(b,t):=by
   intro b;induction b with
   |nil=>intro t _;rfl
   |cons x r e=>
    intro t h;simp only[Q8,j5]at h;simp[dD,OL h.1,e t h.2]
  simp[aK,c b [] d]
 |_=>first|rfl|cases d
def Qq{a:H}(b:Ip a=Y)(c:lj)(ti:Id->TI)(v:aW):fO c ti a v:=by cases a<;>first|trivial|cases b
def Qr{a:H}(b:A7 a=Y)(f:lj)(ti:Id->TI)(v:aW):dx f ti a v:=by
 cases a with
 |bP g=>exact λc e j a x d _=>Qq (qw.1 b a (fH d)) _ _ _
 |_=>first|trivial|cases b
def OM{a:H}(c:A7 a=Y):aC a=Y:=by
 have b:∀{a:H},Ip a=Y->aO a=Y:=by
  intro a h;cases a with
  |dA t x=>cases x<;>first|rfl|cases h
  |_=>first|rfl|cases h
 cases a with
 |bP e=>
  refine qw.2 λx d=>?_;have h:=qw.1 c x d;have:=b h;cases x<;>first|exact this|cases h
 |_=>first|exact b c|cases c
def ON{base:Nat}{bg:Nat->Prop}{S:G}{w w':bh}{mu:kF}{hw b:Nat->Nat}{ti:Id->TI}(I:Inv base bg [] S w mu hw ti){r:H}{e:Ending}(a:A7 r=Y)(h:B2 w b r e w'):Cz dE base bg S w mu hw ti r S e w':=by obtain⟨v,d,rfl,c,_,_,g⟩:=h;exact oR I c (λ_ _ _=>Xq a g) (Qp a) (λf ti=>Qr a f ti v)
end
section
open Go.Lib
abbrev ZI:db:=12
def Qs{b:lj}{ti:Id->TI}{a:H}{v:aW}(h:aO a=Y):dx b ti a v:=by
 unfold dx;split;·cases h
 ·exact E2 h
def OO{f:db}{c:bN}{r:H}(h:DF F nk f c []=J (r,[])){base:Nat}{W:bh}{hw:Nat->Nat}(u:IB base W hw)(d:base<=W.heap.size)(z:∀b,W.heap.size<=b->hw b=0){args:nR}(x:c.length=args.size)
 (q:∀(j:Nat)(a:H),c[j]? =J a->∃v,args[j]? =J v/\RY W hw a v/\aO a=Y):Calls dE f args W (B2 W hw (aK [] r).1):=by
 obtain⟨n,y⟩:=(ue _).1 h
 have I:Inv W.heap.size (λb=>b<W.heap.size) [] [] W (λ_=>Z) hw (λ_=>⟨0,0,0,0⟩):=by
  refine⟨λi R b h=>by simp at h,λi S Q l b h=>by simp at h,λi j b h=>by simp at h,λi b h=>by simp at h,z,λid L h=>?_,λid E L P h=>?_,λb h=>h,eI _,u.mono (λ_=>eI _) (λ_ _ _ _ h=>h) d (λ_ _=>rfl)⟩;·cases id<;>simp[bp]at h
  ·cases id<;>simp[bp]at h
 have⟨_,s⟩:=xH Qk named Rj Ei n f c [] _ _ y W.heap.size (λb=>b<W.heap.size) W (λ_=>Z) hw (λ_=>⟨0,0,0,0⟩) args I x (λj a w=>by have⟨v,C,B,t⟩:=q j a w;exact⟨v,C,B.mono (λ_ _ e=>e) (λ_ _ e=>e) (λ_ e=>e.elim) (λ_ _ _ _ e=>e),Qs t⟩);refine s.mono λe T A=>?_;obtain⟨v,rfl,o,m,N,p,ext,_,M,_⟩:=A;have k:∀i b,o i=J b->False:=λi b g=>by have:=(p.iS i b g).1;simp at this
 refine⟨v,m,rfl,ext.xC.toBelow,λb g=>(ext.zB b g).2,p.qq, ?_⟩;exact M.mono (λi b e=>(k i b e).elim) (λ_ _ e=>e) (λb e=>by obtain⟨i,_,_,h,_⟩:=e;simp at h) (λ_ _ _ _ e=>e)
def Ji(p:H->Option H)(args:bN)(S:G):Option (H × G):=match args with
 |[x]=>match Qm S x with
  |some y=>match p y with
   |some r=>if A7 r=Y then J (r,S)else Z
   |none=>Z
  |none=>Z
 |_=>Z
def OP{p:H->Option H}{args:bN}{S:G}{r:H}{S':G}(h:Ji p args S=J (r,S')):∃x y,args=[x]/\Qm S x=J y/\p y=J r/\A7 r=Y/\S'=S:=by
 unfold Ji at h;split at h
 ·rename_i x
  split at h
  ·rename_i y c
   split at h
   ·rename_i d b
    split at h
    ·rename_i a
     cases h;exact⟨x,y,rfl,c,b,a,rfl⟩
    ·cases h
   ·cases h
  ·cases h
 ·cases h
def Kz{F:db}{p:H->Option H}(n:∃fn c,Tryz.prog.funcs[F]? =J fn/\fn.body=J c)
 (q:∀x r,p x=J r->A7 r=Y->∀(base:Nat)(W:bh)(hw:Nat->Nat),IB base W hw->base<=W.heap.size->(∀b,W.heap.size<=b->hw b=0)->∀v,RY W hw x v->aO x=Y->Calls dE F #[v] W (B2 W hw r))
 {args:bN} {S:G} {r:H} {S':G} (h:Ji p args S=J (r,S')) {base:Nat} {bg:Nat->Prop} {w:bh} {mu:kF} {hw:Nat->Nat} {ti:Id->TI} {f:nR} (I:Inv base bg [] S w mu hw ti) (o:args.length=f.size)
 (m:∀(j:Nat)(a:H),args[j]? =J a->∃v,f[j]? =J v/\RV w mu hw (fM S mu) a v/\dx (bp [] S mu) ti a v):
 (∃fn c,Tryz.prog.funcs[F]? =J fn/\fn.body=J c)/\Calls dE F f w (Cz dE base bg S w mu hw ti r S'):=by
 obtain⟨x,y,rfl,t,s,i,rfl⟩:=OP h;refine⟨n, ?_⟩;obtain⟨v,l,A,_⟩:=m 0 _ rfl;have g:f= #[v]:=by
  apply zJ;intro k;match k with
  |0=>simpa using l
  |k+1=>
   have:f.size=1:=by simpa using o.symm
   rw[zR (by omega)];simp
 subst g;have⟨u,z⟩:=ZH I A t;exact(q y r s i base w _ (Qo I) I.mf (Qn I) v u z).mono λe B d=>ON I i d
noncomputable def wrA(y:H):Option H:=(oU [y] []).map (·.1)
noncomputable def ED(args:bN)(S:G):Option (H × G):=match oU args S with
 |some r=>J r
 |none=>Ji wrA args S
open Classical in
noncomputable def liA(y:H):Option H:=match DF F W ZI [cJ y] []with
 |some (r,[])=>if aO (cJ y)=Y/\(aK [] r).1=r then J r else Z
 |_=>Z
noncomputable def tj:cp:=kU ID (DF F ID)
def rh{f:db}{args:bN}{S:G}{r:H × G}(a:ID.j6 f=Z)(h:DF F ID f (args.map cJ) S=J r):tj f args S=J r:=by unfold tj kU;rw[a];exact h
def R7{f:db}{args:bN}{S:G}{r:H × G}(h:tj f args S=J r):∃n,kU ID (uT F ID n) f args S=J r:=by
 unfold tj kU at h;split at h
 ·rename_i p a
  exact⟨0,by unfold kU;rw[a];exact h⟩
 ·rename_i a
  obtain⟨n,b⟩:=(ue _).1 h;exact⟨n,by unfold kU;rw[a];exact b⟩
def TT:iT dE tj:=λf a S r b h=>by obtain⟨n,c⟩:=R7 h;exact E3 HA (xH Qk named HA Ei n) f a S r b c
def TU:gD tj:=λf a S r b h=>by obtain⟨n,c⟩:=R7 h;exact zN HA (JK HA Ei n) f a S r b c
noncomputable def OQ(f:db):bN->G->Option (H × G):=if f=Mw then ED else if f=ZI then Ji liA else tj f
noncomputable def nkL:NK:=⟨λ_=>O,λf=>J (OQ f)⟩
def oW(f:db):nkL.j6 f=J (if f=7 then ED else if f=12 then Ji liA else tj f):=rfl
def oX(f:db):nkL.dJ f=O:=rfl
def adH:∃fn c,Tryz.prog.funcs[Mw]? =J fn/\fn.body=J c:=uu Tryz.func7 (by kernel_rfl)
def adI:∃fn c,Tryz.prog.funcs[ZI]? =J fn/\fn.body=J c:=uu Tryz.func12 (by kernel_rfl)
def Xr(x r:H)(h:wrA x=J r)(_:A7 r=Y)(base:Nat)(W:bh)(hw:Nat->Nat)(f:IB base W hw)(e:base<=W.heap.size)(i:∀b,W.heap.size<=b->hw b=0)(v:aW)(k:RY W hw x v)(_:aO x=Y):Calls dE Mw #[v] W (B2 W hw r):=by
 unfold wrA oU at h;split at h;case isFalse=>cases h
 rename_i a;obtain⟨m,c,j,g,d⟩:=a.choose_spec;generalize a.choose=l at*;cases h;obtain rfl:=(Hh c).1;exact Fx l d f e i g k
def Xs(x r:H)(h:liA x=J r)(_:A7 r=Y)(base:Nat)(W:bh)(hw:Nat->Nat)(g:IB base W hw)(e:base<=W.heap.size)(i:∀b,W.heap.size<=b->hw b=0)(v:aW)(l:RY W hw x v)(_:aO x=Y):Calls dE ZI #[v] W (B2 W hw r):=by
 unfold liA at h;split at h;case h_2=>cases h
 rename_i m f;split at h;case isFalse=>cases h
 rename_i d;cases h
 have k:=OO f g e i (args:= #[v]) rfl (λj a c=>by
  match j,c with
  |0,c=>cases c;exact⟨v,rfl,RV.cJ l,d.1⟩
  |j+1,c=>simp at c)
 rw[d.2]at k;exact k
def R8{p:H->Option H}{args:bN}{S:G}{r:H}{S':G}(h:Ji p args S=J (r,S')):S.length<=S'.length/\ia S'.length (λk=>aN (S.length<=k)) r=Y/\eZ S.length S S'/\Ju S.length S':=by obtain⟨x,y,rfl,c,b,a,rfl⟩:=OP h;exact qV (OM a)
def acT:xG dE nkL:=by
 refine⟨λf p j=>?_,λf p j=>?_⟩
 ·have m:J (OQ f)=J p:=j
  cases m;clear j;intro g a S r i h d e w s q t b I l k;simp only at h;split at h;case isFalse=>cases h
  rename_i n;subst n;unfold OQ at h;split at h
  ·rename_i c
   subst c;unfold ED at h;split at h
   ·rename_i y o
    cases h;exact Kt Mw a S r i ((if_pos rfl).trans o) d e w s q t b I l k
   ·exact Kz adH Xr h I l k
  ·split at h
   ·rename_i c
    subst c;exact Kz adI Xs h I l k
   ·exact TT g a S r i h d e w s q t b I l k
 ·have m:J (OQ f)=J p:=j
  cases m;clear j;intro g a S r i h;simp only at h;split at h;case isFalse=>cases h
  rename_i n;subst n;unfold OQ at h;split at h
  ·rename_i c
   subst c;unfold ED at h;split at h
   ·rename_i y o
    cases h;exact Ku Mw a S r i ((if_pos rfl).trans o)
   ·exact R8 h
  ·split at h
   ·exact R8 h
   ·exact TU g a S r i h
end
def fQ(i:Nat):bN:=(ah.set 0 (.I V 5)).set 1 (.I V (i:Int))
def aL(i:Nat):aB:=⟨5,(i:Int),0,0,r9,jh,[]⟩
def eE(n:Nat):List aB:=(jX n).map aL
def su(i:Nat):(fQ i).length=35:=rfl
def FB(i:Nat):cJ (.A (fQ i))=.A (aL i).aq:=rfl
def yj(i:Nat):aH (.A (fQ i))=.A (fQ i):=rfl
def Ml(i:Nat):(aL i).code=0:=by simp[aB.code,aB.cR,aL,cZ,c7,uG]
def Mm:r9.Wf/\jh.Wf:=by have h:=Xb.wf Fs (by simp);exact⟨h.1.op,h.1.bU⟩
def R9(i:Nat):(aL i).Wf:=⟨Mm.1,Mm.2⟩
def Qt(i:Nat)(h:i<=1000):(aL i).v7:=⟨by show(-9223372036854775808:Int)<=(i:Int);omega,by show(i:Int)<=9223372036854775807;omega,by show(-9223372036854775808:Int)<=0;decide,by show(0:Int)<=9223372036854775807;decide,by show(-9223372036854775808:Int)<=0;decide,by show(0:Int)<=9223372036854775807;decide⟩
def Qu(n:Nat):eE (n+1)=eE n++[aL n]:=by simp[eE,List.range_succ]
def qn(n:Nat):(eE n).length=n:=by simp[eE]
def TV{n:Nat}{a:aB}(h:a∈eE n):∃i,i<n/\a=aL i:=by simp[eE]at h;obtain⟨i,b,c⟩:=h;exact⟨i,b,c.symm⟩
def mM{n:Nat}(c:n<=1000):Io (eE n):=λa h=>by obtain⟨i,b,rfl⟩:=TV h;exact⟨R9 i,Qt i (by omega),Ml i⟩
def vi(i:Nat):bN:=(jX i).flatMap fQ
def Dx(i:Nat):(vi i).length=i*35:=by
 unfold vi;induction i with
 |zero=>rfl
 |succ n a=>rw[List.range_succ,U7,jf,a];simp[su];omega
def KA(i:Nat):vi (i+1)=vi i++fQ i:=by simp[vi,List.range_succ]
def bL(n i:Nat):eR:=.M (vi i++(eL (n -i) ah).flatten) [] O
def adJ(k:Nat):((eL k ah).flatten).length=k*35:=by
 induction k with
 |zero=>rfl
 |succ k a=>rw[JD,MP,jf,a];show 35+_=_;omega
def adK(S:G)(n i:Nat)(h:i<n):a_ [] S.length (S++[bL n i]) 35 (.P S.length (i*35)) (.A (fQ i))=J ([],S++[bL n (i+1)]):=by
 have g:(S++[bL n i])[S.length]? =J (bL n i):=ug S _;have a:=Dx i;have f:=adJ (n -i);unfold bL at g⊢;simp only[a_,g];rw[if_pos (by
  refine⟨rfl,su i, ?_,.inl (eI _)⟩;rw[jf,a,f]
  have:(n -i)*35≥35:=by have:1<=n -i:=by omega
                        omega
  omega)]
 have e:aV (vi i++(eL (n -i) ah).flatten) (i*35) (fQ i)=vi (i+1)++(eL (n -(i+1)) ah).flatten:=by
  have b:n -i=(n -(i+1))+1:=by omega
  rw[b,JD,MP,KA];unfold aV;rw[<-a,List.take_left,su];have c:(vi i++(ah++(eL (n -(i+1)) ah).flatten))=(vi i++ah)++(eL (n -(i+1)) ah).flatten:=by rw[oH]
  have d:(vi i).length+35=(vi i++ah).length:=by rw[jf];rfl
  rw[c,d,Q7,oH]
 show J (([]:ch),(S++[eR.M (vi i++(eL (n -i) ah).flatten) [] O]).set S.length (.M (aV (vi i++(eL (n -i) ah).flatten) (i*35) (fQ i)) [] O))=_;rw[e];simp
def ZJ(S:G)(n i:Nat)(h:i<n):bk (S++[bL n (i+1)]) (.A 35) (.P S.length (i*35))=J (.A (fQ i)):=by have g:(S++[bL n (i+1)])[S.length]? =J (bL n (i+1)):=ug S _;unfold bL at g⊢;rw[bV g];exact jQ (a:=vi i) (b:=fQ i) (c:=(eL (n -(i+1)) ah).flatten) (by rw[KA,oH]) (Dx i) (su i) (AV.A.inj (yj i))
def TW(n:Nat)(a:n<=1000):(cw (eE n)).length<=20001000:=by have h:=xn (eE n) (λx b=>aB.pT ((mM a) x b).2.1 ((mM a) x b).2.2);rw[qn]at h;omega
def ZM(i:Nat):(aL i).Flat:=⟨by show mD.depth<1000000;simp[mD,a8.depth,a8.gX],by show jh.depth<1000000;simp[jh,bF.depth,bF.gX],by
 have a:mD.depth<1000000:=by simp[mD,a8.depth,a8.gX]
 exact .mk _ ⟨by show(bM.mk 0 [] []).depth<1000000;simp[bM.depth,bM.gX],a,a,by nofun⟩ (by nofun)⟩
def aa5(n:Nat)(o:n<=500)(c e:H)(S:G):∀d i,i+d=n->
 DC F nkL (.L pv) ⟨[(0,c),(1,e),(5,.I V (n:Int)),(6,.dQ S.length 0 n n 35),(7,.S (cw (eE i))),(8,.I V (i:Int))],[],S.length⟩ (S++[bL n i])=
  J (.E 0,⟨[(0,c),(1,e),(5,.I V (n:Int)),(6,.dQ S.length 0 n n 35),(7,.S (cw (eE n)))],[],S.length⟩,S++[bL n n])
 |0,i,h=>by
  obtain rfl:i=n:=by omega
  have b:aE .lss (.I V (i:Int)) (.I V (i:Int))=J (.B O):=by rw[dR];simp
  rw[av,bf dU];simp-implicitDefEqProofs [-aE,b]
 |d+1,i,h=>by
  have p:=aa5 n o c e S d (i+1) (by omega);have b:aE .lss (.I V (i:Int)) (.I V (n:Int))=J (.B Y):=by rw[dR,decide_eq_true (by omega)]
  have j:bE ah [(0,1,.I V 5),(1,1,.I V (i:Int))]=J (fQ i):=rfl;have q:oZ 35 (.dQ S.length 0 n n 35) (.I V (i:Int))=J (.P S.length (i*35)):=by simp only[oZ];rw[if_neg (by omega),if_pos (by rw[NL];constructor<;>first|trivial|omega)];simp
  have y:=adK S n i (by omega);have r:=ZJ S n i (by omega);have u:∀T,tj 8 [.A (fQ i)] T=J (.bP [.S (aL i).line,.I V 0],T):=λT=>by refine rh rfl ?_;have h:=via (Cp (aL i) (R9 i) (ZM i) (Qt i (by omega)) T);unfold aB.gK at h;rw[if_pos (Ml i)]at h;exact h
  have k:∀T,b7 T (.A (fQ i))=J (.A (fQ i)):=λ_=>rfl;have l:∀T,ca T (.A (fQ i))=T:=λ_=>rfl;have m:∀T f,bC T f (.A (fQ i))=f:=λ_ _=>rfl;have z:∀t,aK t (.bP [.S (aL i).line,.I V 0])=(.bP [.S (aL i).line,.I V 0],t):=λ_=>rfl;have L:=TW i (by omega);have M:=aB.pT (Qt i (by omega)) (Ml i);have w:bG .add (.S (cw (eE i))) (.S (aL i).line)=J (.S (cw (eE i)++(aL i).line)):=eW _ _ (by omega);have x:bG .add (.S (cw (eE i)++(aL i).line)) (.S [10])=J (.S (cw (eE (i+1)))):=by rw[show cw (eE (i+1))=cw (eE i)++(aL i).line++[10]by rw[Qu];simp[cw]];exact eW _ _ (by simp;omega)
  have g:aE .add (.I V (i:Int)) (.I V 1)=J (.I V ((i+1:Nat):Int)):=by rw[ku,dS (by omega)];rfl
  rw[av,bf dU];generalize bL n i=A,bL n (i+1)=B,bL n n=E,((i+1:Nat):Int)=I,fQ i=C at*;generalize cw (eE i)++(aL i).line=P,cw (eE (i+1))=v,cw (eE i)=s,cw (eE n)=Q,(aL i).line=N at*;generalize ah=a at*;simp-implicitDefEqProofs [oW,oX, -aE, -bG,b,j,q,y,r,u,k,l,m,z,w,x,g,bJ];rw[ak dU];simp-implicitDefEqProofs [-aE,p]
def Dy(nb:Nat):∀(l done:List aB)(e:H)(ab:ch)(S:G),Io l->done.length<=200->200<done.length+l.length->l.length<=1000->cY 35 e ab (done.map aB.aq)->
 ∃aS c,DC F W (.L wu) ⟨[(0,.S (cw l)),(4,e),(5,.I V (done.length:Int))],ab,nb⟩ S=J (.R,⟨[(2,.ar),(3,cE 3 200)],aS,nb⟩,S++c)
 |[],done,e,ab,S,_,y,h2,_,_=>by simp at h2;omega
 |a::l,done,e,ab,S,hl,hn,hm,hk,ho=>by
  have⟨ha,X,hc⟩:=hl a (by simp);have j:Io l:=λx h=>hl x (U5 _ h);have g:(cw (a::l)).length<=1000000000:=by have:=xn (a::l) (λx h=>aB.pT (hl x h).2.1 (hl x h).2.2);simp only[jI]at hk this;omega
  have i:bG .neq (.S (cw (a::l))) (.S [])=J (.B Y):=by show J (AV.B (!(cw (a::l)==[])))=_;simp[OH]
  rw[oV]at g i;have u:=λT=>B3 a.line (cw l) 10 (R0 a) g T;have B:=λT=>Dw a ha X hc T;have E:∀t,aK t (.bP [.S a.line,.S (cw l),.B Y])=(.bP [.S a.line,.S (cw l),.B Y],t):=λ_=>rfl;have I:∀t,aK t (.bP [.A a.aq,.aD])=(.bP [.A a.aq,.aD],t):=λ_=>rfl;have hz:ah.length=35:=rfl;have C:∀T,a_ ab nb (T++[.M ah [] O]) 35 (.P T.length 0) (.A a.aq)=J (ab,T++[.M a.aq [] O]):=λT=>by rw[u7 rfl (aB.dB a).aO];simp[hz,aY]
  have q:b6 .neq (.dA cC) Y .aD .aD=J (.B O):=rfl;by_cases f:done.length=200
  ·have k:aE .eql (.I V (done.length:Int)) (.I V 200)=J (.B Y):=by rw[f];rfl
   have P:b6 .neq (.dA cC) Y (.dA 59 (.I V 3)) .aD=J (.B Y):=rfl;have wr:∀T,DF F W 16 [.dA 59 (.I V 3),.I V (done.length:Int)] T=J (cE 3 200,T):=λT=>by rw[f];exact uv 3 200 T
   have U:∀T n,b7 T (.dA 59 (.I V n))=J (.dA 59 (.I V n)):=λ_ _=>rfl;have li:∀T n,ca T (.dA 59 (.I V n))=T:=λ_ _=>rfl;have ui:∀T p n,bC T p (.dA 59 (.I V n))=p:=λ_ _ _=>rfl;have ni:∀n,cJ (.dA 59 (.I V n))=.dA 59 (.I V n):=λ_=>rfl;have mi:M1 59 (.I V 3)=J (.dA 59 (.I V 3)):=rfl;have te:∀t,aK t (cE 3 200)=(cE 3 200,t):=λ_=>rfl;refine⟨ab,[.M a.aq [] O], ?_⟩;rw[av,bf ij,oV];generalize a.line++10::cw l=s at*;generalize cw l=r,(done.length:Int)=b,cE 3 200=L at*;generalize ah=d at*;simp-implicitDefEqProofs [-aE, -bG,i,u,B,E,I,bJ,k,q,C,bw,P,wr,U,li,ui,ni,mi,te]
  ·have k:aE .eql (.I V (done.length:Int)) (.I V 200)=J (.B O):=by
    rw[show aE .eql (.I V (done.length:Int)) (.I V 200)=J (.B ((done.length:Int)==200))from rfl];have:((done.length:Int)==200)=O:=by simp;omega
    rw[this]
   have ld:∀T,bk (T++[.M a.aq [] O]) (.A 35) (.P T.length 0)=J (.A a.aq):=λT=>by rw[bV (ug T _)];exact aB.all a
   have v:dq 35 (eL 1 ah) [(0,.A a.aq)]=J [a.aq]:=by have y:fL (.A a.aq)=Y:=rfl;have l1:=aB.lO a;have x1:aH (.A a.aq)=.A a.aq:=(aB.dB a).agg.aH;have Q:(AV.A a.aq).cells=a.aq:=rfl;generalize a.aq=A,ah=d at*;simp[dq,y,l1,x1,Q]
   obtain⟨o1,m,N,w⟩:=cY.app ho (xs:=[a.aq]) (by simp) (by simp;omega) .X (S++[.M a.aq [] O]);have R:done.map aB.aq++[a.aq]=(done++[a]).map aB.aq:=by simp
   rw[R]at w;obtain⟨o,c,z⟩:=Dy nb l (done++[a]) o1 m (S++[.M a.aq [] O]) j (by simp;omega) (by simp at hm⊢;omega) (by simp at hk;omega) w;refine⟨o,.M a.aq [] O::c, ?_⟩;have M:aE .add (.I V (done.length:Int)) (.I V 1)=J (.I V ((done++[a]).length:Int)):=by rw[ku,dS (by omega)];simp
   rw[av,bf ij,oV];generalize a.line++10::cw l=s at*;generalize((done++[a]).length:Int)=b at*;generalize cw l=r at*;try simp only[eL]at v
   generalize ah=d,cE 3 200=L at*;simp-implicitDefEqProofs [-aE, -bG,i,u,B,E,I,bJ,k,q,C,ld,v,N,M,bw];rw[oH]at z;rw[ak ij];simp-implicitDefEqProofs [-aE,z]
def Mn(l:List aB)(g:Io l)(h:200<l.length)(f:l.length<=1000)(S:G):DF F W 10 [.S (cw l)] S=J (.bP [.ar,cE 3 200],S):=by
 obtain⟨b,a,c⟩:=Dy S.length l [] .ar [] S g (by simp) (by simpa using h) f (.inl ⟨rfl,rfl⟩);have i:cd 10 b [.ar,cE 3 200] S (S++a)=J (.bP [.ar,cE 3 200],S):=by rw[dr];have d:∀t,aP t (bD .ar)=(.ar,t):=λ_=>rfl;have e:∀t,aP t (bD (cE 3 200))=(cE 3 200,t):=λ_=>rfl;simp only[d,e];rw[if_pos ⟨rfl,rfl⟩,if_pos (by rfl)];simp
 rw[show(([]:List aB).length:Int)=0 from rfl]at c;rw[fI agT];generalize cw l=s,cE 3 200=j at*;simp-implicitDefEqProofs [-aE];rw[ak ij];simp-implicitDefEqProofs [-aE,c,i]
def DJ(n:Nat):jb:=(jX n).map fQ
def R_(n:Nat):(DJ n).length=n:=by simp[DJ]
def Sa(n i:Nat)(h:i<n):(DJ n)[i]? =J (fQ i):=by simp[DJ,h]
def FC(n:Nat):dy (DJ n)=Y:=by refine jc.2 λc a=>?_;simp only[DJ,zO]at a;obtain⟨i,_,rfl⟩:=a;rfl
def TX(n:Nat):gG 35 ((DJ n).map λ(c:bN)=>c.map bO)=cb (eE n):=by
 have e:(DJ n).map (λ(c:bN)=>c.map bO)=(eE n).map aB.aq:=by simp only[DJ,eE,List.map_map];exact EW λi _=>AV.A.inj (FB i)
 rw[e];rfl
def Xt(T:G)(b n:Nat)(q:Bool)(h:T[b]? =J (.M (vi n++(eL (n -n) ah).flatten) [] q)):cI T (.dQ b 0 n n 35)=J (35,DJ n):=by
 simp only[cI,h];have c:(vi n++(eL (n -n) ah).flatten).length=n*35:=by simp[Dx]
 rw[if_pos ⟨by rw[c];omega,by omega⟩];congr 2;apply G6;intro j;rw[uU];by_cases a:j<n
 ·rw[U6 a,Sa n j a]
  simp only[zG];have e:sub (vi n++(eL (n -n) ah).flatten) (0+j*35) 35=fQ j:=by
   have d:vi n=vi j++(fQ j++((List.range' (j+1) (n -(j+1))).flatMap fQ)):=by unfold vi;rw[show fQ j++(List.range' (j+1) (n -(j+1))).flatMap fQ=(List.range' j (n -j)).flatMap fQ by rw[show n -j=(n -(j+1))+1 by omega,List.range'_succ];simp];rw[<-U7];congr 1;rw[U0,U0,show n=j+(n -j)by omega,<-List.range'_append_1,show j+(n -j) -j=n -j by omega];simp
   unfold sub;rw[d,wL,oH,<-Dx j,Q7,oH,<-su j,List.take_left]
  rw[e];exact congrArg J (AV.A.inj (yj j))
 ·rw[G5 (by simp;omega),G5 (by rw[R_];omega)]
  rfl
def Iq(n:Nat)(v:n<=1000)(x:Nat)(nb:Nat)(S:G):∀d i,i+d=n->
 DC F W (.L oQ) ⟨[(0,cb (eE n)),(1,.sl (.l8 x) 35 (DJ n)),(5,.I V (i:Int))],[],nb⟩ S=J (.E 0,⟨[],[],nb⟩,S)
 |0,i,h=>by
  have g:=fZ (eE n);rw[qn]at g;obtain rfl:i=n:=by omega
  have j:aE .lss (.I V (i:Int)) (.I V (i:Int))=J (.B O):=by rw[dR];simp
  rw[av,bf dW];generalize cb (eE i)=L,AV.sl (.l8 x) 35 (DJ i)=f at*;simp-implicitDefEqProofs [-aE,g,j]
 |d+1,i,h=>by
  have w:=Iq n v x nb S d (i+1) (by omega);have g:=fZ (eE n);rw[qn]at g;have j:aE .lss (.I V (i:Int)) (.I V (n:Int))=J (.B Y):=by rw[dR,decide_eq_true (by omega)]
  have m:=qZ (eE n) V i;rw[show(eE n)[i]? =J (aL i)by simp[eE,show i<n by omega],zG]at m;have y:oZ 35 (.sl (.l8 x) 35 (DJ n)) (.I V (i:Int))=J (.dP (.l8 x) (fQ i) 0):=by simp only[oZ];rw[if_neg (by omega),if_pos trivial,NL,Sa n i (by omega)];rfl
  have z:∀T,bk T (.A 35) (.dP .N (aL i).aq 0)=J (.A (aL i).aq):=λT=>aB.all (aL i);have A:∀T,bk T (.A 35) (.dP (.l8 x) (fQ i) 0)=J (.A (fQ i)):=λT=>
   (jQ (l:=fQ i) (off:=0) (a:=[]) (b:=fQ i) (c:=[]) (by simp) rfl (su i) (AV.A.inj (yj i)):f_ (.A 35) (fQ i) 0=J (.A (fQ i)))
  have o:=λT=>Ib (aL i) (aL i) (R9 i).cO (R9 i).cO (by show(0:Nat)<_;decide) T;rw[show same (aL i) (aL i)=Y from uG _]at o;have p:aE .add (.I V (i:Int)) (.I V 1)=J (.I V ((i+1:Nat):Int)):=by rw[ku,dS (by omega)];rfl
  have q:tz (.A (aL i).aq):=(aB.dB _).agg;have r:∀T,b7 T (.A (fQ i))=J (.A (fQ i)):=λ_=>rfl;have s:∀T,ca T (.A (fQ i))=T:=λ_=>rfl;have t:∀T k,bC T k (.A (fQ i))=k:=λ_ _=>rfl;have u:=FB i;rw[av,bf dW];generalize cb (eE n)=L,AV.sl (.l8 x) 35 (DJ n)=f,((i+1:Nat):Int)=e,fQ i=C,(aL i).aq=E at*;simp-implicitDefEqProofs [-aE,g,j,m,y,z,A,o,q,r,s,t,u,bw,p];rw[ak dW];simp-implicitDefEqProofs [-aE,w]
def Qv(n:Nat)(d:n<=1000)(x:Nat)(S:G):DF F W 11 [cb (eE n),.sl (.l8 x) 35 (DJ n)] S=J (.B Y,S):=by
 have L:=Iq n d x S.length S n 0 (by omega);rw[show((0:Nat):Int)=0 from rfl]at L;have b:=fZ (eE n);rw[qn]at b;have e:gM (.sl (.l8 x) 35 (DJ n))=J (.I V (n:Int)):=by simp[gM,R_]
 have c:aE .neq (.I V (n:Int)) (.I V (n:Int))=J (.B O):=by show J (AV.B (!((n:Int)==(n:Int))))=_;simp
 rw[jE agU];generalize cb (eE n)=f,AV.sl (.l8 x) 35 (DJ n)=a at*;simp-implicitDefEqProofs [-aE,b,e,c];rw[ak dW];simp-implicitDefEqProofs [-aE,L]
def bB(c:UInt8)(n i:Nat):eR:=.M (eL i (cg c)++eL (n -i) (.I .u8 0)) [] O
def adL(ab:ch)(S:G)(X:eR)(c:UInt8)(n i:Nat)(h:i<n):a_ ab S.length (S++[X,bB c n i]) 1 (.P (S.length+1) i) (cg c)=J (ab,S++[X,bB c n (i+1)]):=by
 have g:(S++[X,bB c n i])[S.length+1]? =J (bB c n i):=cS S _ 1;unfold bB at g⊢;simp only[a_,g];rw[if_pos ⟨rfl,rfl,by simp;omega,.inl (by omega)⟩];have e:aV (eL i (cg c)++eL (n -i) (.I .u8 0)) i [cg c]=eL (i+1) (cg c)++eL (n -(i+1)) (.I .u8 0):=by
  unfold aV;have d:(eL i (cg c)).length=i:=by simp
  rw[show n -i=(n -(i+1))+1 by omega,JD,List.replicate_succ'];have a:(eL i (cg c)++(AV.I IntKind.u8 0::eL (n -(i+1)) (.I .u8 0))).take i=eL i (cg c):=by
   conv=>lhs;arg 1;rw[<-d]
   rw[List.take_left' rfl]
  rw[a];have b:(eL i (cg c)++(AV.I IntKind.u8 0::eL (n -(i+1)) (.I .u8 0))).drop (i+[cg c].length)=eL (n -(i+1)) (.I .u8 0):=by rw[show eL i (cg c)++(AV.I IntKind.u8 0::eL (n -(i+1)) (.I .u8 0))=(eL i (cg c)++[AV.I IntKind.u8 0])++eL (n -(i+1)) (.I .u8 0)by simp];exact List.drop_left' (by simp)
  rw[b]
 show J ((ab:ch),(S++[X,eR.M (eL i (cg c)++eL (n -i) (.I .u8 0)) [] O]).set (S.length+1) (.M (aV (eL i (cg c)++eL (n -i) (.I .u8 0)) i [cg c]) [] O))=_;rw[e];simp
def aa6(c:UInt8)(n:Nat)(p:n<=5000)(k l m a b e f:H)(X:eR)(ab:ch)(S:G):∀d i,i+d=n->
 DC F nkL (.L pw) ⟨[(1,cg c),(5,k),(6,l),(7,m),(11,a),(12,b),(13,e),(14,f),(15,.dQ (S.length+1) 0 n n 1),(16,.I V (i:Int))],ab,S.length⟩ (S++[X,bB c n i])=
  J (.E 2,⟨[(5,k),(6,l),(7,m),(11,a),(12,b),(13,e),(14,f),(15,.dQ (S.length+1) 0 n n 1)],ab,S.length⟩,S++[X,bB c n n])
 |0,i,h=>by
  obtain rfl:i=n:=by omega
  have j:gM (.dQ (S.length+1) 0 i i 1)=J (.I V (i:Int)):=rfl;have g:aE .lss (.I V (i:Int)) (.I V (i:Int))=J (.B O):=by rw[dR];simp
  rw[av,bf dV];simp-implicitDefEqProofs [-aE,j,g]
 |d+1,i,h=>by
  have q:=aa6 c n p k l m a b e f X ab S d (i+1) (by omega);have j:gM (.dQ (S.length+1) 0 n n 1)=J (.I V (n:Int)):=rfl;have g:aE .lss (.I V (i:Int)) (.I V (n:Int))=J (.B Y):=by rw[dR,decide_eq_true (by omega)]
  have r:oZ 1 (.dQ (S.length+1) 0 n n 1) (.I V (i:Int))=J (.P (S.length+1) i):=by simp only[oZ];rw[if_neg (by omega),if_pos (by rw[NL];constructor<;>first|trivial|omega)];simp
  have s:=adL ab S X c n i (by omega);have o:aE .add (.I V (i:Int)) (.I V 1)=J (.I V ((i+1:Nat):Int)):=by rw[ku,dS (by omega)];rfl
  rw[av,bf dV];generalize bB c n i=t,bB c n (i+1)=u,bB c n n=v,((i+1:Nat):Int)=w,cg c=C at*;simp-implicitDefEqProofs [oW,oX, -aE,j,g,r,s,o];rw[ak dV];simp-implicitDefEqProofs [-aE,q]
section
def aI(b:K):aB:=⟨8,0,0,0,r9,jh,b⟩
def ajt(b:K):(aI b).Wf:=⟨Mm.1,Mm.2⟩
def adM(b:K):(aI b).v7:=⟨by show(-9223372036854775808:Int)<=0;decide,by show(0:Int)<=9223372036854775807;decide,by show(-9223372036854775808:Int)<=0;decide,by show(0:Int)<=9223372036854775807;decide,by show(-9223372036854775808:Int)<=0;decide,by show(0:Int)<=9223372036854775807;decide⟩
def ZN(b:K):(aI b).code=if b.length<=4096 then 0 else 1:=by
 have h:(aI b).cR=Y:=by simp[aB.cR,aI,cZ,c7,uG]
 unfold aB.code;rw[h];by_cases a:b.length<=4096;·simp[aI,a]
 ·simp[aI,a]
def oY(x:H):bN:=(ah.set 0 (.I V 8)).set 34 x
def OR(b:K)(c:b≠[]):cJ (.A (oY (.sl .N 1 (fA b))))=.A (aI b).aq:=by
 cases b with
 |nil=>exact absurd rfl c
 |cons a r=>rfl
def aju(c:UInt8)(n:Nat)(T:G)(j:Nat)(h:T[j]? =J (bB c n n))(M:0<n):Qm T (.A (oY (.dQ j 0 n n 1)))=J (.A (oY (.sl .N 1 (fA (eL n c))))):=by
 have t:cI T (.dQ j 0 n n 1)=J (1,fA (eL n c)):=by
  unfold bB at h;simp only[cI,h];rw[if_pos (by simp)];congr 2;apply G6;intro i;rw[uU];by_cases m:i<n
  ·rw[U6 m]
   simp only[zG,wL,Nat.mul_one];have e:sub (eL n (cg c)++eL (n -n) (.I .u8 0)) i 1=[cg c]:=by rw[Nat.sub_self,List.replicate_zero,wV];unfold sub;rw[List.drop_replicate,List.take_replicate,show min 1 (n -i)=1 by omega];rfl
   rw[e];simp[fA,m,aH];rfl
  ·rw[G5 (by simp;omega),G5 (by simp[fA];omega)]
   rfl
 have w:∀d,((fA (eL n c)).mapM λ(x:bN)=>x.mapM (wb T 0 (d+1)))=J (fA (eL n c)):=by
  intro d;have g:wb T 0 (d+1) (cg c)=J (cg c):=if_pos rfl
  have a:∀k,((fA (eL k c)).mapM λ(x:bN)=>x.mapM (wb T 0 (d+1)))=J (fA (eL k c)):=by
   intro k;induction k with
   |zero=>rfl
   |succ k f=>
    have e:fA (eL (k+1) c)=[cg c]::fA (eL k c):=by simp[fA,JD]
    rw[e];simp[yB,f,g]
  exact a n
 have u:wb T 0 (10+1) (.dQ j 0 n n 1)=J (.sl .N 1 (fA (eL n c))):=by
  have b:=w 9;generalize fA (eL n c)=B at*;have e:wb T 0 (10+1) (.dQ j 0 n n 1)=(match cI T (.dQ j 0 n n 1)with
   |some (_,es)=>(es.mapM λ(l:bN)=>l.mapM (wb T 0 10)).map (.sl .N 1)
   |none=>Z):=rfl
  rw[e,t];simp only[b];rfl
 have L:∀v:H,aO v=Y->wb T 0 (10+1) v=J v:=λv C=>if_pos C;have o:Qm T (.A (oY (.dQ j 0 n n 1)))=((oY (.dQ j 0 n n 1)).mapM (wb T 0 11)).map .A:=rfl;rw[o];generalize fA (eL n c)=B at*;have p:oY (.dQ j 0 n n 1)=(ah.set 0 (.I V 8)).take 34++[.dQ j 0 n n 1]:=rfl;have q:oY (.sl .N 1 B)=(ah.set 0 (.I V 8)).take 34++[.sl .N 1 B]:=rfl;have a:∀l:bN,(∀x∈l,aO x=Y)->l.mapM (wb T 0 11)=J l:=by
  intro l;induction l with
  |nil=>intro _;rfl
  |cons x r f=>
   intro h;have z:=L x (h x (by simp));have A:=f λy E=>h y (by simp[E]);rw[yB,show wb T 0 11 x=J x from z,A];rfl
 have I:=a ((ah.set 0 (.I V 8)).take 34) (r8.1 rfl);rw[p,q,List.mapM_append,I];have s:[AV.dQ j 0 n n 1].mapM (wb T 0 11)=J [.sl .N 1 B]:=by rw[yB,show wb T 0 11 (.dQ j 0 n n 1)=_ from u];rfl
 rw[s];rfl
def Qw(a:aB):A7 a.eG=Y/\(aK [] a.eG).1=a.eG:=by
 unfold aB.eG r6;split;·exact⟨rfl,rfl⟩
 ·exact⟨rfl,rfl⟩
def Xu(c:UInt8)(n:Nat)(b:0<n)(T:G)(j:Nat)(h:T[j]? =J (bB c n n)):Ji liA [.A (oY (.dQ j 0 n n 1))] T=J ((aI (eL n c)).eG,T):=by
 have a:eL n c≠[]:=by intro e;have:=congrArg List.length e;simp at this;omega
 have f:=aju c n T j h b;have k:=OR (eL n c) a;have⟨d,g⟩:=Qw (aI (eL n c));have i:liA (.A (oY (.sl .N 1 (fA (eL n c)))))=J (aI (eL n c)).eG:=by unfold liA;rw[k,v_ _ (ajt _) (adM _) []];simp only;rw[if_pos ⟨(aB.dB _).agg.aO,g⟩]
 unfold Ji;simp only[f,i];rw[if_pos d]
def TY{n:Nat}(b:n<=1000):Fit (eE n):=⟨λa h=>⟨((mM b) a h).1,((mM b) a h).2.1⟩,λa h c=>by have:=aB.pT ((mM b) a h).2.1 c;omega⟩
def adN(n x:Nat)(b:n<=1000)(T:G):ED [.sl (.l8 x) 35 (DJ n)] T=J (if n<=200 then .bP [.S (cw (eE n)),.aD]else .bP [.S [],.dA 59 (.I V 3)],T):=by
 have g:oU [.sl (.l8 x) 35 (DJ n)] T=Z:=by unfold oU;rw[dif_neg];rintro⟨l,y,e,d,_⟩;obtain rfl:=(Hh e).1;cases d
 have f:aO (.sl .N 35 (DJ n))=Y:=FC n;have i:wrA (.sl .N 35 (DJ n))=J (nu (eE n)):=by unfold wrA;rw[Ez (eE n) f (TX n) (TY b) []];rfl
 have c:Qm T (.sl (.l8 x) 35 (DJ n))=J (.sl .N 35 (DJ n)):=if_pos (FC n);have j:nu (eE n)=if n<=200 then .bP [.S (cw (eE n)),.aD]else .bP [.S [],.dA 59 (.I V 3)]:=by
  unfold nu;rw[qn];split;·rw[OI _ _ _ (λa h=>((mM b) a h).2.2),rB]
  ·rfl
 unfold ED;rw[g];unfold Ji;simp only[c,i,j];rw[if_pos (by split<;>rfl)]
def ZP(n:Nat):eR:=.M (vi n++(eL (n -n) ah).flatten) [] Y
section
variable(S R:G)(n:Nat)
def Xv:b7 (S++bL n n::R) (.dQ S.length 0 n n 35)=J (.sl (.l8 S.length) 35 (DJ n)):=by have h:=Xt (S++bL n n::R) S.length n O (ug S (bL n n::R));simp only[b7,h];rfl
def Xw:ca (S++bL n n::R) (.dQ S.length 0 n n 35)=S++ZP n::R:=by have g:(S++bL n n::R)[S.length]? =J (bL n n):=ug S _;unfold bL at g⊢;simp only[ca,k9,g];simp[ZP]
def Qx:bC (S++bL n n::R) (S++ZP n::R) (.dQ S.length 0 n n 35)=S++bL n n::R:=by have g:(S++bL n n::R)[S.length]? =J (bL n n):=ug S _;have a:(S++ZP n::R)[S.length]? =J (ZP n):=ug S _;unfold bL at g⊢;unfold ZP at a⊢;simp only[bC,k9,g,a];simp
end
def ajv(m:UInt8):aE .rem (cg m) (.I .u8 12)=J (.I .u8 ((m.toNat %12:Nat):Int)):=by
 have a:∀x:Fin 256,aE .rem (.I .u8 (x.val:Int)) (.I .u8 12)=J (.I .u8 ((x.val %12:Nat):Int)):=by
  intro x;have b:aE .rem (.I .u8 (x.val:Int)) (.I .u8 12)=J (AV.I .u8 (Int.tmod (x.val:Int) 12)):=by simp
  have c:Int.tmod (x.val:Int) 12=((x.val %12:Nat):Int):=by rw[Int.tmod_eq_emod_of_nonneg (by omega)];omega
  rw[b,c]
 exact a ⟨m.toNat,m.toNat_lt⟩
end
def P7(m c:UInt8)(S:G):DF F nkL 4 [cg m,cg c] S=J (.B Y,S):=by
 obtain⟨q,hq,aqs⟩:∃q,m.toNat %12=q/\q<12:=⟨_,rfl,Jq _ (by decide)⟩;have y:=ajv m;rw[hq]at y;obtain⟨n,hn⟩:∃n,195+q=n:=⟨_,rfl⟩;obtain⟨k,hk⟩:∃k,4090+q=k:=⟨_,rfl⟩;have z:FI V (.I .u8 (q:Int))=J (.I V (q:Int)):=by show J (AV.I V (gh V (q:Int)))=_;rw[dS (by omega)]
 have A:gh V (q:Int)=(q:Int):=dS (by omega);have l:aE .add (.I V 195) (.I V (q:Int))=J (.I V (n:Int)):=by rw[ku,dS (by omega),<-hn];rfl
 have p:aE .add (.I V 4090) (.I V (q:Int))=J (.I V (k:Int)):=by rw[ku,dS (by omega),<-hk];rfl
 have i:BQ 35 ah S (.I V (n:Int)) (.I V (n:Int))=J (.dQ S.length 0 n n 35,S++[bL n 0]):=by simp only[BQ];rw[if_pos (by omega)];simp[bL,vi]
 have f:=i;simp only[ah]at f;have L0:=aa5 n (by omega) (cg m) (cg c) S n 0 (by omega);rw[show((0:Nat):Int)=0 from rfl,show cw (eE 0)=[]from rfl]at L0;have og:=λR=>Xv S R n;have ol:=λR=>Xw S R n;have ou:=λR=>Qx S R n;have wr:=λT=>adN n S.length (by omega) T;have w:BQ 1 [.I .u8 0] (S++[bL n n]) (.I V (k:Int)) (.I V (k:Int))=J (.dQ (S.length+1) 0 k k 1,S++[bL n n,bB c k 0]):=by simp only[BQ];rw[if_pos (by omega)];simp[bB]
 have L1:=λx5 x6 x7 x11 x12 x13 x14 g=>aa6 c k (by omega) x5 x6 x7 x11 x12 x13 x14 (bL n n) g S k 0 (by omega);rw[show((0:Nat):Int)=0 from rfl]at L1;have fk:bE ah [(0,1,.I V 8),(34,1,.dQ (S.length+1) 0 k k 1)]=J (oY (.dQ (S.length+1) 0 k k 1)):=rfl;have u:=Xu c k (by omega) (S++[bL n n,bB c k k]) (S.length+1) (cS S _ 1);have lR:(aI (eL k c)).eG=if k<=4096 then .bP [.S (aI (eL k c)).line,.aD]else .bP [.S [],.dA 59 (.I V 1)]:=by
  unfold aB.eG;rw[ZN,List.length_replicate];split;·rfl
  ·rfl
 rw[lR]at u;have gI:∀T,b7 T (.A (oY (.dQ (S.length+1) 0 k k 1)))=J (.A (oY (.dQ (S.length+1) 0 k k 1))):=λ_=>rfl;have kI:∀T,ca T (.A (oY (.dQ (S.length+1) 0 k k 1)))=T:=λ_=>rfl;have uI:∀T j,bC T j (.A (oY (.dQ (S.length+1) 0 k k 1)))=j:=λ_ _=>rfl;have v:gM (.dQ (S.length+1) 0 k k 1)=J (.I V (k:Int)):=rfl;have aw:∀T,tj 6 [] T=J (.B Y,T):=λT=>rh rfl (Kq T);have b1:b6 .eql (.dA cC) Y .aD .aD=J (.B Y):=rfl;have b2:b6 .eql (.dA cC) Y (.dA 59 (.I V 1)) .aD=J (.B O):=rfl;have bb:∀q,b6 .neq .B O (.B q) (.B q)=J (.B O):=λq=>by simp
 have x:=oq;have Q:=ot;have re2:=ov;have gN:∀T e n,b7 T (.dA 59 (.I e n))=J (.dA 59 (.I e n)):=λ_ _ _=>rfl;have kN:∀T e n,ca T (.dA 59 (.I e n))=T:=λ_ _ _=>rfl;have uN:∀T j e n,bC T j (.dA 59 (.I e n))=j:=λ_ _ _ _=>rfl;have E:∀T,tj 13 [.aD] T=J (.I V 0,T):=λT=>rh rfl (via (Ey T));have cd1:∀T,tj 13 [.dA 59 (.I V 1)] T=J (.I V 1,T):=λT=>rh rfl (via (Mf 1 T));have tk:S.length=S.length:=rfl;have rs:∀g a,cd 4 g [.B Y] S (S++a)=J (.B Y,S):=λg a=>by simp[kq,bI,bD,aP,aC,aO]
 by_cases h5:n<=200
 ·have h6:k<=4096:=by omega
  rw[if_pos h6]at u;simp only[if_pos h5]at wr;obtain⟨r,g2,B⟩:=FA (eE n) (mM (by omega)) (by rw[qn];exact h5) (S++[bL n n]);have B:tj 10 [.S (cw (eE n))] (S++[bL n n])=J (.bP [r,.aD],S++[bL n n]):=rh rfl (via B);obtain⟨o,tp,tk,ho⟩:∃o tp,aK [] (.bP [r,.aD])=(.bP [o,.aD],tp)/\cY 35 o tp ((eE n).map aB.aq):=by
   rcases g2 with⟨e,rfl⟩|rfl|rfl;·exact⟨.ar,[],rfl,.inl ⟨e,rfl⟩⟩
   ·exact⟨_,[],rfl,.inr (.inl rfl)⟩
   ·exact⟨.sl (.fr 0) 35 ((eE n).map aB.aq),[J ((eE n).map aB.aq).length],rfl,.inr (.inr ⟨0,rfl,rfl⟩)⟩
  have y1:=ho.z6;have y2:cJ (aH o)=cb (eE n):=ho.cJ;have y3:=ho.lock;have y4:=ho.oM;have al:∀T,tj 11 [aH o,.sl (.l8 S.length) 35 (DJ n)] T=J (.B Y,T):=λT=>rh rfl (by rw[EP,y2];exact via (Qv n (by omega) S.length T));have t1:∀t,aK t (.bP [.S (cw (eE n)),.aD])=(.bP [.S (cw (eE n)),.aD],t):=λ_=>rfl;have U:∀t,aK t (.bP [.S (aI (eL k c)).line,.aD])=(.bP [.S (aI (eL k c)).line,.aD],t):=λ_=>rfl;have L:aE .gtr (.I V (k:Int)) (.I V 4096)=J (.B O):=by show J (AV.B (aN ((k:Int)>4096)))=_;rw[decide_eq_false (by omega)]
  have h:aE .leq (.I V (k:Int)) (.I V 4096)=J (.B Y):=by show J (AV.B (aN ((k:Int)<=4096)))=_;rw[decide_eq_true (by omega)]
  have P:aE .eql (.I V 0) (.I V 1)=J (.B O):=rfl;have g4:aE .gtr (.I V (n:Int)) (.I V 200)=J (.B O):=by show J (AV.B (aN ((n:Int)>200)))=_;rw[decide_eq_false (by omega)]
  have ks:bG .eql (.S (cw (eE n))) (.S (cw (eE n)))=J (.B Y):=by show J (AV.B (cw (eE n)==cw (eE n)))=_;simp
  rw[jE e_4];generalize cw (eE n)=s,(aI (eL k c)).line=ln,oY (.dQ (S.length+1) 0 k k 1)=CI,bL n 0=B0,bL n n=BN,ZP n=BK,bB c k 0=D0,bB c k k=DK,DJ n=ES,cb (eE n)=EA,cg m=M,cg c=C,(n:Int)=N,(k:Int)=b at*;generalize ah=d at*;simp-implicitDefEqProofs [oW,oX, -aE, -bG,y,z,A,l,i,f];rw[ak dU];simp-implicitDefEqProofs [oW,oX, -aE, -bG,L0,og,ol,ou,wr,t1,bJ,B,tk,y,z,A,p,w];rw[ak dV];simp-implicitDefEqProofs [oW,oX, -aE, -bG,L1,fk,gI,kI,uI,u,U,bJ,x,v,L,E,P,bb,h,b1,g4,re2,ks,og,ol,ou,y1,y3,y4,al,aw,rs]
 ·simp only[if_neg h5]at wr
  have B:∀T,tj 10 [.S (cw (eE n))] T=J (.bP [.ar,cE 3 200],T):=λT=>rh rfl (via (Mn (eE n) (mM (by omega)) (by rw[qn];omega) (by rw[qn];omega) T));have t1:∀t,aK t (.bP [.S [],.dA 59 (.I V 3)])=(.bP [.S [],.dA 59 (.I V 3)],t):=λ_=>rfl;have t3:∀t,aK t (.bP [.ar,cE 3 200])=(.bP [.ar,cE 3 200],t):=λ_=>rfl;have X:∀T,tj 9 [.dA 59 (.I V 3),.I V 3,.I V (-1)] T=J (.B Y,T):=λT=>rh rfl (via (Xn 3 (by decide) T));have td2:∀T,tj 9 [cE 3 200,.I V 3,.I V 200] T=J (.B Y,T):=λT=>rh rfl (via (Kv 3 200 (by decide) T));have gE:∀T,b7 T (cE 3 200)=J (cE 3 200):=λ_=>rfl;have kE:∀T,ca T (cE 3 200)=T:=λ_=>rfl;have uE:∀T j,bC T j (cE 3 200)=j:=λ_ _=>rfl;have g4:aE .gtr (.I V (n:Int)) (.I V 200)=J (.B Y):=by show J (AV.B (aN ((n:Int)>200)))=_;rw[decide_eq_true (by omega)]
  have ks:bG .eql (.S ([]:K)) (.S [])=J (.B Y):=rfl;have lN:gM .ar=J (.I V 0):=rfl;have I:aE .eql (.I V 0) (.I V 0)=J (.B Y):=rfl;by_cases h6:k<=4096
  ·rw[if_pos h6]at u
   have U:∀t,aK t (.bP [.S (aI (eL k c)).line,.aD])=(.bP [.S (aI (eL k c)).line,.aD],t):=λ_=>rfl;have L:aE .gtr (.I V (k:Int)) (.I V 4096)=J (.B O):=by show J (AV.B (aN ((k:Int)>4096)))=_;rw[decide_eq_false (by omega)]
   have h:aE .leq (.I V (k:Int)) (.I V 4096)=J (.B Y):=by show J (AV.B (aN ((k:Int)<=4096)))=_;rw[decide_eq_true (by omega)]
   have P:aE .eql (.I V 0) (.I V 1)=J (.B O):=rfl;rw[jE e_4];generalize cw (eE n)=s,(aI (eL k c)).line=ln,oY (.dQ (S.length+1) 0 k k 1)=CI,bL n 0=B0,bL n n=BN,ZP n=BK,bB c k 0=D0,bB c k k=DK,DJ n=ES,cg m=M,cg c=C,(n:Int)=N,(k:Int)=b,cE 3 200=ER at*;generalize ah=d at*;simp-implicitDefEqProofs [oW,oX, -aE, -bG,y,z,A,l,i,f];rw[ak dU];simp-implicitDefEqProofs [oW,oX, -aE, -bG,L0,og,ol,ou,wr,t1,bJ,B,t3,y,z,A,p,w];rw[ak dV];simp-implicitDefEqProofs [oW,oX, -aE, -bG,L1,fk,gI,kI,uI,u,U,bJ,x,v,L,E,P,bb,h,b1,g4,Q,ks,gN,kN,uN,gE,kE,uE,X,td2,aw,rs,lN,I]
  ·rw[if_neg h6]at u
   have U:∀t,aK t (.bP [.S [],.dA 59 (.I V 1)])=(.bP [.S [],.dA 59 (.I V 1)],t):=λ_=>rfl;have L:aE .gtr (.I V (k:Int)) (.I V 4096)=J (.B Y):=by show J (AV.B (aN ((k:Int)>4096)))=_;rw[decide_eq_true (by omega)]
   have h:aE .leq (.I V (k:Int)) (.I V 4096)=J (.B O):=by show J (AV.B (aN ((k:Int)<=4096)))=_;rw[decide_eq_false (by omega)]
   have P:aE .eql (.I V 1) (.I V 1)=J (.B Y):=rfl;rw[jE e_4];generalize cw (eE n)=s,oY (.dQ (S.length+1) 0 k k 1)=CI,bL n 0=B0,bL n n=BN,ZP n=BK,bB c k 0=D0,bB c k k=DK,DJ n=ES,cg m=M,cg c=C,(n:Int)=N,(k:Int)=b,cE 3 200=ER at*;generalize ah=d at*;simp-implicitDefEqProofs [oW,oX, -aE, -bG,y,z,A,l,i,f];rw[ak dU];simp-implicitDefEqProofs [oW,oX, -aE, -bG,L0,og,ol,ou,wr,t1,bJ,B,t3,y,z,A,p,w];rw[ak dV];simp-implicitDefEqProofs [oW,oX, -aE, -bG,L1,fk,gI,kI,uI,u,U,bJ,x,v,L,cd1,P,bb,h,b2,g4,Q,ks,gN,kN,uN,gE,kE,uE,X,td2,aw,rs,lN,I]
end Go.Proofs.YteipnkjhnbaipaaGreatDoor.am
namespace Go.Proofs.YteipnkjhnbaipaaGreatDoor.tapeLong
open Go Go.RowKit Go.ChangeShapes Go.Proofs.YteipnkjhnbaipaaGreatDoor.am
open Option renaming some->J,none->Z,map_eq_some_iff->od
open Bool renaming false->O,true->Y,and_eq_true->j5
open Go.IntKind renaming i64->V,wrap->gh,u64->bm
open Option.some renaming inj->ff
open UInt8 renaming ofNat->dt
open Go.Proofs.Tryz renaming prog->dE
open Decidable renaming decide->aN
open Go.Value renaming pointer->bn
open List renaming drop_eq_nil_of_le->iy,replicate->eL,length_append->jf,take_of_length_le->ob,length_cons->jI,append_assoc->oH,length_nil->nI,range->jX
open Go renaming TypeId->bH,Value->aW,Program->cj,World->bh,FuncId->db
open Nat renaming le_refl->eI
open Go.Obj renaming cells->cN
open Go.Proofs.YteipnkjhnbaipaaGreatDoor.am renaming St->G,om->D,aG->F,AV->H,nk->W,bu->K
def own:ownKnob Tryz.prog.godebug=Z:=by kernel_rfl
def laidOut:laidOutB dE=Y:=by kernel_rfl
def mixed:Tryz.prog.follows .mixedOrders=Y:=by kernel_rfl
set_option maxRecDepth 100000 in
def abq(a:Type)(aq:bH × aW->a)(W:bh)(base:Nat)(args:Array aW)(n y:List (DataW a))(d:List MemPlace)
 (b:∀(j:Nat) t v,Tryz.f4.params[j]? =J t->args[j]? =J v->Value.okWide dE W .any base t v)
 (r:DataW.Whole aq dE Tryz.f4.params.toList Rows.tapeLongSpec.vars O W args.toList n y d) (B:laidMetH dE laidB W):
 Calls dE 4 args W λe l=>∃v,e=.returned v/\Rows.tapeLongSpec.post aq dE Tryz.f4 O Y O O W args v l:=by
 have i:=r;obtain⟨p,q,g,hV,rfl,C,E⟩:=r;have o:DataW.TrodAll aq dE W 0 (λ_=>Y) Y Tryz.f4.params.toList args.toList n p:=g;rw[Tryz.params4]at o b;obtain⟨Q,R,U,X,p0,p1,rfl,rfl,rfl,⟨n0,z⟩,⟨n1,A⟩⟩:=trodAll_two o;obtain⟨I,u,S,_⟩:=Hq (P:=dE) Tryz.underlying5 z;obtain⟨L,w,T,_⟩:=Hq (P:=dE) Tryz.underlying5 A;obtain⟨M,rfl⟩:=Go.WideShapes.okWide_int Tryz.underlying5 (b 0 5 Q (by simp) (by simp));obtain⟨N,rfl⟩:=Go.WideShapes.okWide_int Tryz.underlying5 (b 1 5 R (by simp) (by simp));obtain rfl:M=I:=by simpa[Value.cells]using u
 obtain rfl:N=L:=by simpa[Value.cells]using w
 obtain⟨m,rfl⟩:=P6 S;obtain⟨c,rfl⟩:=P6 T;refine(J4 (nk:=nkL) mixed named acT Ei (P7 m c []) (W:=W) (aaV B) (args:= #[.int .u8 (m.toNat:Int),.int .u8 (c.toNat:Int)]) (by simp;exact⟨(u_ m).y_,(u_ c).y_⟩) rfl (λj x f=>?_)).mono λe l h=>?_
 ·match j,f with
  |0,f=>simp at f;subst f;exact⟨_,rfl,λ_ _=>.int _ _⟩
  |1,f=>simp at f;subst f;exact⟨_,rfl,λ_ _=>.int _ _⟩
  |j+2,f=>simp at f
 ·obtain⟨rfl,k⟩:=h
  refine⟨_,rfl,NT (tb:=4) laidOut (by rw[Tryz.params4];intro t s;simp at s;subst s;exact⟨by kernel_rfl,of_decide_eq_true (by kernel_rfl)⟩) rfl (by kernel_rfl) Tryz.underlying4 (λe=>?_) i k⟩;subst e;rfl
set_option maxRecDepth 100000 in
def lifted(os:Os)(d:os.Started)(a:Type)(aq:bH × aW->a):
 ReturnsInHanded {} Tryz.checked os 4 .any (λw c=>(Rows.tapeLongSpec.pre aq dE Tryz.f4 [] O w c/\laidMetH dE laidB w)/\sizedMet aq dE Tryz.f4 (OpenSpec.ofChange Rows.tapeLongSpec) O w c)
  (Rows.tapeLongSpec.post aq dE Tryz.f4 O Y O O):=by
 refine returnsInHanded_of_change_and (C:=Tryz.checked) (X:=λw _=>laidMetH dE laidB w) (λ_ _ _ m h=>h.of_heap m) own d (by kernel_rfl) Tryz.func4
  (ChangeSpec.witness_at (enc:=aq) (C:=Tryz.checked) (os:=os) (X:=λw _=>laidMetH dE laidB w) O (Bk os)
   #[.int .u8 0,.int .u8 0] 8 rfl (by kernel_rfl) (by kernel_rfl) (by kernel_rfl) (by kernel_rfl) (by kernel_rfl) (Fe os _)) ?_
 intro b f c i j e g l _ _ k _;exact abq a aq b f c i j e g l k
def j1:(Rows.tapeLongRow.inPlace==Tryz.pinned.checked.prog.inPlace 4)=Y:=by kernel_rfl
def j2:(Rows.tapeLongRow.unfollowed==Tryz.pinned.checked.prog.unfollowed 4)=Y:=by kernel_rfl
def j3:(Rows.tapeLongRow.recurses==Tryz.pinned.checked.prog.recurses 4)=Y:=by kernel_rfl
def j4:(Rows.tapeLongRow.named==Tryz.pinned.checked.prog.varsNamed 4)=Y:=by kernel_rfl
def closed:joinedFacts Tryz.pinned.checked.prog 4 Tryz.f4 Rows.tapeLongSpec Rows.tapeLongRow=Y:=by unfold joinedFacts;rw[j1,j2,j3,j4];kernel_rfl
def LL:Rows.TapeLongSaid:=
 OpenClaim.holds_of_wide 4 Tryz.f4 rfl rfl rfl rfl rfl rfl rfl ⟨rfl,rfl,rfl,rfl,rfl⟩ rfl rfl rfl rfl rfl (by kernel_rfl) Tryz.func4 closed
  (of_decide_eq_true (by kernel_rfl)) (by unfold Func.isWrapper;first|(rw[if_pos (by decide+kernel)];kernel_rfl)|(rw[if_neg (by decide+kernel)];exact⟨rfl,rfl⟩))
  (λd b a c _=>lifted d b a c)
theorem tapeLong_holds:Rows.TapeLongCardSaid:=
 Claim7.holds_tied_plain_at .later [] [.data,.data,.data,.data,.handle,.sentinel,.sentinel,.pinned] Y (Y,"9219b8cedbf17cfdf46ddaadfaf585a20939529e5416ce756c67cadf36503abb") Y
  LL (λ_ h=>by cases h) (by kernel_rfl) (λ_ h=>by cases h) tapeLong_row_tie rfl ⟨rfl,rfl⟩ (by kernel_rfl) rfl
  (λf c d b=>by
   obtain rfl:f=4:=ff ((show Tryz.prog.funcNamed "dioptre/dioptrelaw30.TapeLong" =J 4 by kernel_rfl).symm.trans d)|>.symm;obtain rfl:c=Tryz.f4:=(ff (Tryz.func4.symm.trans b)).symm
   exact⟨by kernel_rfl,λj t a=>by
    rw[Tryz.params4]at a;rcases j with _|_|j;·simp at a;subst a;exact(show Tryz.prog.wantsStandIn 5=O by kernel_rfl)
    ·simp at a;subst a;exact(show Tryz.prog.wantsStandIn 5=O by kernel_rfl)
    ·simp at a⟩)
  (by kernel_rfl)
end Go.Proofs.YteipnkjhnbaipaaGreatDoor.tapeLong
