/- Parts. No condition. -/
import Derived.Test.YtnhnmkgfgfmmhaaGreatDoorQH
set_option linter.all false
namespace Go.Proofs.YtnhnmkgfgfmmhaaGreatDoor.am
open Go
open Option renaming some->J,none->D
open Bool renaming false->O,true->Y,and_eq_true->jM
open Go.IntKind renaming i64->V,wrap->fH,u64->bh
open Option.some renaming inj->eO
open UInt8 renaming ofNat->cY
open Decidable renaming decide->bN
open List renaming drop_eq_nil_of_le->gY,length_append->jn,take_of_length_le->m_,length_cons->jN,length_nil->mH,append_assoc->pX
open Go renaming FuncId->db
open Nat renaming le_refl->eE
open BitVec renaming ofInt->jC
open Go.Proofs.YtnhnmkgfgfmmhaaGreatDoor.am renaming om->Z,St->G,aC->F,AV->H,nk->W,bf->K
section
section
variable{S:G}{j d:Nat}(z:ez)
def FR(v:aV)(hl:v.eA.length<=12)(Q6:v.an.length=v.eA.length)(hg:DO [] v.eA=Y)(h:∀n∈v.eA,0<=n/\n<18446744073709551616)(hd:d<1000)
 (hF:∀x∈v.an,∀(S:G)(r:Rd)(u:K),S[j]? =J (eo j r)->nZ r (x.bytes++u)->DF F W 207 [.P j 0,.I V (d:Int)] S=J (.A x.aq,S.set j (eo j (r.go x.bytes.length)))):
 ∀e i(r:Rd)(u:K)(ad:bY),i+e=v.eA.length->S[j]? =J (eo j r)->∀b:Rd,nZ b (aV.je (v.eA.drop i) (v.an.drop i)++u)->
 ∃aN,DC F W (.L pF) ⟨[(0,.P j 0),(1,.I V ((d:Int)+1)),(4,.P S.length 0),(5,.P (S.length+1) 0),(51,.I V (v.eA.length:Int)),(52,.I V (i:Int))],ad,S.length⟩ (fV S j b z (Qq (S.length+1) (v.eA.take i) (v.an.take i)))=
  J (.E 1,⟨[(0,.P j 0),(4,.P S.length 0),(5,.P (S.length+1) 0)],aN,S.length⟩,fV S j (b.go (aV.je (v.eA.drop i) (v.an.drop i)).length) z (Qq (S.length+1) v.eA v.an)):=by
 intro e;induction e with
 |zero=>
  intro i r u ad hi f b m;refine⟨ad, ?_⟩;have t:¬i<v.eA.length:=Z;have e1:v.eA.drop i=[]:=gY Z;have e2:v.eA.take i=v.eA:=m_ Z;have e3:v.an.take i=v.an:=m_ Z;simp[aw,a_ c7,e1,e2,e3,t,aV.je,Rd.go]
 |succ e ih=>
  intro i r u ad hi f b m;have Q:i<v.eA.length:=Z;have⟨a,w,ha'⟩:=aJ (l:=v.eA) (i:=i) Q;have⟨y,E,X_⟩:=aJ (l:=v.an) (i:=i) Z;have R:=aZ (i:=i) Z;have g:fH V ((d:Int)+1 -1)=(d:Int):=by rw[e_ Z];omega
  have tN:v.eA.take (i+1)=v.eA.take i++[a]:=by rw[rh,w];rfl
  have tP:v.an.take (i+1)=v.an.take i++[y]:=by rw[rh,E];rfl
  have lN:(v.eA.take i).length=i:=by grind
  have lP:(v.an.take i).length=i:=by grind
  rw[aS w,aS E,aV.je]at m⊢;rw[pX,pX]at m;have I:=m.go;have T:=I.go;have har:=h a (fA w);have ea:((a.toNat:Nat):Int)=a:=Z;have A:DO [] (v.eA.take i++[a])=Y:=by grind [Rd.OL,List.take_append_drop]
  have hm:(fV S j (b.go (ch a.toNat).length) z (Qq (S.length+1) (v.eA.take i) (v.an.take i)))[S.length+1]? =J (.M [.I V 6,.I V 0,.S [],.ao,bC (S.length+1) 0 1 (Cz (v.eA.take i)),bC (S.length+1) 1 6 (sB (v.an.take i))] (fz i i) O):=by rw[lI];unfold Qq;grind
  have M:=lH (nO f b z (Qq (S.length+1) (v.eA.take i) (v.an.take i))) Z m;rw[pT f,ea]at M;have⟨v1,t1,S1,t2,U,q⟩:=afk (sz:=1) (es:=Cz (v.eA.take i)) (x:=[.I bh a]) (n:=i) (o:=4) ad hm (by simp;omega) Z b5 (by rw[<-OX];exact HT _);rw[mF,<-OX]at q;have b1:ez.M (aR [.I V 6,.I V 0,.S [],.ao,bC (S.length+1) 0 1 (Cz (v.eA.take i)),bC (S.length+1) 1 6 (sB (v.an.take i))] 4 [bC (S.length+1) 0 1 (Cz (v.eA.take i++[a]))]) (fz (i+1) i) O=
   .M [.I V 6,.I V 0,.S [],.ao,bC (S.length+1) 0 1 (Cz (v.eA.take i++[a])),bC (S.length+1) 1 6 (sB (v.an.take i))] (fz (i+1) i) O:=rfl
  rw[b1]at q;have s:=y_ (v.eA.take i++[a]) (by grind) (fV S j (b.go (ch a.toNat).length) z (.M [.I V 6,.I V 0,.S [],.ao,bC (S.length+1) 0 1 (Cz (v.eA.take i++[a])),bC (S.length+1) 1 6 (sB (v.an.take i))] (fz (i+1) i) O));have k:(v.eA.take i++[a]).length<=12:=by grind
  rw[A,decide_eq_true k]at s;have N:=hF y (fA E) _ _ _ (nO f (b.go (ch a.toNat).length) z (.M [.I V 6,.I V 0,.S [],.ao,bC (S.length+1) 0 1 (Cz (v.eA.take i++[a])),bC (S.length+1) 1 6 (sB (v.an.take i))] (fz (i+1) i) O)) I;rw[pT f]at N;have B:=lI S j ((b.go (ch a.toNat).length).go y.bytes.length) z (.M [.I V 6,.I V 0,.S [],.ao,bC (S.length+1) 0 1 (Cz (v.eA.take i++[a])),bC (S.length+1) 1 6 (sB (v.an.take i))] (fz (i+1) i) O);have⟨v3,t3,S3,t4,P,p⟩:=ZS (sz:=6) (es:=sB (v.an.take i)) (x:=y.aq) (n:=i) (o:=5) t2 B (by simp;omega) Z b5 (by rw[<-Ej];exact zF _);rw[mF,<-Ej]at p;have b2:ez.M (aR [.I V 6,.I V 0,.S [],.ao,bC (S.length+1) 0 1 (Cz (v.eA.take i++[a])),bC (S.length+1) 1 6 (sB (v.an.take i))] 5 [bC (S.length+1) 1 6 (sB (v.an.take i++[y]))]) (fz (i+1) (i+1)) O=
   Qq (S.length+1) (v.eA.take (i+1)) (v.an.take (i+1)):=by
   simp_all[Qq,aR]
  rw[b2]at p;have es:(b.go (ch a.toNat).length).go y.bytes.length=b.go ((ch a.toNat).length+y.bytes.length):=b5;have⟨aN,C⟩:=ih (i+1) r u t4 Z f _ T;refine⟨aN, ?_⟩;rw[(by simp[Rd.go,wI]:(((b.go (ch a.toNat).length).go y.bytes.length).go (aV.je (v.eA.drop (i+1)) (v.an.drop (i+1))).length)=b.go (ch a.toNat++(y.bytes++aV.je (v.eA.drop (i+1)) (v.an.drop (i+1)))).length)]at C;have l0:a8 (fV S j b z (Qq (S.length+1) (v.eA.take i) (v.an.take i))) .C (.P (S.length+1) 0)=J (.I V 6):=jV ..;have l3:∀c,a8 (fV S j c z (Qq (S.length+1) (v.eA.take i) (v.an.take i))) .C (.P (S.length+1) 4)=J (bC (S.length+1) 0 1 (Cz (v.eA.take i))):=λc=>jV ..;have nn:gn 1 (Cz (v.eA.take i++[a]))=jf (v.eA.take i++[a]):=rfl;have L:=FQ y;have fb:=ZT a;simp only[es]at P p;rw[aw,a_ c7];simp at C R g s L;simp[Q,l0,l3,M,fb,U,q,(λc X=>jV .. :∀c X,a8 (fV S j c z (.M [.I V 6,.I V 0,.S [],.ao,bC (S.length+1) 0 1 X,bC (S.length+1) 1 6 (sB (v.an.take i))] (fz (i+1) i) O)) .C (.P (S.length+1) 4)=J (bC (S.length+1) 0 1 X)),Ju,Jv,Jw,CA,nn,s,bb,(λc X=>jV .. :∀c X,a8 (fV S j c z (.M [.I V 6,.I V 0,.S [],.ao,bC (S.length+1) 0 1 X,bC (S.length+1) 1 6 (sB (v.an.take i))] (fz (i+1) i) O)) .C (.P (S.length+1) 5)=J (bC (S.length+1) 1 6 (sB (v.an.take i)))),g,N,L,P,p];rw[aj c7];simp[R,C]
end
def sI(k n:Int)(s:K)(a b c:H)(f:List K)(e:List Int)(ps:List aV)(g:bH a=cz f)(h:bH b=jf e)(i:bH c=kY ps):
 bp (.A [.I V k,.I V n,.S s,a,b,c])=.A (aV.mk k n s f e ps).aq:=by
 rw[aV.gG];show AV.A [_,_,_,bH a,bH b,bH c]=_;rw[g,h,i];rfl
def CB(a:List K):bH (f_ 1 (oa a))=cz a:=qx 1 _
def Qr(a:List Int):bH (f_ 1 (Cz a))=jf a:=qx 1 _
def HU(a:List aV):bH (f_ 6 (sB a))=kY a:=qx 6 _
def AR(k n:Int)(s:K):ez:=.M [.I V k,.I V n,.S s,.ao,.ao,.ao] [] O
theorem lR{n:Nat}(cs:bE)(h:cs.length=n):fF (.A n) cs 0=J (.A (cs.map aE)):=by grind [fF,sub]
def TT:∀(d:Nat)(v:aV),v.Wf->v.aW d=Y->d<1000->∀(S:G)(j:Nat)(r:Rd)(u:K),S[j]? =J (eo j r)->nZ r (v.bytes++u)->
 DF F W 207 [.P j 0,.I V (d:Int)] S=J (.A v.aq,S.set j (eo j (r.go v.bytes.length))):=by
 intro d;induction d with
 |zero=>nofun
 |succ d ih=>
  intro v hv h hd S j r u hS hr;have R:=aV.e9 h;have hj:j<S.length:=(jc.1 hS).1;have lb:=v.kD;rw[lb]at hr;have R1:=hr.V8;have ZV:∀b,(S++[b])[j]? =J (eo j r):=λb=>cM _ hS;have A:=Eh (ZV (.M ah [] O)) hr;rw[en _ hj]at A;have hk:((cY v.ae.toNat).toNat:Int)=v.ae:=by have:=R.ae;rw[xY];omega
  rw[hk]at A;have P:fH V v.ae=v.ae:=by have:=R.ae;exact e_ Z
  have T1:(S.set j (eo j (r.go 1))).length=S.length:=b5;have sg:=λc z b=>nO hS c z b;have ss:=λc r'' z b=>pT hS c r'' z b;have e0:∀X,S.set j (eo j (r.go 1))++[.M ah [] O,X]=fV S j (r.go 1) (.M ah [] O) X:=λ_=>rfl;have tkS:∀c z b,(fV S j c z b).take S.length=S.set j (eo j c):=λc z b=>by grind [fV,m_]
  have d0:¬((d:Int)+1=0):=Z;have I:b9 .neq (.eD cC) Y .aB .aB=J (.B O):=rfl;have fk:∀k:Int,bk ah [(0,1,.I V k)]=J [.I V k,.I V 0,.S [],.ao,.ao,.ao]:=λ_=>rfl;have er:=λ{c:Rd}{u':K}(z b:ez)(h':nZ c u')=>uE (sg c z b) h';have E:∀k:Int,aY [] S.length (S.set j (eo j (r.go 1))++[.M ah [] O,.M ah [] O]) 6 (.P (S.length+1) 0) (.A [.I V k,.I V 0,.S [],.ao,.ao,.ao])=J ([],fV S j (r.go 1) (.M ah [] O) (AR k 0 [])):=λk=>by rw[nK T1 rfl];rfl
  have stN:∀c k m s s',aY [] S.length (fV S j c (.M ah [] O) (AR k m s)) 1 (.P (S.length+1) 2) (.S s')=J ([],fV S j c (.M ah [] O) (AR k m s')):=λc k m s s'=>by unfold fV;rw[stT (oD S j c) (IV s')];rfl
  have stM:∀c k m s(m':Int),aY [] S.length (fV S j c (.M ah [] O) (AR k m s)) 1 (.P (S.length+1) 1) (.I V m')=J ([],fV S j c (.M ah [] O) (AR k m' s)):=λc k m s m'=>by unfold fV;rw[stT (oD S j c) (tW V m')];rfl
  have fin:∀(f:bY) c(l:bE) bt,l.length=6->bF (l.map aE)=Y->aY f S.length (fV S j c (.M ah [] O) (.M l bt O)) 6 (.P S.length 0) (.A (l.map aE))=J (f,fV S j c (.M (l.map aE) [] O) (.M l bt O)):=λf c l bt hc hp=>by simp_all[fV,u9]
  have la:∀c z(l:bE) bt,l.length=6->a8 (fV S j c z (.M l bt O)) (.A 6) (.P (S.length+1) 0)=J (.A (l.map aE)):=λc z l bt hc=>by rw[jV];exact lR l hc
  have lz:∀c(l:bE) b,l.length=6->(l.map aE).map aE=l.map aE->a8 (fV S j c (.M (l.map aE) [] O) b) (.A 6) (.P S.length 0)=J (.A (l.map aE)):=λc l b hc hs=>by simp_all[fV,VA,lR]
  have l0:∀c k n s,a8 (fV S j c (.M ah [] O) (AR k n s)) .C (.P (S.length+1) 0)=J (.I V k):=λc k n s=>jV ..;have lp0:∀c k n s,DC F W (.L pF) ⟨[(0,.P j 0),(1,.I V ((d:Int)+1)),(4,.P S.length 0),(5,.P (S.length+1) 0),(51,.I V 0),(52,.I V 0)],[],S.length⟩ (fV S j c (.M ah [] O) (AR k n s))=
   J (.E 1,⟨[(0,.P j 0),(4,.P S.length 0),(5,.P (S.length+1) 0)],[],S.length⟩,fV S j c (.M ah [] O) (AR k n s)):=λc k n s=>by
   simp[aw,a_ c7]
  have res:∀c(f:bY)(l:bE)(w:aV),bp (.A (l.map aE))=.A w.aq->bZ 207 f [.A (l.map aE)] S (fV S j c (.M (l.map aE) [] O) (.M l [] O))=J (.A w.aq,S.set j (eo j c)):=λc f l w q=>by simp[kB,q,bn,tkS]
  have afn:∀c(f:bY)(l:bE) bt(w:aV),bp (.A (l.map aE))=.A w.aq->bZ 207 f [.A (l.map aE)] S (fV S j c (.M (l.map aE) [] O) (.M l bt O))=J (.A w.aq,S.set j (eo j c)):=λc f l bt w q=>by rw[kB,q];simp[bn,tkS]
  have vs:∀k n s,[AV.I V k,.I V n,.S s,.ao,.ao,.ao].map aE=[.I V k,.I V n,.S s,.ao,.ao,.ao]:=λ_ _ _=>rfl;have y:∀c k n s,aY [] S.length (fV S j c (.M ah [] O) (AR k n s)) 6 (.P S.length 0) (.A [.I V k,.I V n,.S s,.ao,.ao,.ao])=J ([],fV S j c (AR k n s) (AR k n s)):=λc k n s=>fin [] c [.I V k,.I V n,.S s,.ao,.ao,.ao] [] rfl rfl;have la0:∀c k n s,a8 (fV S j c (.M ah [] O) (AR k n s)) (.A 6) (.P (S.length+1) 0)=J (.A [.I V k,.I V n,.S s,.ao,.ao,.ao]):=λc k n s=>la c (.M ah [] O) [.I V k,.I V n,.S s,.ao,.ao,.ao] [] rfl;have lz0:∀c k n s,a8 (fV S j c (AR k n s) (AR k n s)) (.A 6) (.P S.length 0)=J (.A [.I V k,.I V n,.S s,.ao,.ao,.ao]):=λc k n s=>lz c [.I V k,.I V n,.S s,.ao,.ao,.ao] (AR k n s) rfl rfl;have L:∀c k n s(w:aV),bp (.A [.I V k,.I V n,.S s,.ao,.ao,.ao])=.A w.aq->bZ 207 [] [.A [.I V k,.I V n,.S s,.ao,.ao,.ao]] S (fV S j c (AR k n s) (AR k n s))=J (.A w.aq,S.set j (eo j c)):=λc k n s w q=>res c [] [.I V k,.I V n,.S s,.ao,.ao,.ao] w q;rw[jy adR];have T2:(S.set j (eo j (r.go 1))++[ez.M ah [] O]).length=S.length+1:=b5;have g:=er (.M ah [] O) (AR v.ae 0 []) R1;rcases R.ae with k|k|k|k|k|k
  ·have⟨U,h2,h3⟩:=R.bare Z Z
   have hn:=R.n1 k;have C:=R.s0 Z Z;have Q:aV.mk 1 v.n [] [] [] []=v:=aV.oN k rfl C U h2 h3;have N:v.bytes=[cY v.ae.toNat]++[if bN (v.n=1)=Y then(1:UInt8)else 0]:=by rw[lb,if_pos k];rcases hn with e|e<;>rw[e]<;>rfl
   have i:nZ (r.go 1) ((if bN (v.n=1)=Y then 1 else 0)::u):=by have:=hr;rw[<-lb,N]at this;exact this.V8
   have o:=V9 (sg (r.go 1) (.M ah [] O) (AR 1 0 [])) i;rw[ss]at o;have M:=i.V8;have q:=sI 1 v.n [] .ao .ao .ao [] [] [] rfl rfl rfl;rw[Q]at q;have p:=L ((r.go 1).go 1) 1 v.n [] v q;have a:=er (.M ah [] O) (AR 1 v.n []) M;rw[k]at A P g;rw[N];rcases hn with e|e
   ·rw[e]at o p a
    simp at o p a;simp[d0,A,P,fk,E,g,I,l0,o];rw[aj c7];simp[lp0,a,I,la0,y,lz0,p]
   ·rw[e]at o p a
    simp at o p a;simp[d0,A,P,fk,E,g,I,l0,o,stM,e];rw[aj c7];simp[lp0,a,I,la0,y,lz0,p]
  ·have⟨U,h2,h3⟩:=R.bare Z Z
   have C:=R.s0 Z Z;have Q:aV.mk 2 v.n [] [] [] []=v:=aV.oN k rfl C U h2 h3;have N:v.bytes=[cY v.ae.toNat]++rj v.n:=by simp_all[if_pos]
   have i:nZ (r.go 1) (rj v.n++u):=by have:=hr;rw[<-lb,N]at this;exact this.V8
   have o:=ZR (sg (r.go 1) (.M ah [] O) (AR 2 0 [])) hv.one.n0 hv.one.n1 i;rw[ss]at o;have M:=i.go;have q:=sI 2 v.n [] .ao .ao .ao [] [] [] rfl rfl rfl;rw[Q]at q;have p:=L ((r.go 1).go (rj v.n).length) 2 v.n [] v q;have a:=er (.M ah [] O) (AR 2 v.n []) M;rw[k]at A P g;rw[N];simp at o p a;simp[d0,A,P,fk,E,g,I,l0,o,stM];rw[aj c7];simp[lp0,a,I,la0,y,lz0,p]
   grind
  ·have⟨U,h2,h3⟩:=R.bare Z Z
   have B:=R.n0 Z Z;have Q:aV.mk 3 0 v.s [] [] []=v:=aV.oN k B rfl U h2 h3;have N:v.bytes=[cY v.ae.toNat]++aM v.s:=by simp_all[if_pos]
   have i:nZ (r.go 1) (aM v.s++u):=by have:=hr;rw[<-lb,N]at this;exact this.V8
   have o:=BF (sg (r.go 1) (.M ah [] O) (AR 3 0 [])) (R.s3 k) i;rw[ss]at o;have M:=i.go;have q:=sI 3 0 v.s .ao .ao .ao [] [] [] rfl rfl rfl;rw[Q]at q;have p:=L ((r.go 1).go (aM v.s).length) 3 0 v.s v q;have a:=er (.M ah [] O) (AR 3 0 v.s) M;rw[k]at A P g;rw[N];simp at o p a;simp[d0,A,P,fk,E,g,I,l0,o,stN];rw[aj c7];simp[lp0,a,I,la0,y,lz0,p]
   grind
  ·have⟨U,h2,h3⟩:=R.bare Z Z
   have B:=R.n0 Z Z;have Q:aV.mk 4 0 v.s [] [] []=v:=aV.oN k B rfl U h2 h3;have N:v.bytes=[cY v.ae.toNat]++aM v.s:=by simp_all[if_pos]
   have i:nZ (r.go 1) (aM v.s++u):=by have:=hr;rw[<-lb,N]at this;exact this.V8
   have o:=OW (sg (r.go 1) (.M ah [] O) (AR 4 0 [])) (R.s4 k) i;rw[ss]at o;have M:=i.go;have q:=sI 4 0 v.s .ao .ao .ao [] [] [] rfl rfl rfl;rw[Q]at q;have p:=L ((r.go 1).go (aM v.s).length) 4 0 v.s v q;have a:=er (.M ah [] O) (AR 4 0 v.s) M;rw[k]at A P g;rw[N];simp at o p a;simp[d0,A,P,fk,E,g,I,l0,o,stN];rw[aj c7];simp[lp0,a,I,la0,y,lz0,p]
   grind
  ·have h5:=R.k5 k
   have B:=R.n0 Z Z;have C:=R.s0 Z Z;have Q:aV.mk 5 0 [] v.aQ [] v.an=v:=aV.oN k B C rfl h5.1 rfl;have N:v.bytes=[cY v.ae.toNat]++(ch v.an.length++aV.de v.aQ v.an):=by simp_all[if_pos]
   have i:nZ (r.go 1) (ch v.an.length++(aV.de v.aQ v.an++u)):=by simp_all[pX]
   have o:=LU (sg (r.go 1) (.M ah [] O) (AR 5 0 [])) 8 Z Z i;rw[ss]at o;have M:=i.go;have⟨f,lp⟩:=FP (S:=S) (j:=j) (d:=d) (.M ah [] O) v h5.2.2.2 h5.2.1 h5.2.2.1 Z (λx hx S r u U h2=>ih x (hv.all x hx) (R.all x hx) Z S j r u U h2) v.aQ.length 0 r u [] Z hS _ M;have R3:=M.go;have hvb:Qp (S.length+1) v.aQ v.an=.M [.I V 5,.I V 0,.S [],bC (S.length+1) 0 1 (oa v.aQ),.ao,bC (S.length+1) 1 6 (sB v.an)] (fz v.aQ.length v.an.length) O:=rfl;have UH:[AV.I V 5,.I V 0,.S [],bC (S.length+1) 0 1 (oa v.aQ),.ao,bC (S.length+1) 1 6 (sB v.an)].map aE=[.I V 5,.I V 0,.S [],f_ 1 (oa v.aQ),.ao,f_ 6 (sB v.an)]:=by simp_all[oI]
   have q1:=mM (sz:=1) (vr v.aQ);have q2:=mM (sz:=6) (zF v.an);have Q6:bF ([AV.I V 5,.I V 0,.S [],bC (S.length+1) 0 1 (oa v.aQ),.ao,bC (S.length+1) 1 6 (sB v.an)].map aE)=Y:=by simp_all[bF,aL]
   have hss:([AV.I V 5,.I V 0,.S [],bC (S.length+1) 0 1 (oa v.aQ),.ao,bC (S.length+1) 1 6 (sB v.an)].map aE).map aE=[AV.I V 5,.I V 0,.S [],bC (S.length+1) 0 1 (oa v.aQ),.ao,bC (S.length+1) 1 6 (sB v.an)].map aE:=by simp_all[Lk]
   have q:=sI 5 0 [] (f_ 1 (oa v.aQ)) .ao (f_ 6 (sB v.an)) v.aQ [] v.an (CB _) rfl (HU _);rw[Q]at q;have p:=afn (((r.go 1).go (ch v.an.length).length).go (aV.de v.aQ v.an).length) f _ (fz v.aQ.length v.an.length) v (by rw[UH];exact q);have a:=er (.M ah [] O) (Qp (S.length+1) v.aQ v.an) R3;have T:=fin f (((r.go 1).go (ch v.an.length).length).go (aV.de v.aQ v.an).length) _ (fz v.aQ.length v.an.length) rfl Q6;have l2:=la (((r.go 1).go (ch v.an.length).length).go (aV.de v.aQ v.an).length) (.M ah [] O) [.I V 5,.I V 0,.S [],bC (S.length+1) 0 1 (oa v.aQ),.ao,bC (S.length+1) 1 6 (sB v.an)] (fz v.aQ.length v.an.length) rfl;have t:=lz (((r.go 1).go (ch v.an.length).length).go (aV.de v.aQ v.an).length) _ (Qp (S.length+1) v.aQ v.an) rfl hss;rw[<-hvb]at l2 p T;simp only[UH]at T l2 t p;have ZW:Qp (S.length+1) [] []=AR 5 0 []:=rfl;rw[k]at A P g;rw[N];rw[h5.2.1]at o lp a T l2 t p⊢;simp[ZW]at o lp a T l2 t p;simp[d0,A,P,fk,E,g,I,l0,o];rw[aj c7];simp[lp,a,I,l2,T,t,p]
   grind
  ·have h6:=R.k6 k
   have B:=R.n0 Z Z;have C:=R.s0 Z Z;have Q:aV.mk 6 0 [] [] v.eA v.an=v:=aV.oN k B C h6.1 rfl rfl;have i:nZ (r.go 1) (ch v.an.length++(aV.je v.eA v.an++u)):=by simp_all[pX]
   have o:=LU (sg (r.go 1) (.M ah [] O) (AR 6 0 [])) 12 Z Z i;rw[ss]at o;have M:=i.go;have⟨f,lp⟩:=FR (S:=S) (j:=j) (d:=d) (.M ah [] O) v h6.2.2.2 h6.2.1 h6.2.2.1 hv.one.id Z (λx hx S r u U h2=>ih x (hv.all x hx) (R.all x hx) Z S j r u U h2) v.eA.length 0 r u [] Z hS _ M;have R3:=M.go;have hvb:Qq (S.length+1) v.eA v.an=.M [.I V 6,.I V 0,.S [],.ao,bC (S.length+1) 0 1 (Cz v.eA),bC (S.length+1) 1 6 (sB v.an)] (fz v.eA.length v.an.length) O:=rfl;have UH:[AV.I V 6,.I V 0,.S [],.ao,bC (S.length+1) 0 1 (Cz v.eA),bC (S.length+1) 1 6 (sB v.an)].map aE=[.I V 6,.I V 0,.S [],.ao,f_ 1 (Cz v.eA),f_ 6 (sB v.an)]:=by simp_all[oI]
   have q1:=mM (sz:=1) (HT v.eA);have q2:=mM (sz:=6) (zF v.an);have Q6:bF ([AV.I V 6,.I V 0,.S [],.ao,bC (S.length+1) 0 1 (Cz v.eA),bC (S.length+1) 1 6 (sB v.an)].map aE)=Y:=by simp_all[bF,aL]
   have hss:([AV.I V 6,.I V 0,.S [],.ao,bC (S.length+1) 0 1 (Cz v.eA),bC (S.length+1) 1 6 (sB v.an)].map aE).map aE=[AV.I V 6,.I V 0,.S [],.ao,bC (S.length+1) 0 1 (Cz v.eA),bC (S.length+1) 1 6 (sB v.an)].map aE:=by simp_all[Lk]
   have q:=sI 6 0 [] .ao (f_ 1 (Cz v.eA)) (f_ 6 (sB v.an)) [] v.eA v.an rfl (Qr _) (HU _);rw[Q]at q;have p:=afn (((r.go 1).go (ch v.an.length).length).go (aV.je v.eA v.an).length) f _ (fz v.eA.length v.an.length) v (by rw[UH];exact q);have a:=er (.M ah [] O) (Qq (S.length+1) v.eA v.an) R3;have T:=fin f (((r.go 1).go (ch v.an.length).length).go (aV.je v.eA v.an).length) _ (fz v.eA.length v.an.length) rfl Q6;have l2:=la (((r.go 1).go (ch v.an.length).length).go (aV.je v.eA v.an).length) (.M ah [] O) [.I V 6,.I V 0,.S [],.ao,bC (S.length+1) 0 1 (Cz v.eA),bC (S.length+1) 1 6 (sB v.an)] (fz v.eA.length v.an.length) rfl;have t:=lz (((r.go 1).go (ch v.an.length).length).go (aV.je v.eA v.an).length) _ (Qq (S.length+1) v.eA v.an) rfl hss;rw[<-hvb]at l2 p T;simp only[UH]at T l2 t p;have ZW:Qq (S.length+1) [] []=AR 6 0 []:=rfl;rw[k]at A P g;rw[(by simp_all[if_neg]:v.bytes=[UInt8.ofNat v.ae.toNat]++(ch v.an.length++aV.je v.eA v.an))];rw[h6.2.1]at o lp a T l2 t p⊢;simp[ZW]at o lp a T l2 t p;simp[d0,A,P,fk,E,g,I,l0,o];rw[aj c7];simp[lp,a,I,l2,T,t,p]
   grind
end
def BG{S:G}{j:Nat}{r:Rd}{u:K}(v:aV)(i:v.Wf)(h:v.aW 5=Y)(d:S[j]? =J (eo j r))(f:nZ r (v.bytes++u)):
 DF F W 171 [.P j 0] S=J (.A v.aq,S.set j (eo j (r.go v.bytes.length))):=by
 have e:=TT 5 v i h Z (S++[.M ah [] O]) j r u (cM _ d) f;rw[en _ ((jc.1 d).1)]at e;have c:(S.set j (eo j (r.go v.bytes.length))).length=S.length:=b5;have m:=u9 c (aV.dx v).aL [.M ah [] O] 0 [] S.length 6;have l:a8 (S.set j (eo j (r.go v.bytes.length))++[.M v.aq [] O]) (.A 6) (.P S.length 0)=J (.A v.aq):=by rw[VA c];simp
 have k:∀b a,(S.set j b++a).take S.length=S.set j b:=λb a=>by simp
 have g:aR ah 0 v.aq=v.aq:=aT b5;rw[fO adz];simp_all
def Qs(sz:Nat)(es:iI):H:=if es=[]then .ao else .sl .e7 sz es
def GS(sz:Nat)(rS:H)(ad:bY)(es:iI):Prop:=(es=[]/\rS=.ao/\ad=[])\/(es≠[]/\rS=.sl (.fr 0) sz es/\ad=[J es.length])
theorem GS.nil(sz:Nat):GS sz .ao [] []:=.inl ⟨rfl,rfl,rfl⟩
def GS.app{sz:Nat}{a:H}{ad:bY}{es:iI}(h:GS sz a ad es)(x:bE)(e:es.length<1000000)(S:G):
 ∃b c,dX sz ad S a (.sl .X sz [x])=J (b,c,S)/\GS sz b c (es++[x]):=by
 rcases h with⟨rfl,rfl,rfl⟩|⟨f,rfl,rfl⟩;·exact⟨.sl (.fr 0) sz [x],[J 1],by simp[dX,cD],.inr ⟨by simp,rfl,rfl⟩⟩
 ·have d:¬(2^30<es.length+1):=Z
  refine⟨.sl (.fr 0) sz (es++[x]),[J (es.length+1)],by simp[dX,cD,d],.inr ⟨by simp,rfl,by simp⟩⟩
def GS.res{sz:Nat}{a:H}{ad:bY}{es:iI}(h:GS sz a ad es)(c:dw es=Y):∃t,aK ad a=(Qs sz es,t)/\bn a=Y/\bp a=a/\ax (Qs sz es)=Y:=by
 rcases h with⟨rfl,rfl,rfl⟩|⟨b,rfl,rfl⟩;·exact⟨[],rfl,rfl,rfl,rfl⟩
 simp_all[vY,Qs]
def ZX{T:G}{i sz:Nat}{cs:bE}{o:Nat}(es:iI)(bt ad:bY)(d:T[i]? =J (.M cs bt O))(e:o+1<=cs.length)(f:dw es=Y)(nb:Nat)(b:nb<=i):
 ∃v t c,aI ad (Qs sz es)=(v,t)/\aY t nb T 1 (.P i o) v=J (c,T.set i (.M (aR cs o [bC i bt.length sz es]) (if es=[]then bt else bt++[J es.length]) O)):=by
 by_cases a:es=[]
 ·subst a
  refine⟨.ao,ad,ad,rfl, ?_⟩
  grind [aY,fE,AV.cells,im,bC]
 ·refine⟨.sl (.fr ad.length) sz es,ad++[J es.length],ad++[D],by simp[Qs,a,aI,cq], ?_⟩
  grind [aY,fE,AV.cells,im,bC]
def Wa{S:G}{j:Nat}{r:Rd}{u:K}(s:dG)(q:s.Wf)(h:oq s=Y)(l:S[j]? =J (eo j r))(m:nZ r (jv s++u)):
 DF F W 204 [.P j 0] S=J (.A s.aq,S.set j (eo j (r.go (jv s).length))):=by
 have P:s.name.length<=64:=by grind [oq,fe]
 unfold jv at m;rw[pX]at m;have f:=BF (cM [.M [.S [],.I bh 0] [] O] l) P m;rw[en _ ((jc.1 l).1)]at f;have y:=m.go;have L:∀b,(S.set j b).length=S.length:=λb=>by simp
 have w:∀b a,(S.set j b++a).take S.length=S.set j b:=λb a=>by simp
 have A:∀x:K,bk [.S [],.I bh 0] [(0,1,.S x)]=J [.S x,.I bh 0]:=λ_=>rfl;have t:∀x:K,aY [] S.length (S.set j (eo j (r.go (aM s.name).length))++[.M [.S [],.I bh 0] [] O,.M [.S [],.I bh 0] [] O]) 2 (.P (S.length+1) 0) (.A [.S x,.I bh 0])=J ([],fV S j (r.go (aM s.name).length) (.M [.S [],.I bh 0] [] O) (.M [.S x,.I bh 0] [] O)):=λx=>by rw[nK (L _) rfl];rfl
 have v:∀d x(n:Int),aY [] S.length (fV S j d (.M [.S [],.I bh 0] [] O) (.M [.S x,.I bh 0] [] O)) 1 (.P (S.length+1) 1) (.I bh n)=J ([],fV S j d (.M [.S [],.I bh 0] [] O) (.M [.S x,.I bh n] [] O)):=λd x n=>by unfold fV;rw[stT (oD S j d) (tW bh n)];rfl
 have C:∀d x n,a8 (fV S j d (.M [.S [],.I bh 0] [] O) (.M [.S x,.I bh n] [] O)) .C (.P (S.length+1) 0)=J (.S x):=λd x n=>jV ..;have E:∀d x n,a8 (fV S j d (.M [.S [],.I bh 0] [] O) (.M [.S x,.I bh n] [] O)) (.A 2) (.P (S.length+1) 0)=J (.A [.S x,.I bh n]):=λd x n=>jV ..;have g:∀d x(n:Int),aY [] S.length (fV S j d (.M [.S [],.I bh 0] [] O) (.M [.S x,.I bh n] [] O)) 2 (.P S.length 0) (.A [.S x,.I bh n])=J ([],fV S j d (.M [.S x,.I bh n] [] O) (.M [.S x,.I bh n] [] O)):=λd x n=>by unfold fV;rw[u9 (oD S j d) rfl];rfl
 have I:∀d x n b,a8 (fV S j d (.M [.S x,.I bh n] [] O) b) (.A 2) (.P S.length 0)=J (.A [.S x,.I bh n]):=λd x n b=>by unfold fV;rw[VA (oD S j d)];rfl
 have i:∀d z b,(fV S j d z b).take S.length=S.set j (eo j d):=λd z b=>w _ _;have c:=Dl s q;rw[h]at c;have M:s.aq=[.S s.name,.I bh s.id]:=rfl;rw[M]at c⊢;have e:lJ [AV.S s.name,.I bh s.id]:=b5;rw[fO adO];by_cases B:s.name=[]
 ·rw[if_pos B]at y
  have k:=lH (nO l (r.go (aM s.name).length) (.M [.S [],.I bh 0] [] O) (.M [.S [],.I bh 0] [] O)) (n:=s.id.toNat) (by have:=q.Qg;omega) y;rw[pT l,(by have:=q.UL;omega:((s.id.toNat:Nat):Int)=s.id)]at k;have N:jv s=aM s.name++ch s.id.toNat:=by unfold jv;simp_all
  rw[N];rw[B]at f k t c e⊢;simp at f k c;simp[f,A,t,C,k,v,E,c,bb,g,I,i,e]
 ·have p:s.name.isEmpty=O:=by simp_all
  have o:s.id=0:=by grind [oq]
  rw[(by unfold jv;simp_all:jv s=aM s.name)];rw[o]at c e⊢;simp[f,A,t,C,p,E,c,bb,g,I,i,e]
def Dw(p:List dG):iI:=p.map dG.aq
def CC(l:List dG):dw (Dw l)=Y:=jI.2 λx a=>by obtain⟨s,_,rfl⟩:=Ad.1 a;rfl
@[simp]def agU(l:List dG):(Dw l).length=l.length:=by simp[Dw]
def Wb{S:G}{j:Nat}{r:Rd}{u:K}(p:List dG)(hs:∀s∈p,s.Wf)(h:sc p=Y)(o:S[j]? =J (eo j r))(z:nZ r (jJ p++u)):
 DF F W 169 [.P j 0] S=J (Qs 2 (Dw p),S.set j (eo j (r.go (jJ p).length))):=by
 have x:=h;unfold sc at x;simp only[jM,decide_eq_true_eq]at x;have E:jJ p=ch p.length++p.flatMap jv:=rfl;rw[E,pX]at z;have C:=z.go;have B:∀d i(k:Rd)(g:H)(e:bY),i+d=p.length->nZ k ((p.drop i).flatMap jv++u)->GS 2 g e (Dw (p.take i))->
  ∃c a,GS 2 c a (Dw p)/\DC F W (.L Aj) ⟨[(0,.P j 0),(3,.I bh (p.length:Int)),(4,g),(5,.I bh (i:Int))],e,S.length⟩ (S.set j (eo j k))=
   J (.E 0,⟨[(0,.P j 0),(4,c)],a,S.length⟩,S.set j (eo j (k.go ((p.drop i).flatMap jv).length))):=by
  intro d;induction d with
  |zero=>
   intro i k g e hi f q;rw[(m_ Z:p.take i=p)]at q;refine⟨g,e,q, ?_⟩;simp[aw,a_ mC,(gY Z:p.drop i=[]),(Z:¬i<p.length),Rd.go]
  |succ d ih=>
   intro i k g e hi f q;have⟨y,A,X_⟩:=aJ (l:=p) (i:=i) Z;have I:fH bh ((i:Int)+1)=((i+1:Nat):Int):=by show((i:Int)+1)%2^64=_;omega
   have M:=fA A;rw[aS A,tU]at f⊢;rw[pX]at f;have m:=uE (Jt o k) f;have v:=Wa y (hs y M) (sQ.1 x.2 y M) (Jt o k) f;rw[List.set_set]at v;have⟨o2,t2,N,P⟩:=q.app y.aq (by simp;omega) (S.set j (eo j (k.go (jv y).length)));have⟨c,a,n1,L⟩:=ih (i+1) (k.go (jv y).length) o2 t2 Z f.go (by rw[(by rw[rh,A];rfl:p.take (i+1)=p.take i++[y])];simpa[Dw]using P);refine⟨c,a,n1, ?_⟩;have Q:da 2 [[.S [],.I bh 0]] [(0,.A y.aq)]=J [y.aq]:=rfl;rw[aw,a_ mC];simp at L I v;simp[(Z:i<p.length),m,(rfl:b9 .eql (.eD cC) Y .aB .aB=J (.B Y)),v,Q,N];rw[aj mC];simp[I,L]
 have⟨c,a,g1,w⟩:=B p.length 0 _ .ao [] Z C (GS.nil 2);have⟨t,R,T,U,X⟩:=g1.res (CC p);have m:=uE (Jt o ((r.go (ch p.length).length).go ((p.drop 0).flatMap jv).length)) C.go;rw[fO adx,E];simp only[oQ]at w m;simp at w m;simp[lH o (n:=p.length) Z z,(eq_false Z:((8:Int)<(p.length:Int))=False)];rw[aj mC];simp[w,m,(rfl:b9 .neq (.eD cC) Y .aB .aB=J (.B O)),R,T,U,X,(λb=>m_ b5:∀b,(S.set j b).take S.length=S.set j b)]
def rI(k:Int)(row:H)(id af:Int)(vs:bE):bE:=[.I V k,row,.I bh id,.I bh af]++vs
def Wc{k:Int}{a:H}{id b:Int}{vs:bE}(h:vs.length=6):(rI k a id b vs).length=10:=by simp[rI,h]
def CE:ah.length=6:=rfl
def BH:ah.map aE=ah:=rfl
def LW:bF ah=Y:=rfl
def LX:ah.map bH=ny.aq:=by rfl
def afq{S:G}{j:Nat}{r:Rd}{u:K}(o:k7)(L:o.Wf)(h:Bz o=Y)(hS:S[j]? =J (eo j r))(hr:nZ r (jw o++u)):
 DF F W 131 [.P j 0] S=J (.A o.aq,S.set j (eo j (r.go (jw o).length))):=by
 have hj:j<S.length:=(jc.1 hS).1;have kr:=FL h;have eb:jw o=cY o.ae.toNat::(jJ o.dU++((if 1<o.ae then ch o.id.toNat else[])++((if o.ae=2\/o.ae=4 then ch o.after.toNat else[])++(if o.ae=1\/o.ae=2 then o.value.bytes else[])))):=rfl;rw[eb]at hr⊢;simp only[z_,pX]at hr;have ZV:∀b,(S++[b])[j]? =J (eo j r):=λb=>cM _ hS;have I:=Eh (ZV (.M ag [] O)) hr;rw[en _ hj]at I;have hk:((cY o.ae.toNat).toNat:Int)=o.ae:=by rw[xY];omega
 rw[hk]at I;have R:fH V o.ae=o.ae:=e_ Z;have R1:=hr.V8;have P:bk ag [(0,1,.I V o.ae)]=J (rI o.ae .ao 0 0 ah):=rfl;have y:aY [] S.length (S.set j (eo j (r.go 1))++[.M ag [] O,.M ag [] O]) 10 (.P (S.length+1) 0) (.A (rI o.ae .ao 0 0 ah))=J ([],fV S j (r.go 1) (.M ag [] O) (.M (rI o.ae .ao 0 0 ah) [] O)):=by rw[nK b5 rfl];rfl
 have N:=λc b=>nO hS c (.M ag [] O) b;have Q:=λc r'' b=>pT hS c r'' (.M ag [] O) b;have B:=Wb o.dU L.dU (vq h) (N (r.go 1) (.M (rI o.ae .ao 0 0 ah) [] O)) R1;rw[Q]at B;have z:=R1.go;have⟨v,t1,t2,p1,A⟩:=ZX (sz:=2) (o:=1) (Dw o.dU) [] [] (lI S j ((r.go 1).go (jJ o.dU).length) (.M ag [] O) (.M (rI o.ae .ao 0 0 ah) [] O)) (by simp[rI]) (CC _) S.length Z;rw[mF]at A;generalize hbt:(if Dw o.dU=[]then([]:bY)else[]++[J (Dw o.dU).length])=i at A;have p3:aR (rI o.ae .ao 0 0 ah) 1 [bC (S.length+1) ([]:bY).length 2 (Dw o.dU)]=rI o.ae (bC (S.length+1) 0 2 (Dw o.dU)) 0 0 ah:=rfl;rw[p3]at A;generalize ZY:bC (S.length+1) 0 2 (Dw o.dU)=d at*;have hrs:aE d=f_ 2 (Dw o.dU):=by rw[<-ZY];exact oI ..
 have q1:=mM (sz:=2) (CC o.dU);have l0:∀c k d id g f i,a8 (fV S j c (.M ag [] O) (.M (rI k d id g f) i O)) .C (.P (S.length+1) 0)=J (.I V k):=λ_ _ _ _ _ _ _=>jV ..;have l2:∀c k d id g f i,a8 (fV S j c (.M ag [] O) (.M (rI k d id g f) i O)) .C (.P (S.length+1) 2)=J (.I bh id):=λ_ _ _ _ _ _ _=>jV ..;have l3:∀c k d id g f i,a8 (fV S j c (.M ag [] O) (.M (rI k d id g f) i O)) .C (.P (S.length+1) 3)=J (.I bh g):=λ_ _ _ _ _ _ _=>jV ..;have s2:∀a c k d id g f i(x:Int),aY a S.length (fV S j c (.M ag [] O) (.M (rI k d id g f) i O)) 1 (.P (S.length+1) 2) (.I bh x)=J (a,fV S j c (.M ag [] O) (.M (rI k d x g f) i O)):=λa c k d id g f i x=>by rw[dH (tW bh x) (lI ..),mF,if_pos ⟨rfl,by simp[rI]⟩];rfl
 have s3:∀a c k d id g f i(x:Int),aY a S.length (fV S j c (.M ag [] O) (.M (rI k d id g f) i O)) 1 (.P (S.length+1) 3) (.I bh x)=J (a,fV S j c (.M ag [] O) (.M (rI k d id x f) i O)):=λa c k d id g f i x=>by rw[dH (tW bh x) (lI ..),mF,if_pos ⟨rfl,by simp[rI]⟩];rfl
 have s4:∀a c k d id g i(x:aV),aY a S.length (fV S j c (.M ag [] O) (.M (rI k d id g ah) i O)) 6 (.P (S.length+1) 4) (.A x.aq)=J (a,fV S j c (.M ag [] O) (.M (rI k d id g x.aq) i O)):=λa c k d id g i x=>by
  rw[dH (v8 (aV.dx x)) (lI ..),mF,if_pos ⟨by simp,by simp[rI]⟩];have:aR (rI k d id g ah) 4 (AV.A x.aq).cells=rI k d id g x.aq:=by simp[aR,rI,AV.cells]
  rw[this]
 have p:∀c id g f,f.length=6->f.map aE=f->a8 (fV S j c (.M ag [] O) (.M (rI o.ae d id g f) i O)) (.A 10) (.P (S.length+1) 0)=J (.A (rI o.ae (f_ 2 (Dw o.dU)) id g f)):=λc id g f hl hs=>by simp_all[jV,lR,rI]
 have s:∀a c id g f b,f.length=6->bF f=Y->aY a S.length (fV S j c (.M ag [] O) b) 10 (.P S.length 0) (.A (rI o.ae (f_ 2 (Dw o.dU)) id g f))=J (a,fV S j c (.M (rI o.ae (f_ 2 (Dw o.dU)) id g f) [] O) b):=λa c id g f b hl hp=>by
  unfold fV;have Q6:bF (rI o.ae (f_ 2 (Dw o.dU)) id g f)=Y:=by simp_all[v7,rI]
  simp_all[u9,Wc]
 have q:∀c id g f b,f.length=6->f.map aE=f->a8 (fV S j c (.M (rI o.ae (f_ 2 (Dw o.dU)) id g f) [] O) b) (.A 10) (.P S.length 0)=J (.A (rI o.ae (f_ 2 (Dw o.dU)) id g f)):=λc id g f b hl hs=>by simp_all[fV,VA,lR,rI]
 have nr:∀id g f(w:aV),f.map bH=w.aq->bp (.A (rI o.ae (f_ 2 (Dw o.dU)) id g f))=.A (k7.mk o.ae o.dU id g w).aq:=λid g f w E=>by show AV.A ((rI o.ae (f_ 2 (Dw o.dU)) id g f).map bH)=_;unfold rI k7.aq;simp only[List.map_append,E];show AV.A ([_,bH (f_ 2 (Dw o.dU)),_,_]++_)=_;rw[qx];rfl
 have M:∀a c id g f b(w:aV),f.map bH=w.aq->bZ 131 a [.A (rI o.ae (f_ 2 (Dw o.dU)) id g f)] S (fV S j c (.M (rI o.ae (f_ 2 (Dw o.dU)) id g f) [] O) b)=J (.A (k7.mk o.ae o.dU id g w).aq,S.set j (eo j c)):=λa c id g f b w E=>by
  rw[kB,nr id g f w E];have:(fV S j c (.M (rI o.ae (f_ 2 (Dw o.dU)) id g f) [] O) b).take S.length=S.set j (eo j c):=by grind [fV]
  have hd:lJ (k7.mk o.ae o.dU id g w).aq:=k7.dx _;simp[bn,this,hd]
 have b0:b9 .neq (.eD cC) Y .aB .aB=J (.B O):=rfl;have er:=λ{c:Rd}{u':K}(b:ez)(h':nZ c u')=>uE (N c b) h';have vL:o.value.aq.length=6:=b5;have vS:=(aV.dx o.value).lr;have vP:=(aV.dx o.value).aL;have vN:=(aV.dx o.value).iN;have hid:((o.id.toNat:Nat):Int)=o.id:=by have:=L.UL;omega
 have haf:((o.after.toNat:Nat):Int)=o.after:=by have:=L.af0;omega
 have m:=h;unfold Bz at m;rw[jM]at m;have m:=m.2;rw[fO aeU];rcases kr with k|k|k|k
 ·rw[if_pos k]at m
  simp only[jM,decide_eq_true_eq]at m;simp only[k]at z⊢;simp at z;have X:=BG o.value L.value m.2 (N ((r.go 1).go (jJ o.dU).length) (.M (rI 1 d 0 0 ah) i O)) (by simpa using z);rw[Q]at X;have R5:=nZ.go z;have l:=er (.M (rI 1 d 0 0 o.value.aq) i O) R5;have E:k7.mk o.ae o.dU 0 0 o.value=o:=by cases o;grind
  have t:=λa c b=>M a c 0 0 o.value.aq b o.value vN;rw[E]at t;have p:=λc=>p c 0 0 _ vL vS;have s:=λa c b=>s a c 0 0 _ b vL vP;have q:=λc b=>q c 0 0 _ b vL vS;rw[k]at I R P y B A p s q t;simp at B A X l p s q t;simp[I,R,P,y,l0,B,p1,A,X,s4,l,b0,p,s,q,t];refine⟨rfl, ?_⟩
  grind
 ·rw[sR,if_pos k]at m
  simp only[jM,decide_eq_true_eq]at m;simp only[k]at z⊢;simp at z;have C:=lH (N ((r.go 1).go (jJ o.dU).length) (.M (rI 2 d 0 0 ah) i O)) (n:=o.id.toNat) (by have:=L.Qg;omega) (by simpa using z);rw[Q,hid]at C;have T:=nZ.go z;have U:=lH (N _ (.M (rI 2 d o.id 0 ah) i O)) (n:=o.after.toNat) (by have:=L.ZA;omega) T;rw[Q,haf]at U;have R4:=nZ.go T;have X:=BG o.value L.value m.2 (N _ (.M (rI 2 d o.id o.after ah) i O)) R4;rw[Q]at X;have R5:=nZ.go R4;have l:=er (.M (rI 2 d o.id o.after o.value.aq) i O) R5;have t:=λa c b=>M a c o.id o.after o.value.aq b o.value vN;have n1:¬o.id=0:=m.1.1;have n2:¬o.after=o.id:=λe=>m.1.2 e.symm;have p:=λc=>p c o.id o.after _ vL vS;have s:=λa c b=>s a c o.id o.after _ b vL vP;have q:=λc b=>q c o.id o.after _ b vL vS;have E:k7.mk 2 o.dU o.id o.after o.value=o:=by rw[<-k]
  rw[k]at I R P y B A p s q t;rw[E]at t;simp at B A C U X l p s q t;simp[I,R,P,y,l0,l2,l3,B,p1,A,C,s2,n1,U,s3,n2,X,s4,l,b0,p,s,q,t];refine⟨rfl, ?_⟩
  grind
 ·rw[sR,sR,if_pos k]at m
  simp only[jM,decide_eq_true_eq]at m;have hz:=(wo _).1 m.2;simp only[k]at z⊢;simp at z;have C:=lH (N ((r.go 1).go (jJ o.dU).length) (.M (rI 3 d 0 0 ah) i O)) (n:=o.id.toNat) (by have:=L.Qg;omega) (by simpa using z);rw[Q,hid]at C;have T:=nZ.go z;have l:=er (.M (rI 3 d o.id 0 ah) i O) T;have t:=λa c b=>M a c o.id 0 ah b ny LX;have n1:¬o.id=0:=m.1.1;have p:=λc=>p c o.id 0 _ CE BH;have s:=λa c b=>s a c o.id 0 _ b CE LW;have q:=λc b=>q c o.id 0 _ b CE BH;have E:k7.mk 3 o.dU o.id 0 ny=o:=by rw[<-k,<-hz];conv=>lhs;rw[<-m.1.2]
  rw[k]at I R P y B A p s q t;rw[E]at t;simp at B A C l p s q t;simp[I,R,P,y,l0,l2,B,p1,A,C,s2,n1,l,b0,p,s,q,t];refine⟨rfl, ?_⟩
  grind
 ·rw[sR,sR,sR,if_pos k]at m
  simp only[jM,decide_eq_true_eq]at m;have hz:=(wo _).1 m.2;simp only[k]at z⊢;simp at z;have C:=lH (N ((r.go 1).go (jJ o.dU).length) (.M (rI 4 d 0 0 ah) i O)) (n:=o.id.toNat) (by have:=L.Qg;omega) (by simpa using z);rw[Q,hid]at C;have T:=nZ.go z;have U:=lH (N _ (.M (rI 4 d o.id 0 ah) i O)) (n:=o.after.toNat) (by have:=L.ZA;omega) T;rw[Q,haf]at U;have R4:=nZ.go T;have l:=er (.M (rI 4 d o.id o.after ah) i O) R4;have t:=λa c b=>M a c o.id o.after ah b ny LX;have n1:¬o.id=0:=m.1.1;have n2:¬o.after=o.id:=λe=>m.1.2 e.symm;have p:=λc=>p c o.id o.after _ CE BH;have s:=λa c b=>s a c o.id o.after _ b CE LW;have q:=λc b=>q c o.id o.after _ b CE BH;have E:k7.mk 4 o.dU o.id o.after ny=o:=by rw[<-k,<-hz]
  rw[k]at I R P y B A p s q t;rw[E]at t;simp at B A C U l p s q t;simp[I,R,P,y,l0,l2,l3,B,p1,A,C,s2,n1,U,s3,n2,l,b0,p,s,q,t];refine⟨rfl, ?_⟩
  grind
section
def ZZ{S:G}{i sz:Nat}{es:iI}{x:bE}{cs:bE}{o:Nat}{bt:bY}(t:bY)(k:Nat)(g:S[i]? =J (.M cs bt O))(h:es=[]->bt.length=k)(a:es≠[]->bt[k]? =J (J es.length))
 (n:es.length<1000000) (q:o+1<=cs.length) (r:dw (es++[x])=Y):
 ∃f e b m,dX sz t S (bC i k sz es) (.sl .X sz [x])=J (f,e,b)/\
  ∀nb,aY e nb b 1 (.P i o) f=J (m,S.set i (.M (aR cs o [bC i k sz (es++[x])]) (if es=[]then bt++[J 1]else bt.set k (J (es.length+1))) O)):=by
 by_cases c:es=[]
 ·subst c
  obtain rfl:=h rfl;refine⟨.sl (.fr t.length) sz [x],t++[J 1],S,t++[D],by simp[dX,bC,cD],λnb=>?_⟩
  grind [aY,aL,aE,fE,AV.cells,im,bC]
 ·have a:=a c
  have p:=(jc.1 g).1;have l:¬(2^30<es.length+1):=Z;refine⟨.sl (.bx i k) sz (es++[x]),t,S.set i (.M cs (bt.set k (J (es.length+1))) O),t, ?_,λnb=>?_⟩;all_goals simp_all[dX,bC,cD,aY,aL,aE,im]
def w8(l:List bw):iI:=l.map bw.aq
def OY(a:List bw)(x:bw):w8 (a++[x])=w8 a++[x.aq]:=by simp[w8]
@[simp]def agV(a:List bw):(w8 a).length=a.length:=by simp[w8]
def zG(l:List bw):dw (w8 l)=Y:=jI.2 λx a=>by obtain⟨s,_,rfl⟩:=Ad.1 a;exact lJ.aL b5
def HV(a:List bw):bH (f_ 3 (w8 a))=nE a:=qx 3 _
def XM(bt:bY)(n:Nat):bY:=if n=0 then bt++[J 1]else bt.set 0 (J (n+1))
def OZ{T:G}{j m:Nat}{r:Rd}{s u:K}{ws:List K}{k:Int}{c:H}{bt:bY}(I:T[j]? =J (eo j r))(hm:T[m]? =J (.M [.I V k,bC m 0 1 (oa ws),c] bt O))(N:j≠m)
 (l:ws=[]->bt.length=0) (L:ws≠[]->bt[0]? =J (J ws.length)) (hw:ws.length<1000) (v:dY s=Y) (g:db) (M:nk.jQ g=D) (f:qt g=O) (E:∀S,DF F W g [cz (ws++[s])] S=J (.B Y,S)) (P:nZ r (aM s++u)):
 DF F W 243 [.P j 0,.P m 0,.fn g [] []] T=J (.bL [],(T.set j (eo j (r.go (aM s).length))).set m (.M [.I V k,bC m 0 1 (oa (ws++[s])),c] (XM bt ws.length) O)):=by
 have U:=fe v;have A:=BF I Z P;have t:=jD s Z;rw[v]at t;have e:(T.set j (eo j (r.go (aM s).length)))[m]? =J (.M [.I V k,bC m 0 1 (oa ws),c] bt O):=by simp_all
 have Q:oa ws=[]↔ws=[]:=by simp[oa]
 have⟨v1,t1,R,t2,w,i⟩:=ZZ (sz:=1) (es:=oa ws) (x:=[.S s]) (o:=1) [] 0 e (λh=>l (Q.1 h)) (λh=>by simp_all) (by simp;omega) b5 (by rw[<-Ei];exact vr _);have B:(if oa ws=[]then bt++[J 1]else bt.set 0 (J ((oa ws).length+1)))=XM bt ws.length:=by grind [XM,V_]
 rw[B,<-Ei]at i;have y:aR [.I V k,bC m 0 1 (oa ws),c] 1 [bC m 0 1 (oa (ws++[s]))]=[.I V k,bC m 0 1 (oa (ws++[s])),c]:=rfl;rw[y]at i;have n:=(jc.1 e).1;have p:∀X,a8 ((T.set j (eo j (r.go (aM s).length))).set m (.M [.I V k,X,c] (XM bt ws.length) O)) .C (.P m 1)=J X:=λX=>by rw[bP (De n)];rfl
 have q:gn 1 (oa (ws++[s]))=cz (ws++[s]):=rfl;have C:=TS s;rw[PS aej];simp[A,cb,(by rw[bP e];rfl:a8 (T.set j (eo j (r.go (aM s).length))) .C (.P m 1)=some (bC m 0 1 (oa ws))),C,w,i,uh,t,p,Ju,Jv,Jw,CA,q,M,f,E,bb,(λa b=>m_ b5:∀a b,((T.set j a).set m b).take T.length=(T.set j a).set m b),bZ,aF,bM,ax]
def HW{S:G}{j:Nat}{r:Rd}{n:Nat}{u:K}(c:S[j]? =J (eo j r))(a:Nat)(e:a<=n)(f:n<=8)(h:nZ r (ch n++u)):DF F W 242 [.P j 0,.I bh (a:Int)] S=J (.I V (n:Int),S.set j (eo j (r.go (ch n).length))):=by simp[jy aei,lH c Z h,uE (Jt c (r.go (ch n).length)) h.go,(rfl:b9 .neq (.eD cC) Y .aB .aB=J (.B O)),(e_ Z:fH V (n:Int)=(n:Int)),(eq_false Z:((8:Int)<(n:Int))=False),(eq_false Z:((n:Int)<(a:Int))=False),(λb=>m_ b5:∀b,(S.set j b).take S.length=S.set j b)]
def QX(m:Nat)(ws:List K):ez:=.M [.I V 4,bC m 0 1 (oa ws),.ao] (if ws.length=0 then[]else[J ws.length]) O
def TU(m:Nat)(ws:List K)(ps:List bw):ez:=.M [.I V 5,bC m 0 1 (oa ws),bC m 1 3 (w8 ps)] (fz ws.length ps.length) O
section
variable{S:G}{j d:Nat}(z:ez)
def D0(ws:List K)(A:ws.length<=8)(B:gO [] ws=Y)(t:∀w∈ws,dY w=Y):
 ∀e i(r:Rd)(u:K)(ad:bY),i+e=ws.length->S[j]? =J (eo j r)->∀b:Rd,nZ b ((ws.drop i).flatMap aM++u)->
 DC F W (.L w4) ⟨[(0,.P j 0),(4,.P S.length 0),(5,.P (S.length+1) 0),(29,.I V (ws.length:Int)),(30,.I V (i:Int))],ad,S.length⟩ (fV S j b z (QX (S.length+1) (ws.take i)))=
  J (.E 1,⟨[(0,.P j 0),(4,.P S.length 0),(5,.P (S.length+1) 0)],ad,S.length⟩,fV S j (b.go ((ws.drop i).flatMap aM).length) z (QX (S.length+1) ws)):=by
 intro e;induction e with
 |zero=>
  intro i r u ad s c b g;simp[aw,a_ kJ,(gY Z:ws.drop i=[]),(m_ Z:ws.take i=ws),(Z:¬i<ws.length),Rd.go]
 |succ e x=>
  intro i r u ad s c b g;have n:i<ws.length:=Z;have y:=(jc.1 c).1;have⟨a,m,q⟩:=aJ (l:=ws) (i:=i) n;have o:=aZ (i:=i) Z;have E:ws.take (i+1)=ws.take i++[a]:=by rw[rh,m];rfl
  have C:(ws.take i).length=i:=by grind
  rw[aS m,tU]at g⊢;rw[pX]at g;have v:gO [] (ws.take i++[a])=Y:=by grind [Dm,List.take_append_drop]
  have k:=OZ (nO c b z (QX (S.length+1) (ws.take i))) (lI S j b z (QX (S.length+1) (ws.take i))) Z (λh=>by grind) (λh=>by simp_all) Z (t a (fA m)) 237 rfl rfl (λS=>by grind [rT]) g;rw[pT c,mF]at k;have p:ez.M [.I V 4,bC (S.length+1) 0 1 (oa (ws.take i++[a])),.ao] (XM (if(ws.take i).length=0 then[]else[J (ws.take i).length]) (ws.take i).length) O=QX (S.length+1) (ws.take (i+1)):=by grind [QX,XM]
  rw[p]at k;have f:=x (i+1) r u ad Z c _ g.go;rw[aw,a_ kJ];simp at f o k;simp[n,k,dh];rw[aj kJ];simp[o,f]
def D1(v:bw)(hl:v.av.length<=8)(Q6:v.an.length=v.av.length)(T:goN D v.av=Y)(hd:d<1000)
 (Q:∀x∈v.an,∀(S:G)(r:Rd)(u:K),S[j]? =J (eo j r)->nZ r (x.bytes++u)->DF F W 233 [.P j 0,.I V (d:Int)] S=J (.A x.aq,S.set j (eo j (r.go x.bytes.length)))):
 ∀e i(r:Rd)(u:K)(ad:bY),i+e=v.av.length->S[j]? =J (eo j r)->∀b:Rd,nZ b (bw.de (v.av.drop i) (v.an.drop i)++u)->
 ∃aN,DC F W (.L w5) ⟨[(0,.P j 0),(1,.I V ((d:Int)+1)),(4,.P S.length 0),(5,.P (S.length+1) 0),(38,.I V (v.av.length:Int)),(39,.I V (i:Int))],ad,S.length⟩ (fV S j b z (TU (S.length+1) (v.av.take i) (v.an.take i)))=
  J (.E 3,⟨[(0,.P j 0),(4,.P S.length 0),(5,.P (S.length+1) 0)],aN,S.length⟩,fV S j (b.go (bw.de (v.av.drop i) (v.an.drop i)).length) z (TU (S.length+1) v.av v.an)):=by
 intro e;induction e with
 |zero=>
  intro i r u ad hi c b g;refine⟨ad, ?_⟩;simp[aw,a_ kK,(gY Z:v.av.drop i=[]),(m_ Z:v.av.take i=v.av),(m_ Z:v.an.take i=v.an),(Z:¬i<v.av.length),bw.de,Rd.go]
 |succ e ih=>
  intro i r u ad hi c b g;have C:i<v.av.length:=Z;have hj:j<S.length:=(jc.1 c).1;have⟨a,q,R⟩:=aJ (l:=v.av) (i:=i) C;have⟨y,t,X_⟩:=aJ (l:=v.an) (i:=i) Z;have E:=aZ (i:=i) Z;have f:fH V ((d:Int)+1 -1)=(d:Int):=by rw[e_ Z];omega
  have tN:v.av.take (i+1)=v.av.take i++[a]:=by rw[rh,q];rfl
  have tP:v.an.take (i+1)=v.an.take i++[y]:=by rw[rh,t];rfl
  have lN:(v.av.take i).length=i:=by grind
  have lP:(v.an.take i).length=i:=by grind
  rw[aS q,aS t,bw.de]at g⊢;rw[pX,pX]at g;have w:=g.go;have U:goN D (v.av.take i++[a])=Y:=by grind [Rd.Ji,List.take_append_drop]
  have p:∀S,DF F W 238 [cz (v.av.take i++[a])] S=J (.B Y,S):=λS=>by grind [w9,HM]
  have k:=OZ (nO c b z (TU (S.length+1) (v.av.take i) (v.an.take i))) (lI S j b z (TU (S.length+1) (v.av.take i) (v.an.take i))) Z (λh=>by rw[h];rfl) (λh=>by grind [fz]) Z (u7 _ _ T a (fA q)) 238 rfl rfl p g;rw[pT c,mF]at k;have P:XM (fz (v.av.take i).length (v.an.take i).length) (v.av.take i).length=fz (i+1) i:=by grind [XM,fz]
  rw[P]at k;have A:=Q y (fA t) _ _ _ (nO c (b.go (aM a).length) z (.M [.I V 5,bC (S.length+1) 0 1 (oa (v.av.take i++[a])),bC (S.length+1) 1 3 (w8 (v.an.take i))] (fz (i+1) i) O)) w;rw[pT c]at A;have⟨v3,t3,S3,t4,B,m⟩:=ZS (sz:=3) (es:=w8 (v.an.take i)) (x:=y.aq) (n:=i) (o:=2) ad (lI S j ((b.go (aM a).length).go y.bytes.length) z (.M [.I V 5,bC (S.length+1) 0 1 (oa (v.av.take i++[a])),bC (S.length+1) 1 3 (w8 (v.an.take i))] (fz (i+1) i) O)) (by simp;omega) Z b5 (by rw[<-OY];exact zG _);rw[mF,<-OY]at m;have L:ez.M (aR [.I V 5,bC (S.length+1) 0 1 (oa (v.av.take i++[a])),bC (S.length+1) 1 3 (w8 (v.an.take i))] 2 [bC (S.length+1) 1 3 (w8 (v.an.take i++[y]))]) (fz (i+1) (i+1)) O=
   TU (S.length+1) (v.av.take (i+1)) (v.an.take (i+1)):=by
   grind [TU,aR]
  rw[L]at m;have es:(b.go (aM a).length).go y.bytes.length=b.go ((aM a).length+y.bytes.length):=b5;have⟨aN,s⟩:=ih (i+1) r u t4 Z c _ w.go;refine⟨aN, ?_⟩;rw[(by simp[Rd.go,wI]:(((b.go (aM a).length).go y.bytes.length).go (bw.de (v.av.drop (i+1)) (v.an.drop (i+1))).length)=b.go (aM a++(y.bytes++bw.de (v.av.drop (i+1)) (v.an.drop (i+1)))).length)]at s;have ll:∀es,iq (bC (S.length+1) 1 3 es)=J (.I V (es.length:Int)):=λes=>by unfold bC;cases es<;>rfl
  have M:da 3 [[.I V 0,.ao,.ao]] [(0,.A y.aq)]=J [y.aq]:=by simp_all[da]
  have N:da 3 [[.I V 0,.ao,.ao]] [(0,.A [.I V 0,.ao,.ao])]=J [[.I V 0,.ao,.ao]]:=rfl;simp only[es]at B m;rw[aw,a_ kK];simp at s E f k;simp[C,k,dh,(λI X=>jV .. :∀I X,a8 (fV S j I z (.M [.I V 5,bC (S.length+1) 0 1 X,bC (S.length+1) 1 3 (w8 (v.an.take i))] (fz (i+1) i) O)) .C (.P (S.length+1) 2)=J (bC (S.length+1) 1 3 (w8 (v.an.take i)))),f,A,ll,N,M,B,m];rw[aj kK];simp[E,s]
end
end
def sJ(k:Int)(a b:H)(ws:List K)(ps:List bw)(c:bH a=cz ws)(d:bH b=nE ps):
 bp (.A [.I V k,a,b])=.A (bw.mk k ws ps).aq:=by
 rw[bw.gG];show AV.A [_,bH a,bH b]=_;rw[c,d];rfl
def vH(k:Int):ez:=.M [.I V k,.ao,.ao] [] O
def Qt:∀(d:Nat)(v:bw),v.Wf->v.aW d=Y->d<1000->∀(S:G)(j:Nat)(r:Rd)(u:K),S[j]? =J (eo j r)->nZ r (v.bytes++u)->
 DF F W 233 [.P j 0,.I V (d:Int)] S=J (.A v.aq,S.set j (eo j (r.go v.bytes.length))):=by
 intro d;induction d with
 |zero=>nofun
 |succ d ih=>
  intro v hv h hd S j r u hS hr;have R:=bw.e9 h;have hj:j<S.length:=(jc.1 hS).1;have lb:=v.kD;rw[lb]at hr;have R1:=hr.V8;have ZV:∀b,(S++[b])[j]? =J (eo j r):=λb=>cM _ hS;have y:=Eh (ZV (.M [.I V 0,.ao,.ao] [] O)) hr;rw[en _ hj]at y;have hk:((cY v.ae.toNat).toNat:Int)=v.ae:=by have:=R.ae;rw[xY];omega
  rw[hk]at y;have E:fH V v.ae=v.ae:=by have:=R.ae;exact e_ Z
  have T1:(S.set j (eo j (r.go 1))).length=S.length:=b5;have sg:=λe b=>nO hS e (.M [.I V 0,.ao,.ao] [] O) b;have ss:=λe r'' b=>pT hS e r'' (.M [.I V 0,.ao,.ao] [] O) b;have tkS:∀e z b,(fV S j e z b).take S.length=S.set j (eo j e):=λe z b=>by grind [fV]
  have d0:¬((d:Int)+1=0):=Z;have hd1:fH V (d:Int)=(d:Int):=e_ Z;have T:b9 .neq (.eD cC) Y .aB .aB=J (.B O):=rfl;have fk:∀k:Int,bk [.I V 0,.ao,.ao] [(0,1,.I V k)]=J [.I V k,.ao,.ao]:=λ_=>rfl;have er:=λ{e:Rd}{u':K}(b:ez)(h':nZ e u')=>uE (sg e b) h';have C:∀k:Int,aY [] S.length (S.set j (eo j (r.go 1))++[.M [.I V 0,.ao,.ao] [] O,.M [.I V 0,.ao,.ao] [] O]) 3 (.P (S.length+1) 0) (.A [.I V k,.ao,.ao])=J ([],fV S j (r.go 1) (.M [.I V 0,.ao,.ao] [] O) (vH k)):=λk=>by rw[nK T1 rfl];rfl
  have A:∀(f:bY) e(l:bE) bt,l.length=3->bF (l.map aE)=Y->aY f S.length (fV S j e (.M [.I V 0,.ao,.ao] [] O) (.M l bt O)) 3 (.P S.length 0) (.A (l.map aE))=J (f,fV S j e (.M (l.map aE) [] O) (.M l bt O)):=λf e l bt hc hp=>by simp_all[fV,u9]
  have la:∀e z(l:bE) bt,l.length=3->a8 (fV S j e z (.M l bt O)) (.A 3) (.P (S.length+1) 0)=J (.A (l.map aE)):=λe z l bt hc=>by rw[jV];exact lR l hc
  have lz:∀e(l:bE) b,l.length=3->(l.map aE).map aE=l.map aE->a8 (fV S j e (.M (l.map aE) [] O) b) (.A 3) (.P S.length 0)=J (.A (l.map aE)):=λe l b hc hs=>by simp_all[fV,VA,lR]
  have B:∀e(f:bY)(l:bE) b(w:bw),bp (.A (l.map aE))=.A w.aq->bZ 233 f [.A (l.map aE)] S (fV S j e (.M (l.map aE) [] O) b)=J (.A w.aq,S.set j (eo j e)):=λe f l b w s=>by simp[kB,s,bn,tkS]
  have l0:∀e k,a8 (fV S j e (.M [.I V 0,.ao,.ao] [] O) (vH k)) .C (.P (S.length+1) 0)=J (.I V k):=λe k=>jV ..;have a:=er (vH v.ae) R1;have q0:∀ws:List K,∀(i:Nat),aE (bC i 0 1 (oa ws))=f_ 1 (oa ws):=λws i=>oI ..;rw[jy ad_];rcases R.ae with k|k|k|k|k|k
  ·have⟨X,h2⟩:=R.P5 (.inl k)
   have M:bw.mk 1 [] []=v:=bw.oN k X h2;have L:v.bytes=[cY v.ae.toNat]:=by simp_all[bw.eB]
   have s:=sJ 1 .ao .ao [] [] rfl rfl;rw[M]at s;have n:aY [] S.length (fV S j (r.go 1) (.M [.I V 0,.ao,.ao] [] O) (vH 1)) 3 (.P S.length 0) (.A [.I V 1,.ao,.ao])=J ([],fV S j (r.go 1) (vH 1) (vH 1)):=A [] (r.go 1) [.I V 1,.ao,.ao] [] rfl rfl;have p:a8 (fV S j (r.go 1) (.M [.I V 0,.ao,.ao] [] O) (vH 1)) (.A 3) (.P (S.length+1) 0)=J (.A [.I V 1,.ao,.ao]):=la (r.go 1) _ [.I V 1,.ao,.ao] [] rfl;have c:a8 (fV S j (r.go 1) (vH 1) (vH 1)) (.A 3) (.P S.length 0)=J (.A [.I V 1,.ao,.ao]):=lz (r.go 1) [.I V 1,.ao,.ao] (vH 1) rfl rfl;have m:bZ 233 [] [.A [.I V 1,.ao,.ao]] S (fV S j (r.go 1) (vH 1) (vH 1))=J (.A v.aq,S.set j (eo j (r.go 1))):=B (r.go 1) [] [.I V 1,.ao,.ao] (vH 1) v s;rw[k]at y E a;rw[L];simp at m;simp[d0,y,E,fk,C,a,T,l0,p,n,c,m]
  ·have⟨X,h2⟩:=R.P5 (.inr (.inl k))
   have M:bw.mk 2 [] []=v:=bw.oN k X h2;have L:v.bytes=[cY v.ae.toNat]:=by simp_all[bw.eB]
   have s:=sJ 2 .ao .ao [] [] rfl rfl;rw[M]at s;have n:aY [] S.length (fV S j (r.go 1) (.M [.I V 0,.ao,.ao] [] O) (vH 2)) 3 (.P S.length 0) (.A [.I V 2,.ao,.ao])=J ([],fV S j (r.go 1) (vH 2) (vH 2)):=A [] (r.go 1) [.I V 2,.ao,.ao] [] rfl rfl;have p:a8 (fV S j (r.go 1) (.M [.I V 0,.ao,.ao] [] O) (vH 2)) (.A 3) (.P (S.length+1) 0)=J (.A [.I V 2,.ao,.ao]):=la (r.go 1) _ [.I V 2,.ao,.ao] [] rfl;have c:a8 (fV S j (r.go 1) (vH 2) (vH 2)) (.A 3) (.P S.length 0)=J (.A [.I V 2,.ao,.ao]):=lz (r.go 1) [.I V 2,.ao,.ao] (vH 2) rfl rfl;have m:bZ 233 [] [.A [.I V 2,.ao,.ao]] S (fV S j (r.go 1) (vH 2) (vH 2))=J (.A v.aq,S.set j (eo j (r.go 1))):=B (r.go 1) [] [.I V 2,.ao,.ao] (vH 2) v s;rw[k]at y E a;rw[L];simp at m;simp[d0,y,E,fk,C,a,T,l0,p,n,c,m]
  ·have⟨X,h2⟩:=R.P5 (.inr (.inr k))
   have M:bw.mk 3 [] []=v:=bw.oN k X h2;have L:v.bytes=[cY v.ae.toNat]:=by simp_all[bw.eB]
   have s:=sJ 3 .ao .ao [] [] rfl rfl;rw[M]at s;have n:aY [] S.length (fV S j (r.go 1) (.M [.I V 0,.ao,.ao] [] O) (vH 3)) 3 (.P S.length 0) (.A [.I V 3,.ao,.ao])=J ([],fV S j (r.go 1) (vH 3) (vH 3)):=A [] (r.go 1) [.I V 3,.ao,.ao] [] rfl rfl;have p:a8 (fV S j (r.go 1) (.M [.I V 0,.ao,.ao] [] O) (vH 3)) (.A 3) (.P (S.length+1) 0)=J (.A [.I V 3,.ao,.ao]):=la (r.go 1) _ [.I V 3,.ao,.ao] [] rfl;have c:a8 (fV S j (r.go 1) (vH 3) (vH 3)) (.A 3) (.P S.length 0)=J (.A [.I V 3,.ao,.ao]):=lz (r.go 1) [.I V 3,.ao,.ao] (vH 3) rfl rfl;have m:bZ 233 [] [.A [.I V 3,.ao,.ao]] S (fV S j (r.go 1) (vH 3) (vH 3))=J (.A v.aq,S.set j (eo j (r.go 1))):=B (r.go 1) [] [.I V 3,.ao,.ao] (vH 3) v s;rw[k]at y E a;rw[L];simp at m;simp[d0,y,E,fk,C,a,T,l0,p,n,c,m]
  ·have h4:=R.k4 k
   have M:bw.mk 4 v.av []=v:=bw.oN k rfl h4.2.2.2.2;have L:v.bytes=[cY v.ae.toNat]++(ch v.av.length++v.av.flatMap aM):=by simp_all
   have wl1:1<=v.av.length:=by grind
   have q:nZ (r.go 1) (ch v.av.length++(v.av.flatMap aM++u)):=by simp_all
   have I:=HW (sg (r.go 1) (vH 4)) 1 wl1 h4.2.1 q;rw[ss]at I;have U:=q.go;have lp:=D0 (S:=S) (j:=j) (.M [.I V 0,.ao,.ao] [] O) v.av h4.2.1 h4.2.2.2.1 h4.2.2.1 v.av.length 0 r u [] Z hS _ U;have R3:=U.go;have Q:QX (S.length+1) v.av=.M [.I V 4,bC (S.length+1) 0 1 (oa v.av),.ao] [J v.av.length] O:=by unfold QX;simp_all
   have t:[AV.I V 4,bC (S.length+1) 0 1 (oa v.av),.ao].map aE=[.I V 4,f_ 1 (oa v.av),.ao]:=by simp only[Ev,Lk,oI];rfl
   have q1:=mM (sz:=1) (vr v.av);have N:bF ([AV.I V 4,bC (S.length+1) 0 1 (oa v.av),.ao].map aE)=Y:=by rw[t];simp[bF,aL,q1.2]
   have P:([AV.I V 4,bC (S.length+1) 0 1 (oa v.av),.ao].map aE).map aE=[AV.I V 4,bC (S.length+1) 0 1 (oa v.av),.ao].map aE:=by simp_all
   have s:=sJ 4 (f_ 1 (oa v.av)) .ao v.av [] (CB _) rfl;rw[M]at s;have m:=B (((r.go 1).go (ch v.av.length).length).go (v.av.flatMap aM).length) [] [AV.I V 4,bC (S.length+1) 0 1 (oa v.av),.ao] (QX (S.length+1) v.av) v (by simp_all);have g:=er (QX (S.length+1) v.av) R3;have n:=A [] (((r.go 1).go (ch v.av.length).length).go (v.av.flatMap aM).length) _ [J v.av.length] rfl N;have p:=la (((r.go 1).go (ch v.av.length).length).go (v.av.flatMap aM).length) (.M [.I V 0,.ao,.ao] [] O) [.I V 4,bC (S.length+1) 0 1 (oa v.av),.ao] [J v.av.length] rfl;have c:=lz (((r.go 1).go (ch v.av.length).length).go (v.av.flatMap aM).length) _ (QX (S.length+1) v.av) rfl P;rw[<-Q]at p n;simp only[t]at n p c m;have ZW:QX (S.length+1) []=vH 4:=rfl;rw[k]at y E a;rw[L];simp[ZW, -List.length_flatMap]at I lp g n p c m;simp[d0,y,E,fk,C,a,T,l0,I, -List.length_flatMap];rw[aj kJ];simp[lp,g,T,p,n,c,m, -List.length_flatMap]
   grind
  ·have h5:=R.k5 k
   have M:bw.mk 5 v.av v.an=v:=bw.oN k rfl rfl;have L:v.bytes=[cY v.ae.toNat]++(ch v.av.length++bw.de v.av v.an):=by simp_all
   have q:nZ (r.go 1) (ch v.av.length++(bw.de v.av v.an++u)):=by simp_all
   have I:=HW (sg (r.go 1) (vH 5)) 0 Z h5.2.1 q;rw[ss]at I;have U:=q.go;have⟨f,lp⟩:=D1 (S:=S) (j:=j) (d:=d) (.M [.I V 0,.ao,.ao] [] O) v h5.2.1 h5.2.2 h5.1 Z (λx hx S r u X h2=>ih x (hv.all x hx) (R.all x hx) Z S j r u X h2) v.av.length 0 r u [] Z hS _ U;have R3:=U.go;have Q:TU (S.length+1) v.av v.an=.M [.I V 5,bC (S.length+1) 0 1 (oa v.av),bC (S.length+1) 1 3 (w8 v.an)] (fz v.av.length v.an.length) O:=rfl;have t:[AV.I V 5,bC (S.length+1) 0 1 (oa v.av),bC (S.length+1) 1 3 (w8 v.an)].map aE=[.I V 5,f_ 1 (oa v.av),f_ 3 (w8 v.an)]:=by simp_all[oI]
   have q1:=mM (sz:=1) (vr v.av);have q2:=mM (sz:=3) (zG v.an);have N:bF ([AV.I V 5,bC (S.length+1) 0 1 (oa v.av),bC (S.length+1) 1 3 (w8 v.an)].map aE)=Y:=by simp_all[bF]
   have P:([AV.I V 5,bC (S.length+1) 0 1 (oa v.av),bC (S.length+1) 1 3 (w8 v.an)].map aE).map aE=[AV.I V 5,bC (S.length+1) 0 1 (oa v.av),bC (S.length+1) 1 3 (w8 v.an)].map aE:=by simp_all
   have s:=sJ 5 (f_ 1 (oa v.av)) (f_ 3 (w8 v.an)) v.av v.an (CB _) (HV _);rw[M]at s;have m:=B (((r.go 1).go (ch v.av.length).length).go (bw.de v.av v.an).length) f [AV.I V 5,bC (S.length+1) 0 1 (oa v.av),bC (S.length+1) 1 3 (w8 v.an)] (TU (S.length+1) v.av v.an) v (by simp_all);have g:=er (TU (S.length+1) v.av v.an) R3;have n:=A f (((r.go 1).go (ch v.av.length).length).go (bw.de v.av v.an).length) _ (fz v.av.length v.an.length) rfl N;have p:=la (((r.go 1).go (ch v.av.length).length).go (bw.de v.av v.an).length) (.M [.I V 0,.ao,.ao] [] O) [.I V 5,bC (S.length+1) 0 1 (oa v.av),bC (S.length+1) 1 3 (w8 v.an)] (fz v.av.length v.an.length) rfl;have c:=lz (((r.go 1).go (ch v.av.length).length).go (bw.de v.av v.an).length) _ (TU (S.length+1) v.av v.an) rfl P;rw[<-Q]at p n;simp only[t]at n p c m;have ZW:TU (S.length+1) [] []=vH 5:=rfl;rw[k]at y E a;rw[L];simp[ZW]at I lp g n p c m;simp[d0,y,E,fk,C,a,T,l0,I];rw[aj kK];simp[lp,g,T,p,n,c,m]
   grind
  ·have⟨hw0,hp1⟩:=R.k6 k
   have⟨x,hx⟩:=xX.1 hp1;have M:bw.mk 6 [] [x]=v:=bw.oN k hw0 hx;have L:v.bytes=[cY v.ae.toNat]++x.bytes:=by simp_all[bw.eB]
   have q:nZ (r.go 1) (x.bytes++u):=by simp_all
   have I:=ih x (hv.all x (by grind)) (R.all x (by grind)) Z _ j (r.go 1) u (sg (r.go 1) (vH 6)) q;rw[ss]at I;have U:=q.go;have hm:(fV S j ((r.go 1).go x.bytes.length) (.M [.I V 0,.ao,.ao] [] O) (vH 6))[S.length+1]? =J (.M [.I V 6,.ao,bC (S.length+1) 0 3 []] [] O):=lI ..;have⟨v3,t3,S3,t4,p1,p2⟩:=ZZ (sz:=3) (es:=[]) (x:=x.aq) (o:=2) [] 0 hm (λ_=>rfl) (λh=>absurd rfl h) b5 b5 (zG [x]);rw[mF]at p2;have ra0:bC (S.length+1) 0 3 []=.ao:=rfl;rw[ra0]at p1;have Q:ez.M (aR [.I V 6,.ao,.ao] 2 [bC (S.length+1) 0 3 ([]++[x.aq])]) ([]++[J 1]) O=.M [.I V 6,.ao,bC (S.length+1) 0 3 (w8 [x])] [J 1] O:=rfl;have hp2:∀nb,aY t3 nb S3 1 (.P (S.length+1) 2) v3=J (t4,fV S j ((r.go 1).go x.bytes.length) (.M [.I V 0,.ao,.ao] [] O) (.M [.I V 6,.ao,bC (S.length+1) 0 3 (w8 [x])] [J 1] O)):=λnb=>by simp_all
   have t:[AV.I V 6,.ao,bC (S.length+1) 0 3 (w8 [x])].map aE=[.I V 6,.ao,f_ 3 (w8 [x])]:=by rfl
   have q2:=mM (sz:=3) (zG [x]);have N:bF ([AV.I V 6,.ao,bC (S.length+1) 0 3 (w8 [x])].map aE)=Y:=by rw[t];simp[bF,aL,q2.2]
   have P:([AV.I V 6,.ao,bC (S.length+1) 0 3 (w8 [x])].map aE).map aE=[AV.I V 6,.ao,bC (S.length+1) 0 3 (w8 [x])].map aE:=by rfl
   have s:=sJ 6 .ao (f_ 3 (w8 [x])) [] [x] rfl (HV _);rw[M]at s;have m:=B ((r.go 1).go x.bytes.length) t4 [AV.I V 6,.ao,bC (S.length+1) 0 3 (w8 [x])] (.M [.I V 6,.ao,bC (S.length+1) 0 3 (w8 [x])] [J 1] O) v (by trivial);have g:=er (.M [.I V 6,.ao,bC (S.length+1) 0 3 (w8 [x])] [J 1] O) U;have n:=A t4 ((r.go 1).go x.bytes.length) _ [J 1] rfl N;have p:=la ((r.go 1).go x.bytes.length) (.M [.I V 0,.ao,.ao] [] O) [.I V 6,.ao,bC (S.length+1) 0 3 (w8 [x])] [J 1] rfl;have c:=lz ((r.go 1).go x.bytes.length) _ (.M [.I V 6,.ao,bC (S.length+1) 0 3 (w8 [x])] [J 1] O) rfl P;simp only[t]at n p c m;have ld2:∀e,a8 (fV S j e (.M [.I V 0,.ao,.ao] [] O) (vH 6)) .C (.P (S.length+1) 2)=J .ao:=λe=>jV ..;have bo:da 3 [[.I V 0,.ao,.ao]] [(0,.A x.aq)]=J [x.aq]:=by have:=(bw.dx x).lr;simp[da,aE,AV.cells,fE]
   have bz:da 3 [[.I V 0,.ao,.ao]] [(0,.A [.I V 0,.ao,.ao])]=J [[.I V 0,.ao,.ao]]:=rfl;rw[k]at y E a;rw[L];generalize bC (S.length+1) 0 3 (w8 [x])=row at*;simp at I g n p c m p1 hp2;simp[d0,hd1,y,E,fk,C,a,T,l0,ld2,I,iq,bo,bz,p1,hp2,g,p,n,c,m]
   grind
def HX{S:G}{j:Nat}{r:Rd}{u:K}(v:bw)(i:v.Wf)(h:v.aW 5=Y)(d:S[j]? =J (eo j r))(f:nZ r (v.bytes++u)):
 DF F W 210 [.P j 0] S=J (.A v.aq,S.set j (eo j (r.go v.bytes.length))):=by
 have e:=Qt 5 v i h Z (S++[.M [.I V 0,.ao,.ao] [] O]) j r u (cM _ d) f;rw[en _ ((jc.1 d).1)]at e;have c:(S.set j (eo j (r.go v.bytes.length))).length=S.length:=b5;have m:=u9 c (bw.dx v).aL [.M [.I V 0,.ao,.ao] [] O] 0 [] S.length 3;have l:a8 (S.set j (eo j (r.go v.bytes.length))++[.M v.aq [] O]) (.A 3) (.P S.length 0)=J (.A v.aq):=by rw[VA c];simp
 have k:∀b a,(S.set j b++a).take S.length=S.set j b:=λb a=>by simp
 have g:aR [.I V 0,.ao,.ao] 0 v.aq=v.aq:=aT b5;rw[fO adU];simp_all
section
def LY{S:G}{j:Nat}{r:Rd}{s o u:K}(hS:S[j]? =J (eo j r))(d:dY s=Y)(a:s≠o)(h:nZ r (aM s++u)):
 DF F W 208 [.P j 0,.S o] S=J (.S s,S.set j (eo j (r.go (aM s).length))):=by
 have e:=fe d;have c:=jD s Z (S.set j (eo j (r.go (aM s).length)));rw[d]at c;simp[jy adS,BF hS Z h,c,a,(λb=>m_ b5:∀b,(S.set j b).take S.length=S.set j b),bb]
def Dx{S:G}{j:Nat}{r:Rd}{u:K}(v:aV)(o:v.Wf)(h:v.aW 5=Y)(hS:S[j]? =J (eo j r))(k:nZ r (v.bytes++u))(g:db)(n:nk.jQ g=D)(a:qt g=O)
 (l:∀T,DF F W g [.A v.aq] T=J (.B Y,T)):DF F W 211 [.P j 0,.fn g [] []] S=J (.A v.aq,S.set j (eo j (r.go v.bytes.length))):=by
 have i:=BG v o h (cM [.M ah [] O] hS) k;rw[en _ ((jc.1 hS).1)]at i;have c:(S.set j (eo j (r.go v.bytes.length))).length=S.length:=b5;have p:aY [] S.length (S.set j (eo j (r.go v.bytes.length))++[.M ah [] O,.M ah [] O]) 6 (.P (S.length+1) 0) (.A v.aq)=J ([],fV S j (r.go v.bytes.length) (.M ah [] O) (.M v.aq [] O)):=by simp[nK c (aV.dx v).aL,(aT b5:aR ah 0 v.aq=v.aq),fV]
 have e:aY [] S.length (fV S j (r.go v.bytes.length) (.M ah [] O) (.M v.aq [] O)) 6 (.P S.length 0) (.A v.aq)=J ([],fV S j (r.go v.bytes.length) (.M v.aq [] O) (.M v.aq [] O)):=by unfold fV;simp[u9 c (aV.dx v).aL]
 have f:∀d z b,(fV S j d z b).take S.length=S.set j (eo j d):=λd z b=>by grind [fV]
 rw[jy Xp];simp[i,p,uE (nO hS (r.go v.bytes.length) (.M ah [] O) (.M v.aq [] O)) k.go,(rfl:b9 .eql (.eD cC) Y .aB .aB=J (.B Y)),(by rw[jV];simp:a8 (fV S j (r.go v.bytes.length) (.M ah [] false) (.M v.aq [] false)) (.A 6) (.P (S.length+1) 0)=some (.A v.aq)),n,a,l,bb,e,(by unfold fV;rw[VA c];simp:a8 (fV S j (r.go v.bytes.length) (.M v.aq [] false) (.M v.aq [] false)) (.A 6) (.P S.length 0)=some (.A v.aq)),f]
def za{S:G}{j m:Nat}{r:Rd}{u:K}(v:aV)(o:v.Wf)(h:v.aW 5=Y)(hS:S[j]? =J (eo j r))(l:nZ r (v.bytes++u))(g:db)(n:nk.jQ g=D)(a:qt g=O)
 (k:DF F W g [.A v.aq,.P m 0] (fV S j (r.go v.bytes.length) (.M ah [] O) (.M v.aq [] O))=J (.B Y,fV S j (r.go v.bytes.length) (.M ah [] O) (.M v.aq [] O))):
 DF F W 211 [.P j 0,.fn g [] [.P m 0]] S=J (.A v.aq,S.set j (eo j (r.go v.bytes.length))):=by
 have i:=BG v o h (cM [.M ah [] O] hS) l;rw[en _ ((jc.1 hS).1)]at i;have c:(S.set j (eo j (r.go v.bytes.length))).length=S.length:=b5;have p:aY [] S.length (S.set j (eo j (r.go v.bytes.length))++[.M ah [] O,.M ah [] O]) 6 (.P (S.length+1) 0) (.A v.aq)=J ([],fV S j (r.go v.bytes.length) (.M ah [] O) (.M v.aq [] O)):=by simp[nK c (aV.dx v).aL,(aT b5:aR ah 0 v.aq=v.aq),fV]
 have e:aY [] S.length (fV S j (r.go v.bytes.length) (.M ah [] O) (.M v.aq [] O)) 6 (.P S.length 0) (.A v.aq)=J ([],fV S j (r.go v.bytes.length) (.M v.aq [] O) (.M v.aq [] O)):=by unfold fV;simp[u9 c (aV.dx v).aL]
 have f:∀d z b,(fV S j d z b).take S.length=S.set j (eo j d):=λd z b=>by grind [fV]
 rw[jy Xp];simp at k;simp[i,p,uE (nO hS (r.go v.bytes.length) (.M ah [] O) (.M v.aq [] O)) l.go,(rfl:b9 .eql (.eD cC) Y .aB .aB=J (.B Y)),(by rw[jV];simp:a8 (fV S j (r.go v.bytes.length) (.M ah [] false) (.M v.aq [] false)) (.A 6) (.P (S.length+1) 0)=some (.A v.aq)),n,a,k,bb,e,(by unfold fV;rw[VA c];simp:a8 (fV S j (r.go v.bytes.length) (.M v.aq [] false) (.M v.aq [] false)) (.A 6) (.P S.length 0)=some (.A v.aq)),f]
def iJ(k:Int)(a b:K)(ts xs ys:bE)(pr ir:H):bE:=[.I V k,.S a,.S b]++(ts++(xs++(ys++[pr,ir])))
theorem lg{k:Int}{a b:K}{c xs ys:bE}{pr ir:H}(d:c.length=3)(e:xs.length=6)(f:ys.length=6):(iJ k a b c xs ys pr ir).length=20:=by simp[iJ,d,e,f]
def XN{k:Int}{a b:K}{d xs ys:bE}{pr ir:H}(e:d.length=3)(f:d.map aE=d):fF (.A 3) (iJ k a b d xs ys pr ir) 3=J (.A d):=
 kj (a:=[.I V k,.S a,.S b]) (b:=d) (c:=xs++(ys++[pr,ir])) rfl rfl e f
def afr{k:Int}{a b:K}{c xs ys:bE}{pr ir:H}(d:c.length=3)(e:xs.length=6)(f:ys.length=6):(iJ k a b c xs ys pr ir)[18]? =J pr:=by simp_all[iJ]
def nI{l a b c b':bE}{off:Nat}(f:l=a++(b++c))(d:a.length=off)(e:b'.length=b.length):aR l off b'=a++(b'++c):=by grind [aR]
def Z0{k:Int}{a b:K}{e xs ys:bE}{pr d ir:H}(f:e.length=3)(g:xs.length=6)(h:ys.length=6):aR (iJ k a b e xs ys pr ir) 18 [d]=iJ k a b e xs ys d ir:=by exact(nI (l:=iJ k a b e xs ys pr ir) (off:=18) (b':=[d]) (a:=[.I V k,.S a,.S b]++(e++(xs++ys))) (b:=[pr]) (c:=[ir]) (by simp[iJ]) (by simp_all) rfl).trans (by simp[iJ])
def Z1{k:Int}{a b:K}{e xs ys:bE}{pr ir d:H}(f:e.length=3)(g:xs.length=6)(h:ys.length=6):aR (iJ k a b e xs ys pr ir) 19 [d]=iJ k a b e xs ys pr d:=by exact(nI (l:=iJ k a b e xs ys pr ir) (off:=19) (b':=[d]) (a:=[.I V k,.S a,.S b]++(e++(xs++(ys++[pr])))) (b:=[ir]) (c:=[]) (by simp[iJ]) (by simp_all) rfl).trans (by simp[iJ])
def TV{k:Int}{a b:K}{e d xs ys:bE}{pr ir:H}(g:e.length=3)(f:d.length=3):aR (iJ k a b e xs ys pr ir) 3 d=iJ k a b d xs ys pr ir:=by exact(nI (l:=iJ k a b e xs ys pr ir) (off:=3) (b':=d) (a:=[.I V k,.S a,.S b]) (b:=e) (c:=xs++(ys++[pr,ir])) rfl rfl Z).trans rfl
def TW{k:Int}{a b:K}{e xs d ys:bE}{pr ir:H}(f:e.length=3)(h:xs.length=6)(g:d.length=6):aR (iJ k a b e xs ys pr ir) 6 d=iJ k a b e d ys pr ir:=by exact(nI (l:=iJ k a b e xs ys pr ir) (off:=6) (b':=d) (a:=[.I V k,.S a,.S b]++e) (b:=xs) (c:=ys++[pr,ir]) rfl (by simp[f]) Z).trans rfl
def Z2{k:Int}{a b:K}{e xs ys d:bE}{pr ir:H}(g:e.length=3)(h:xs.length=6)(i:ys.length=6)(f:d.length=6):aR (iJ k a b e xs ys pr ir) 12 d=iJ k a b e xs d pr ir:=by exact(nI (l:=iJ k a b e xs ys pr ir) (off:=12) (b':=d) (a:=[.I V k,.S a,.S b]++(e++xs)) (b:=ys) (c:=[pr,ir]) (by simp[iJ]) (by grind) Z).trans (by simp[iJ])
def BI(S:St)(j m:Nat)(r:Rd)(b:ez)(G:List ez):St:=(S.set j (eo j r)).set m b++G
section
variable{S:G}{j m:Nat}{r:Rd}(hS:S[j]? =J (eo j r))(hm:m<S.length)(UR:j≠m)
include hS UR in
theorem Ek(c:Rd)(b:ez)(a:List ez):(BI S j m c b a)[j]? =J (eo j c):=by
 refine cM a ?_
 grind
include hS UR in
theorem Jx(d c:Rd)(b:ez)(a:List ez):(BI S j m d b a).set j (eo j c)=BI S j m c b a:=by grind [BI,List.set_comm,List.set_set]
include hm in
theorem TX(c:Rd)(b:ez)(a:List ez):(BI S j m c b a)[m]? =J b:=cM a (De (by simp_all))
include hm in
theorem TY(d:Rd)(b c:ez)(a:List ez):(BI S j m d b a).set m c=BI S j m d c a:=by grind [BI,List.set_set]
end
def Wd(S:G)(j m:Nat)(r:Rd)(b:ez)(a c:List ez):BI S j m r b a++c=BI S j m r b (a++c):=pX ..
def CG(l:List dQ):iI:=l.map dQ.aq
def O0(a:List dQ)(x:dQ):CG (a++[x])=CG a++[x.aq]:=by simp[CG]
@[simp]theorem O1(a:List dQ):(CG a).length=a.length:=by simp[CG]
def HY(l:List dQ):dw (CG l)=Y:=jI.2 λx a=>by obtain⟨s,_,rfl⟩:=Ad.1 a;exact lJ.aL b5
def Qu(a:List dQ):bH (f_ 12 (CG a))=mz a:=qx 12 _
def Jy(n:Nat):bY:=if n=0 then[]else[J n]
def uF{T:G}{m:Nat}{k:Int}{a b:K}{t:bw}{xs ys:bE}{pr ir:H}{bt:bY}{q:Bool}(hm:T[m]? =J (.M (iJ k a b t.aq xs ys pr ir) bt q))(y:aV)(e:y.Wf)(d:t.Wf)(h:nj y t=Y):
 DF F W 209 [.A y.aq,.P m 0] T=J (.B Y,T):=by
 have c:=uA y t e d (T++[.M y.aq [] O]);rw[h]at c;have f:a8 (T++[.M y.aq [] O]) (.A 3) (.P m 3)=J (.A t.aq):=by rw[bP (cM [.M y.aq [] O] hm)];exact XN b5 (bw.dx t).lr
 simp[jy adT,f,c]
def TZ{S:G}{j m:Nat}{r:Rd}{u:K}(l:bj)(U:l.BY)(hq:l.type.ae<=4)(N:gM l.back=Y)(hp8:l.aO.length<=8)(hpr:l.aO.all (p_ l.type)=Y){k:Int}{a b:K}{xs ys:bE}{ir:H}(hx:xs.length=6)(hy:ys.length=6)
 (hS:S[j]? =J (eo j r)) (hm:S[m]? =J (.M (iJ k a b l.type.aq xs ys .ao ir) [] O)) (UR:j≠m) (hr:nZ r (l.back.bytes++(ch l.aO.length++(l.aO.flatMap jA++u)))):
 DF F W 212 [.P j 0,.P m 0,.fn 209 [] [.P m 0]] S=J (.bL [],BI S j m (r.go (l.back.bytes.length+((ch l.aO.length).length+(l.aO.flatMap jA).length))) (.M (iJ k a b l.type.aq xs l.back.aq (bC m 0 12 (CG l.aO)) ir) (Jy l.aO.length) O) []):=by
 have hj:j<S.length:=(jc.1 hS).1;have P:m<S.length:=(jc.1 hm).1;have A:=N;unfold gM at A;simp only[jM]at A;have E:l.type.aq.length=3:=b5;have c1:=Dx l.back U.back A.1 hS hr 188 rfl rfl (λT=>by rw[qN l.back U.back,N]);have hm1:(S.set j (eo j (r.go l.back.bytes.length)))[m]? =J (.M (iJ k a b l.type.aq xs ys .ao ir) [] O):=by simp_all
 have st1:aY [] S.length (S.set j (eo j (r.go l.back.bytes.length))) 6 (.P m 12) (.A l.back.aq)=J ([],BI S j m (r.go l.back.bytes.length) (.M (iJ k a b l.type.aq xs l.back.aq (bC m 0 12 (CG [])) ir) (Jy 0) O) []):=by rw[dH (v8 (aV.dx l.back)) hm1,if_pos ⟨by simp,by rw[lg E hx hy];omega⟩];simp_all[Z2,BI,bC,CG,Jy]
 have R1:=hr.go;have c2:=lH (Ek hS UR (r.go l.back.bytes.length) (.M (iJ k a b l.type.aq xs l.back.aq (bC m 0 12 (CG [])) ir) (Jy 0) O) []) (n:=l.aO.length) Z R1;rw[Jx hS UR]at c2;have R2:=R1.go;have UG:∀d i(w:Rd)(f:bY)(c:List ez),i+d=l.aO.length->nZ w ((l.aO.drop i).flatMap jA++u)->
  ∃s p,DC F W (.L yI) ⟨[(0,.P j 0),(1,.P m 0),(2,.fn 209 [] [.P m 0]),(6,.I bh (l.aO.length:Int)),(7,.I bh (i:Int))],f,S.length⟩ (BI S j m w (.M (iJ k a b l.type.aq xs l.back.aq (bC m 0 12 (CG (l.aO.take i))) ir) (Jy i) O) c)=
   J (.E 0,⟨[],s,S.length⟩,BI S j m (w.go ((l.aO.drop i).flatMap jA).length) (.M (iJ k a b l.type.aq xs l.back.aq (bC m 0 12 (CG l.aO)) ir) (Jy l.aO.length) O) p):=by
  intro d;induction d with
  |zero=>
   intro i w f c hi v;have ei:i=l.aO.length:=Z;have e3:l.aO.drop i=[]:=gY Z;refine⟨f,c, ?_⟩;simp[aw,a_ lD,e3,(m_ Z:l.aO.take i=l.aO),ei,Rd.go]
  |succ d ih=>
   intro i w f c hi v;have h3:i<l.aO.length:=Z;have⟨y,I,X_⟩:=aJ (l:=l.aO) (i:=i) Z;have ym:=fA I;have hw:fH bh ((i:Int)+1)=((i+1:Nat):Int):=by show((i:Int)+1)%2^64=_;omega
   have L:=sQ.1 hpr y ym;have yw:=U.pair y ym;unfold p_ at L;simp only[jM]at L;have yx:=L.1;unfold gM at yx;simp only[jM]at yx;have yy:=mm L.2;rw[aS I,tU]at v⊢;unfold jA at v;rw[pX,pX]at v;have Q1:=v.go;have Q2:=Q1.go;have lP:(l.aO.take i).length=i:=by grind
   generalize hB:ez.M (iJ k a b l.type.aq xs l.back.aq (bC m 0 12 (CG (l.aO.take i))) ir) (Jy i) O=B at*;have ce:=uE (Ek hS UR w B c) v;have d1:=Dx y.x yw.1 yx.1 (Ek hS UR w B c) v 188 rfl rfl (λT=>by rw[qN y.x yw.1,L.1]);rw[Jx hS UR]at d1;have C:∀e z p,(BI S j m e z p).length=S.length+p.length:=λe z p=>by simp[BI]
   have R:∀e z p X,BI S j m e z p++[X]=BI S j m e z (p++[X]):=λ_ _ _ _=>Wd ..;have hsp:aR ah 0 y.x.aq=y.x.aq:=aT b5;have lx:∀e z,a8 (BI S j m e z (c++[.M y.x.aq [] O])) (.A 6) (.P (S.length+c.length) 0)=J (.A y.x.aq):=λe z=>by simp[<-R,<-C e z c,Jz]
   have M:∀e p,(BI S j m e B p)[m]? =J (.M (iJ k a b l.type.aq xs l.back.aq (bC m 0 12 (CG (l.aO.take i))) ir) (Jy i) O):=λe p=>by rw[TX P,hB]
   have l18:∀e p,a8 (BI S j m e B p) .C (.P m 18)=J (bC m 0 12 (CG (l.aO.take i))):=λe p=>by rw[bP (M e p),sX,afr E hx b5]
   have d2:=za (m:=m) y.y yw.2 yy.1 (Ek hS UR (w.go y.x.bytes.length) B (c++[.M y.x.aq [] O])) Q1 209 rfl rfl (by
    refine uF (k:=k) (a:=a) (b:=b) (t:=l.type) (xs:=xs) (ys:=l.back.aq) (pr:=bC m 0 12 (CG (l.aO.take i))) (ir:=ir) (bt:=Jy i) (q:=O) ?_ y.y yw.2 U.type L.2
    grind [fV])
   rw[Jx hS UR]at d2
   have⟨v1,t1,S1,t2,a1,Q⟩:=ZZ (sz:=12) (es:=CG (l.aO.take i)) (x:=y.aq) (o:=18) f 0 (M ((w.go y.x.bytes.length).go y.y.bytes.length) (c++[.M y.x.aq [] O])) (λh=>by
    have:l.aO.take i=[]:=by simpa[CG]using h
    have:i=0:=by simp_all
    rw[this];rfl) (λh=>by
    grind [Jy,O1]) (by simp;omega) (by rw[lg E hx b5];omega) (by rw[<-O0];exact HY _)
   rw[TY P,Z0 E hx b5,<-O0]at Q;have eu:(if CG (l.aO.take i)=[]then Jy i++[J 1]else(Jy i).set 0 (J ((CG (l.aO.take i)).length+1)))=Jy (i+1):=by grind [O1,Jy]
   rw[eu,<-(by rw[rh,I];rfl:l.aO.take (i+1)=l.aO.take i++[y])]at Q;have⟨s,p,n1⟩:=ih (i+1) ((w.go y.x.bytes.length).go y.y.bytes.length) t2 (c++[.M y.x.aq [] O]) Z Q2;refine⟨s,p, ?_⟩;have es:(w.go y.x.bytes.length).go y.y.bytes.length=w.go (y.x.bytes.length+y.y.bytes.length):=b5;rw[(by simp[Rd.go,jA,wI]:w.go (jA y++(l.aO.drop (i+1)).flatMap jA).length=(w.go (y.x.bytes.length+y.y.bytes.length)).go ((l.aO.drop (i+1)).flatMap jA).length)];have st:∀e,aY f S.length (BI S j m e B (c++[.M ah [] O])) 6 (.P (S.length+c.length) 0) (.A y.x.aq)=J (f,BI S j m e B (c++[.M y.x.aq [] O])):=λe=>by rw[<-R,<-R,<-C e B c,Fl (v8 (aV.dx y.x))];simp
   have pe:bk kI [(0,6,.A y.x.aq),(6,6,.A y.y.aq)]=J y.aq:=by simp_all[aR,dQ.aq,bk]
   have bo:da 12 [kI] [(0,.A y.aq)]=J [y.aq]:=by simp_all[da]
   simp only[es]at a1 Q n1;rw[aw,a_ lD];simp only[es]at d2;have ld:=C;simp[-List.length_flatMap]at hw n1 bo pe;simp[h3,ce,(rfl:b9 .eql (.eD cC) Y .aB .aB=J (.B Y)),d1,R,ld,st,cb,l18,lx,d2,pe,bo,a1,Q, -List.length_flatMap];rw[aj lD];simp[hw,n1, -List.length_flatMap]
 have⟨s,p,g⟩:=UG l.aO.length 0 _ [] [] Z R2;simp only[List.take_zero,oQ]at g;have tk:∀e z,(BI S j m e z p).take S.length=BI S j m e z []:=λe z=>by grind [BI]
 rw[(by simp[Rd.go,wI]:((r.go l.back.bytes.length).go (ch l.aO.length).length).go (l.aO.flatMap jA).length=r.go (l.back.bytes.length+((ch l.aO.length).length+(l.aO.flatMap jA).length)))]at g;rw[PS adV];simp at c1 c2;simp[-List.length_flatMap]at g;simp[c1,cb,st1,c2,(eq_false Z:((8:Int)<(l.aO.length:Int))=False), -List.length_flatMap];rw[aj lD];simp[g,tk,bZ,aF,bM,ax, -List.length_flatMap]
end
def cU(k f s v:Int)(o l:bE)(r:H):bE:=[.I V k,.I V f,.I V s,.I V v]++(o++(l++[r]))
def aD.iM(a:aD):a.aq=cU a.ae a.fst a.snd a.bU a.op.aq a.bG.aq (b_ a.raw):=rfl
def abt:ak=cU 0 0 0 0 ag ab .ao:=rfl
def fN{k f s v:Int}{o l:bE}{r:H}(b:o.length=10)(a:l.length=20):(cU k f s v o l r).length=35:=by simp[cU,b,a]
def T9(k f s v x:Int)(o l:bE)(r:H):aR (cU k f s v o l r) 2 [.I V x]=cU k f x v o l r:=by rfl
def Qz(k f s v x:Int)(o l:bE)(r:H):aR (cU k f s v o l r) 3 [.I V x]=cU k f s x o l r:=by rfl
def O7(k f s v:Int){o o':bE}(l:bE)(r:H)(h:o'.length=o.length):aR (cU k f s v o l r) 4 o'=cU k f s v o' l r:=
 nI (a:=[.I V k,.I V f,.I V s,.I V v]) rfl rfl h
def H5(k f s v:Int)(o:bE){l l':bE}(r:H)(d:o.length=10)(h:l'.length=l.length):aR (cU k f s v o l r) 14 l'=cU k f s v o l' r:=by have:=nI (l:=cU k f s v o l r) (a:=[.I V k,.I V f,.I V s,.I V v]++o) (b:=l) (c:=[r]) (off:=14) (by simp[cU]) (by simp[d]) h;simpa[cU]using this
def L7(k f s v:Int)(o l:bE)(r d:H)(g:o.length=10)(e:l.length=20):aR (cU k f s v o l r) 34 [d]=cU k f s v o l d:=by have:=nI (l:=cU k f s v o l r) (a:=[.I V k,.I V f,.I V s,.I V v]++(o++l)) (b:=[r]) (c:=[]) (off:=34) (b':=[d]) (by simp[cU]) (by simp[g,e]) rfl;simpa[cU]using this
def kU(k f s v:Int)(o l:bE)(r:H):(cU k f s v o l r).map bH=cU k f s v (o.map bH) (l.map bH) (bH r):=by simp[cU,bH]
def kV(k f s v:Int)(o l:bE)(r:H)(c:o.map aE=o)(b:l.map aE=l)(d:aE r=r):(cU k f s v o l r).map aE=cU k f s v o l r:=by have a:∀n,aE (.I V n)=.I V n:=λ_=>rfl;simp[cU,a,c,b,d]
def F5:∀(a b:bE),bF (a++b)=(bF a&&bF b)
 |[],b=>by simp[bF]
 |x::a,b=>by simp[bF,F5 a b,Bool.and_assoc]
def jX(k f s v:Int)(o l:bE)(r:H)(b:bF o=Y)(a:bF l=Y)(c:aL r=Y):bF (cU k f s v o l r)=Y:=by simp[cU,F5,bF,aL,b,a,c]
def T_(f:db)(C E:bE)(i:C.length=35)(m:bF C=Y)(o:C.map aE=C)(k:C.map bH=E)(j:bF E=Y)(S:G)(h:bE)(p:h.length=35):
 fF (.A 35) C 0=J (.A C)/\(∀X g W,aY [] S.length (S++[X,g,.M h [] O,W]) 35 (.P (S.length+2) 0) (.A C)=J ([],S++[X,g,.M C [] O,W]))/\(∀d,bZ f [] [.A C] S (S++d)=J (.A E,S)):=by
 refine⟨?_,λX g W=>?_,λd=>?_⟩
 ·have:=kj (l:=C) (a:=[]) (b:=C) (c:=[]) (off:=0) (n:=35) (by simp) rfl i o
  exact this
 ·rw[nK (S:=S) rfl m]
  simp[i,p,aT]
 ·have e:bp (.A C)=.A E:=by rw[<-k];rfl
  simp[kB,e,bn,aK,ax,aL,j]
set_option maxRecDepth 4000 in
def jL(a:aD)(h1:1<=a.ae)(h9:a.ae<=9)(S:G):DF F W 16 [.A a.aq,.A (aA a.ae)] S=J (.A a.bare.aq,S):=by
 have y:ag.length=10:=rfl;have z:ab.length=20:=rfl;have M:bF ag=Y:=rfl;have L:bF ab=Y:=rfl;have so:ag.map aE=ag:=rfl;have sl:ab.map aE=ab:=rfl;have n:ag.map bH=rG.aq:=rfl;have m:ab.map bH=jo.aq:=rfl;have A:ak.length=35:=rfl;have E:bk ak [(0,1,.I V a.ae),(1,1,.I V a.fst)]=J (cU a.ae a.fst 0 0 ag ab .ao):=rfl;have L0:=fN (k:=a.ae) (f:=a.fst) (s:=0) (v:=0) (r:=.ao) y z;have N:∀X b c,aY [] S.length (S++[X,b,c,.M ak [] O]) 35 (.P (S.length+3) 0) (.A (cU a.ae a.fst 0 0 ag ab .ao))=J ([],S++[X,b,c,.M (cU a.ae a.fst 0 0 ag ab .ao) [] O]):=λX b c=>by rw[nK (S:=S) rfl (jX _ _ _ _ _ _ _ M L rfl)];simp[L0,A,aT]
 have e:∀X b c C C' I x,aR C I [.I V x]=C'->I+1<=C.length->aY [] S.length (S++[X,b,c,.M C [] O]) 1 (.P (S.length+3) I) (.I V x)=J ([],S++[X,b,c,.M C' [] O]):=λX b c C C' I x h hl=>by rw[dH (ly V x).Ai (cI S [X,b,c,.M C [] O] 3),if_pos ⟨rfl,hl⟩,show(AV.I V x).cells=[.I V x]from rfl,h];simp
 have P:=λX b c=>e X b c _ _ 2 a.snd (T9 a.ae a.fst 0 0 a.snd ag ab .ao) (by rw[L0];omega);have U:=λX b c=>e X b c _ _ 3 a.bU (Qz a.ae a.fst 0 0 a.bU ag ab .ao) (by rw[L0];omega);have LV:=fN (k:=a.ae) (f:=a.fst) (s:=0) (v:=a.bU) (r:=.ao) y z;have LB:=fN (k:=a.ae) (f:=a.fst) (s:=a.snd) (v:=0) (r:=.ao) y z;have lo:a.op.aq.length=10:=by simp
 have ll:a.bG.aq.length=20:=by simp
 have R:∀X b c,aY [] S.length (S++[X,b,c,.M (cU a.ae a.fst 0 a.bU ag ab .ao) [] O]) 10 (.P (S.length+3) 4) (.A a.op.aq)=J ([],S++[X,b,c,.M (cU a.ae a.fst 0 a.bU a.op.aq ab .ao) [] O]):=λX b c=>by rw[nK (S:=S) rfl (k7.dx _).aL];simp[LV,O7,y]
 have Q:∀X b c,aY [] S.length (S++[X,b,c,.M (cU a.ae a.fst 0 a.bU ag ab .ao) [] O]) 20 (.P (S.length+3) 14) (.A a.bG.aq)=J ([],S++[X,b,c,.M (cU a.ae a.fst 0 a.bU ag a.bG.aq .ao) [] O]):=λX b c=>by rw[nK (S:=S) rfl (bj.dx _).aL];simp[LV,H5,y,z]
 have T:∀X b c,aY [] S.length (S++[X,b,c,.M (cU a.ae a.fst a.snd 0 ag ab .ao) [] O]) 1 (.P (S.length+3) 34) (b_ a.raw)=J ([],S++[X,b,c,.M (cU a.ae a.fst a.snd 0 ag ab (b_ a.raw)) [] O]):=λX b c=>by
  have hc:(b_ a.raw).cells=[b_ a.raw]:=by cases a.raw<;>rfl
  rw[dH (tg a.raw).Ai (cI S [X,b,c,.M _ [] O] 3),hc,if_pos ⟨rfl,by rw[LB];omega⟩,L7 _ _ _ _ _ _ _ _ y z];simp
 have i:a.op.aq.map bH=a.op.aq:=(k7.dx a.op).iN;have g:a.bG.aq.map bH=a.bG.aq:=(bj.dx a.bG).iN;have xO:a.op.aq.map aE=a.op.aq:=(k7.dx a.op).lr;have xL:a.bG.aq.map aE=a.bG.aq:=(bj.dx a.bG).lr;have p:bH .ao=b_ []:=rfl;have j:bH (b_ a.raw)=b_ a.raw:=by cases a.raw<;>rfl
 have xR:aE (b_ a.raw)=b_ a.raw:=by cases a.raw<;>rfl
 have pR:aL (b_ a.raw)=Y:=(tg a.raw).Ai.aL;have B:=(aD.dx a.bare).aL;have d:∀s v o l r,o.length=10->l.length=20->bF o=Y->bF l=Y->aL r=Y->o.map aE=o->l.map aE=l->aE r=r->cU a.ae a.fst s v (o.map bH) (l.map bH) (bH r)=a.bare.aq->_:=
  λs v o l r h1 h2 h3 h4 h5 h6 h7 h8 h9=>T_ 16 (cU a.ae a.fst s v o l r) a.bare.aq (fN h1 h2) (jX _ _ _ _ _ _ _ h3 h4 h5) (kV _ _ _ _ _ _ _ h6 h7 h8) ((kU _ _ _ _ _ _ _).trans h9) B S ak A
 rcases oY h1 h9 with h|h|h|h|h|h|h|h|h
 ·have q:aA a.ae=aA 1:=by rw[h]
  have⟨t,u,w⟩:=d 0 a.bU a.op.aq ab .ao lo z (k7.dx _).aL L rfl xO sl rfl (by simp only[n,m,i,g,p,j,aD.iM,aD.bare,h];rfl);rw[q];clear d e n m i g p j B;rw[jy I_];simp-implicitDefEqProofs [aA,cN,cO,b8,E,N,P,U,R,Q,T,t,u,w,A]
 ·have q:aA a.ae=aA 2:=by rw[h]
  have⟨t,u,w⟩:=d 0 a.bU ag a.bG.aq .ao y ll M (bj.dx _).aL rfl so xL rfl (by simp only[n,m,i,g,p,j,aD.iM,aD.bare,h];rfl);rw[q];clear d e n m i g p j B;rw[jy I_];simp-implicitDefEqProofs [aA,cN,cO,b8,E,N,P,U,R,Q,T,t,u,w,A]
 ·have q:aA a.ae=aA 3:=by rw[h]
  have⟨t,u,w⟩:=d a.snd 0 ag ab .ao y z M L rfl so sl rfl (by simp only[n,m,i,g,p,j,aD.iM,aD.bare,h];rfl);rw[q];clear d e n m i g p j B;rw[jy I_];simp-implicitDefEqProofs [aA,cN,cO,b8,E,N,P,U,R,Q,T,t,u,w,A]
 ·have q:aA a.ae=aA 4:=by rw[h]
  have⟨t,u,w⟩:=d 0 0 ag ab .ao y z M L rfl so sl rfl (by simp only[n,m,i,g,p,j,aD.iM,aD.bare,h];rfl);rw[q];clear d e n m i g p j B;rw[jy I_];simp-implicitDefEqProofs [aA,cN,cO,b8,E,N,P,U,R,Q,T,t,u,w,A]
 ·have q:aA a.ae=aA 5:=by rw[h]
  have⟨t,u,w⟩:=d 0 0 ag ab .ao y z M L rfl so sl rfl (by simp only[n,m,i,g,p,j,aD.iM,aD.bare,h];rfl);rw[q];clear d e n m i g p j B;rw[jy I_];simp-implicitDefEqProofs [aA,cN,cO,b8,E,N,P,U,R,Q,T,t,u,w,A]
 ·have q:aA a.ae=aA 6:=by rw[h]
  have⟨t,u,w⟩:=d 0 0 ag ab .ao y z M L rfl so sl rfl (by simp only[n,m,i,g,p,j,aD.iM,aD.bare,h];rfl);rw[q];clear d e n m i g p j B;rw[jy I_];simp-implicitDefEqProofs [aA,cN,cO,b8,E,N,P,U,R,Q,T,t,u,w,A]
 ·have q:aA a.ae=aA 7:=by rw[h]
  have⟨t,u,w⟩:=d a.snd 0 ag ab .ao y z M L rfl so sl rfl (by simp only[n,m,i,g,p,j,aD.iM,aD.bare,h];rfl);rw[q];clear d e n m i g p j B;rw[jy I_];simp-implicitDefEqProofs [aA,cN,cO,b8,E,N,P,U,R,Q,T,t,u,w,A]
 ·have q:aA a.ae=aA 8:=by rw[h]
  have⟨t,u,w⟩:=d a.snd 0 ag ab (b_ a.raw) y z M L pR so sl xR (by simp only[n,m,i,g,p,j,aD.iM,aD.bare,h];rfl);rw[q];clear d e n m i g p j B;rw[jy I_];simp-implicitDefEqProofs [aA,cN,cO,b8,E,N,P,U,R,Q,T,t,u,w,A]
 ·have q:aA a.ae=aA 9:=by rw[h]
  have⟨t,u,w⟩:=d 0 a.bU ag ab .ao y z M L rfl so sl rfl (by simp only[n,m,i,g,p,j,aD.iM,aD.bare,h];rfl);rw[q];clear d e n m i g p j B;rw[jy I_];simp-implicitDefEqProofs [aA,cN,cO,b8,E,N,P,U,R,Q,T,t,u,w,A]
def O2(x:UInt32):H:=.I .u32 (x.toNat:Int)
def O3(x:UInt64):H:=.I bh (x.toNat:Int)
@[simp]def ai9(x:UInt32):bn (O2 x)=Y:=rfl
@[simp]def ai_(x:UInt32):bp (O2 x)=O2 x:=rfl
@[simp]def aja(t:bY)(x:UInt32):aK t (O2 x)=(O2 x,t):=rfl
@[simp]def ajb(x:UInt32):ax (O2 x)=Y:=rfl
@[simp]def ajc(S:G)(x:UInt32):ck S (O2 x)=J (O2 x):=rfl
@[simp]def ajd(S:G)(x:UInt32):cr S (O2 x)=S:=rfl
@[simp]def aje(S S':G)(x:UInt32):bO S S' (O2 x)=S':=rfl
@[simp]def ajf(x:UInt32):cR (O2 x)=O2 x:=rfl
@[simp]def ajg(t:bY)(x:UInt32):aI t (O2 x)=(O2 x,t):=rfl
@[simp]def ajh(x:UInt64):bn (O3 x)=Y:=rfl
@[simp]def aji(x:UInt64):bp (O3 x)=O3 x:=rfl
@[simp]def ajj(t:bY)(x:UInt64):aK t (O3 x)=(O3 x,t):=rfl
@[simp]def ajk(x:UInt64):ax (O3 x)=Y:=rfl
@[simp]def ajl(S:G)(x:UInt64):ck S (O3 x)=J (O3 x):=rfl
@[simp]def ajm(S:G)(x:UInt64):cr S (O3 x)=S:=rfl
@[simp]def ajn(S S':G)(x:UInt64):bO S S' (O3 x)=S':=rfl
@[simp]def ajo(x:UInt64):cR (O3 x)=O3 x:=rfl
@[simp]def ajp(t:bY)(x:UInt64):aI t (O3 x)=(O3 x,t):=rfl
def bvo(n m:Nat):(jC n (m:Int)).toNat=m %2^n:=by rfl
def rN(a b:Int):aH .add (.I V a) (.I V b)=J (.I V (fH V (a+b))):=rfl
def Y7(a b:Int):aH .sub (.I V a) (.I V b)=J (.I V (fH V (a -b))):=rfl
def eZ(a b:Int):aH .lss (.I V a) (.I V b)=J (.B (bN (a<b))):=rfl
@[simp]def alW:fH V 0=0:=rfl
@[simp]def alX:fH V 1=1:=rfl
@[simp]def alY:fH V 2=2:=rfl
@[simp]def alZ:fH V 3=3:=rfl
@[simp]def al0:fH V 4=4:=rfl
@[simp]def al1:fH V 5=5:=rfl
@[simp]def al2:fH V 6=6:=rfl
@[simp]def al3:fH V 7=7:=rfl
@[simp]def al4:fH V 8=8:=rfl
@[simp]def al5:fH V 9=9:=rfl
@[simp]def aks:fH V 10=10:=rfl
def ac0(a b:Nat)(h:a+b<100000000):aH .add (.I V (a:Int)) (.I V (b:Int))=J (.I V ((a+b:Nat):Int)):=by show J (AV.I V (fH V ((a:Int)+(b:Int))))=_;rw[e_ Z];rfl
def vZ(es:iI):gn 1 es=.sl .N 1 es:=by cases es<;>rfl
def nZ.end_{r:Rd}(h:nZ r []):r.Na=D:=by unfold Rd.Na;have a:=h.hl;unfold Rd.left at a;have:=List.drop_eq_nil_iff.1 a;rw[sR,h.he]
def R9{S:G}{j:Nat}{r:Rd}(a:S[j]? =J (eo j r))(h:nZ r []):DF F W 132 [.P j 0] S=J (.aB,S):=by rw[IT a h.ho h.hb,h.end_];rfl
def OD(b:Bool)(s:K)(a:s≠[]):aI [] (s_ b s)=if b=Y then(if 4096<s.length then(.bL [.ao,qy 3],[])else(.bL [.sl (.fr 0) 1 (fQ s),.aB],[J s.length]))else(.bL [.ao,qy 1],[]):=by grind [s_,R_,ov,qz]
def pS:∀(m n:Nat)(S:G),n<m->n<18446744073709551616->∃r,Fy 1 r (fQ (ch n))/\ax r=Y/\DF F W 70 [.I bh (n:Int)] S=J (r,S)
 |0,n,S,h,_=>by omega
 |m+1,n,S,h,hn=>by
  rw[fO aiM];by_cases A:n<128
  ·refine⟨.sl .X 1 [[.I .u8 (n:Int)]],.inr (.inl ?_),rfl, ?_⟩
   ·grind [Jo,UInt8.toNat_ofNat',fQ,c_]
   ·have a:((n:Int)<128)=True:=eq_true Z
    have w:fH .u8 (n:Int)=(n:Int):=by show(n:Int)%256=_;omega
    simp[a,w,bn,bp,aK,ax,dw,bF,aL]
  ·have⟨R,j,P,k⟩:=pS m (n/128) S Z Z
   have⟨e,t,f,l⟩:=j.take [];have⟨z,s,u⟩:=l.elems S;have C:cW 1 (.sl .X 1 [[c_ (cY (n %128+128))]]) ([]++t) [[c_ (cY (n %128+128))]]:=.inr (.inl rfl);have B:=eH (n:=n/128) Z;have⟨Q,T,d,b⟩:=C.ZB (xs:=fQ (ch (n/128))) (x:=e) (S:=S) (by simp;omega) ⟨z,s,u⟩;have⟨r,U,g,o,i⟩:=b.res (dP (cY (n %128+128)::ch (n/128)));refine⟨r,by rw[OR A];exact o,i, ?_⟩;have a:((n:Int)<128)=False:=eq_false Z;have v:((n:Int).tmod 128)=((n %128:Nat):Int):=by rfl
   have y:((n:Int).tdiv 128)=((n/128:Nat):Int):=by rfl
   have L:fH .u8 ((n %128:Nat):Int)=((n %128:Nat):Int):=by show((n %128:Nat):Int)%256=_;omega
   have M:fH .u8 (((n %128:Nat):Int)+128)=(((cY (n %128+128)).toNat:Nat):Int):=by rfl
   have N:fH bh ((n/128:Nat):Int)=((n/128:Nat):Int):=by show((n/128:Nat):Int)%2^64=_;omega
   have I:=b.nt;rw[b.nr]at g;have E:=b.nr;unfold c_ at d;generalize n/128=q,cY (n %128+128)=c,n %128=p at*;simp at f d;simp[a,v,y,L,M,N,k,f,d,I,E,g,i]
   done
def Js(S:G)(b:K):∃z,cD S (b_ b)=J (z,fQ b)/\(fQ b≠[]->z=1):=⟨1,by cases b<;>rfl,λ_=>rfl⟩
def LL(b:K)(S:G)(o:b.length+10<=1073741824):∃r,Fy 1 r (fQ (aM b))/\ax r=Y/\DF F W 74 [b_ b] S=J (r,S):=by
 have⟨q,g,m,h⟩:=pS (b.length+1) b.length S Z Z;have⟨l,t,c,i⟩:=g.take [];have k:=eH (n:=b.length) Z;have⟨p,s,d,a⟩:=i.ZB (xs:=fQ b) (x:=b_ b) (S:=S) (by simp;omega) (Js S b);rw[<-IQ]at a;have⟨r,u,e,j,f⟩:=a.res (dP _);refine⟨r,j,f, ?_⟩;rw[a.nr]at e;rw[fO aiO];simp at c d;simp[(by show(b.length:Int)%2^64=_;omega:IntKind.wrap .u64 (b.length:Int)=(b.length:Int)),h,c,d,a.nt,a.nr,e,f]
 done
def Fy.res{r:H}{es:iI}(h:Fy 1 r es):∃a t,aI [] r=(a,t)/\cW 1 a t es:=by
 have⟨a,t,b,c⟩:=h.take []
 grind
def Qo(n:Int)(S:G)(C: -9223372036854775808<=n)(E:n<9223372036854775808):∃r,Fy 1 r (fQ (rj n))/\ax r=Y/\DF F W 114 [.I V n] S=J (r,S):=by
 by_cases o:n<0
 ·have v:rj n=ch (2*(-(n+1)).toNat+1):=by unfold rj;simp_all
  have⟨x,e,s,f⟩:=pS (2*(-(n+1)).toNat+2) (2*(-(n+1)).toNat+1) S Z Z;have⟨j,t,g,a⟩:=e.res;have⟨r,y,c,u,d⟩:=a.res (dP _);refine⟨r,by simp_all,d, ?_⟩;have i:=a.nt;rw[a.nr]at c;have h:=a.nr;have b:=eq_true o;have z:fH V (n+1)=n+1:=e_ Z;have A:fH V (-(n+1))= -(n+1):=e_ Z;have l:fH bh (-(n+1))= -(n+1):=by show(-(n+1))%2^64=_;omega
  have m:fH bh (2* -(n+1))=2* -(n+1):=by show(2* -(n+1))%2^64=_;omega
  have B:fH bh (2* -(n+1)+1)=((2*(-(n+1)).toNat+1:Nat):Int):=by show(2* -(n+1)+1)%2^64=_;omega
  rw[fO XH];generalize 2*(-(n+1)).toNat+1=k at*;generalize w:n+1=q at*;simp[-cE,uw,Cg,xZ,bb,b,w,z];generalize I: -q=p at*;simp[-cE,A,l,m,B,f,g,i,h,c,d]
  done
 ·have v:rj n=ch (2*n.toNat):=by unfold rj;grind
  have⟨x,e,s,f⟩:=pS (2*n.toNat+1) (2*n.toNat) S Z Z;have⟨j,t,g,a⟩:=e.res;have⟨r,y,c,u,d⟩:=a.res (dP _);refine⟨r,by simp_all,d, ?_⟩;have i:=a.nt;rw[a.nr]at c;have h:=a.nr;have b:=eq_false o;have l:fH bh n=n:=by show n %2^64=_;omega
  have m:fH bh (2*n)=((2*n.toNat:Nat):Int):=by show(2*n)%2^64=_;omega
  rw[fO XH];generalize 2*n.toNat=k at*;simp[-cE,uw,Cg,xZ,bb,b,l,m,f,g,i,h,c,d]
  done
def mD(rS:H)(ad:bY)(s:K):Prop:=cW 1 rS ad (fQ s)
def zT(r:H)(s:K):Prop:=Fy 1 r (fQ s)/\ax r=Y
def mD.call{a:H}{ad:bY}{s b:K}(h:mD a ad s){r:H}(l:zT r b)(m:s.length+b.length<=1073741824)(S:G):
 ∃o' t c d,aI ad r=(o',t)/\dX 1 t S a o'=J (c,d,S)/\mD c d (s++b):=by
 have⟨o',t,f,g⟩:=l.1.take ad;have⟨z,j,k⟩:=g.elems S;have⟨c,d,i,e⟩:=(cW.more h t).ZB (xs:=fQ b) (x:=o') (S:=S) (by simp;omega) ⟨z,j,k⟩;rw[<-IQ]at e;exact⟨o',ad++t,c,d,f,i,e⟩
def mD.one{a:H}{ad:bY}{s:K}(h:mD a ad s)(c:UInt8)(g:s.length+1<=1073741824)(S:G):
 ∃b d,dX 1 ad S a (.sl .X 1 [[.I .u8 (c.toNat:Int)]])=J (b,d,S)/\mD b d (s++[c]):=by
 have⟨b,d,f,e⟩:=cW.app h (xs:=fQ [c]) (by simp[fQ]) (by simp_all) .X S;rw[<-IQ]at e;exact⟨b,d,f,e⟩
def mD.new(c:UInt8)(ad:bY):mD (.sl .X 1 [[.I .u8 (c.toNat:Int)]]) ad [c]:=.inr (.inl rfl)
def mD.fin{a:H}{ad:bY}{s:K}(h:mD a ad s):∃r t,bn a=Y/\bp a=a/\aK ad a=(r,t)/\ax r=Y/\zT r s:=by have⟨r,t,b,d,c⟩:=cW.res h (dP s);rw[cW.nr h]at b;exact⟨r,t,cW.nt h,cW.nr h,b,c,d,c⟩
def y8{s:K}(h:s.length<=1073741824):Ku (.S s)=J (.sl .N 1 (fQ s)):=by unfold Ku;simp only;rw[if_pos h];rfl
def oB(S:G)(es:iI):ck S (.sl .N 1 es)=J (.sl .N 1 es):=rfl
def oC(S:G)(es:iI):cr S (.sl .N 1 es)=S:=rfl
def kn(S S':G)(es:iI):bO S S' (.sl .N 1 es)=S':=rfl
def qI(n:Nat)(d:n<18446744073709551616)(S:G):∃r,zT r (ch n)/\DF F W 70 [.I bh (n:Int)] S=J (r,S):=by have⟨r,a,b,c⟩:=pS (n+1) n S Z d;exact⟨r,⟨a,b⟩,c⟩
def oX(s:K)(S:G)(d:s.length+10<=1073741824):∃r,zT r (aM s)/\DF F W 74 [b_ s] S=J (r,S):=by have⟨r,a,b,c⟩:=LL s S d;exact⟨r,⟨a,b⟩,c⟩
def V0(n:Int)(S:G)(d: -9223372036854775808<=n)(e:n<9223372036854775808):∃r,zT r (rj n)/\DF F W 114 [.I V n] S=J (r,S):=by have⟨r,a,b,c⟩:=Qo n S d e;exact⟨r,⟨a,b⟩,c⟩
def BE{k:Int}(a:0<=k)(b:k<256):fH .u8 k=(((cY k.toNat).toNat:Nat):Int):=by show k %256=_;rw[xY];omega
def LM(v:aV)(M:v.BY)(h5:v.ae=5->v.an.length=v.aQ.length)(h6:v.ae≠5->v.an.length=v.eA.length)(S:G)(nb:Nat)
 (Q:∀x∈v.an,∀S,∃r,zT r x.bytes/\DF F W 71 [.A x.aq] S=J (r,S)):
 ∀d i(c:H)(ad:bY)(s:K),i+d=v.an.length->mD c ad s->s.length+(v.cj i).length+100<=1073741824->
 ∃b aN,mD b aN (s++v.cj i)/\DC F W (.L pJ) ⟨[(1,.P S.length 0),(3,c),(4,.I V (i:Nat))],ad,nb⟩ (S++[.M v.aq [] O])=J (.E 1,⟨[(3,b)],aN,nb⟩,S++[.M v.aq [] O]):=by
 have hl:=M.an;intro d;induction d with
 |zero=>
  intro i c ad s T B R;have e3:v.an.drop i=[]:=gY Z;have I:v.cj i=[]:=by grind [aV.cj,aV.de,aV.je]
  refine⟨c,ad,by simp_all, ?_⟩;simp[aw,a_ dC,(Z:¬i<v.an.length)]
 |succ d N=>
  intro i c ad s T B R;have L:i<v.an.length:=Z;have⟨y,U,k⟩:=aJ (l:=v.an) (i:=i) Z;have p:=aZ (i:=i) Z;have⟨ry,m,n⟩:=Q y (fA U) (S++[.M v.aq [] O]);by_cases P:v.ae=5
  ·have⟨a,o,z⟩:=aJ (l:=v.aQ) (i:=i) Z
   have I:v.cj i=aM a++(y.bytes++v.cj (i+1)):=by unfold aV.cj;simp_all[aS,aV.de]
   have X:(aM a).length+(y.bytes.length+(v.cj (i+1)).length)=(v.cj i).length:=by grind
   have la:a.length<=(aM a).length:=by unfold aM;simp
   have⟨ra,f,e⟩:=oX a (S++[.M v.aq [] O]) Z;have⟨o1,t1,o2,t2,q,g,t⟩:=B.call f Z (S++[.M v.aq [] O]);have⟨o3,t3,C,E,u,h,w⟩:=t.call m (by grind) (S++[.M v.aq [] O]);have⟨b,aN,A,j⟩:=N (i+1) C E (s++aM a++y.bytes) Z w (by grind);refine⟨b,aN,by grind, ?_⟩;rw[aw,a_ dC];simp at p j g h;simp[L,k,P,o,y8 (s:=a) Z,oB,oC,kn,jF,e,q,g,n,u,h];rw[aj dC];simp[p,j]
  ·have⟨a,o,z⟩:=aJ (l:=v.eA) (i:=i) Z
   have hr:=M.id a (fA o);have I:v.cj i=ch a.toNat++(y.bytes++v.cj (i+1)):=by unfold aV.cj;simp_all[aS,aV.je]
   have X:(ch a.toNat).length+(y.bytes.length+(v.cj (i+1)).length)=(v.cj i).length:=by grind
   have⟨ra,f,e⟩:=qI a.toNat Z (S++[.M v.aq [] O]);rw[(Z:((a.toNat:Nat):Int)=a)]at e;have⟨o1,t1,o2,t2,q,g,t⟩:=B.call f Z (S++[.M v.aq [] O]);have⟨o3,t3,C,E,u,h,w⟩:=t.call m (by grind) (S++[.M v.aq [] O]);have⟨b,aN,A,j⟩:=N (i+1) C E (s++ch a.toNat++y.bytes) Z w (by grind);refine⟨b,aN,by grind, ?_⟩;rw[aw,a_ dC];simp at p j g h;simp[L,k,P,o,e,q,g,n,u,h];rw[aj dC];simp[p,j]
def nH:∀(d:Nat)(v:aV),v.Wf->v.aW d=Y->d<=5->∀S,∃r,zT r v.bytes/\DF F W 71 [.A v.aq] S=J (r,S):=by
 intro d;induction d with
 |zero=>nofun
 |succ d U=>
  intro v p h hd S;have R:=aV.e9 h;have o:=aV.rk (d+1) v p h;have h13:13^(d+1)<=13^5:=Ow xf hd;have e13:13^5=371293:=xf;have lb:=v.kD;have kr:=R.ae;have c:=BE (k:=v.ae) Z Z;have z:=mD.new (cY v.ae.toNat) [];have E:=LM v p.one;rw[fO aiN];rcases R.ae with k|k|k|k|k|k
  ·have hn:=R.n1 k
   have A:v.bytes=[cY v.ae.toNat]++[cY v.n.toNat]:=by simp_all
   have wn:=BE (k:=v.n) Z Z;have⟨q,y,e,f⟩:=z.one (cY v.n.toNat) b5 (S++[.M v.aq [] O]);have⟨r,t,i,j,l,m,B⟩:=f.fin;refine⟨r,by simp_all, ?_⟩;have c:fH .u8 1=(((cY v.ae.toNat).toNat:Nat):Int):=by simp_all
   generalize cY v.ae.toNat=u,cY v.n.toNat=w at*;simp[c,wn,k,e,i,j,l,m]
  ·have A:v.bytes=[cY v.ae.toNat]++rj v.n:=by simp_all
   have X:=OA p.one.n0 p.one.n1;have⟨M,a,b⟩:=V0 v.n (S++[.M v.aq [] O]) p.one.n0 p.one.n1;have⟨L,N,q,y,n,e,f⟩:=z.call a (by grind) (S++[.M v.aq [] O]);have⟨r,t,i,j,l,m,B⟩:=f.fin;refine⟨r,by simp_all, ?_⟩;have c:fH .u8 2=(((cY v.ae.toNat).toNat:Nat):Int):=by simp_all
   generalize cY v.ae.toNat=u at*;simp[c,k,b,n,e,i,j,l,m]
  ·have A:v.bytes=[cY v.ae.toNat]++aM v.s:=by simp_all
   have T:=R.s3 k;have X:=gZ T Z;have P:=y8 (s:=v.s) Z;have⟨M,a,b⟩:=oX v.s (S++[.M v.aq [] O]) Z;have⟨L,N,q,y,n,e,f⟩:=z.call a (by grind) (S++[.M v.aq [] O]);have⟨r,t,i,j,l,m,B⟩:=f.fin;refine⟨r,by simp_all, ?_⟩;have c:fH .u8 3=(((cY v.ae.toNat).toNat:Nat):Int):=by simp_all
   generalize cY v.ae.toNat=u at*;simp[c,k,P,oB,oC,kn,jF,b,n,e,i,j,l,m]
  ·have A:v.bytes=[cY v.ae.toNat]++aM v.s:=by simp_all
   have T:=fe (R.s4 k);have X:=gZ T Z;have P:=y8 (s:=v.s) Z;have⟨M,a,b⟩:=oX v.s (S++[.M v.aq [] O]) Z;have⟨L,N,q,y,n,e,f⟩:=z.call a (by grind) (S++[.M v.aq [] O]);have⟨r,t,i,j,l,m,B⟩:=f.fin;refine⟨r,by simp_all, ?_⟩;have c:fH .u8 4=(((cY v.ae.toNat).toNat:Nat):Int):=by simp_all
   generalize cY v.ae.toNat=u at*;simp[c,k,P,oB,oC,kn,jF,b,n,e,i,j,l,m]
  ·have h5:=R.k5 k
   have er:v.cj 0=aV.de v.aQ v.an:=by unfold aV.cj;simp_all
   have A:v.bytes=[cY v.ae.toNat]++ch v.an.length++v.cj 0:=by simp_all
   rw[A]at o;simp at o;have wl:fH bh (v.an.length:Int)=(v.an.length:Int):=by show(v.an.length:Int)%2^64=_;omega
   have⟨M,a,b⟩:=qI v.an.length Z (S++[.M v.aq [] O]);have⟨L,N,q,y,n,e,f⟩:=z.call a (by grind) (S++[.M v.aq [] O]);have⟨o3,t3,Q,C⟩:=E (λ_=>h5.2.1) (λg=>absurd k g) S S.length (λx I S=>U x (p.all x I) (R.all x I) Z S) v.an.length 0 q y _ Z f (by grind);have⟨r,t,i,j,l,m,B⟩:=Q.fin;refine⟨r,by simp_all, ?_⟩;have c:fH .u8 5=(((cY v.ae.toNat).toNat:Nat):Int):=by simp_all
   generalize cY v.ae.toNat=u at*;simp at C;simp[c,wl,k,b,n,e];rw[aj dC];simp[C,i,j,l,m]
  ·have h6:=R.k6 k
   have er:v.cj 0=aV.je v.eA v.an:=by grind [aV.cj]
   rw[(by simp_all:v.bytes=[UInt8.ofNat v.ae.toNat]++ch v.an.length++v.cj 0)]at o;simp at o;have⟨M,a,b⟩:=qI v.an.length Z (S++[.M v.aq [] O]);have⟨L,N,q,y,n,e,f⟩:=z.call a (by grind) (S++[.M v.aq [] O]);have⟨o3,t3,Q,C⟩:=E (λg=>by omega) (λ_=>h6.2.1) S S.length (λx I S=>U x (p.all x I) (R.all x I) Z S) v.an.length 0 q y _ Z f (by grind);have⟨r,t,i,j,l,m,B⟩:=Q.fin;refine⟨r,by simp_all, ?_⟩;have c:fH .u8 6=(((cY v.ae.toNat).toNat:Nat):Int):=by simp_all
   generalize cY v.ae.toNat=u at*;simp at C;simp[c,(by show(v.an.length:Int)%2^64=_;omega:IntKind.wrap .u64 (v.an.length:Int)=(v.an.length:Int)),k,b,n,e];rw[aj dC];simp[C,i,j,l,m]
def afy:K:=[48,49,50,51,52,53,54,55,56,57,97,98,99,100,101,102]
def ajq(c:UInt8):aH .shr (c_ c) (.I bh 4)=J (c_ (cY (c.toNat/16))):=by
 have h:=c.toNat_lt;show J (AV.I .u8 (((c.toNat:Nat):Int).fdiv (2^4)))=_;have e:((c.toNat:Nat):Int).fdiv (2^4)=((c.toNat/16:Nat):Int):=by rw[Int.fdiv_eq_ediv_of_nonneg _ (by decide)];rfl
 have a:(cY (c.toNat/16)).toNat=c.toNat/16:=by rw[xY];omega
 rw[e,c_,a]
def afz(c:UInt8):aH .and (c_ c) (.I .u8 15)=J (c_ (cY (c.toNat %16))):=by
 have h:=c.toNat_lt;have a:(cY (c.toNat %16)).toNat=c.toNat %16:=by rw[xY];omega
 show J (AV.I .u8 (fH .u8 ((jC 8 (c.toNat:Int)&&&jC 8 ((15:Nat):Int)).toNat:Int)))=_;rw[BitVec.toNat_and,Ox,Ox,c_,a];have b:(((c.toNat:Nat):Int)%((2^8:Nat):Int)).toNat=c.toNat:=by omega
 rw[b,show(((15:Nat):Int)%((2^8:Nat):Int)).toNat=2^4 -1 from rfl,Nat.and_two_pow_sub_one_eq_mod];show J (AV.I .u8 (((c.toNat %16:Nat):Int)%256))=_;congr 2;omega
def O8(n:Nat)(h:n<16):Kq (.S afy) (c_ (cY n))=J (c_ (p5 n)):=by
 have a:n=0\/n=1\/n=2\/n=3\/n=4\/n=5\/n=6\/n=7\/n=8\/n=9\/n=10\/n=11\/n=12\/n=13\/n=14\/n=15:=by omega
 rcases a with rfl|rfl|rfl|rfl|rfl|rfl|rfl|rfl|rfl|rfl|rfl|rfl|rfl|rfl|rfl|rfl<;>rfl
def mD.cvB{o:H}{t:bY}{b:K}(h:mD o t b):MN o=J (.S b):=by
 rcases h with⟨h,rfl⟩|rfl|⟨k,rfl,a⟩;·rw[(uj b).1 h];rfl
 ·exact JC _ b
 ·exact JC _ b
def JD(b:K)(R:b.length<=1000000)(S:G):∀(n i:Nat)(d:H)(ad:bY),i+n=b.length->mD d ad (dm (b.take i))->
 ∃a aN,mD a aN (dm b)/\DC F W (.L yG) ⟨[(3,d),(6,b_ b),(7,.I V (b.length:Int)),(8,.I V (i:Int))],ad,S.length⟩ S=J (.E 0,⟨[(3,a)],aN,S.length⟩,S):=by
 intro n;induction n with
 |zero=>
  intro i d ad w f;have e:i=b.length:=by omega
  subst e;rw[wL]at f;refine⟨d,ad,f, ?_⟩;rw[aw,a_ lC];generalize b_ b=B at*;simp[-aH,eZ]
 |succ n E=>
  intro i d ad w f;have o:i<b.length:=by omega
  have I:pY 1 (b_ b) (.I V (i:Int))=J (.dW .N [c_ (b.getD i 0)] 0):=by rw[wa,EW,cf o];rfl
  have M:=ajq (b.getD i 0);have N:=afz (b.getD i 0);have A:=(b.getD i 0).toNat_lt;have s:=O8 ((b.getD i 0).toNat/16) (by omega);have t:=O8 ((b.getD i 0).toNat %16) (by omega);have m:dm (b.take i)++[p5 ((b.getD i 0).toNat/16),p5 ((b.getD i 0).toNat %16)]=dm (b.take (i+1)):=by
   have e:b.take (i+1)=b.take i++[b.getD i 0]:=by rw[rh,EW,cf o];rfl
   rw[e];simp[dm]
  have z:=jW (b.take i);have h:(b.take i).length<=i:=by simp;omega
  have g:∀x y,da 1 [[AV.I .u8 0],[AV.I .u8 0]] [(0,c_ x),(1,c_ y)]=J (fQ [x,y]):=λ_ _=>rfl;have⟨r,u,v,k⟩:=cW.app f (xs:=fQ [p5 ((b.getD i 0).toNat/16),p5 ((b.getD i 0).toNat %16)]) (by simp[fQ]) (by simp;omega) .X S;have l:mD r u (dm (b.take (i+1))):=by rw[<-m];simpa[mD,fQ]using k
  have⟨a,aN,p,q⟩:=E (i+1) r u (by omega) l;refine⟨a,aN,p, ?_⟩;have C:fH V ((i:Int)+1)=((i+1:Nat):Int):=aZ (by omega);have j:∀T c,a8 T .C (.dW .N [c_ c] 0)=J (c_ c):=λ_ _=>rfl;have L:(i:Int)<(b.length:Int):=by omega
  rw[show afy=[48,49,50,51,52,53,54,55,56,57,97,98,99,100,101,102]from rfl]at s t;clear k l p f m z h;have g:=g (p5 ((b.getD i 0).toNat/16)) (p5 ((b.getD i 0).toNat %16));generalize fQ [p5 ((b.getD i 0).toNat/16),p5 ((b.getD i 0).toNat %16)]=P at*;have j:=j S (b.getD i 0);generalize c_ (cY ((b.getD i 0).toNat/16))=U,c_ (cY ((b.getD i 0).toNat %16))=X,c_ (p5 ((b.getD i 0).toNat/16))=y1,c_ (p5 ((b.getD i 0).toNat %16))=y2,c_ (b.getD i 0)=Q,b_ b=B at*;rw[aw,a_ lC];simp-implicitDefEqProofs [-aH, -Kq,eZ,L,I,j,M,N,s,t,g,v,rN];rw[aj lC];try simp at q
  simp-implicitDefEqProofs [-aH,C,q]
def wC(b:K)(d:b.length<=1000000)(S:G):DF F W 20 [b_ b] S=J (.S (dm b),S):=by
 have⟨o,t,f,a⟩:=JD b d S b.length 0 .ao [] (by omega) (.inl ⟨rfl,rfl⟩);have c:=f.cvB;have e:=b7 b;rw[fO aij];generalize b_ b=B at*;simp-implicitDefEqProofs [-aH,e];rw[aj lC];try simp at a
 simp-implicitDefEqProofs [a,c]
def NQ(b:K)(c:b.length<=1000000)(S:G):DF F W 21 [b_ b] S=J (.S (if b=[]then[45]else dm b),S):=by
 have h:=λT=>wC b c T;have e:=b7 b;rw[fO aik];by_cases a:b=[]
 ·subst a
  simp
 ·have d:¬(b.length:Int)=0:=by have:b.length≠0:=λh=>a (List.length_eq_zero_iff.1 h);omega
  simp[e,d,h,a]
def afQ(n:Int)(a: -9223372036854775808<=n)(b:n<=9223372036854775807)(S:G):Je [.I V n,.I V 10] S=J (.S (aU n),S):=by simp[Je,a,b]
def NV(n:Int)(a: -9223372036854775808<=n)(b:n<=9223372036854775807)(S:G):DF F W 52 [.I V n] S=J (.S (aU n),S):=by have f:=λT=>afQ n a b T;rw[fO aiA];simp[f]
def bQ(n:Int)(a: -9223372036854775808<=n)(b:n<=9223372036854775807)(S:G):DF F W 17 [.I V n] S=J (.S (aU n),S):=by have f:=λT=>NV n a b T;rw[fO aif];simp[f]
def Dy:∀l:List K,yV (l.map λw=>[.S w])=J l
 |[]=>rfl
 |w::r=>by simp[yV,Dy r]
def iB(l:List K)(b:l.length<=1000)(a:(fL [32] l).length<=1000000)(S:G):vm [.sl .N 1 (l.map λw=>[.S w]),.S [32]] S=J (.S (fL [32] l),S):=by unfold vm;simp only[Dy];rw[if_pos ⟨by omega,by omega⟩]
def nP{x:H}{l:List K}{s:H}{S:G}{r:H × G}(b:cR x=.sl .N 1 (l.map λw=>[.S w]))(h:vm [.sl .N 1 (l.map λw=>[.S w]),s] S=J r):vm [x,s] S=J r:=by
 cases x with
 |sl q c a=>
  have e:a=l.map λw=>[.S w]:=by cases a<;>cases q<;>simp_all[cR,bH]
  subst e;cases s<;>simp_all[vm]
 |ao=>
  have e:l=[]:=by simpa[cR,bH]using b.symm
  subst e;cases s<;>simp_all[vm,yV,fL]
 |_=>simp[cR,bH]at b
def bK(n:Int)(a: -9223372036854775808<=n)(b:n<=9223372036854775807):(aU n).length<=21:=by
 unfold aU;split
 ·have:=zx (n:=n.natAbs) (by omega)
  simp;omega
 ·have:=zx (n:=n.toNat) (by omega)
  omega
def F9(n:Int)(a: -9223372036854775808<=n)(b:n<=9223372036854775807)(S:G):Bx 215 [.S (aU n)] S=J (.bL [.I V n,.aB],S):=by
 have h:(aU n).length<=1073741824:=by have:=bK n a b;omega
 unfold Bx;simp only[h,if_true,QB n a b]
def strs(l:List K):iI:=l.map λw=>[.S w]
def pV(l m:List K):strs l++strs m=strs (l++m):=by simp[strs]
structure aD.Wf(a:aD):Prop where
 op:a.op.Wf
 bG:a.bG.Wf
def aD.Wf.cp{a:aD}(h:a.Wf):a.eQ:=⟨h.op.cp,bj.Wf.cp _ h.bG⟩
def aD.qT{a:aD}(h:a.Wf):a.bare.eQ:=by
 refine⟨?_, ?_⟩
 ·show(if a.ae=1 then a.op else rG).eQ
  split;·exact h.op.cp
  ·exact ga
 ·show(if a.ae=2 then a.bG else jo).eQ
  split;·exact bj.Wf.cp _ h.bG
  ·exact e5
noncomputable def aD.eW(a:aD):H:=if a.code=0 then .bL [.S a.line,.aB]else .bL [.S [],qy a.code]
section
def fP(ws:List K)(e:H):ez:=.M [.sl .N 1 (strs ws),e] [] O
def Un(w:K)(ws:List K):Ay 1 (.sl .N 1 (strs (w::ws))) (J (.I V 1)) D=J (.sl .N 1 (strs ws)):=by
 have h:(1:Int)<=(ws.length:Int)+1:=by omega
 have e:List.take ws.length (List.map (λw=>[AV.S w]) ws)=List.map (λw=>[AV.S w]) ws:=m_ (by simp);simp[Ay,strs,gV,xb,h,e]
def BQ(w:K)(ws:List K):pY 1 (.sl .N 1 (strs (w::ws))) (.I V 0)=J (.dW .N [.S w] 0):=by simp[pY,strs,xb]
def JI(ws:List K):dw (strs ws)=Y:=jI.2 λx a=>by obtain⟨d,_,rfl⟩:=Ad.1 a;rfl
section
variable{S:G}{j:Nat}{w:K}{ws:List K}{e:H}
def qJ(a:S[j]? =J (fP ws e)):a8 S .C (.P j 0)=J (.sl .N 1 (strs ws)):=by rw[bP a];rfl
def rV(a:S[j]? =J (fP ws e))(b:aE e=e):a8 S .C (.P j 1)=J e:=by rw[bP a];simp[sX,b]
def aaf(a:S[j]? =J (fP ws e))(l:List K)(ad:bY)(nb:Nat):aY ad nb S 1 (.P j 0) (.sl .N 1 (strs l))=J (ad,S.set j (fP l e)):=by have b:aL (.sl .N 1 (strs l))=Y:=JI l;unfold fP at a;simp only[aY,a];rw[if_pos ⟨rfl,rfl,by simp,.inr b⟩];rfl
def gP(d:S[j]? =J (fP (w::ws) e)):DF F W 41 [.P j 0] S=J (.S w,S.set j (fP ws e)):=by have f:=qJ d;have g:=BQ w ws;have h:=Un w ws;have i:=λc m=>aaf d ws c m;have l:∀T x,a8 T .C (.dW .N [.S x] 0)=J (.S x):=λ_ _=>rfl;have k:cb (.P j 0)=J (.P j 0):=rfl;have n:∀b,(S.set j b).take S.length=S.set j b:=λb=>m_ (by simp);rw[fO aix];generalize AV.sl .N 1 (strs (w::ws))=X,AV.sl .N 1 (strs ws)=a at*;simp-implicitDefEqProofs [f,g,h,i,l,k,n,kB,bn,bp,aK,ax,aL]
end
end
section
section
variable{S:G}{j:Nat}{ws:List K}
def gQ(n:Int)(c: -9223372036854775808<=n)(d:n<=9223372036854775807)(f:S[j]? =J (fP (aU n::ws) .aB)):DF F W 42 [.P j 0] S=J (.I V n,S.set j (fP ws .aB)):=by have i:=gP f;have a:=λT=>F9 n c d T;have h:=λT=>bQ n c d T;have e:b9 .neq (.eD cC) Y .aB .aB=J (.B O):=rfl;have g:cb (.P j 0)=J (.P j 0):=rfl;have k:∀b,(S.set j b).take S.length=S.set j b:=λb=>m_ (by simp);have l:∀t,aI t (.bL [.I V n,.aB])=(.bL [.I V n,.aB],t):=λ_=>rfl;rw[fO aiy];simp-implicitDefEqProofs [i,a,h,e,g,k,l,bW,kB,bn,bp,aK,ax,aL]
end
def aag(c:UInt8):Int:=if 48<=c.toNat/\c.toNat<=57 then(c.toNat:Int) -48 else if 97<=c.toNat/\c.toNat<=102 then(c.toNat:Int) -87 else-1
def zi(c:UInt8)(S:G):DF F W 166 [c_ c] S=J (.I V (aag c),S):=by
 have y:=c.toNat_lt;have p:∀n:Nat,aH .geq (c_ c) (.I .u8 (n:Int))=J (.B (bN (n<=c.toNat))):=λn=>by show J (AV.B (bN ((c.toNat:Int)≥(n:Int))))=_;simp
 have r:∀n:Nat,aH .leq (c_ c) (.I .u8 (n:Int))=J (.B (bN (c.toNat<=n))):=λn=>by show J (AV.B (bN ((c.toNat:Int)<=(n:Int))))=_;simp
 have t:∀n:Nat,n<=c.toNat->aH .sub (c_ c) (.I .u8 (n:Int))=J (.I .u8 ((c.toNat:Int) -n)):=λn z=>by show J (AV.I .u8 (fH .u8 ((c.toNat:Int) -n)))=_;have e:fH .u8 ((c.toNat:Int) -n)=((c.toNat:Int) -n)%256:=rfl;rw[e,Int.emod_eq_of_lt (by omega) (by omega)]
 have o:∀x:Int,0<=x->x<256->EX V (.I .u8 x)=J (.I V x):=λx a b=>by show J (AV.I V (fH V x))=_;rw[e_ (by omega)]
 have u:∀x:Int,0<=x->x<256->aH .add (.I V x) (.I V 10)=J (.I V (x+10)):=λx a b=>by show J (AV.I V (fH V (x+10)))=_;rw[e_ (by omega)]
 have d:aH .geq (c_ c) (.I .u8 48)=J (.B (bN (48<=c.toNat))):=p 48;have h:aH .leq (c_ c) (.I .u8 57)=J (.B (bN (c.toNat<=57))):=r 57;have f:aH .geq (c_ c) (.I .u8 97)=J (.B (bN (97<=c.toNat))):=p 97;have g:aH .leq (c_ c) (.I .u8 102)=J (.B (bN (c.toNat<=102))):=r 102;rw[fO adu];unfold aag;have w:tV (c_ c):=(AE c).Ai;by_cases k:48<=c.toNat
 ·by_cases l:c.toNat<=57
  ·have s:aH .sub (c_ c) (.I .u8 48)=J (.I .u8 ((c.toNat:Int) -48)):=t 48 k
   have v:=o ((c.toNat:Int) -48) (by omega) (by omega);rw[if_pos ⟨k,l⟩];rw[decide_eq_true k]at d;rw[decide_eq_true l]at h;generalize c_ c=C at*;simp-implicitDefEqProofs [-aH, -EX,d,h,s,v]
  ·rw[if_neg (λq=>l q.2)]
   rw[decide_eq_true k]at d;rw[decide_eq_false l]at h;by_cases i:97<=c.toNat
   ·by_cases m:c.toNat<=102
    ·have s:aH .sub (c_ c) (.I .u8 97)=J (.I .u8 ((c.toNat:Int) -97)):=t 97 i
     have v:=o ((c.toNat:Int) -97) (by omega) (by omega);have a:=u ((c.toNat:Int) -97) (by omega) (by omega);rw[show(c.toNat:Int) -97+10=(c.toNat:Int) -87 by omega]at a;rw[if_pos ⟨i,m⟩];rw[decide_eq_true i]at f;rw[decide_eq_true m]at g;generalize c_ c=C at*;simp-implicitDefEqProofs [-aH, -EX,d,h,f,g,s,v,a]
    ·rw[if_neg (λq=>m q.2)]
     rw[decide_eq_true i]at f;rw[decide_eq_false m]at g;generalize c_ c=C at*;simp-implicitDefEqProofs [-aH, -EX,d,h,f,g]
   ·rw[if_neg (λq=>i q.1)]
    rw[decide_eq_false i]at f;generalize c_ c=C at*;simp-implicitDefEqProofs [-aH, -EX,d,h,f]
 ·rw[if_neg (λq=>k q.1)]
  rw[decide_eq_false k]at d;have i:¬97<=c.toNat:=by omega
  rw[if_neg (λq=>i q.1)];rw[decide_eq_false i]at f;generalize c_ c=C at*;simp-implicitDefEqProofs [-aH, -EX,d,f]
end
def td(a b:Nat):(a:Int).tdiv (b:Int)=((a/b:Nat):Int):=by rfl
def tm(a b:Nat):(a:Int).tmod (b:Int)=((a %b:Nat):Int):=by rfl
def wrap_u64(n:Int)(a:0<=n)(b:n<18446744073709551616):fH bh n=n:=by
 have:fH bh n=n %18446744073709551616:=by rfl
 rw[this];omega
def O9(n:Nat)(h:n<10):Kp (.S [48,49,50,51,52,53,54,55,56,57]) (J (.I bh n)) (J (.I bh ((n:Int)+1)))=J (.S [IY n]):=by
 have a:n=0\/n=1\/n=2\/n=3\/n=4\/n=5\/n=6\/n=7\/n=8\/n=9:=by omega
 rcases a with rfl|rfl|rfl|rfl|rfl|rfl|rfl|rfl|rfl|rfl<;>rfl
def qq:∀(n:Nat),n<18446744073709551616->∀S:G,DF F W 65 [.I bh n] S=J (.S (dec n),S):=by
 intro n;induction n using Nat.strongRecOn with
 |ind n k=>
  intro l S;rw[fO aiH,dec];by_cases h:n<10
  ·have a:((n:Int)<10):=by omega
   have b:fH bh ((n:Int)+1)=(n:Int)+1:=by rw[wrap_u64 _ (by omega) (by omega)]
   have:=O9 n h;simp[h,a,b,this]
  ·have a:¬((n:Int)<10):=by omega
   have d:=k (n/10) (by omega) (by omega);have b:fH bh ((n:Int)%10+1)=(n:Int)%10+1:=wrap_u64 _ (by omega) (by omega);have f:fH bh ((n:Int)/10)=(n:Int)/10:=wrap_u64 _ (by omega) (by omega);have g:fH bh ((n:Int)%10)=(n:Int)%10:=wrap_u64 _ (by omega) (by omega);have i:Int.tdiv (n:Int) 10=(n:Int)/10:=Int.tdiv_eq_ediv_of_nonneg (by omega);have j:Int.tmod (n:Int) 10=(n:Int)%10:=Int.tmod_eq_emod_of_nonneg (by omega);have:=O9 (n %10) (by omega);simp at d this;have e:=zx (n:=n/10) (by omega);have c:(dec (n/10)).length+1<=1073741824:=by omega
   simp[h,a,b,f,g,i,j,d,this,c]
def bg(n:Int)(l: -9223372036854775808<=n)(m:n<9223372036854775808)(S:G):DF F W 28 [.I V n] S=J (.S (aU n),S):=by
 rw[fO aio];by_cases h:n<0
 ·have e:((n.natAbs:Nat):Int)= -n:=by omega
  have a:=qq n.natAbs (by omega) S;rw[e]at a;have g:fH V (n+1)=n+1:=wrap_i64 _ (by omega) (by omega);have i:fH V (-(n+1))= -(n+1):=wrap_i64 _ (by omega) (by omega);have j:fH bh (-(n+1))= -(n+1):=wrap_u64 _ (by omega) (by omega);have k:fH bh (-(n+1)+1)= -n:=by rw[wrap_u64 _ (by omega) (by omega)];omega
  have d:=zx (n:=n.natAbs) (by omega);have b:1+(dec n.natAbs).length<=1073741824:=by omega
  have c:(dec n.natAbs).length+1<=1073741824:=by omega
  simp[h,g,i,j,k,a,aU,b,c,bb]
 ·have e:((n.toNat:Nat):Int)=n:=by omega
  have a:=qq n.toNat (by omega) S;rw[e]at a;have f:fH bh n=n:=wrap_u64 _ (by omega) (by omega);simp[h,f,a,aU]
def O_(n:Nat)(h:n<16):Kp (.S [48,49,50,51,52,53,54,55,56,57,97,98,99,100,101,102]) (J (.I V n)) (J (.I V ((n:Int)+1)))=J (.S [p5 n]):=by
 have a:n=0\/n=1\/n=2\/n=3\/n=4\/n=5\/n=6\/n=7\/n=8\/n=9\/n=10\/n=11\/n=12\/n=13\/n=14\/n=15:=by omega
 rcases a with rfl|rfl|rfl|rfl|rfl|rfl|rfl|rfl|rfl|rfl|rfl|rfl|rfl|rfl|rfl|rfl<;>rfl
def AM(b:K)(B:b.length<=1000000)(nb:Nat)(S:G):∀d i,i+d=b.length->
 DC F W (.L rC) ⟨[(0,b_ b),(3,.S [48,49,50,51,52,53,54,55,56,57,97,98,99,100,101,102]),(4,.S (dm (b.take i))),(5,.I V (i:Nat))],[],nb⟩ S=J (.E 0,⟨[(4,.S (dm b))],[],nb⟩,S):=by
 intro d;induction d with
 |zero=>
  intro i o;rw[aw,a_ iy];have m:¬i<b.length:=by omega
  have n:b.take i=b:=m_ (by omega);simp[m,n]
 |succ d s=>
  intro i o;have f:i<b.length:=by omega
  rw[aw,a_ iy];obtain⟨c,g,a⟩:=aJ (l:=b) (i:=i) f;have r:dm (b.take (i+1))=dm (b.take i)++[p5 (c.toNat/16),p5 (c.toNat %16)]:=by rw[rh,g];simp[dm]
  have e:=s (i+1) (by omega);rw[r]at e;have C:=jW (b.take i);have p:(b.take i).length<=1000000:=by simp;omega
  have q:=c.toNat_lt;have h:=aZ (i:=i) (by omega);have v:fH V (c.toNat:Int)=c.toNat:=wrap_i64 _ (by omega) (by omega);have w:(c.toNat:Int).tdiv 16=c.toNat/16:=td _ _;have x:(c.toNat:Int).tmod 16=c.toNat %16:=tm _ _;have y:fH V ((c.toNat:Int)/16)=(c.toNat:Int)/16:=wrap_i64 _ (by omega) (by omega);have z:fH V ((c.toNat:Int)/16+1)=(c.toNat:Int)/16+1:=wrap_i64 _ (by omega) (by omega);have A:fH V ((c.toNat:Int)%16+1)=(c.toNat:Int)%16+1:=wrap_i64 _ (by omega) (by omega);have j:=O_ (c.toNat/16) (by omega);have k:=O_ (c.toNat %16) (by omega);have t:(dm (b.take i)).length+1<=1073741824:=by omega
  have u:(dm (b.take i)).length+1+1<=1073741824:=by omega
  simp at e h j k;simp[f,g,a,c_,v,w,x,y,z,A,j,k,t,u];rw[aj iy];simp[h,e]
def oO(b:K)(a:b.length<=1000000)(S:G):DF F W 31 [b_ b] S=J (.S (dm b),S):=by rw[fO air];have h:=AM b a S.length S b.length 0 (by omega);simp[dm]at h;simp;rw[aj iy];simp[h,dm]
def e6(k:Int)(S:G):DF F W 23 [.I V k] S=J (.S (b8 k),S):=by
 have f:∀a b,aH .gtr (.I V a) (.I V b)=J (.B (bN (a>b))):=λ_ _=>rfl;have c:da 1 (List.replicate 10 [AV.S []]) [(0,.S []),(1,.S [119,114,105,116,101]),(2,.S [112,117,98,108,105,115,104]),(3,.S [115,121,110,99]),(4,.S [100,101,108,105,118,101,114]),(5,.S [108,111,115,101]),(6,.S [99,111,112,121]),(7,.S [115,119,97,112]),(8,.S [105,110,106,101,99,116]),(9,.S [114,101,97,100])]=J (strs (([0,1,2,3,4,5,6,7,8,9]:List Int).map b8)):=rfl
 have i:∀n:Nat,n<10->pY 1 (.sl .X 1 (strs (([0,1,2,3,4,5,6,7,8,9]:List Int).map b8))) (.I V (n:Int))=J (.dW .N [.S (b8 (n:Int))] 0):=λn h=>by
  have d:n=0\/n=1\/n=2\/n=3\/n=4\/n=5\/n=6\/n=7\/n=8\/n=9:=by omega
  rcases d with rfl|rfl|rfl|rfl|rfl|rfl|rfl|rfl|rfl|rfl<;>rfl
 have j:∀T x,a8 T .C (.dW .N [.S x] 0)=J (.S x):=λ_ _=>rfl;rw[fO ail];try simp only[List.replicate]at c
 generalize strs (([0,1,2,3,4,5,6,7,8,9]:List Int).map b8)=L at*;by_cases h:k<0
 ·have e:b8 k=[]:=by unfold b8;simp[show k≠1 by omega,show k≠2 by omega,show k≠3 by omega,show k≠4 by omega,show k≠5 by omega,show k≠6 by omega,show k≠7 by omega,show k≠8 by omega,show k≠9 by omega]
  simp-implicitDefEqProofs [-aH,eZ,f,c,h,e]
 ·by_cases d:k>9
  ·have e:b8 k=[]:=by unfold b8;simp[show k≠1 by omega,show k≠2 by omega,show k≠3 by omega,show k≠4 by omega,show k≠5 by omega,show k≠6 by omega,show k≠7 by omega,show k≠8 by omega,show k≠9 by omega]
   simp-implicitDefEqProofs [-aH,eZ,f,c,h,d,e]
  ·have g:=i k.toNat (by omega)
   rw[show((k.toNat:Nat):Int)=k by omega]at g;simp-implicitDefEqProofs [-aH,eZ,f,c,h,d,g,j]
def ka(k:Int)(S:G):DF F W 24 [.I V k] S=J (.B (cN k),S):=by rw[fO aim];unfold cN;by_cases a:k=3<;>by_cases b:k=7<;>by_cases c:k=8<;>simp[a,b,c]
def dr(k:Int)(S:G):DF F W 25 [.I V k] S=J (.B (cO k),S):=by rw[fO ain];unfold cO;by_cases a:k=1<;>by_cases b:k=2<;>by_cases c:k=9<;>simp[a,b,c]
def L9(a b:K)(nb:Nat)(S:G)(n:Nat)(k:a.length=n)(M:b.length=n)(N:n<9223372036854775808):∀d i,i+d=n->
 DC F W (.L pG) ⟨[(0,b_ a),(1,b_ b),(5,.I V (i:Nat))],[],nb⟩ S=
  if a.drop i=b.drop i then J (.E 0,⟨[],[],nb⟩,S)else J (.R,⟨[(4,.B O)],[],nb⟩,S):=by
 have o:∀s,iq (b_ s)=J (.I V (s.length:Int)):=λs=>by cases s<;>simp[b_,gn,iq]
 intro d;induction d with
 |zero=>
  intro i C;rw[aw,a_ gJ];have j:a.drop i=[]:=gY (by omega);have A:b.drop i=[]:=gY (by omega);have B:¬i<n:=by omega
  simp[j,A,B,o,k]
 |succ d L=>
  intro i C;have j:i<n:=by omega
  rw[aw,a_ gJ];obtain⟨x,q,E⟩:=aJ (l:=a) (i:=i) (by omega);obtain⟨y,t,I⟩:=aJ (l:=b) (i:=i) (by omega);rw[aS q,aS t];have c:=L (i+1) (by omega);have p:=aZ (i:=i) (by omega)
  have u:∀(s:K) z,s[i]? =J z->pY 1 (b_ s) (.I V (i:Int))=J (.dW .N [c_ z] 0):=λs z h=>by
   have m:s≠[]:=by intro e;rw[e]at h;simp at h
   have w:b_ s=.sl .N 1 (bcs s):=by cases s with
    |nil=>exact absurd rfl m
    |cons a r=>rfl
   rw[w,T8,h];rfl
  have f:=u a x q;have g:=u b y t;simp at c p;by_cases e:x=y
  ·subst e
   simp[j,o,k,f,g,c_];rw[aj gJ];simp[p,c]
  ·have v:¬x.toNat=y.toNat:=λh=>e (UInt8.toNat_inj.1 h)
   simp[j,o,k,f,g,c_,e,v]
def L_(a b:K)(f:a.length<9223372036854775808)(S:G):DF F W 38 [b_ a,b_ b] S=J (.B (bN (a=b)),S):=by
 have d:∀s,iq (b_ s)=J (.I V (s.length:Int)):=λs=>by cases s<;>simp[b_,gn,iq]
 rw[jy aiu];by_cases c:a.length=b.length
 ·have h:=L9 a b S.length S a.length rfl c.symm f a.length 0 (by omega)
  simp at h;simp[d,c];rw[aj gJ];by_cases e:a=b
  ·simp[e]at h
   simp[h,e]
  ·simp[e]at h
   simp[h,e]
 ·have e:a≠b:=λe=>c (by rw[e])
  simp[d,c,e]
def F6(a b:aD)(k:a.eQ)(l:b.eQ)(n:a.raw.length<9223372036854775808)(S:G):DF F W 10 [.A a.aq,.A b.aq] S=J (.B (same a b),S):=by
 rw[jy aid,aD.ik];have h:=bS a.op b.op k.op l.op;have j:=bR a.bG b.bG k.bG l.bG;have m:=L_ a.raw b.raw n;by_cases c:a.ae=b.ae;rotate_left;·simp[dM,c]
 by_cases d:a.fst=b.fst;rotate_left;·simp[dM,c,d]
 by_cases e:a.snd=b.snd;rotate_left;·simp[dM,c,d,e]
 by_cases f:a.bU=b.bU;rotate_left;·simp[dM,c,d,e,f]
 cases g:same a.op b.op;·simp[dM,c,d,e,f,g,h]
 cases i:same a.bG b.bG;·simp[dM,c,d,e,f,g,i,h,j]
 simp[dM,c,d,e,f,g,i,h,j,m]
structure aD.Flat(a:aD):Prop where
 op:a.op.value.depth<1000000
 bG:a.bG.depth<1000000
 deep:a.bG.Deep
noncomputable def aD.gj(a:aD):H:=if a.code=0 then .bL [.S a.line,.I V 0]else .bL [.S [],.I V (a.code:Int)]
def fD(x y:K)(h:x.length+y.length<=1073741824):bT .add (.S x) (.S y)=J (.S (x++y)):=if_pos h
def jY(x y:K):bT .eql (.S x) (.S y)=J (.B (bN (x=y))):=by show J (AV.B (x==y))=_;congr 2;try(rw[u6];simp)
def bI(a b:Int):aH .neq (.I V a) (.I V b)=J (.B (bN (a≠b))):=by show J (AV.B (a !=b))=_;congr 2;try(rw[u6];simp)
def iK(a b:Int):aH .eql (.I V a) (.I V b)=J (.B (bN (a=b))):=by show J (AV.B (a==b))=_;congr 2;try(rw[u6];simp)
def ej(a b:Int):aH .gtr (.I V a) (.I V b)=J (.B (bN (a>b))):=rfl
def NR{k:Int}(h:¬(1<=k/\k<=9)):b8 k=[]:=by unfold b8;simp[show k≠1 by omega,show k≠2 by omega,show k≠3 by omega,show k≠4 by omega,show k≠5 by omega,show k≠6 by omega,show k≠7 by omega,show k≠8 by omega,show k≠9 by omega]
def aac(a:aD)(S:G)(h:¬(1<=a.ae/\a.ae<=9)):DF F W 7 [.A a.aq] S=J (a.gj,S):=by
 have e:a.gj=.bL [.S [],.I V 5]:=by
  have c:a.code=5:=by unfold aD.code;rw[if_pos h]
  unfold aD.gj;rw[c];rfl
 have b:=λT=>e6 a.ae T;rw[NR h]at b;have d:=jY [] [];rw[e,fO Ef];simp-implicitDefEqProofs [-bT,b,d,dd,bn,bp,aK,ax,aL]
def Ub(a:aD)(Q:a.Wf)(S:G)(h:a.ae=1)(R:¬(a.cL=Y/\a.raw.length<=4096)):DF F W 7 [.A a.aq] S=J (a.gj,S):=by
 have e:a.gj=.bL [.S [],.I V 1]:=by
  have c:a.code=1:=by unfold aD.code;rw[if_neg (λq:¬_=>q (by omega)),if_pos R]
  unfold aD.gj;rw[c];rfl
 have w:=λT=>e6 a.ae T;have u:=λT=>ka a.ae T;have v:=λT=>dr a.ae T;rw[h]at w u v;rw[show b8 1=[119,114,105,116,101]from rfl]at w;rw[show cN 1=O from rfl]at u;rw[show cO 1=Y from rfl]at v;have y:=jY [119,114,105,116,101] [];rw[decide_eq_false (by decide)]at y;have z:=bI 1 1;have A:=bI 1 2;have B:=bI 1 8;rw[decide_eq_false (by decide)]at z;rw[decide_eq_true (by decide)]at A;rw[decide_eq_true (by decide)]at B;have x:=bI a.snd 0;have n3:=bI a.bU 0;have I:=ej (a.raw.length:Int) 0;have P:=ej (a.raw.length:Int) 4096;have L:=b7 a.raw;have sO:=λT=>bS a.op rG Q.op.cp ga T;have E:=λT=>bR a.bG jo (bj.Wf.cp _ Q.bG) e5 T;have i:bk ag []=J ag:=rfl;have g:bk ab []=J ab:=rfl;have o:=jZ;have k:=j0;have m:=j5;have r:=gB;have n:=j6;have j:=j7;have l:=j8;have p:=gC;rw[e,fO Ef];clear e;have hz:ag.length=10:=rfl;have M:=bu;generalize ag=X,ab=U at*;have N:∀s b,bZ 7 s [.S [],.I V 1] S (S++b)=J (.bL [.S [],.I V 1],S):=λs b=>by simp[dd,bn,bp,aK,ax,aL]
 by_cases C:a.snd=0;rotate_left
 ·rw[decide_eq_true (by omega)]at x
  simp-implicitDefEqProofs [M, -aH, -bT,h,w,u,v,y,z,A,B,bb,L,i,g,o,k,m,r,n,j,l,p,N,x]
 rw[decide_eq_false (by omega)]at x;by_cases d:same a.bG jo=Y;rotate_left
 ·rw[(by simpa using d:same a.bG jo=false)]at E
  simp-implicitDefEqProofs [M, -aH, -bT,h,w,u,v,y,z,A,B,bb,L,i,g,o,k,m,r,n,j,l,p,N,x,E]
 rw[d]at E;by_cases f:a.raw=[];rotate_left
 ·rw[decide_eq_true (by have:=Af.2 f;omega)]at I
  simp-implicitDefEqProofs [M, -aH, -bT,h,w,u,v,y,z,A,B,bb,L,i,g,o,k,m,r,n,j,l,p,N,x,E,I]
 rw[decide_eq_false (by rw[f];simp)]at I;by_cases t:a.raw.length<=4096;rotate_left
 ·rw[decide_eq_true (by omega)]at P
  simp-implicitDefEqProofs [M, -aH, -bT,h,w,u,v,y,z,A,B,bb,L,i,g,o,k,m,r,n,j,l,p,N,x,E,I,P]
 exact absurd ⟨by unfold aD.cL;simp[cN,cO,h,C,d,f],t⟩ R
def Uc(a:aD)(Q:a.Wf)(S:G)(h:a.ae=2)(R:¬(a.cL=Y/\a.raw.length<=4096)):DF F W 7 [.A a.aq] S=J (a.gj,S):=by
 have e:a.gj=.bL [.S [],.I V 1]:=by
  have c:a.code=1:=by unfold aD.code;rw[if_neg (λq:¬_=>q (by omega)),if_pos R]
  unfold aD.gj;rw[c];rfl
 have w:=λT=>e6 a.ae T;have u:=λT=>ka a.ae T;have v:=λT=>dr a.ae T;rw[h]at w u v;rw[show b8 2=[112,117,98,108,105,115,104]from rfl]at w;rw[show cN 2=O from rfl]at u;rw[show cO 2=Y from rfl]at v;have y:=jY [112,117,98,108,105,115,104] [];rw[decide_eq_false (by decide)]at y;have z:=bI 2 1;have A:=bI 2 2;have B:=bI 2 8;rw[decide_eq_true (by decide)]at z;rw[decide_eq_false (by decide)]at A;rw[decide_eq_true (by decide)]at B;have x:=bI a.snd 0;have n3:=bI a.bU 0;have I:=ej (a.raw.length:Int) 0;have P:=ej (a.raw.length:Int) 4096;have L:=b7 a.raw;have E:=λT=>bS a.op rG Q.op.cp ga T;have sL:=λT=>bR a.bG jo (bj.Wf.cp _ Q.bG) e5 T;have g:bk ag []=J ag:=rfl;have f:bk ab []=J ab:=rfl;have n:=jZ;have j:=j0;have l:=j5;have p:=gB;have m:=j6;have i:=j7;have k:=j8;have o:=gC;rw[e,fO Ef];clear e;have hz:ag.length=10:=rfl;have M:=bu;generalize ag=X,ab=U at*;have N:∀r b,bZ 7 r [.S [],.I V 1] S (S++b)=J (.bL [.S [],.I V 1],S):=λr b=>by simp[dd,bn,bp,aK,ax,aL]
 by_cases C:a.snd=0;rotate_left
 ·rw[decide_eq_true (by omega)]at x
  simp-implicitDefEqProofs [M, -aH, -bT,h,w,u,v,y,z,A,B,bb,L,g,f,n,j,l,p,m,i,k,o,N,x]
 rw[decide_eq_false (by omega)]at x;by_cases t:same a.op rG=Y;rotate_left
 ·rw[(by simpa using t:same a.op rG=false)]at E
  simp-implicitDefEqProofs [M, -aH, -bT,h,w,u,v,y,z,A,B,bb,L,g,f,n,j,l,p,m,i,k,o,N,x,E]
 rw[t]at E;by_cases d:a.raw=[];rotate_left
 ·rw[decide_eq_true (by have:=Af.2 d;omega)]at I
  simp-implicitDefEqProofs [M, -aH, -bT,h,w,u,v,y,z,A,B,bb,L,g,f,n,j,l,p,m,i,k,o,N,x,E,I]
 rw[decide_eq_false (by rw[d];simp)]at I;by_cases s:a.raw.length<=4096;rotate_left
 ·rw[decide_eq_true (by omega)]at P
  simp-implicitDefEqProofs [M, -aH, -bT,h,w,u,v,y,z,A,B,bb,L,g,f,n,j,l,p,m,i,k,o,N,x,E,I,P]
 exact absurd ⟨by unfold aD.cL;simp[cN,cO,h,C,t,d],s⟩ R
def Ud(a:aD)(U:a.Wf)(S:G)(h:a.ae=3)(X:¬(a.cL=Y/\a.raw.length<=4096)):DF F W 7 [.A a.aq] S=J (a.gj,S):=by
 have e:a.gj=.bL [.S [],.I V 1]:=by
  have c:a.code=1:=by unfold aD.code;rw[if_neg (λq:¬_=>q (by omega)),if_pos X]
  unfold aD.gj;rw[c];rfl
 have v:=λT=>e6 a.ae T;have t:=λT=>ka a.ae T;have u:=λT=>dr a.ae T;rw[h]at v t u;rw[show b8 3=[115,121,110,99]from rfl]at v;rw[show cN 3=Y from rfl]at t;rw[show cO 3=O from rfl]at u;have A:=jY [115,121,110,99] [];rw[decide_eq_false (by decide)]at A;have B:=bI 3 1;have C:=bI 3 2;have E:=bI 3 8;rw[decide_eq_true (by decide)]at B;rw[decide_eq_true (by decide)]at C;rw[decide_eq_true (by decide)]at E;have n2:=bI a.snd 0;have w:=bI a.bU 0;have Q:=ej (a.raw.length:Int) 0;have R:=ej (a.raw.length:Int) 4096;have L:=b7 a.raw;have I:=λT=>bS a.op rG U.op.cp ga T;have P:=λT=>bR a.bG jo (bj.Wf.cp _ U.bG) e5 T;have i:bk ag []=J ag:=rfl;have g:bk ab []=J ab:=rfl;have o:=jZ;have k:=j0;have m:=j5;have r:=gB;have n:=j6;have j:=j7;have l:=j8;have p:=gC;rw[e,fO Ef];clear e;have hz:ag.length=10:=rfl;have M:=bu;generalize ag=ZO,ab=ZL at*;have N:∀s b,bZ 7 s [.S [],.I V 1] S (S++b)=J (.bL [.S [],.I V 1],S):=λs b=>by simp[dd,bn,bp,aK,ax,aL]
 by_cases z:a.bU=0;rotate_left
 ·rw[decide_eq_true (by omega)]at w
  simp-implicitDefEqProofs [M, -aH, -bT,h,v,t,u,A,B,C,E,bb,L,i,g,o,k,m,r,n,j,l,p,N,w]
 rw[decide_eq_false (by omega)]at w;by_cases y:same a.op rG=Y;rotate_left
 ·rw[(by simpa using y:same a.op rG=false)]at I
  simp-implicitDefEqProofs [M, -aH, -bT,h,v,t,u,A,B,C,E,bb,L,i,g,o,k,m,r,n,j,l,p,N,w,I]
 rw[y]at I;by_cases d:same a.bG jo=Y;rotate_left
 ·rw[(by simpa using d:same a.bG jo=false)]at P
  simp-implicitDefEqProofs [M, -aH, -bT,h,v,t,u,A,B,C,E,bb,L,i,g,o,k,m,r,n,j,l,p,N,w,I,P]
 rw[d]at P;by_cases f:a.raw=[];rotate_left
 ·rw[decide_eq_true (by have:=Af.2 f;omega)]at Q
  simp-implicitDefEqProofs [M, -aH, -bT,h,v,t,u,A,B,C,E,bb,L,i,g,o,k,m,r,n,j,l,p,N,w,I,P,Q]
 rw[decide_eq_false (by rw[f];simp)]at Q;by_cases x:a.raw.length<=4096;rotate_left
 ·rw[decide_eq_true (by omega)]at R
  simp-implicitDefEqProofs [M, -aH, -bT,h,v,t,u,A,B,C,E,bb,L,i,g,o,k,m,r,n,j,l,p,N,w,I,P,Q,R]
 exact absurd ⟨by unfold aD.cL;simp[cN,cO,h,z,y,d,f],x⟩ X
def Ue(a:aD)(ha:a.Wf)(S:G)(h:a.ae=4)(hb:¬(a.cL=Y/\a.raw.length<=4096)):DF F W 7 [.A a.aq] S=J (a.gj,S):=by
 have e:a.gj=.bL [.S [],.I V 1]:=by
  have c:a.code=1:=by unfold aD.code;rw[if_neg (λq:¬_=>q (by omega)),if_pos hb]
  unfold aD.gj;rw[c];rfl
 have u:=λT=>e6 a.ae T;have s:=λT=>ka a.ae T;have t:=λT=>dr a.ae T;rw[h]at u s t;rw[show b8 4=[100,101,108,105,118,101,114]from rfl]at u;rw[show cN 4=O from rfl]at s;rw[show cO 4=O from rfl]at t;have x:=jY [100,101,108,105,118,101,114] [];rw[decide_eq_false (by decide)]at x;have y:=bI 4 1;have z:=bI 4 2;have A:=bI 4 8;rw[decide_eq_true (by decide)]at y;rw[decide_eq_true (by decide)]at z;rw[decide_eq_true (by decide)]at A;have v:=bI a.snd 0;have B:=bI a.bU 0;have U:=ej (a.raw.length:Int) 0;have X:=ej (a.raw.length:Int) 4096;have L:=b7 a.raw;have P:=λT=>bS a.op rG ha.op.cp ga T;have R:=λT=>bR a.bG jo (bj.Wf.cp _ ha.bG) e5 T;have g:bk ag []=J ag:=rfl;have f:bk ab []=J ab:=rfl;have n:=jZ;have j:=j0;have l:=j5;have p:=gB;have m:=j6;have i:=j7;have k:=j8;have o:=gC;rw[e,fO Ef];clear e;have hz:ag.length=10:=rfl;have M:=bu;generalize ag=ZO,ab=ZL at*;have N:∀w b,bZ 7 w [.S [],.I V 1] S (S++b)=J (.bL [.S [],.I V 1],S):=λw b=>by simp[dd,bn,bp,aK,ax,aL]
 by_cases Q:a.snd=0;rotate_left
 ·rw[decide_eq_true (by omega)]at v
  simp-implicitDefEqProofs [M, -aH, -bT,h,u,s,t,x,y,z,A,bb,L,g,f,n,j,l,p,m,i,k,o,N,v]
 rw[decide_eq_false (by omega)]at v;by_cases I:a.bU=0;rotate_left
 ·rw[decide_eq_true (by omega)]at B
  simp-implicitDefEqProofs [M, -aH, -bT,h,u,s,t,x,y,z,A,bb,L,g,f,n,j,l,p,m,i,k,o,N,v,B]
 rw[decide_eq_false (by omega)]at B;by_cases E:same a.op rG=Y;rotate_left
 ·rw[(by simpa using E:same a.op rG=false)]at P
  simp-implicitDefEqProofs [M, -aH, -bT,h,u,s,t,x,y,z,A,bb,L,g,f,n,j,l,p,m,i,k,o,N,v,B,P]
 rw[E]at P;by_cases d:same a.bG jo=Y;rotate_left
 ·rw[(by simpa using d:same a.bG jo=false)]at R
  simp-implicitDefEqProofs [M, -aH, -bT,h,u,s,t,x,y,z,A,bb,L,g,f,n,j,l,p,m,i,k,o,N,v,B,P,R]
 rw[d]at R;by_cases r:a.raw=[];rotate_left
 ·rw[decide_eq_true (by have:=Af.2 r;omega)]at U
  simp-implicitDefEqProofs [M, -aH, -bT,h,u,s,t,x,y,z,A,bb,L,g,f,n,j,l,p,m,i,k,o,N,v,B,P,R,U]
 rw[decide_eq_false (by rw[r];simp)]at U;by_cases C:a.raw.length<=4096;rotate_left
 ·rw[decide_eq_true (by omega)]at X
  simp-implicitDefEqProofs [M, -aH, -bT,h,u,s,t,x,y,z,A,bb,L,g,f,n,j,l,p,m,i,k,o,N,v,B,P,R,U,X]
 exact absurd ⟨by unfold aD.cL;simp[cN,cO,h,Q,I,E,d,r],C⟩ hb
def Uf(a:aD)(ha:a.Wf)(S:G)(h:a.ae=5)(hb:¬(a.cL=Y/\a.raw.length<=4096)):DF F W 7 [.A a.aq] S=J (a.gj,S):=by
 have e:a.gj=.bL [.S [],.I V 1]:=by
  have c:a.code=1:=by unfold aD.code;rw[if_neg (λq:¬_=>q (by omega)),if_pos hb]
  unfold aD.gj;rw[c];rfl
 have u:=λT=>e6 a.ae T;have s:=λT=>ka a.ae T;have t:=λT=>dr a.ae T;rw[h]at u s t;rw[show b8 5=[108,111,115,101]from rfl]at u;rw[show cN 5=O from rfl]at s;rw[show cO 5=O from rfl]at t;have x:=jY [108,111,115,101] [];rw[decide_eq_false (by decide)]at x;have y:=bI 5 1;have z:=bI 5 2;have A:=bI 5 8;rw[decide_eq_true (by decide)]at y;rw[decide_eq_true (by decide)]at z;rw[decide_eq_true (by decide)]at A;have v:=bI a.snd 0;have B:=bI a.bU 0;have U:=ej (a.raw.length:Int) 0;have X:=ej (a.raw.length:Int) 4096;have L:=b7 a.raw;have P:=λT=>bS a.op rG ha.op.cp ga T;have R:=λT=>bR a.bG jo (bj.Wf.cp _ ha.bG) e5 T;have g:bk ag []=J ag:=rfl;have f:bk ab []=J ab:=rfl;have n:=jZ;have j:=j0;have l:=j5;have p:=gB;have m:=j6;have i:=j7;have k:=j8;have o:=gC;rw[e,fO Ef];clear e;have hz:ag.length=10:=rfl;have M:=bu;generalize ag=ZO,ab=ZL at*;have N:∀w b,bZ 7 w [.S [],.I V 1] S (S++b)=J (.bL [.S [],.I V 1],S):=λw b=>by simp[dd,bn,bp,aK,ax,aL]
 by_cases Q:a.snd=0;rotate_left
 ·rw[decide_eq_true (by omega)]at v
  simp-implicitDefEqProofs [M, -aH, -bT,h,u,s,t,x,y,z,A,bb,L,g,f,n,j,l,p,m,i,k,o,N,v]
 rw[decide_eq_false (by omega)]at v;by_cases I:a.bU=0;rotate_left
 ·rw[decide_eq_true (by omega)]at B
  simp-implicitDefEqProofs [M, -aH, -bT,h,u,s,t,x,y,z,A,bb,L,g,f,n,j,l,p,m,i,k,o,N,v,B]
 rw[decide_eq_false (by omega)]at B;by_cases E:same a.op rG=Y;rotate_left
 ·rw[(by simpa using E:same a.op rG=false)]at P
  simp-implicitDefEqProofs [M, -aH, -bT,h,u,s,t,x,y,z,A,bb,L,g,f,n,j,l,p,m,i,k,o,N,v,B,P]
 rw[E]at P;by_cases d:same a.bG jo=Y;rotate_left
 ·rw[(by simpa using d:same a.bG jo=false)]at R
  simp-implicitDefEqProofs [M, -aH, -bT,h,u,s,t,x,y,z,A,bb,L,g,f,n,j,l,p,m,i,k,o,N,v,B,P,R]
 rw[d]at R;by_cases r:a.raw=[];rotate_left
 ·rw[decide_eq_true (by have:=Af.2 r;omega)]at U
  simp-implicitDefEqProofs [M, -aH, -bT,h,u,s,t,x,y,z,A,bb,L,g,f,n,j,l,p,m,i,k,o,N,v,B,P,R,U]
 rw[decide_eq_false (by rw[r];simp)]at U;by_cases C:a.raw.length<=4096;rotate_left
 ·rw[decide_eq_true (by omega)]at X
  simp-implicitDefEqProofs [M, -aH, -bT,h,u,s,t,x,y,z,A,bb,L,g,f,n,j,l,p,m,i,k,o,N,v,B,P,R,U,X]
 exact absurd ⟨by unfold aD.cL;simp[cN,cO,h,Q,I,E,d,r],C⟩ hb
def Ug(a:aD)(ha:a.Wf)(S:G)(h:a.ae=6)(hb:¬(a.cL=Y/\a.raw.length<=4096)):DF F W 7 [.A a.aq] S=J (a.gj,S):=by
 have e:a.gj=.bL [.S [],.I V 1]:=by
  have c:a.code=1:=by unfold aD.code;rw[if_neg (λq:¬_=>q (by omega)),if_pos hb]
  unfold aD.gj;rw[c];rfl
 have u:=λT=>e6 a.ae T;have s:=λT=>ka a.ae T;have t:=λT=>dr a.ae T;rw[h]at u s t;rw[show b8 6=[99,111,112,121]from rfl]at u;rw[show cN 6=O from rfl]at s;rw[show cO 6=O from rfl]at t;have x:=jY [99,111,112,121] [];rw[decide_eq_false (by decide)]at x;have y:=bI 6 1;have z:=bI 6 2;have A:=bI 6 8;rw[decide_eq_true (by decide)]at y;rw[decide_eq_true (by decide)]at z;rw[decide_eq_true (by decide)]at A;have v:=bI a.snd 0;have B:=bI a.bU 0;have U:=ej (a.raw.length:Int) 0;have X:=ej (a.raw.length:Int) 4096;have L:=b7 a.raw;have P:=λT=>bS a.op rG ha.op.cp ga T;have R:=λT=>bR a.bG jo (bj.Wf.cp _ ha.bG) e5 T;have g:bk ag []=J ag:=rfl;have f:bk ab []=J ab:=rfl;have n:=jZ;have j:=j0;have l:=j5;have p:=gB;have m:=j6;have i:=j7;have k:=j8;have o:=gC;rw[e,fO Ef];clear e;have hz:ag.length=10:=rfl;have M:=bu;generalize ag=ZO,ab=ZL at*;have N:∀w b,bZ 7 w [.S [],.I V 1] S (S++b)=J (.bL [.S [],.I V 1],S):=λw b=>by simp[dd,bn,bp,aK,ax,aL]
 by_cases Q:a.snd=0;rotate_left
 ·rw[decide_eq_true (by omega)]at v
  simp-implicitDefEqProofs [M, -aH, -bT,h,u,s,t,x,y,z,A,bb,L,g,f,n,j,l,p,m,i,k,o,N,v]
 rw[decide_eq_false (by omega)]at v;by_cases I:a.bU=0;rotate_left
 ·rw[decide_eq_true (by omega)]at B
  simp-implicitDefEqProofs [M, -aH, -bT,h,u,s,t,x,y,z,A,bb,L,g,f,n,j,l,p,m,i,k,o,N,v,B]
 rw[decide_eq_false (by omega)]at B;by_cases E:same a.op rG=Y;rotate_left
 ·rw[(by simpa using E:same a.op rG=false)]at P
  simp-implicitDefEqProofs [M, -aH, -bT,h,u,s,t,x,y,z,A,bb,L,g,f,n,j,l,p,m,i,k,o,N,v,B,P]
 rw[E]at P;by_cases d:same a.bG jo=Y;rotate_left
 ·rw[(by simpa using d:same a.bG jo=false)]at R
  simp-implicitDefEqProofs [M, -aH, -bT,h,u,s,t,x,y,z,A,bb,L,g,f,n,j,l,p,m,i,k,o,N,v,B,P,R]
 rw[d]at R;by_cases r:a.raw=[];rotate_left
 ·rw[decide_eq_true (by have:=Af.2 r;omega)]at U
  simp-implicitDefEqProofs [M, -aH, -bT,h,u,s,t,x,y,z,A,bb,L,g,f,n,j,l,p,m,i,k,o,N,v,B,P,R,U]
 rw[decide_eq_false (by rw[r];simp)]at U;by_cases C:a.raw.length<=4096;rotate_left
 ·rw[decide_eq_true (by omega)]at X
  simp-implicitDefEqProofs [M, -aH, -bT,h,u,s,t,x,y,z,A,bb,L,g,f,n,j,l,p,m,i,k,o,N,v,B,P,R,U,X]
 exact absurd ⟨by unfold aD.cL;simp[cN,cO,h,Q,I,E,d,r],C⟩ hb
def Uh(a:aD)(U:a.Wf)(S:G)(h:a.ae=7)(X:¬(a.cL=Y/\a.raw.length<=4096)):DF F W 7 [.A a.aq] S=J (a.gj,S):=by
 have e:a.gj=.bL [.S [],.I V 1]:=by
  have c:a.code=1:=by unfold aD.code;rw[if_neg (λq:¬_=>q (by omega)),if_pos X]
  unfold aD.gj;rw[c];rfl
 have v:=λT=>e6 a.ae T;have t:=λT=>ka a.ae T;have u:=λT=>dr a.ae T;rw[h]at v t u;rw[show b8 7=[115,119,97,112]from rfl]at v;rw[show cN 7=Y from rfl]at t;rw[show cO 7=O from rfl]at u;have A:=jY [115,119,97,112] [];rw[decide_eq_false (by decide)]at A;have B:=bI 7 1;have C:=bI 7 2;have E:=bI 7 8;rw[decide_eq_true (by decide)]at B;rw[decide_eq_true (by decide)]at C;rw[decide_eq_true (by decide)]at E;have n2:=bI a.snd 0;have w:=bI a.bU 0;have Q:=ej (a.raw.length:Int) 0;have R:=ej (a.raw.length:Int) 4096;have L:=b7 a.raw;have I:=λT=>bS a.op rG U.op.cp ga T;have P:=λT=>bR a.bG jo (bj.Wf.cp _ U.bG) e5 T;have i:bk ag []=J ag:=rfl;have g:bk ab []=J ab:=rfl;have o:=jZ;have k:=j0;have m:=j5;have r:=gB;have n:=j6;have j:=j7;have l:=j8;have p:=gC;rw[e,fO Ef];clear e;have hz:ag.length=10:=rfl;have M:=bu;generalize ag=ZO,ab=ZL at*;have N:∀s b,bZ 7 s [.S [],.I V 1] S (S++b)=J (.bL [.S [],.I V 1],S):=λs b=>by simp[dd,bn,bp,aK,ax,aL]
 by_cases z:a.bU=0;rotate_left
 ·rw[decide_eq_true (by omega)]at w
  simp-implicitDefEqProofs [M, -aH, -bT,h,v,t,u,A,B,C,E,bb,L,i,g,o,k,m,r,n,j,l,p,N,w]
 rw[decide_eq_false (by omega)]at w;by_cases y:same a.op rG=Y;rotate_left
 ·rw[(by simpa using y:same a.op rG=false)]at I
  simp-implicitDefEqProofs [M, -aH, -bT,h,v,t,u,A,B,C,E,bb,L,i,g,o,k,m,r,n,j,l,p,N,w,I]
 rw[y]at I;by_cases d:same a.bG jo=Y;rotate_left
 ·rw[(by simpa using d:same a.bG jo=false)]at P
  simp-implicitDefEqProofs [M, -aH, -bT,h,v,t,u,A,B,C,E,bb,L,i,g,o,k,m,r,n,j,l,p,N,w,I,P]
 rw[d]at P;by_cases f:a.raw=[];rotate_left
 ·rw[decide_eq_true (by have:=Af.2 f;omega)]at Q
  simp-implicitDefEqProofs [M, -aH, -bT,h,v,t,u,A,B,C,E,bb,L,i,g,o,k,m,r,n,j,l,p,N,w,I,P,Q]
 rw[decide_eq_false (by rw[f];simp)]at Q;by_cases x:a.raw.length<=4096;rotate_left
 ·rw[decide_eq_true (by omega)]at R
  simp-implicitDefEqProofs [M, -aH, -bT,h,v,t,u,A,B,C,E,bb,L,i,g,o,k,m,r,n,j,l,p,N,w,I,P,Q,R]
 exact absurd ⟨by unfold aD.cL;simp[cN,cO,h,z,y,d,f],x⟩ X
def Ui(a:aD)(Q:a.Wf)(S:G)(h:a.ae=8)(R:¬(a.cL=Y/\a.raw.length<=4096)):DF F W 7 [.A a.aq] S=J (a.gj,S):=by
 have e:a.gj=.bL [.S [],.I V 1]:=by
  have c:a.code=1:=by unfold aD.code;rw[if_neg (λq:¬_=>q (by omega)),if_pos R]
  unfold aD.gj;rw[c];rfl
 have x:=λT=>e6 a.ae T;have v:=λT=>ka a.ae T;have w:=λT=>dr a.ae T;rw[h]at x v w;rw[show b8 8=[105,110,106,101,99,116]from rfl]at x;rw[show cN 8=Y from rfl]at v;rw[show cO 8=O from rfl]at w;have z:=jY [105,110,106,101,99,116] [];rw[decide_eq_false (by decide)]at z;have A:=bI 8 1;have B:=bI 8 2;have C:=bI 8 8;rw[decide_eq_true (by decide)]at A;rw[decide_eq_true (by decide)]at B;rw[decide_eq_false (by decide)]at C;have n2:=bI a.snd 0;have y:=bI a.bU 0;have gl:=ej (a.raw.length:Int) 0;have P:=ej (a.raw.length:Int) 4096;have I:=b7 a.raw;have E:=λT=>bS a.op rG Q.op.cp ga T;have N:=λT=>bR a.bG jo (bj.Wf.cp _ Q.bG) e5 T;have g:bk ag []=J ag:=rfl;have f:bk ab []=J ab:=rfl;have n:=jZ;have j:=j0;have l:=j5;have p:=gB;have m:=j6;have i:=j7;have k:=j8;have o:=gC;rw[e,fO Ef];clear e;have hz:ag.length=10:=rfl;have L:=bu;generalize ag=X,ab=U at*;have M:∀r b,bZ 7 r [.S [],.I V 1] S (S++b)=J (.bL [.S [],.I V 1],S):=λr b=>by simp[dd,bn,bp,aK,ax,aL]
 by_cases u:a.bU=0;rotate_left
 ·rw[decide_eq_true (by omega)]at y
  simp-implicitDefEqProofs [L, -aH, -bT,h,x,v,w,z,A,B,C,bb,I,g,f,n,j,l,p,m,i,k,o,M,y]
 rw[decide_eq_false (by omega)]at y;by_cases t:same a.op rG=Y;rotate_left
 ·rw[(by simpa using t:same a.op rG=false)]at E
  simp-implicitDefEqProofs [L, -aH, -bT,h,x,v,w,z,A,B,C,bb,I,g,f,n,j,l,p,m,i,k,o,M,y,E]
 rw[t]at E;by_cases d:same a.bG jo=Y;rotate_left
 ·rw[(by simpa using d:same a.bG jo=false)]at N
  simp-implicitDefEqProofs [L, -aH, -bT,h,x,v,w,z,A,B,C,bb,I,g,f,n,j,l,p,m,i,k,o,M,y,E,N]
 rw[d]at N;by_cases s:a.raw.length<=4096;rotate_left
 ·rw[decide_eq_true (by omega)]at P
  simp-implicitDefEqProofs [L, -aH, -bT,h,x,v,w,z,A,B,C,bb,I,g,f,n,j,l,p,m,i,k,o,M,y,E,N,P]
 exact absurd ⟨by unfold aD.cL;simp[cN,cO,h,u,t,d],s⟩ R
def Uj(a:aD)(U:a.Wf)(S:G)(h:a.ae=9)(X:¬(a.cL=Y/\a.raw.length<=4096)):DF F W 7 [.A a.aq] S=J (a.gj,S):=by
 have e:a.gj=.bL [.S [],.I V 1]:=by
  have c:a.code=1:=by unfold aD.code;rw[if_neg (λq:¬_=>q (by omega)),if_pos X]
  unfold aD.gj;rw[c];rfl
 have v:=λT=>e6 a.ae T;have t:=λT=>ka a.ae T;have u:=λT=>dr a.ae T;rw[h]at v t u;rw[show b8 9=[114,101,97,100]from rfl]at v;rw[show cN 9=O from rfl]at t;rw[show cO 9=Y from rfl]at u;have z:=jY [114,101,97,100] [];rw[decide_eq_false (by decide)]at z;have A:=bI 9 1;have B:=bI 9 2;have C:=bI 9 8;rw[decide_eq_true (by decide)]at A;rw[decide_eq_true (by decide)]at B;rw[decide_eq_true (by decide)]at C;have w:=bI a.snd 0;have n3:=bI a.bU 0;have Q:=ej (a.raw.length:Int) 0;have R:=ej (a.raw.length:Int) 4096;have I:=b7 a.raw;have E:=λT=>bS a.op rG U.op.cp ga T;have P:=λT=>bR a.bG jo (bj.Wf.cp _ U.bG) e5 T;have i:bk ag []=J ag:=rfl;have g:bk ab []=J ab:=rfl;have o:=jZ;have k:=j0;have m:=j5;have r:=gB;have n:=j6;have j:=j7;have l:=j8;have p:=gC;rw[e,fO Ef];clear e;have hz:ag.length=10:=rfl;have M:=bu;generalize ag=ZO,ab=ZL at*;have N:∀s b,bZ 7 s [.S [],.I V 1] S (S++b)=J (.bL [.S [],.I V 1],S):=λs b=>by simp[dd,bn,bp,aK,ax,aL]
 by_cases L:a.snd=0;rotate_left
 ·rw[decide_eq_true (by omega)]at w
  simp-implicitDefEqProofs [M, -aH, -bT,h,v,t,u,z,A,B,C,bb,I,i,g,o,k,m,r,n,j,l,p,N,w]
 rw[decide_eq_false (by omega)]at w;by_cases y:same a.op rG=Y;rotate_left
 ·rw[(by simpa using y:same a.op rG=false)]at E
  simp-implicitDefEqProofs [M, -aH, -bT,h,v,t,u,z,A,B,C,bb,I,i,g,o,k,m,r,n,j,l,p,N,w,E]
 rw[y]at E;by_cases d:same a.bG jo=Y;rotate_left
 ·rw[(by simpa using d:same a.bG jo=false)]at P
  simp-implicitDefEqProofs [M, -aH, -bT,h,v,t,u,z,A,B,C,bb,I,i,g,o,k,m,r,n,j,l,p,N,w,E,P]
 rw[d]at P;by_cases f:a.raw=[];rotate_left
 ·rw[decide_eq_true (by have:=Af.2 f;omega)]at Q
  simp-implicitDefEqProofs [M, -aH, -bT,h,v,t,u,z,A,B,C,bb,I,i,g,o,k,m,r,n,j,l,p,N,w,E,P,Q]
 rw[decide_eq_false (by rw[f];simp)]at Q;by_cases x:a.raw.length<=4096;rotate_left
 ·rw[decide_eq_true (by omega)]at R
  simp-implicitDefEqProofs [M, -aH, -bT,h,v,t,u,z,A,B,C,bb,I,i,g,o,k,m,r,n,j,l,p,N,w,E,P,Q,R]
 exact absurd ⟨by unfold aD.cL;simp[cN,cO,h,L,y,d,f],x⟩ X
def QE(n:Nat)(h:n<16):aag (p5 n)=(n:Int):=by
 have a:n=0\/n=1\/n=2\/n=3\/n=4\/n=5\/n=6\/n=7\/n=8\/n=9\/n=10\/n=11\/n=12\/n=13\/n=14\/n=15:=by omega
 rcases a with rfl|rfl|rfl|rfl|rfl|rfl|rfl|rfl|rfl|rfl|rfl|rfl|rfl|rfl|rfl|rfl<;>decide
def Uo(b:K):∀k,k<b.length->(dm b)[2*k]? =J (p5 ((b.getD k 0).toNat/16))/\(dm b)[2*k+1]? =J (p5 ((b.getD k 0).toNat %16)):=by
 induction b with
 |nil=>intro k h;simp at h
 |cons c r d=>
  intro k h;cases k with
  |zero=>exact⟨rfl,rfl⟩
  |succ k=>
   have a:=d k (by simpa using h);have e:dm (c::r)=p5 (c.toNat/16)::p5 (c.toNat %16)::dm r:=by simp[dm]
   rw[e,show 2*(k+1)=2*k+1+1 by omega,sZ,sZ,sZ,sZ,List.getD_cons_succ];exact a
def Uq(s:K)(i:Nat)(c:UInt8)(h:s[i]? =J c):Kq (.S s) (.I V (i:Int))=J (c_ c):=by simp only[Kq];rw[if_neg (by omega)];simp[h,c_]
def aah(c:UInt8):aH .shl (.I V ((c.toNat/16:Nat):Int)) (.I bh 4)=J (.I V ((c.toNat/16*16:Nat):Int))/\
 aH .or (.I V ((c.toNat/16*16:Nat):Int)) (.I V ((c.toNat %16:Nat):Int))=J (.I V (c.toNat:Int)):=by
 have h:=c.toNat_lt;constructor
 ·show J (AV.I V (fH V (((c.toNat/16:Nat):Int)*16)))=_
  rw[e_ (by omega)];rfl
 ·show J (AV.I V (fH V ((jC 64 ((c.toNat/16*16:Nat):Int)|||jC 64 ((c.toNat %16:Nat):Int)).toNat:Int)))=_
  rw[BitVec.toNat_or,bvo,bvo,Nat.mod_eq_of_lt (by omega),Nat.mod_eq_of_lt (by omega)];have e:c.toNat/16*16|||c.toNat %16=c.toNat:=by have:=Nat.shiftLeft_add_eq_or_of_lt (i:=4) (b:=c.toNat %16) (by omega) (c.toNat/16);rw[Nat.shiftLeft_eq]at this;rw[<-this];omega
  rw[e,e_ (by omega)]
def afN(c:UInt8):EX .u8 (.I V (c.toNat:Int))=J (c_ c):=by have h:=c.toNat_lt;show J (AV.I .u8 ((c.toNat:Int)%256))=_;rw[Int.emod_eq_of_lt (by omega) (by omega)];rfl
def F_(b:K)(hb:b.length<=1000000)(S:G):∀(n k:Nat)(d:H)(ad:bY),k+n=b.length->mD d ad (b.take k)->
 ∃c aN,mD c aN b/\DC F W (.L vj) ⟨[(0,.S (dm b)),(4,d),(5,.I V ((2*k:Nat):Int))],ad,S.length⟩ S=J (.E 0,⟨[(4,c)],aN,S.length⟩,S):=by
 have lx:=jW b;intro n;induction n with
 |zero=>
  intro k d ad M h;have e:k=b.length:=by omega
  subst e;rw[wL]at h;refine⟨d,ad,h, ?_⟩;have l:¬((2*b.length:Nat):Int)<((dm b).length:Int):=by omega
  rw[aw,a_ jU];generalize((2*b.length:Nat):Int)=z at*;simp[-aH,eZ,l]
 |succ n x=>
  intro k d ad M h;have w:k<b.length:=by omega
  have⟨u,v⟩:=Uo b k w;have N:=(b.getD k 0).toNat_lt;have x1:=Uq _ _ _ u;have x2:=Uq _ _ _ v;have r:=λT=>zi (p5 ((b.getD k 0).toNat/16)) T;have s:=λT=>zi (p5 ((b.getD k 0).toNat %16)) T;rw[QE _ (by omega)]at r s;have⟨s1,s2⟩:=aah (b.getD k 0);have L:=afN (b.getD k 0);have l:((2*k:Nat):Int)<((dm b).length:Int):=by omega
  have m:=ac0 (2*k) 1 (by omega);have o:=ac0 (2*k) 2 (by omega);have Q:aH .eql (.I V ((2*k+1:Nat):Int)) (.I V ((dm b).length:Int))=J (.B O):=by show J (AV.B (((2*k+1:Nat):Int)==((dm b).length:Int)))=_;congr 2;rw[beq_eq_false_iff_ne];omega
  have R:aH .lss (.I V (((b.getD k 0).toNat/16:Nat):Int)) (.I V 0)=J (.B O):=by rw[eZ,decide_eq_false (by omega)]
  have U:aH .lss (.I V (((b.getD k 0).toNat %16:Nat):Int)) (.I V 0)=J (.B O):=by rw[eZ,decide_eq_false (by omega)]
  have t:b.take k++[b.getD k 0]=b.take (k+1):=by rw[rh,EW,cf w];rfl
  have⟨B,C,E,p⟩:=cW.app h (xs:=fQ [b.getD k 0]) (by simp[fQ]) (by simp;omega) .X S;have q:mD B C (b.take (k+1)):=by rw[<-t];simpa[mD,fQ]using p
  have⟨c,aN,y,A⟩:=x (k+1) B C (by omega) q;refine⟨c,aN,y, ?_⟩;have I:da 1 [[AV.I .u8 0]] [(0,c_ (b.getD k 0))]=J (fQ [b.getD k 0]):=rfl;have P:Kr (.S (dm b))=J (.I V ((dm b).length:Int)):=rfl;have X:=oM;have f:tV (c_ (p5 ((b.getD k 0).toNat/16))):=(AE _).Ai;have g:tV (c_ (p5 ((b.getD k 0).toNat %16))):=(AE _).Ai;rw[show 2*(k+1)=2*k+2 by omega]at A;clear p q t h y u v x;have i:aH .add (.I V ((2*k:Nat):Int)) (.I V 1)=J (.I V ((2*k+1:Nat):Int)):=m;have j:aH .add (.I V ((2*k:Nat):Int)) (.I V 2)=J (.I V ((2*k+2:Nat):Int)):=o;clear m o;generalize fQ [b.getD k 0]=XS,c_ (p5 ((b.getD k 0).toNat/16))=y1,c_ (p5 ((b.getD k 0).toNat %16))=y2,c_ (b.getD k 0)=cc,(((b.getD k 0).toNat/16:Nat):Int)=h1,(((b.getD k 0).toNat %16:Nat):Int)=h2,(((b.getD k 0).toNat/16*16:Nat):Int)=h4,((b.getD k 0).toNat:Int)=h5,((2*k:Nat):Int)=z0,((2*k+1:Nat):Int)=z1,((2*k+2:Nat):Int)=z2,((dm b).length:Int)=zl,dm b=a at*;rw[aw,a_ jU];simp-implicitDefEqProofs [X, -aH, -Kq, -Kr, -EX,eZ,l,P,x1,x2,f,g,r,s,s1,s2,L,i,j,Q,R,U,I,E];rw[aj jU];simp-implicitDefEqProofs [-aH,A]
def Ga(b:K)(h:b.length<=1000000)(S:G):∃o,zT o b/\DF F W 129 [.S (dm b)] S=J (.bL [o,.aB],S):=by
 have⟨o,t,c,d⟩:=F_ b h S b.length 0 .ao [] (by omega) (.inl ⟨rfl,rfl⟩);have⟨q,f,m,e,n⟩:=cW.res c (dP b);refine⟨q,⟨e,n⟩, ?_⟩;have k:=cW.nt c;have p:bZ 129 t [o,.aB] S S=J (.bL [q,.aB],S):=by
  have i:bp .aB=.aB:=rfl;have g:aK f .aB=(.aB,f):=rfl;have l:ax (.bL [q,.aB])=Y:=by
   rcases e with⟨_,rfl⟩|rfl|rfl;·rfl
   ·show(dw (fQ b)&&Y)=Y
    rw[dP];rfl
   ·show(dw (fQ b)&&Y)=Y
    rw[dP];rfl
  have j:bn .aB=Y:=rfl;simp[dd,k,j,i,m,g,l]
 rw[show((2*0:Nat):Int)=0 from rfl]at d;rw[fO aeS];generalize dm b=a at*;simp-implicitDefEqProofs [-aH];rw[aj jU];simp-implicitDefEqProofs [d,p]
def Fy.afO{sz:Nat}{r:H}{es:iI}(h:Fy sz r es)(ad:bY):∃a t,aI ad (.bL [r,.aB])=(.bL [a,.aB],ad++t)/\cW sz a (ad++t) es:=by
 rcases h with⟨rfl,rfl⟩|rfl|rfl;·exact⟨.ao,[],by simp[aI,dv,cq],.inl ⟨rfl,rfl⟩⟩
 ·exact⟨.sl .X sz es,[],by simp[aI,dv,cq],.inr (.inl rfl)⟩
 ·exact⟨.sl (.fr ad.length) sz es,[J es.length],rfl,.inr (.inr ⟨ad.length,rfl,by simp⟩)⟩
def rW{S:G}{j:Nat}{ws:List K}(b:K)(s:b.length<=1000000)(c:b≠[])(q:S[j]? =J (fP (dm b::ws) .aB)):
 ∃r,zT r b/\DF F W 91 [.P j 0] S=J (r,S.set j (fP ws .aB)):=by
 have w:=gP q;have⟨o,z,y⟩:=Ga b s (S.set j (fP ws .aB));have⟨x,A,d,g⟩:=z.1.afO [];have⟨r,t,k,l,m,n,p⟩:=mD.fin g;refine⟨r,p, ?_⟩;have i:b9 .neq (.eD cC) Y .aB .aB=J (.B O):=rfl;have v:cb (.P j 0)=J (.P j 0):=rfl;have B:∀b,(S.set j b).take S.length=S.set j b:=λb=>m_ (by simp);have u:dm b≠[]:=λh=>by have:=jW b;rw[h]at this;have:=Af.2 c;simp at*;omega
 have e:=jY (dm b) [];rw[decide_eq_false u]at e;have f:bZ 91 ([]++A) [x] S (S.set j (fP ws .aB))=J (r,S.set j (fP ws .aB)):=by simp only[kB,k,l,m,n,B];rfl
 try simp at d
 try simp at f
 rw[fO aiS];generalize dm b=a at*;simp-implicitDefEqProofs [-bT,w,v,y,d,i,e,bW,f]
def sC(S:G)(j:Nat)(r:Rd)(z:ez)(c:bE)(bt:bY)(u:ez):G:=S.set j (eo j r)++[z,.M c bt O,u]
def BJ(S:G)(j:Nat)(r:Rd)(z:ez)(c:bE)(bt:bY)(u:ez):fV S j r z (.M c bt O)++[u]=sC S j r z c bt u:=pX ..
def FT(S:G)(j:Nat)(r:Rd)(z b:ez):(fV S j r z b).length=S.length+2:=by simp[fV]
def sD{S:G}{j:Nat}{r:Rd}(b:S[j]? =J (eo j r))(a:Rd)(z:ez)(c:bE)(bt:bY)(u:ez):(sC S j a z c bt u)[j]? =J (eo j a):=TR b a _
theorem qR{S:G}{j:Nat}{r:Rd}(d:S[j]? =J (eo j r))(b a:Rd)(z:ez)(c:bE)(bt:bY)(u:ez):(sC S j b z c bt u).set j (eo j a)=sC S j a z c bt u:=by grind [sC,List.set_set]
theorem vt(S:G)(j:Nat)(r:Rd)(z:ez)(c:bE)(bt:bY)(u:ez):(sC S j r z c bt u)[S.length+1]? =J (.M c bt O):=gT (oD S j r) _ 1
theorem FU(S:G)(j:Nat)(r:Rd)(z:ez)(c a:bE)(bt bt':bY)(u:ez):(sC S j r z c bt u).set (S.length+1) (.M a bt' O)=sC S j r z a bt' u:=sT (oD S j r) _ 1 _
def T0(S:G)(j:Nat)(r:Rd)(z:ez)(c:bE)(bt:bY)(u:ez):(sC S j r z c bt u)[S.length+2]? =J u:=gT (oD S j r) _ 2
def T3(S:G)(j:Nat)(r:Rd)(z:ez)(c:bE)(bt:bY)(u:ez):(sC S j r z c bt u)[S.length]? =J z:=gT0 (oD S j r) _
theorem NM(S:G)(j:Nat)(r:Rd)(z:ez)(c:bE)(bt:bY)(u:ez)(a:Sh)(off:Nat):a8 (sC S j r z c bt u) a (.P (S.length+1) off)=fF a c off:=bP (vt S j r z c bt u) a off
def El(S:G)(j:Nat)(r:Rd)(z:ez)(c:bE)(bt:bY)(cs:bE)(a:Sh)(off:Nat):a8 (sC S j r z c bt (.M cs [] O)) a (.P (S.length+2) off)=fF a cs off:=bP (T0 ..) a off
theorem We(S:G)(j:Nat)(r:Rd)(cs:bE)(c:bE)(bt:bY)(u:ez)(a:Sh)(off:Nat):a8 (sC S j r (.M cs [] O) c bt u) a (.P S.length off)=fF a cs off:=bP (T3 ..) a off
def T4(S:G)(j:Nat)(r:Rd)(z:ez)(c:bE)(bt:bY)(u:ez):(sC S j r z c bt u).take S.length=S.set j (eo j r):=by grind [sC]
def Wg(S:G)(j:Nat)(r b:Rd)(z:ez)(c a:bE)(bt bt':bY)(u:ez){d:Rd}(e:S[j]? =J (eo j d)):BI (sC S j r z c bt u) j (S.length+1) b (.M a bt' O) []=sC S j b z a bt' u:=by grind [BI,qR,FU]
def CH{S:G}{j:Nat}{r:Rd}{z:ez}{c a:bE}{bt:bY}{u:ez}{v:H}(f:tV v)(off n:Nat)(d:v.cells.length=n)(e:off+n<=c.length)(b:aR c off v.cells=a)(ad:bY):
 aY ad S.length (sC S j r z c bt u) n (.P (S.length+1) off) v=J (ad,sC S j r z a bt u):=by
 grind [dH,vt,FU]
def FV{S:G}{j:Nat}{r:Rd}{cs c C:bE}{bt:bY}{u:ez}(d:bF C=Y)(a:cs.length=20)(b:C.length=20)(ad:bY):
 aY ad S.length (sC S j r (.M cs [] O) c bt u) 20 (.P S.length 0) (.A C)=J (ad,sC S j r (.M C [] O) c bt u):=by
 grind [sC,u9,aT]
def vu{k:Int}{a b:K}{c xs ys:bE}{pr ir:H}(d:bF c=Y)(e:bF xs=Y)(f:bF ys=Y)(g:aL pr=Y)(h:aL ir=Y):bF (iJ k a b c xs ys pr ir)=Y:=by rw[v7]at*;intro x hx;unfold iJ at hx;simp only[C6,uW,HH,or_false]at hx;rcases hx with(rfl|rfl|rfl)|hx|hx|hx|rfl|rfl;all_goals simp_all
theorem HZ{k:Int}{a b:K}{c xs ys:bE}{pr ir:H}(d:c.map aE=c)(e:xs.map aE=xs)(f:ys.map aE=ys):(iJ k a b c xs ys pr ir).map aE=iJ k a b c xs ys (aE pr) (aE ir):=by simp_all[iJ]
def vw{l:bj}{k:Int}{a b:K}{c xs ys:bE}{pr ir:H}(m:k=l.ae)(i:a=l.a)(j:b=l.b)(d:c.map bH=l.type.aq)(e:xs.map bH=l.base.aq)(f:ys.map bH=l.back.aq)(g:bH pr=mz l.aO)(h:bH ir=ph l.bD):
 bp (.A (iJ k a b c xs ys pr ir))=.A l.aq:=by
 subst m i j;show AV.A ((iJ l.ae l.a l.b c xs ys pr ir).map bH)=_;unfold iJ;simp only[List.map_append,Ev,Lk,d,e,f,g,h];rw[bj.gG];rfl
abbrev rE:bE:=[.I V 0,.ao,.ao]
def Z3{k:Int}(b:1<=k)(c:k<=10):(p4 k=Y/\oL k=O/\qB k=O/\rH k=O)\/(p4 k=O/\oL k=Y/\qB k=O/\rH k=O)\/(p4 k=O/\oL k=O/\qB k=O/\rH k=O)\/(p4 k=O/\oL k=O/\qB k=O/\rH k=Y)\/(p4 k=O/\oL k=Y/\qB k=Y/\rH k=O):=by have a:k=1\/k=2\/k=3\/k=4\/k=5\/k=6\/k=7\/k=8\/k=9\/k=10:=Z;rcases a with k|k|k|k|k|k|k|k|k|k<;>subst k<;>decide
def Wh:∀(d:Nat)(l:bj),l.Wf->l.aW d=Y->d<1000->∀(S:G)(j:Nat)(r:Rd)(u:K),S[j]? =J (eo j r)->nZ r (l.bytes++u)->
 DF F W 174 [.P j 0,.I V (d:Int)] S=J (.A l.aq,S.set j (eo j (r.go l.bytes.length))):=by
 intro d;induction d with
 |zero=>nofun
 |succ d ih=>
  intro l hl h hd S j r u s hr;have R:=bj.e9 h;have A:=hl.one;have hj:j<S.length:=(jc.1 s).1;have lb:=l.tv;have k1:=R.k1;have V1:=R.V1;have Q:nZ (r.go 1) (aM l.a++((if p4 l.ae=Y then aM l.b else[])++((if oL l.ae=Y then l.type.bytes++l.base.bytes else[])++((if qB l.ae=Y then l.back.bytes++(ch l.aO.length++l.aO.flatMap jA)else[])++(bj.eB l.bD++u))))):=by have:=hr;rw[lb,z_]at this;simpa only[pX]using this.V8
  have hr0:=hr;rw[lb,z_]at hr0;have ZV:∀b,(S++[b])[j]? =J (eo j r):=λb=>cM _ s;have c1:=Eh (ZV (.M ab [] O)) hr0;rw[en _ hj]at c1;have hk:((cY l.ae.toNat).toNat:Int)=l.ae:=by rw[xY];omega
  rw[hk]at c1;have wk:fH V l.ae=l.ae:=e_ Z;have d0:¬((d:Int)+1=0):=Z;have hd1:fH V (d:Int)=(d:Int):=e_ Z;have T1:(S.set j (eo j (r.go 1))).length=S.length:=b5;have fk:bk ab [(0,1,.I V l.ae)]=J (iJ l.ae [] [] rE ah ah .ao .ao):=rfl;have st0:aY [] S.length (S.set j (eo j (r.go 1))++[.M ab [] O,.M ab [] O]) 20 (.P (S.length+1) 0) (.A (iJ l.ae [] [] rE ah ah .ao .ao))=J ([],fV S j (r.go 1) (.M ab [] O) (.M (iJ l.ae [] [] rE ah ah .ao .ao) [] O)):=by rw[nK T1 rfl];rfl
  have lk:∀f,a8 (fV S j f (.M ab [] O) (.M (iJ l.ae [] [] rE ah ah .ao .ao) [] O)) .C (.P (S.length+1) 0)=J (.I V l.ae):=λf=>jV ..;have cu:=rz l.ae;have hok:uz l.ae=Y:=by simp[uz,k1,V1]
  rw[hok]at cu;have stu:∀f c b t y i,aY [] S.length (sC S j f (.M ab [] O) c [] (.M [.B O,.B O,.B O,.B O] [] O)) 4 (.P (S.length+2) 0) (.A [.B b,.B t,.B y,.B i])=J ([],sC S j f (.M ab [] O) c [] (.M [.B b,.B t,.B y,.B i] [] O)):=λf c b t y i=>by unfold sC;rw[nK (oD S j f) rfl];rfl
  have b0:b9 .neq (.eD cC) Y .aB .aB=J (.B O):=rfl;have b1:b9 .eql (.eD cC) Y .aB .aB=J (.B Y):=rfl;have lu0:∀f z c bt b t y i,a8 (sC S j f z c bt (.M [.B b,.B t,.B y,.B i] [] O)) .C (.P (S.length+2) 0)=J (.B b):=λ_ _ _ _ _ _ _ _=>El ..;have lu1:∀f z c bt b t y i,a8 (sC S j f z c bt (.M [.B b,.B t,.B y,.B i] [] O)) .C (.P (S.length+2) 1)=J (.B t):=λ_ _ _ _ _ _ _ _=>El ..;have lu2:∀f z c bt b t y i,a8 (sC S j f z c bt (.M [.B b,.B t,.B y,.B i] [] O)) .C (.P (S.length+2) 2)=J (.B y):=λ_ _ _ _ _ _ _ _=>El ..;have lu3:∀f z c bt b t y i,a8 (sC S j f z c bt (.M [.B b,.B t,.B y,.B i] [] O)) .C (.P (S.length+2) 3)=J (.B i):=λ_ _ _ _ _ _ _ _=>El ..;have er:=λ{f:Rd}{u':K}(z:ez)(c:bE)(bt)(b:ez)(h':nZ f u')=>uE (sD s f z c bt b) h';have ne0:l.a≠[]:=by have:=fe R.a;intro e;have h2:=R.a;rw[e]at h2;trivial
  have c2:=λU=>LY (o:=[]) (sD s (r.go 1) (.M ab [] O) (iJ l.ae [] [] rE ah ah .ao .ao) [] U) R.a ne0 Q;simp only[qR s]at c2;have s2:∀f U,aY [] S.length (sC S j f (.M ab [] O) (iJ l.ae [] [] rE ah ah .ao .ao) [] U) 1 (.P (S.length+1) 1) (.S l.a)=J ([],sC S j f (.M ab [] O) (iJ l.ae l.a [] rE ah ah .ao .ao) [] U):=λf U=>CH (IV l.a) 1 1 rfl (by rw[lg rfl rfl rfl];omega) rfl [];have T:=Q.go;have lA:∀f z a b(ts xs ys:bE) pr ir bt U,ts.length=3->xs.length=6->ys.length=6->ts.map aE=ts->xs.map aE=xs->ys.map aE=ys->a8 (sC S j f z (iJ l.ae a b ts xs ys pr ir) bt U) (.A 20) (.P (S.length+1) 0)=J (.A (iJ l.ae a b ts xs ys (aE pr) (aE ir))):=λf z a b ts xs ys pr ir bt U h1 h2 h3 g1 g2 g3=>by grind [NM,lR,lg,HZ]
  have lZ:∀f a b(ts xs ys:bE) pr ir c bt U,ts.length=3->xs.length=6->ys.length=6->ts.map aE=ts->xs.map aE=xs->ys.map aE=ys->aE pr=pr->aE ir=ir->a8 (sC S j f (.M (iJ l.ae a b ts xs ys pr ir) [] O) c bt U) (.A 20) (.P S.length 0)=J (.A (iJ l.ae a b ts xs ys pr ir)):=λf a b ts xs ys pr ir c bt U h1 h2 h3 g1 g2 g3 g4 g5=>by grind [We,lR,lg,HZ]
  have res:∀f n C c bt U,bp (.A C)=.A l.aq->bZ 174 n [.A C] S (sC S j f (.M C [] O) c bt U)=J (.A l.aq,S.set j (eo j f)):=λf n C c bt U hC=>by simp[kB,hC,bn,T4]
  have tS:=(bw.dx l.type).lr;have tP:=(bw.dx l.type).aL;have tN:=(bw.dx l.type).iN;have xS:=(aV.dx l.base).lr;have xP:=(aV.dx l.base).aL;have xN:=(aV.dx l.base).iN;have yS:=(aV.dx l.back).lr;have yP:=(aV.dx l.back).aL;have yN:=(aV.dx l.back).iN;have z3:rE.map aE=rE:=rfl;have z3P:bF rE=Y:=rfl;have tr:∀b t y i o,aI [] (.bL [.A (n_ b t y i),.B o])=(.bL [.A (n_ b t y i),.B o],[]):=λ_ _ _ _ _=>rfl;have sn:aE .ao=.ao:=rfl;have i0:l.bD=[]->bj.eB l.bD=[]:=λh=>by rw[h];rfl
  rcases Z3 k1 V1 with⟨w,B,E,X⟩|⟨w,B,E,X⟩|⟨w,B,E,X⟩|⟨w,B,E,X⟩|⟨w,B,E,X⟩
  ·
    have e1:=R.b1 w;have P:=R.t0 B;have M:=R.y0 E;have e4:=R.i0 X;rw[w,B,E,X]at cu;simp only[w,B,E,i0 e4,if_true,tH,if_false,tQ]at T lb;have N:=λU=>LY (o:=l.a) (sD s ((r.go 1).go (aM l.a).length) (.M ab [] O) (iJ l.ae l.a [] rE ah ah .ao .ao) [] U) e1.1 e1.2 T;simp only[qR s]at N;have R3:=T.go;have l1:∀f U,a8 (sC S j f (.M ab [] O) (iJ l.ae l.a [] rE ah ah .ao .ao) [] U) .C (.P (S.length+1) 1)=J (.S l.a):=λ_ _=>NM ..;have s3:∀f U,aY [] S.length (sC S j f (.M ab [] O) (iJ l.ae l.a [] rE ah ah .ao .ao) [] U) 1 (.P (S.length+1) 2) (.S l.b)=J ([],sC S j f (.M ab [] O) (iJ l.ae l.a l.b rE ah ah .ao .ao) [] U):=λf U=>CH (IV l.b) 2 1 rfl (by rw[lg rfl rfl rfl];omega) rfl [];have hC:bp (.A (iJ l.ae l.a l.b rE ah ah .ao .ao))=.A l.aq:=vw rfl rfl rfl (by rw[P.1];rfl) (by rw[P.2];rfl) (by rw[M.1];rfl) (by rw[M.2];rfl) (by rw[e4];rfl);have g:=λf z U=>lA f z l.a l.b rE ah ah .ao .ao [] U rfl rfl rfl rfl rfl rfl;have I:=λf c U=>lZ f l.a l.b rE ah ah .ao .ao c [] U rfl rfl rfl rfl rfl rfl rfl rfl;have L:=λf c U=>FV (S:=S) (j:=j) (r:=f) (cs:=ab) (c:=c) (bt:=[]) (u:=U) (C:=iJ l.ae l.a l.b rE ah ah .ao .ao) (vu rfl rfl rfl rfl rfl) rfl (lg rfl rfl rfl) [];have v:=λU=>er (.M ab [] O) (iJ l.ae [] [] rE ah ah .ao .ao) [] U Q;have p:=λU=>er (.M ab [] O) (iJ l.ae l.a l.b rE ah ah .ao .ao) [] U R3;have rr:=λf n c U=>res f n _ c [] U hC;simp only[sn]at g;rw[jy Lt];rw[lb];generalize hc0:iJ l.ae [] [] rE ah ah .ao .ao=C0,WO:iJ l.ae l.a [] rE ah ah .ao .ao=C1,hc2:iJ l.ae l.a l.b rE ah ah .ao .ao=C2 at*;simp at c2 N p g;simp[d0,c1,wk,fk,st0,lk,cu,tr,bb,FT,BJ,stu,v,b0,c2,s2,lu0,lu1,lu2,lu3,l1,N,s3,km,p,g,L,I,rr]
    grind
  ·
    have e1:=R.b0 w;have P:=R.t1 B;have M:=R.y0 E;have e4:=R.i0 X;have fr:=mm P;rw[w,B,E,X]at cu;simp only[w,B,E,i0 e4,if_true,tH,if_false,tQ,pX]at T lb;have N:=λU=>HX l.type A.type fr.2 (sD s ((r.go 1).go (aM l.a).length) (.M ab [] O) (iJ l.ae l.a [] rE ah ah .ao .ao) [] U) T;simp only[qR s]at N;have R3:=T.go;have s3:∀f U,aY [] S.length (sC S j f (.M ab [] O) (iJ l.ae l.a [] rE ah ah .ao .ao) [] U) 3 (.P (S.length+1) 3) (.A l.type.aq)=J ([],sC S j f (.M ab [] O) (iJ l.ae l.a [] l.type.aq ah ah .ao .ao) [] U):=λf U=>CH (v8 (bw.dx l.type)) 3 3 b5 (by rw[lg rfl rfl rfl];omega) (TV rfl b5) [];have R4:=R3.go
    have c4:=λU=>za (m:=S.length+1) l.base A.base fr.1 (sD s (((r.go 1).go (aM l.a).length).go l.type.bytes.length) (.M ab [] O) (iJ l.ae l.a [] l.type.aq ah ah .ao .ao) [] U) R3 209 rfl rfl (by
     refine uF (k:=l.ae) (a:=l.a) (b:=[]) (t:=l.type) (xs:=ah) (ys:=ah) (pr:=.ao) (ir:=.ao) (bt:=[]) (q:=O) ?_ l.base A.base A.type P;unfold fV
     grind [qR,vt])
    simp only[qR s]at c4;have s4:∀f U,aY [] S.length (sC S j f (.M ab [] O) (iJ l.ae l.a [] l.type.aq ah ah .ao .ao) [] U) 6 (.P (S.length+1) 6) (.A l.base.aq)=J ([],sC S j f (.M ab [] O) (iJ l.ae l.a [] l.type.aq l.base.aq ah .ao .ao) [] U):=λf U=>CH (v8 (aV.dx l.base)) 6 6 b5 (by rw[lg b5 rfl rfl];omega) (TW b5 rfl b5) [];have hC:bp (.A (iJ l.ae l.a [] l.type.aq l.base.aq ah .ao .ao))=.A l.aq:=vw rfl rfl e1.symm tN xN (by rw[M.1];rfl) (by rw[M.2];rfl) (by rw[e4];rfl);have g:=λf z U=>lA f z l.a [] l.type.aq l.base.aq ah .ao .ao [] U b5 b5 rfl tS xS rfl;have I:=λf c U=>lZ f l.a [] l.type.aq l.base.aq ah .ao .ao c [] U b5 b5 rfl tS xS rfl rfl rfl;have L:=λf c U=>FV (S:=S) (j:=j) (r:=f) (cs:=ab) (c:=c) (bt:=[]) (u:=U) (C:=iJ l.ae l.a [] l.type.aq l.base.aq ah .ao .ao) (vu tP xP rfl rfl rfl) rfl (lg b5 b5 rfl) [];have v:=λU=>er (.M ab [] O) (iJ l.ae [] [] rE ah ah .ao .ao) [] U Q;have p:=λU=>er (.M ab [] O) (iJ l.ae l.a [] l.type.aq l.base.aq ah .ao .ao) [] U R4;have rr:=λf n c U=>res f n _ c [] U hC;simp only[sn]at g;rw[jy Lt];rw[lb];generalize hc0:iJ l.ae [] [] rE ah ah .ao .ao=C0,WO:iJ l.ae l.a [] rE ah ah .ao .ao=C1,hc2:iJ l.ae l.a [] l.type.aq ah ah .ao .ao=C2,hc3:iJ l.ae l.a [] l.type.aq l.base.aq ah .ao .ao=C3 at*;simp at c2 N c4 p g;simp[d0,c1,wk,fk,st0,lk,cu,tr,bb,FT,BJ,stu,v,b0,c2,s2,lu0,lu1,lu2,lu3,N,s3,c4,s4,km,p,g,L,I,rr]
    grind
  ·
    have e1:=R.b0 w;have P:=R.t0 B;have M:=R.y0 E;have e4:=R.i0 X;rw[w,B,E,X]at cu;simp only[w,B,E,i0 e4,tH,if_false,tQ]at T lb;have hC:bp (.A (iJ l.ae l.a [] rE ah ah .ao .ao))=.A l.aq:=vw rfl rfl e1.symm (by rw[P.1];rfl) (by rw[P.2];rfl) (by rw[M.1];rfl) (by rw[M.2];rfl) (by rw[e4];rfl);have g:=λf z U=>lA f z l.a [] rE ah ah .ao .ao [] U rfl rfl rfl rfl rfl rfl;have I:=λf c U=>lZ f l.a [] rE ah ah .ao .ao c [] U rfl rfl rfl rfl rfl rfl rfl rfl;have L:=λf c U=>FV (S:=S) (j:=j) (r:=f) (cs:=ab) (c:=c) (bt:=[]) (u:=U) (C:=iJ l.ae l.a [] rE ah ah .ao .ao) (vu rfl rfl rfl rfl rfl) rfl (lg rfl rfl rfl) [];have v:=λU=>er (.M ab [] O) (iJ l.ae [] [] rE ah ah .ao .ao) [] U Q;have p:=λU=>er (.M ab [] O) (iJ l.ae l.a [] rE ah ah .ao .ao) [] U T;have rr:=λf n c U=>res f n _ c [] U hC;simp only[sn]at g;rw[jy Lt];rw[lb];generalize hc0:iJ l.ae [] [] rE ah ah .ao .ao=C0,WO:iJ l.ae l.a [] rE ah ah .ao .ao=C1 at*;simp at c2 p g;simp[d0,c1,wk,fk,st0,lk,cu,tr,bb,FT,BJ,stu,v,b0,c2,s2,lu0,lu1,lu2,lu3,km,p,g,L,I,rr]
    grind
  ·
    have e1:=R.b0 w;have P:=R.t0 B;have M:=R.y0 E;have e4:=R.i1 X;obtain⟨x,ex⟩:∃x,l.bD=[x]:=xX.1 e4;have eb:bj.eB l.bD=x.bytes:=by rw[ex];simp[bj.eB]
    rw[w,B,E,X]at cu;simp only[w,B,E,eb,tH,if_false,tQ]at T lb;have N:=λU=>ih x (hl.all x (by grind)) (R.all x (by grind)) Z _ j ((r.go 1).go (aM l.a).length) u (sD s ((r.go 1).go (aM l.a).length) (.M ab [] O) (iJ l.ae l.a [] rE ah ah .ao .ao) [] U) T;simp only[qR s]at N;have R3:=T.go;have bo:da 20 [ab] [(0,.A x.aq)]=J [x.aq]:=by have:=(bj.dx x).lr;simp[da,aE,AV.cells,fE]
    have px:aL (.sl .X 20 [x.aq])=Y:=by simp[aL,dw,(bj.dx x).aL]
    have s3:∀f U,aY [] S.length (sC S j f (.M ab [] O) (iJ l.ae l.a [] rE ah ah .ao .ao) [] U) 1 (.P (S.length+1) 19) (.sl .X 20 [x.aq])=J ([],sC S j f (.M ab [] O) (iJ l.ae l.a [] rE ah ah .ao (.sl .X 20 [x.aq])) [] U):=λf U=>by unfold aY;simp only[vt];rw[if_pos ⟨rfl,rfl,by rw[lg rfl rfl rfl];omega,.inl Z⟩];show J ([],(sC ..).set _ (.M (aR _ 19 [_]) [] O))=_;rw[FU,Z1 rfl rfl rfl];rfl
    have hC:bp (.A (iJ l.ae l.a [] rE ah ah .ao (.sl .X 20 [x.aq])))=.A l.aq:=vw rfl rfl e1.symm (by rw[P.1];rfl) (by rw[P.2];rfl) (by rw[M.1];rfl) (by rw[M.2];rfl) (by rw[ex];rfl);have g:=λf z U=>lA f z l.a [] rE ah ah .ao (.sl .X 20 [x.aq]) [] U rfl rfl rfl rfl rfl rfl;have I:=λf c U=>lZ f l.a [] rE ah ah .ao (.sl .X 20 [x.aq]) c [] U rfl rfl rfl rfl rfl rfl rfl rfl;have L:=λf c U=>FV (S:=S) (j:=j) (r:=f) (cs:=ab) (c:=c) (bt:=[]) (u:=U) (C:=iJ l.ae l.a [] rE ah ah .ao (.sl .X 20 [x.aq])) (vu rfl rfl rfl rfl px) rfl (lg rfl rfl rfl) [];have v:=λU=>er (.M ab [] O) (iJ l.ae [] [] rE ah ah .ao .ao) [] U Q;have p:=λU=>er (.M ab [] O) (iJ l.ae l.a [] rE ah ah .ao (.sl .X 20 [x.aq])) [] U R3;have rr:=λf n c U=>res f n _ c [] U hC;have st9:aE (.sl .X 20 [x.aq])=.sl .X 20 [x.aq]:=rfl;simp only[st9]at g;simp only[sn]at g;rw[jy Lt];rw[lb];generalize hc0:iJ l.ae [] [] rE ah ah .ao .ao=C0,WO:iJ l.ae l.a [] rE ah ah .ao .ao=C1,hc2:iJ l.ae l.a [] rE ah ah .ao (.sl .X 20 [x.aq])=C2 at*;simp at c2 N p g bo;simp[d0,hd1,c1,wk,fk,st0,lk,cu,tr,bb,FT,BJ,stu,v,b0,c2,s2,lu0,lu1,lu2,lu3,N,s3,bo,km,p,g,L,I,rr]
    grind
  ·
    have e1:=R.b0 w;have P:=R.t1 B;have M:=R.y1 E;have e4:=R.i0 X;have fr:=mm P;have tk1:=Fo P;rw[w,B,E,X]at cu;simp only[w,B,E,i0 e4,if_true,tH,if_false,tQ,pX]at T lb;have N:=λU=>HX l.type A.type fr.2 (sD s ((r.go 1).go (aM l.a).length) (.M ab [] O) (iJ l.ae l.a [] rE ah ah .ao .ao) [] U) T;simp only[qR s]at N;have R3:=T.go;have s3:∀f U,aY [] S.length (sC S j f (.M ab [] O) (iJ l.ae l.a [] rE ah ah .ao .ao) [] U) 3 (.P (S.length+1) 3) (.A l.type.aq)=J ([],sC S j f (.M ab [] O) (iJ l.ae l.a [] l.type.aq ah ah .ao .ao) [] U):=λf U=>CH (v8 (bw.dx l.type)) 3 3 b5 (by rw[lg rfl rfl rfl];omega) (TV rfl b5) [];have R4:=R3.go;have ert:=λU=>er (.M ab [] O) (iJ l.ae l.a [] l.type.aq ah ah .ao .ao) [] U R3;have l3:∀f U,a8 (sC S j f (.M ab [] O) (iJ l.ae l.a [] l.type.aq ah ah .ao .ao) [] U) (.A 3) (.P (S.length+1) 3)=J (.A l.type.aq):=λf U=>by rw[NM];exact XN b5 tS
    have csc:=wR l.type;have hsc:(bN (1<=l.type.ae)&&bN (l.type.ae<=4))=Y:=by grind
    rw[hsc]at csc;have c4:=λU=>za (m:=S.length+1) l.base A.base fr.1 (sD s (((r.go 1).go (aM l.a).length).go l.type.bytes.length) (.M ab [] O) (iJ l.ae l.a [] l.type.aq ah ah .ao .ao) [] U) R3 209 rfl rfl (by refine uF (k:=l.ae) (a:=l.a) (b:=[]) (t:=l.type) (xs:=ah) (ys:=ah) (pr:=.ao) (ir:=.ao) (bt:=[]) (q:=O) ?_ l.base A.base A.type P;unfold fV;refine cM _ ?_;rw[qR s];exact vt ..)
    simp only[qR s]at c4;have s4:∀f U,aY [] S.length (sC S j f (.M ab [] O) (iJ l.ae l.a [] l.type.aq ah ah .ao .ao) [] U) 6 (.P (S.length+1) 6) (.A l.base.aq)=J ([],sC S j f (.M ab [] O) (iJ l.ae l.a [] l.type.aq l.base.aq ah .ao .ao) [] U):=λf U=>CH (v8 (aV.dx l.base)) 6 6 b5 (by rw[lg b5 rfl rfl];omega) (TW b5 rfl b5) [];have jm:j≠S.length+1:=Z;have c5:=λU=>TZ l A M.1 M.2.1 M.2.2.1 M.2.2.2 (k:=l.ae) (a:=l.a) (b:=[]) (xs:=l.base.aq) (ys:=ah) (ir:=.ao) b5 rfl (sD s ((((r.go 1).go (aM l.a).length).go l.type.bytes.length).go l.base.bytes.length) (.M ab [] O) (iJ l.ae l.a [] l.type.aq l.base.aq ah .ao .ao) [] U) (vt ..) jm R4;simp only[Wg S j _ _ _ _ _ _ _ _ s]at c5;have R5:nZ (((((r.go 1).go (aM l.a).length).go l.type.bytes.length).go l.base.bytes.length).go (l.back.bytes.length+((ch l.aO.length).length+(l.aO.flatMap jA).length))) u:=by
     have:=R4.go.go.go
     grind [Rd.go]
    generalize ZY:bC (S.length+1) 0 12 (CG l.aO)=row at*;have hrs:aE row=f_ 12 (CG l.aO):=by rw[<-ZY];exact oI ..
    have q1:=mM (sz:=12) (HY l.aO);have hC:bp (.A (iJ l.ae l.a [] l.type.aq l.base.aq l.back.aq (f_ 12 (CG l.aO)) .ao))=.A l.aq:=vw rfl rfl e1.symm tN xN yN (Qu _) (by rw[e4];rfl);have g:=λf z U=>lA f z l.a [] l.type.aq l.base.aq l.back.aq row .ao (Jy l.aO.length) U b5 b5 b5 tS xS yS;have I:=λf c U=>lZ f l.a [] l.type.aq l.base.aq l.back.aq (f_ 12 (CG l.aO)) .ao c (Jy l.aO.length) U b5 b5 b5 tS xS yS q1.1 rfl;have L:=λf c U=>FV (S:=S) (j:=j) (r:=f) (cs:=ab) (c:=c) (bt:=Jy l.aO.length) (u:=U) (C:=iJ l.ae l.a [] l.type.aq l.base.aq l.back.aq (f_ 12 (CG l.aO)) .ao) (vu tP xP yP q1.2 rfl) rfl (lg b5 b5 b5) [];have v:=λU=>er (.M ab [] O) (iJ l.ae [] [] rE ah ah .ao .ao) [] U Q;have p:=λU=>er (.M ab [] O) (iJ l.ae l.a [] l.type.aq l.base.aq l.back.aq row .ao) (Jy l.aO.length) U R5;have rr:=λf n c U=>res f n _ c (Jy l.aO.length) U hC;simp only[sn,hrs]at g;rw[jy Lt];rw[lb];generalize hc0:iJ l.ae [] [] rE ah ah .ao .ao=C0,WO:iJ l.ae l.a [] rE ah ah .ao .ao=C1,hc2:iJ l.ae l.a [] l.type.aq ah ah .ao .ao=C2,hc3:iJ l.ae l.a [] l.type.aq l.base.aq ah .ao .ao=C3,hc4:iJ l.ae l.a [] l.type.aq l.base.aq l.back.aq row .ao=C4,hc5:iJ l.ae l.a [] l.type.aq l.base.aq l.back.aq (f_ 12 (CG l.aO)) .ao=C5 at*;simp at c2 N ert c4 g;simp[-List.length_flatMap]at c5 p;simp[d0,c1,wk,fk,st0,lk,cu,tr,dh,bb,FT,BJ,stu,v,b0,b1,c2,s2,lu0,lu1,lu2,lu3,N,s3,ert,l3,csc,c4,s4,c5,km,p,g,L,I,rr, -List.length_flatMap]
    grind
def LZ{S:G}{j:Nat}{r:Rd}{u:K}(v:bj)(i:v.Wf)(h:v.aW 5=Y)(d:S[j]? =J (eo j r))(f:nZ r (v.bytes++u)):
 DF F W 133 [.P j 0] S=J (.A v.aq,S.set j (eo j (r.go v.bytes.length))):=by
 have e:=Wh 5 v i h Z (S++[.M ab [] O]) j r u (cM _ d) f;rw[en _ ((jc.1 d).1)]at e;have c:(S.set j (eo j (r.go v.bytes.length))).length=S.length:=b5;have m:=u9 c (bj.dx v).aL [.M ab [] O] 0 [] S.length 20;have l:a8 (S.set j (eo j (r.go v.bytes.length))++[.M v.aq [] O]) (.A 20) (.P S.length 0)=J (.A v.aq):=by rw[VA c];simp
 have k:∀b a,(S.set j b++a).take S.length=S.set j b:=λb a=>by simp
 have g:aR ab 0 v.aq=v.aq:=aT b5;rw[fO aeW];simp_all
def Mb(o:k7)(z:o.Wf)(h:Bz o=Y)(hl:(jw o).length<=4096)(S:G):DF F W 92 [b_ (jw o)] S=J (.bL [.A o.aq,.aB],S):=by
 have C:=b7 (jw o);have s:=ej ((jw o).length:Int) 4096;rw[decide_eq_false (by omega)]at s;have q:=Dt (jw o) (by omega) (S++[.M ag [] O]);have f:nZ ⟨(jw o),0,D⟩ ((jw o)++[]):=⟨rfl,by show(jw o).length<=_;omega,q9 _,by simp[Rd.left]⟩;have u:(S++[.M ag [] O]++[eo (S.length+1) ⟨(jw o),0,D⟩])[S.length+1]? =J (eo (S.length+1) ⟨(jw o),0,D⟩):=by simp
 have g:=afq o z h u f;have c:∀r,(S++[ez.M ag [] O]++[eo (S.length+1) ⟨(jw o),0,D⟩]).set (S.length+1) (eo (S.length+1) r)=S++[ez.M ag [] O,eo (S.length+1) r]:=λr=>by simp
 rw[c]at g;have n:=f.go;have e:o.aq.length=10:=by simp
 have d:lJ o.aq:=k7.dx o;have M:=cm e d;have k:ag.length=10:=rfl;have m:∀r,aY [] S.length (S++[.M ag [] O,eo (S.length+1) r,.M ag [] O]) 10 (.P (S.length+2) 0) (.A o.aq)=J ([],S++[.M ag [] O,eo (S.length+1) r,.M o.aq [] O]):=λr=>by rw[nK (S:=S) rfl d.aL];simp[e,k,aT]
 have x:=λX=>R9 (S:=S++[.M ag [] O,eo (S.length+1) ((⟨(jw o),0,D⟩:Rd).go (jw o).length),X]) (j:=S.length+1) (by simp) n;have l:∀r X,aY [] S.length (S++[.M ag [] O,eo (S.length+1) r,X]) 10 (.P S.length 0) (.A o.aq)=J ([],S++[.M o.aq [] O,eo (S.length+1) r,X]):=λr X=>by rw[u9 (S:=S) rfl d.aL];simp[e,k,aT]
 have v:b9 .neq (.eD cC) Y .aB .aB=J (.B O):=rfl;have Q:∀a,bZ 92 [] [.A o.aq,.aB] S (S++a)=J (.bL [.A o.aq,.aB],S):=λa=>by have E:bp (.A o.aq)=.A o.aq:=d.agg.bp;have N:=d.aL;have I:=d.iN;simp[dd,E,bn,bp,aK,ax,aL,N,I]
 have R:∀t i,aI t (.P i 0)=(.P i 0,t):=λ_ _=>rfl;have y:∀T i,ck T (.P i 0)=J (.P i 0):=λ_ _=>rfl;have A:∀T i,cr T (.P i 0)=T:=λ_ _=>rfl;have U:∀T p i,bO T p (.P i 0)=p:=λ_ _ _=>rfl;have L:∀i,cR (.P i 0)=.P i 0:=λ_=>rfl;have w:=(tg (jw o)).Ai;rw[fO aiT];clear f n u c;generalize ag=b at*;try simp at q g
 generalize(⟨(jw o),0,D⟩:Rd).go (jw o).length=P,b_ (jw o)=B at*;generalize eo (S.length+1) ⟨(jw o),0,D⟩=X0,eo (S.length+1) P=X1 at*;generalize o.aq=OE at*;simp-implicitDefEqProofs [-aH,C,s,w,q,g,m,x,l,v,Q,e,d,M,d.agg,k,R,y,A,U,L,cy,b6]
def GZ(o:bj)(z:o.Wf)(h:o.aW 5=Y)(hl:o.bytes.length<=4096)(S:G):DF F W 93 [b_ o.bytes] S=J (.bL [.A o.aq,.aB],S):=by
 have C:=b7 o.bytes;have s:=ej (o.bytes.length:Int) 4096;rw[decide_eq_false (by omega)]at s;have q:=Dt o.bytes (by omega) (S++[.M ab [] O]);have f:nZ ⟨o.bytes,0,D⟩ (o.bytes++[]):=⟨rfl,by show o.bytes.length<=_;omega,q9 _,by simp[Rd.left]⟩;have u:(S++[.M ab [] O]++[eo (S.length+1) ⟨o.bytes,0,D⟩])[S.length+1]? =J (eo (S.length+1) ⟨o.bytes,0,D⟩):=by simp
 have g:=LZ o z h u f;have c:∀r,(S++[ez.M ab [] O]++[eo (S.length+1) ⟨o.bytes,0,D⟩]).set (S.length+1) (eo (S.length+1) r)=S++[ez.M ab [] O,eo (S.length+1) r]:=λr=>by simp
 rw[c]at g;have n:=f.go;have e:o.aq.length=20:=by simp
 have d:lJ o.aq:=bj.dx o;have M:=cm e d;have k:ab.length=20:=rfl;have m:∀r,aY [] S.length (S++[.M ab [] O,eo (S.length+1) r,.M ab [] O]) 20 (.P (S.length+2) 0) (.A o.aq)=J ([],S++[.M ab [] O,eo (S.length+1) r,.M o.aq [] O]):=λr=>by rw[nK (S:=S) rfl d.aL];simp[e,k,aT]
 have x:=λX=>R9 (S:=S++[.M ab [] O,eo (S.length+1) ((⟨o.bytes,0,D⟩:Rd).go o.bytes.length),X]) (j:=S.length+1) (by simp) n;have l:∀r X,aY [] S.length (S++[.M ab [] O,eo (S.length+1) r,X]) 20 (.P S.length 0) (.A o.aq)=J ([],S++[.M o.aq [] O,eo (S.length+1) r,X]):=λr X=>by rw[u9 (S:=S) rfl d.aL];simp[e,k,aT]
 have v:b9 .neq (.eD cC) Y .aB .aB=J (.B O):=rfl;have Q:∀a,bZ 93 [] [.A o.aq,.aB] S (S++a)=J (.bL [.A o.aq,.aB],S):=λa=>by have E:bp (.A o.aq)=.A o.aq:=d.agg.bp;have N:=d.aL;have I:=d.iN;simp[dd,E,bn,bp,aK,ax,aL,N,I]
 have R:∀t i,aI t (.P i 0)=(.P i 0,t):=λ_ _=>rfl;have y:∀T i,ck T (.P i 0)=J (.P i 0):=λ_ _=>rfl;have A:∀T i,cr T (.P i 0)=T:=λ_ _=>rfl;have U:∀T p i,bO T p (.P i 0)=p:=λ_ _ _=>rfl;have L:∀i,cR (.P i 0)=.P i 0:=λ_=>rfl;have w:=(tg o.bytes).Ai;rw[fO aiU];clear f n u c;generalize ab=b at*;try simp at q g
 generalize(⟨o.bytes,0,D⟩:Rd).go o.bytes.length=P,b_ o.bytes=B at*;generalize eo (S.length+1) ⟨o.bytes,0,D⟩=X0,eo (S.length+1) P=X1 at*;generalize o.aq=OE at*;simp-implicitDefEqProofs [-aH,C,s,w,q,g,m,x,l,v,Q,e,d,M,d.agg,k,R,y,A,U,L,cy,b6]
section
def w_(S:G):DF F W 94 [.aB] S=J (.aB,S):=by have a:b9 .eql (.eD cC) Y .aB .aB=J (.B Y):=rfl;rw[fO aiV];simp-implicitDefEqProofs [a]
section
variable{S:G}{j:Nat}{ws:List K}
def aai(b:S[j]? =J (fP ws .aB))(ad:bY)(nb:Nat):aY ad nb S 1 (.P j 1) .aB=J (ad,S):=by
 have e:S.set j (fP ws .aB)=S:=by
  apply KI;intro i;by_cases h:i=j
  ·subst h
   rw[De (jc.1 b).1,b]
  ·rw[Bl (λq=>h q.symm)]
 have a:=b;unfold fP at a;simp only[aY,a];rw[if_pos ⟨rfl,rfl,by simp,.inr rfl⟩];show J (ad,S.set j (fP ws .aB))=_;rw[e]
def vA(b:S[j]? =J (fP ws .aB)):DF F W 90 [.P j 0,.aB] S=J (.bL [],S):=by
 have d:=rV b rfl;have e:=λa g=>aai b a g;have c:b9 .eql (.eD cC) Y .aB .aB=J (.B Y):=rfl;have f:cb (.P j 0)=J (.P j 0):=rfl;rw[jy aiR];have h:bZ 90 [] [] S S=J (.bL [],S):=by simp[bZ,aF,bM,ax]
 simp-implicitDefEqProofs [d,e,c,f,h]
def JJ(b:K)(M:b.length<=4096)(c:S[j]? =J (fP ((if b=[]then[45]else dm b)::ws) .aB)):
 ∃r,zT r b/\DF F W 44 [.P j 0] S=J (r,S.set j (fP ws .aB)):=by
 have m:cb (.P j 0)=J (.P j 0):=rfl;have u:∀b,(S.set j b).take S.length=S.set j b:=λb=>m_ (by simp);have n:∀T x,a8 T .C (.dW .N [.S x] 0)=J (.S x):=λ_ _=>rfl;by_cases h:b=[]
 ·subst h
  rw[if_pos rfl]at c;refine⟨.ao,⟨.inl ⟨rfl,rfl⟩,rfl⟩, ?_⟩;have e:=qJ c;have f:=BQ [45] ws;have B:=gP c;have d:=jY [45] [45];rw[decide_eq_true rfl]at d;rw[fO aew];generalize AV.sl .N 1 (strs ([45]::ws))=X at*;simp-implicitDefEqProofs [-bT,e,f,B,d,m,n,u,kB,bn,bp,aK,ax,aL]
 ·rw[if_neg h]at c
  have⟨o,I,E⟩:=rW b (by omega) h c;have⟨C,L,i,k⟩:=I.1.take [];have⟨r,t,v,w,y,z,A⟩:=mD.fin k;refine⟨r,A, ?_⟩;have e:=qJ c;have f:=BQ (dm b) ws;have g:dm b≠[45]:=λq=>by have:=jW b;rw[q]at this;simp at this;omega
  have d:=jY (dm b) [45];rw[decide_eq_false g]at d;have p:=cW.len k;rw[IP]at p;have l:=ej (b.length:Int) 4096;rw[decide_eq_false (by omega)]at l;have s:bZ 44 ([]++L) [C] S (S.set j (fP ws .aB))=J (r,S.set j (fP ws .aB)):=by simp only[kB,v,w,y,z,u];rfl
  try simp at i
  try simp at s
  rw[fO aew];generalize AV.sl .N 1 (strs (dm b::ws))=X,dm b=a at*;simp-implicitDefEqProofs [-bT, -aH,e,f,E,i,d,p,l,m,n,s]
end
def CN{S:G}{j m:Nat}{ws:List K}{C:bE}(o:k7)(Q:o.Wf)(h:Bz o=Y)(N:(jw o).length<=4096)(b:j≠m)(s:S[j]? =J (fP (dm (jw o)::ws) .aB))(u:S[m]? =J (.M C [] O))(hC:C.length=35):
 DF F W 43 [.P j 0,.P m 0,.A (aA 1)] S=J (.bL [],(S.set j (fP ws .aB)).set m (.M (aR C 4 o.aq) [] O)):=by
 have a:j<S.length:=(jc.1 s).1;have c:m<S.length:=(jc.1 u).1;have⟨r,ro,n⟩:=rW (S:=S++[.M (aA 1) [] O]) (j:=j) (ws:=ws) (jw o) (by omega) (JE o) (cM _ s);rw[en _ a]at n;have⟨o1,t1,p,d⟩:=ro.1.take [];have E:=cW.AD d;have I:cR (aE o1)=b_ (jw o):=cW.cR d;have L:=cW.lock d;have M:=cW.oJ d;have e:(S.set j (fP ws .aB)++[.M (aA 1) [] O])[j]? =J (fP ws .aB):=by rw[uM (by simpa using a),De a]
 have X:=rV e rfl;have w:b9 .neq (.eD cC) Y .aB .aB=J (.B O):=rfl;have P:∀i,cb (.P i 0)=J (.P i 0):=λ_=>rfl;have z:=λT=>Mb o Q h N T;have v:lJ o.aq:=k7.dx o;have oe:o.aq.length=10:=by simp
 have tq:∀t,aI t (.bL [.A o.aq,.aB])=(.bL [.A o.aq,.aB],t):=λ_=>rfl;have g:(S.set j (fP ws .aB)++[.M (aA 1) [] O])[m]? =J (.M C [] O):=by rw[uM (by simpa using c),Bl b,u]
 have st:∀ad,aY ad S.length (S.set j (fP ws .aB)++[.M (aA 1) [] O]) 10 (.P m 4) (.A o.aq)=J (ad,(S.set j (fP ws .aB)).set m (.M (aR C 4 o.aq) [] O)++[.M (aA 1) [] O]):=λad=>by rw[dH v.agg g,if_pos ⟨by simpa using oe,by omega⟩,en _ (by simpa using c)];rfl
 have f:((S.set j (fP ws .aB)).set m (.M (aR C 4 o.aq) [] O)++[.M (aA 1) [] O])[j]? =J (fP ws .aB):=by rw[uM (by simpa using a),Bl (λq=>b q.symm),De a]
 have B:=vA f;have x:=w_;have R:(aA 1).length=6:=rfl;have A:=eL 1;have y:(AV.A (aA 1)).cells=aA 1:=rfl;have u3:(aA 1)[3]? =J (.B Y):=rfl;have u4:(aA 1)[4]? =J (.B O):=rfl;have rs:∀ad,bZ 43 ad [] S ((S.set j (fP ws .aB)).set m (.M (aR C 4 o.aq) [] O)++[.M (aA 1) [] O])=J (.bL [],(S.set j (fP ws .aB)).set m (.M (aR C 4 o.aq) [] O)):=λad=>by simp[bZ,aF,bM,ax]
 have k:a8 (S.set j (fP ws .aB)++[.M (aA 1) [] O]) .C (.P S.length 3)=J (.B Y):=by have:=bP (S:=S.set j (fP ws .aB)++[.M (aA 1) [] O]) (i:=S.length) (cs:=aA 1) (ad:=[]) (l:=O) (by rw[ob (by simp)];simp) .C 3;rw[this];rfl
 try simp at p
 try simp at n
 rw[PS aev];generalize(S.set j (fP ws .aB)).set m (.M (aR C 4 o.aq) [] O)=S3,S.set j (fP ws .aB)=S2,aA 1=U at*;simp-implicitDefEqProofs [R,A,y,n,p,X,w,P,k,E,I,L,M,cy,b6,z,tq,bW,st,x,B,rs,v.agg]
def AN{S:G}{j m:Nat}{ws:List K}{C:bE}(o:bj)(Q:o.Wf)(h:o.aW 5=Y)(N:(o.bytes).length<=4096)(b:j≠m)(s:S[j]? =J (fP (dm (o.bytes)::ws) .aB))(u:S[m]? =J (.M C [] O))(hC:C.length=35):
 DF F W 43 [.P j 0,.P m 0,.A (aA 2)] S=J (.bL [],(S.set j (fP ws .aB)).set m (.M (aR C 14 o.aq) [] O)):=by
 have a:j<S.length:=(jc.1 s).1;have c:m<S.length:=(jc.1 u).1;have⟨r,ro,n⟩:=rW (S:=S++[.M (aA 2) [] O]) (j:=j) (ws:=ws) (o.bytes) (by omega) (bj.ji o) (cM _ s);rw[en _ a]at n;have⟨o1,t1,p,d⟩:=ro.1.take [];have E:=cW.AD d;have I:cR (aE o1)=b_ (o.bytes):=cW.cR d;have L:=cW.lock d;have M:=cW.oJ d;have e:(S.set j (fP ws .aB)++[.M (aA 2) [] O])[j]? =J (fP ws .aB):=by rw[uM (by simpa using a),De a]
 have X:=rV e rfl;have w:b9 .neq (.eD cC) Y .aB .aB=J (.B O):=rfl;have P:∀i,cb (.P i 0)=J (.P i 0):=λ_=>rfl;have z:=λT=>GZ o Q h N T;have v:lJ o.aq:=bj.dx o;have oe:o.aq.length=20:=by simp
 have tq:∀t,aI t (.bL [.A o.aq,.aB])=(.bL [.A o.aq,.aB],t):=λ_=>rfl;have g:(S.set j (fP ws .aB)++[.M (aA 2) [] O])[m]? =J (.M C [] O):=by rw[uM (by simpa using c),Bl b,u]
 have st:∀ad,aY ad S.length (S.set j (fP ws .aB)++[.M (aA 2) [] O]) 20 (.P m 14) (.A o.aq)=J (ad,(S.set j (fP ws .aB)).set m (.M (aR C 14 o.aq) [] O)++[.M (aA 2) [] O]):=λad=>by rw[dH v.agg g,if_pos ⟨by simpa using oe,by omega⟩,en _ (by simpa using c)];rfl
 have f:((S.set j (fP ws .aB)).set m (.M (aR C 14 o.aq) [] O)++[.M (aA 2) [] O])[j]? =J (fP ws .aB):=by rw[uM (by simpa using a),Bl (λq=>b q.symm),De a]
 have B:=vA f;have x:=w_;have R:(aA 2).length=6:=rfl;have A:=eL 2;have y:(AV.A (aA 2)).cells=aA 2:=rfl;have u3:(aA 2)[3]? =J (.B O):=rfl;have u4:(aA 2)[4]? =J (.B Y):=rfl;have rs:∀ad,bZ 43 ad [] S ((S.set j (fP ws .aB)).set m (.M (aR C 14 o.aq) [] O)++[.M (aA 2) [] O])=J (.bL [],(S.set j (fP ws .aB)).set m (.M (aR C 14 o.aq) [] O)):=λad=>by simp[bZ,aF,bM,ax]
 have k:a8 (S.set j (fP ws .aB)++[.M (aA 2) [] O]) .C (.P S.length 3)=J (.B O):=by have:=bP (S:=S.set j (fP ws .aB)++[.M (aA 2) [] O]) (i:=S.length) (cs:=aA 2) (ad:=[]) (l:=O) (by rw[ob (by simp)];simp) .C 3;rw[this];rfl
 try simp at p
 try simp at n
 rw[PS aev];generalize(S.set j (fP ws .aB)).set m (.M (aR C 14 o.aq) [] O)=S3,S.set j (fP ws .aB)=S2,aA 2=U at*;simp-implicitDefEqProofs [R,A,y,n,p,X,w,P,k,E,I,L,M,cy,b6,z,tq,bW,st,x,B,rs,v.agg]
end
def vB:List Bool->Nat
 |[]=>0
 |b::r=>(if b=Y then 1 else 0)+vB r
def Pb:∀l,vB l<=l.length
 |[]=>eE _
 |b::r=>by have:=Pb r;simp only[vB,jN];split<;>omega
def JK(b:List Bool)(r:b.length=5)(nb:Nat)(S:G):∀(n i a:Nat),i+n=5->a<=i+2->
 DC F W (.L sb) ⟨[(3,.I V (a:Int)),(16,.A (b.map .B)),(17,.I V (i:Int))],[],nb⟩ S=J (.E 0,⟨[(3,.I V ((a+vB (b.drop i):Nat):Int))],[],nb⟩,S):=by
 intro n;induction n with
 |zero=>
  intro i a p o;have e:i=5:=by omega
  subst e;rw[gY (by omega)];rw[aw,a_ fC];simp[vB]
 |succ n k=>
  intro i a p o;have g:i<b.length:=by omega
  have d:sk 5 1 .C (.A (b.map .B)) (.I V (i:Int))=J (.B b[i]):=by simp only[sk];rw[if_neg (by omega),if_pos (by omega)];simp[g]
  have m:b.drop i=b[i]::b.drop (i+1):=List.drop_eq_getElem_cons g;have l:(i:Int)<5:=by omega
  have j:fH V ((i:Int)+1)=((i+1:Nat):Int):=aZ (by omega);have f:fH V ((a:Int)+1)=((a+1:Nat):Int):=aZ (by omega);have q:=Pb (b.drop (i+1));rw[m];cases h:b[i]with
  |false=>
   rw[h]at d;have c:=k (i+1) a (by omega) (by omega);rw[show vB (O::List.drop (i+1) b)=0+vB (List.drop (i+1) b)from rfl,A_];generalize AV.A (b.map .B)=B at*;rw[aw,a_ fC];simp-implicitDefEqProofs [-aH, -sk,eZ,l,d,rN];rw[aj fC];try simp at c
   simp-implicitDefEqProofs [-aH,j,c]
  |true=>
   rw[h]at d;have c:=k (i+1) (a+1) (by omega) (by omega);rw[show vB (Y::List.drop (i+1) b)=1+vB (List.drop (i+1) b)from rfl,<-wI];generalize AV.A (b.map .B)=B at*;rw[aw,a_ fC];simp-implicitDefEqProofs [-aH, -sk,eZ,l,d,rN];rw[aj fC];try simp at c
   simp-implicitDefEqProofs [-aH,j,f,c]
def jG(k:Int)(S:G):DF F W 40 [.A (aA k)] S=J (.I V ((2+vB [cN k,cO k,bN (k=1),bN (k=2),bN (k=8)]:Nat):Int),S):=by
 have L:=JK [cN k,cO k,bN (k=1),bN (k=2),bN (k=8)] rfl S.length (S++[.M (aA k) [] O]) 5 0 2 rfl (by omega);rw[oQ]at L;have g:(aA k)[1]? =J (.B (cN k)):=rfl;have h:(aA k)[2]? =J (.B (cO k)):=rfl;have i:(aA k)[3]? =J (.B (bN (k=1))):=rfl;have j:(aA k)[4]? =J (.B (bN (k=2))):=rfl;have l:(aA k)[5]? =J (.B (bN (k=8))):=rfl;have f:(aA k).length=6:=rfl;have d:=eL k;have b:(AV.A (aA k)).cells=aA k:=rfl;have e:bk yJ [(0,1,.B (cN k)),(1,1,.B (cO k)),(2,1,.B (bN (k=1))),(3,1,.B (bN (k=2))),(4,1,.B (bN (k=8)))]=J ([cN k,cO k,bN (k=1),bN (k=2),bN (k=8)].map .B):=rfl;generalize([cN k,cO k,bN (k=1),bN (k=2),bN (k=8)].map AV.B)=s,vB [cN k,cO k,bN (k=1),bN (k=2),bN (k=8)]=c at*;rw[fO aiw];generalize cN k=t,cO k=u,bN (k=1)=v,bN (k=2)=w,bN (k=8)=x,aA k=U,yJ=a at*;have m:∀p:1<U.length,U[1]'p=_:=λp=>eO ((cf p).symm.trans g);have n:∀p:2<U.length,U[2]'p=_:=λp=>eO ((cf p).symm.trans h);have o:∀p:3<U.length,U[3]'p=_:=λp=>eO ((cf p).symm.trans i);have q:∀p:4<U.length,U[4]'p=_:=λp=>eO ((cf p).symm.trans j);have r:∀p:5<U.length,U[5]'p=_:=λp=>eO ((cf p).symm.trans l);simp-implicitDefEqProofs [-aH,f,d,b,m,n,o,q,r,e];rw[aj fC];try simp at L
 simp-implicitDefEqProofs [-aH,L]
def mQ(k:Int)(a:1<=k)(b:k<=9):sk 10 6 (.A 6) (.A aG) (.I V k)=J (.A (aA k)):=by have h:=mP k.toNat (by omega);rw[show((k.toNat:Nat):Int)=k by omega]at h;simp only[sk];rw[if_neg (by omega),if_pos (by omega)];exact h
def Wj(a:aD)(S:G)(h:¬(1<=a.ae/\a.ae<=9)):DF F W 6 [.A a.aq] S=J (a.eW,S):=by
 have e:a.eW=.bL [.S [],.eD 57 (.I V 5)]:=by unfold aD.eW aD.code;rw[if_pos h];rfl
 rw[e,fO Ns];have i:∀a b,aH .gtr (.I V a) (.I V b)=J (.B (bN (a>b))):=λ_ _=>rfl;have g:∀d c,bZ 6 d [.S [],.eD 57 (.I V 5)] S (S++c)=J (.bL [.S [],.eD 57 (.I V 5)],S):=λd c=>by simp[dd,bn,bp,aK,ax,aL]
 by_cases f:a.ae<1;·simp-implicitDefEqProofs [-aH,eZ,f,g]
 ·have j:a.ae>9:=by omega
  simp-implicitDefEqProofs [-aH,eZ,i,f,j,g]
def Ua(a:aD)(v:a.Wf)(S:G)(m:1<=a.ae)(n:a.ae<=9)(w:¬(a.cL=Y/\a.raw.length<=4096)):DF F W 6 [.A a.aq] S=J (a.eW,S):=by
 have e:a.eW=.bL [.S [],.eD 57 (.I V 1)]:=by
  have c:a.code=1:=by unfold aD.code;rw[if_neg (λh=>h ⟨m,n⟩),if_pos w]
  unfold aD.eW;rw[c];rfl
 have u:∀a b,aH .gtr (.I V a) (.I V b)=J (.B (bN (a>b))):=λ_ _=>rfl;have C:∀i d,bZ 6 i [.S [],.eD 57 (.I V 1)] S (S++d)=J (.bL [.S [],.eD 57 (.I V 1)],S):=λi d=>by simp[dd,bn,bp,aK,ax,aL]
 have y:=dy;have x:=mQ a.ae m n;have r:=λT=>jL a m n T;have k:=λT=>iH a a.bare v.cp (aD.qT v) T;rw[aD.gh]at k;have q:(aA a.ae).length=6:=rfl;have l:=eL a.ae;have B:=cm q l;have s:(AV.A (aA a.ae)).cells=aA a.ae:=rfl;have t:=eM;have z:¬a.ae<1:=by omega
 have A:¬a.ae>9:=by omega
 have I:=b7 a.raw;rw[e];clear e;have E:([AV.S [],.B O,.B O,.B O,.B O,.B O]:bE)=aP:=rfl;have j:aP.length=6:=rfl;generalize aA a.ae=U,aG=f at*;rw[fO Ns];try simp only[E]
 generalize aP=g at*;cases o:a.cL with
 |false=>
  rw[o]at k;simp-implicitDefEqProofs [-aH, -sk,eZ,u,z,A,y,t.agg,x,q,l,j,aT,B,s,r,k,bb,C]
 |true=>
  rw[o]at k;have L:4096<a.raw.length:=by have:¬a.raw.length<=4096:=λh=>w ⟨o,h⟩;omega
  have p:(a.raw.length:Int)>4096:=by omega
  simp-implicitDefEqProofs [-aH, -sk,eZ,u,z,A,y,t.agg,x,q,l,j,aT,B,s,r,k,bb,I,p,C]
structure aD.wv(a:aD):Prop where
 f0: -9223372036854775808<=a.fst
 f1:a.fst<=9223372036854775807
 s0: -9223372036854775808<=a.snd
 s1:a.snd<=9223372036854775807
 v0: -9223372036854775808<=a.bU
 v1:a.bU<=9223372036854775807
def Z4(a:aD)(ha:a.Wf)(i:a.wv)(S:G)(h:a.ae=1)(X:a.cL=Y)(hl:a.raw.length<=4096):DF F W 6 [.A a.aq] S=J (a.eW,S):=by
 have B:1<=a.ae:=by omega
 have C:a.ae<=9:=by omega
 have gI:∀a b,aH .gtr (.I V a) (.I V b)=J (.B (bN (a>b))):=λ_ _=>rfl;have t:∀g d x e,(e=.aB\/∃n,e=.eD 57 (.I V n))->bZ 6 g [.S x,e] S (S++d)=J (.bL [.S x,e],S):=λg d x e he=>by rcases he with rfl|⟨n,rfl⟩<;>simp[dd,bn,bp,aK,ax,aL]
 have kd:=dy;have ig:=mQ a.ae B C;have br:=λT=>jL a B C T;have sm:=λT=>iH a a.bare ha.cp (aD.qT ha) T;rw[aD.gh,X]at sm;have hu:(aA a.ae).length=6:=rfl;have R:=eL a.ae;have pu:=cm hu R;have cu:(AV.A (aA a.ae)).cells=aA a.ae:=rfl;have u0:(aA a.ae)[0]? =J (.S [119,114,105,116,101]):=by rw[h];rfl
 have u1:(aA a.ae)[1]? =J (.B O):=by rw[h];rfl
 have u2:(aA a.ae)[2]? =J (.B Y):=by rw[h];rfl
 have u3:(aA a.ae)[3]? =J (.B Y):=by rw[h];rfl
 have u4:(aA a.ae)[4]? =J (.B O):=by rw[h];rfl
 have u5:(aA a.ae)[5]? =J (.B O):=by rw[h];rfl
 have dk:=eM;have n1:¬a.ae<1:=by omega
 have n9:¬a.ae>9:=by omega
 have ln:=b7 a.raw;have m:¬(a.raw.length:Int)>4096:=by omega
 have hz:([AV.S [],.B O,.B O,.B O,.B O,.B O]:bE)=aP:=rfl;have o:aP.length=6:=rfl;have it:=λT=>bQ a.fst i.f0 i.f1 T;have r:=λT=>bQ a.snd i.s0 i.s1 T;have s:=λT=>bQ a.bU i.v0 i.v1 T;have l0:=bK a.fst i.f0 i.f1;have l1:=bK a.snd i.s0 i.s1;have l2:=bK a.bU i.v0 i.v1;have b0:b9 .neq (.eD cC) Y .aB .aB=J (.B O):=rfl;have l:∀x y,da 1 [[AV.S []],[AV.S []]] [(0,.S x),(1,.S y)]=J (strs [x,y]):=λ_ _=>rfl;have k:∀x,da 1 [[AV.S []]] [(0,.S x)]=J (strs [x]):=λ_=>rfl;have z:=λT=>L8 a.op ha.op T;have j:=OD (Bz a.op) (jw a.op) (JE a.op);have u:∀n,b9 .neq (.eD cC) Y (.eD 57 (.I V n)) .aB=J (.B Y):=λ_=>rfl;rcases(show(Bz a.op)=O\/(Bz a.op)=Y by cases(Bz a.op)<;>simp)with ho|ho
 ·rw[ho,if_neg (by simp)]at j
  rw[ho]at z;have e:a.eW=.bL [.S [],.eD 57 (.I V 1)]:=by
   have c:a.code=1:=by unfold aD.code;rw[if_neg (λq:¬_=>q ⟨B,C⟩),if_neg (λq:¬_=>q ⟨X,hl⟩),if_pos h,if_neg (by rw[ho];simp)]
   unfold aD.eW;rw[c];rfl
  rw[e];rw[show qy 1=.eD 57 (.I V 1)from rfl]at j;have t:=λg d x=>t g d x _ (.inr ⟨1,rfl⟩);have u:=u 1;rw[fO Ns];try simp only[hz]
  generalize aA a.ae=U,aG=v,aP=f at*;have I:∀p:0<U.length,U[0]'p=_:=λp=>eO ((cf p).symm.trans u0);have L:∀p:1<U.length,U[1]'p=_:=λp=>eO ((cf p).symm.trans u1);have M:∀p:2<U.length,U[2]'p=_:=λp=>eO ((cf p).symm.trans u2);have N:∀p:3<U.length,U[3]'p=_:=λp=>eO ((cf p).symm.trans u3);have P:∀p:4<U.length,U[4]'p=_:=λp=>eO ((cf p).symm.trans u4);have Q:∀p:5<U.length,U[5]'p=_:=λp=>eO ((cf p).symm.trans u5);simp-implicitDefEqProofs [-aH, -sk,eZ,gI,n1,n9,kd,dk.agg,ig,hu,R,o,aT,pu,cu,br,sm,bb,ln,m,I,L,M,N,P,Q,it,r,s,l,k,b0,t,z,j,bW,u]
 ·rw[ho,if_pos rfl]at j
  rw[ho]at z;by_cases hx:4096<(jw a.op).length
  ·rw[if_pos hx,show qy 3=.eD 57 (.I V 3)from rfl]at j
   have t:=λg d x=>t g d x _ (.inr ⟨3,rfl⟩);have u:=u 3;have e:a.eW=.bL [.S [],.eD 57 (.I V 3)]:=by
    have c:a.code=3:=by unfold aD.code;rw[if_neg (λq:¬_=>q ⟨B,C⟩),if_neg (λq:¬_=>q ⟨X,hl⟩),if_pos h,if_pos ho,if_pos hx]
    unfold aD.eW;rw[c];rfl
   rw[e];rw[fO Ns];try simp only[hz]
   generalize aA a.ae=U,aG=v,aP=f at*;have I:∀p:0<U.length,U[0]'p=_:=λp=>eO ((cf p).symm.trans u0);have L:∀p:1<U.length,U[1]'p=_:=λp=>eO ((cf p).symm.trans u1);have M:∀p:2<U.length,U[2]'p=_:=λp=>eO ((cf p).symm.trans u2);have N:∀p:3<U.length,U[3]'p=_:=λp=>eO ((cf p).symm.trans u3);have P:∀p:4<U.length,U[4]'p=_:=λp=>eO ((cf p).symm.trans u4);have Q:∀p:5<U.length,U[5]'p=_:=λp=>eO ((cf p).symm.trans u5);simp-implicitDefEqProofs [-aH, -sk,eZ,gI,n1,n9,kd,dk.agg,ig,hu,R,o,aT,pu,cu,br,sm,bb,ln,m,I,L,M,N,P,Q,it,r,s,l,k,b0,t,z,j,bW,u]
  ·rw[if_neg hx]at j
   have e:a.eW=.bL [.S a.line,.aB]:=by
    have c:a.code=0:=by unfold aD.code;rw[if_neg (λq:¬_=>q ⟨B,C⟩),if_neg (λq:¬_=>q ⟨X,hl⟩),if_pos h,if_pos ho,if_neg hx]
    unfold aD.eW;rw[c];rfl
   rw[e];have hxx:=λT=>wC (jw a.op) (by omega) T;have lx:=jW (jw a.op);have gf:∀T,ck T (.sl (.fr 0) 1 (fQ (jw a.op)))=J (.sl .N 1 (fQ (jw a.op))):=λ_=>rfl;have lf:∀T,cr T (.sl (.fr 0) 1 (fQ (jw a.op)))=T:=λ_=>rfl;have uf:∀T T',bO T T' (.sl (.fr 0) 1 (fQ (jw a.op)))=T':=λ_ _=>rfl;have nf':cR (.sl .N 1 (fQ (jw a.op)))=b_ (jw a.op):=jF _;have h0:cW 1 (.sl .X 1 (strs [[119,114,105,116,101],aU a.fst])) [J (jw a.op).length] (strs [[119,114,105,116,101],aU a.fst]):=.inr (.inl rfl);have⟨o0,t0,a0,g0⟩:=cW.app h0 (xs:=strs [aU a.bU]) (by simp[strs]) (by simp[strs]) .X (S++[.M a.aq [] O,.M (aA a.ae) [] O]);rw[pV,show[[119,114,105,116,101],aU a.fst]++[aU a.bU]=[[119,114,105,116,101],aU a.fst,aU a.bU]from rfl]at g0;have⟨o1,t1,a1,A⟩:=cW.app g0 (xs:=strs [dm (jw a.op)]) (by simp[strs]) (by simp[strs]) .X (S++[.M a.aq [] O,.M (aA a.ae) [] O]);rw[pV,show[[119,114,105,116,101],aU a.fst,aU a.bU]++[dm (jw a.op)]=[[119,114,105,116,101],aU a.fst,aU a.bU,dm (jw a.op)]from rfl]at A;have wd:a.av=[[119,114,105,116,101],aU a.fst,aU a.bU,dm (jw a.op)]:=by simp[aD.av,b8,cN,cO,h]
   have E:=λT=>iB [[119,114,105,116,101],aU a.fst,aU a.bU,dm (jw a.op)] (by simp) (by simp[fL];omega) T;have y1:=cW.AD A;have y2:cR (aE o1)=.sl .N 1 (a.av.map λw=>[.S w]):=by rw[wd];exact(cW.cR A).trans (vZ _)
   have y3:=cW.lock A;have y4:=cW.oJ A;rw[<-wd]at E;rw[show fL [32] a.av=a.line from rfl]at E;have E:=λT=>nP y2 (E T);rw[fO Ns];try simp only[hz]
   generalize aA a.ae=U,aG=v,aP=f at*;have I:∀p:0<U.length,U[0]'p=_:=λp=>eO ((cf p).symm.trans u0);have L:∀p:1<U.length,U[1]'p=_:=λp=>eO ((cf p).symm.trans u1);have M:∀p:2<U.length,U[2]'p=_:=λp=>eO ((cf p).symm.trans u2);have N:∀p:3<U.length,U[3]'p=_:=λp=>eO ((cf p).symm.trans u3);have P:∀p:4<U.length,U[4]'p=_:=λp=>eO ((cf p).symm.trans u4);have Q:∀p:5<U.length,U[5]'p=_:=λp=>eO ((cf p).symm.trans u5);try simp at a0
   try simp at a1
   simp-implicitDefEqProofs [-aH, -sk,eZ,gI,n1,n9,kd,dk.agg,ig,hu,R,o,aT,pu,cu,br,sm,bb,ln,m,I,L,M,N,P,Q,it,r,s,l,k,b0,t,z,j,bW,hxx,gf,lf,uf,nf',a0,a1,y1,y2,y3,y4,cy,b6,E]
def Z5(a:aD)(ha:a.Wf)(i:a.wv)(S:G)(h:a.ae=2)(X:a.cL=Y)(hl:a.raw.length<=4096):DF F W 6 [.A a.aq] S=J (a.eW,S):=by
 have B:1<=a.ae:=by omega
 have C:a.ae<=9:=by omega
 have gI:∀a b,aH .gtr (.I V a) (.I V b)=J (.B (bN (a>b))):=λ_ _=>rfl;have t:∀g d x e,(e=.aB\/∃n,e=.eD 57 (.I V n))->bZ 6 g [.S x,e] S (S++d)=J (.bL [.S x,e],S):=λg d x e he=>by rcases he with rfl|⟨n,rfl⟩<;>simp[dd,bn,bp,aK,ax,aL]
 have kd:=dy;have ig:=mQ a.ae B C;have br:=λT=>jL a B C T;have sm:=λT=>iH a a.bare ha.cp (aD.qT ha) T;rw[aD.gh,X]at sm;have hu:(aA a.ae).length=6:=rfl;have R:=eL a.ae;have pu:=cm hu R;have cu:(AV.A (aA a.ae)).cells=aA a.ae:=rfl;have u0:(aA a.ae)[0]? =J (.S [112,117,98,108,105,115,104]):=by rw[h];rfl
 have u1:(aA a.ae)[1]? =J (.B O):=by rw[h];rfl
 have u2:(aA a.ae)[2]? =J (.B Y):=by rw[h];rfl
 have u3:(aA a.ae)[3]? =J (.B O):=by rw[h];rfl
 have u4:(aA a.ae)[4]? =J (.B Y):=by rw[h];rfl
 have u5:(aA a.ae)[5]? =J (.B O):=by rw[h];rfl
 have dk:=eM;have n1:¬a.ae<1:=by omega
 have n9:¬a.ae>9:=by omega
 have ln:=b7 a.raw;have m:¬(a.raw.length:Int)>4096:=by omega
 have hz:([AV.S [],.B O,.B O,.B O,.B O,.B O]:bE)=aP:=rfl;have o:aP.length=6:=rfl;have it:=λT=>bQ a.fst i.f0 i.f1 T;have r:=λT=>bQ a.snd i.s0 i.s1 T;have s:=λT=>bQ a.bU i.v0 i.v1 T;have l0:=bK a.fst i.f0 i.f1;have l1:=bK a.snd i.s0 i.s1;have l2:=bK a.bU i.v0 i.v1;have b0:b9 .neq (.eD cC) Y .aB .aB=J (.B O):=rfl;have l:∀x y,da 1 [[AV.S []],[AV.S []]] [(0,.S x),(1,.S y)]=J (strs [x,y]):=λ_ _=>rfl;have k:∀x,da 1 [[AV.S []]] [(0,.S x)]=J (strs [x]):=λ_=>rfl;have z:=λT=>GW a.bG ha.bG T;have j:=OD (a.bG.aW 5) (a.bG.bytes) (bj.ji a.bG);have u:∀n,b9 .neq (.eD cC) Y (.eD 57 (.I V n)) .aB=J (.B Y):=λ_=>rfl;rcases(show(a.bG.aW 5)=O\/(a.bG.aW 5)=Y by cases(a.bG.aW 5)<;>simp)with ho|ho
 ·rw[ho,if_neg (by simp)]at j
  rw[ho]at z;have e:a.eW=.bL [.S [],.eD 57 (.I V 1)]:=by
   have c:a.code=1:=by unfold aD.code;rw[if_neg (λq:¬_=>q ⟨B,C⟩),if_neg (λq:¬_=>q ⟨X,hl⟩),if_neg (by omega),if_pos h,if_neg (by rw[ho];simp)]
   unfold aD.eW;rw[c];rfl
  rw[e];rw[show qy 1=.eD 57 (.I V 1)from rfl]at j;have t:=λg d x=>t g d x _ (.inr ⟨1,rfl⟩);have u:=u 1;rw[fO Ns];try simp only[hz]
  generalize aA a.ae=U,aG=v,aP=f at*;have I:∀p:0<U.length,U[0]'p=_:=λp=>eO ((cf p).symm.trans u0);have L:∀p:1<U.length,U[1]'p=_:=λp=>eO ((cf p).symm.trans u1);have M:∀p:2<U.length,U[2]'p=_:=λp=>eO ((cf p).symm.trans u2);have N:∀p:3<U.length,U[3]'p=_:=λp=>eO ((cf p).symm.trans u3);have P:∀p:4<U.length,U[4]'p=_:=λp=>eO ((cf p).symm.trans u4);have Q:∀p:5<U.length,U[5]'p=_:=λp=>eO ((cf p).symm.trans u5);simp-implicitDefEqProofs [-aH, -sk,eZ,gI,n1,n9,kd,dk.agg,ig,hu,R,o,aT,pu,cu,br,sm,bb,ln,m,I,L,M,N,P,Q,it,r,s,l,k,b0,t,z,j,bW,u]
 ·rw[ho,if_pos rfl]at j
  rw[ho]at z;by_cases hx:4096<(a.bG.bytes).length
  ·rw[if_pos hx,show qy 3=.eD 57 (.I V 3)from rfl]at j
   have t:=λg d x=>t g d x _ (.inr ⟨3,rfl⟩);have u:=u 3;have e:a.eW=.bL [.S [],.eD 57 (.I V 3)]:=by
    have c:a.code=3:=by unfold aD.code;rw[if_neg (λq:¬_=>q ⟨B,C⟩),if_neg (λq:¬_=>q ⟨X,hl⟩),if_neg (by omega),if_pos h,if_pos ho,if_pos hx]
    unfold aD.eW;rw[c];rfl
   rw[e];rw[fO Ns];try simp only[hz]
   generalize aA a.ae=U,aG=v,aP=f at*;have I:∀p:0<U.length,U[0]'p=_:=λp=>eO ((cf p).symm.trans u0);have L:∀p:1<U.length,U[1]'p=_:=λp=>eO ((cf p).symm.trans u1);have M:∀p:2<U.length,U[2]'p=_:=λp=>eO ((cf p).symm.trans u2);have N:∀p:3<U.length,U[3]'p=_:=λp=>eO ((cf p).symm.trans u3);have P:∀p:4<U.length,U[4]'p=_:=λp=>eO ((cf p).symm.trans u4);have Q:∀p:5<U.length,U[5]'p=_:=λp=>eO ((cf p).symm.trans u5);simp-implicitDefEqProofs [-aH, -sk,eZ,gI,n1,n9,kd,dk.agg,ig,hu,R,o,aT,pu,cu,br,sm,bb,ln,m,I,L,M,N,P,Q,it,r,s,l,k,b0,t,z,j,bW,u]
  ·rw[if_neg hx]at j
   have e:a.eW=.bL [.S a.line,.aB]:=by
    have c:a.code=0:=by unfold aD.code;rw[if_neg (λq:¬_=>q ⟨B,C⟩),if_neg (λq:¬_=>q ⟨X,hl⟩),if_neg (by omega),if_pos h,if_pos ho,if_neg hx]
    unfold aD.eW;rw[c];rfl
   rw[e];have hxx:=λT=>wC (a.bG.bytes) (by omega) T;have lx:=jW (a.bG.bytes);have gf:∀T,ck T (.sl (.fr 0) 1 (fQ (a.bG.bytes)))=J (.sl .N 1 (fQ (a.bG.bytes))):=λ_=>rfl;have lf:∀T,cr T (.sl (.fr 0) 1 (fQ (a.bG.bytes)))=T:=λ_=>rfl;have uf:∀T T',bO T T' (.sl (.fr 0) 1 (fQ (a.bG.bytes)))=T':=λ_ _=>rfl;have nf':cR (.sl .N 1 (fQ (a.bG.bytes)))=b_ (a.bG.bytes):=jF _;have h0:cW 1 (.sl .X 1 (strs [[112,117,98,108,105,115,104],aU a.fst])) [J (a.bG.bytes).length] (strs [[112,117,98,108,105,115,104],aU a.fst]):=.inr (.inl rfl);have⟨o0,t0,a0,g0⟩:=cW.app h0 (xs:=strs [aU a.bU]) (by simp[strs]) (by simp[strs]) .X (S++[.M a.aq [] O,.M (aA a.ae) [] O]);rw[pV,show[[112,117,98,108,105,115,104],aU a.fst]++[aU a.bU]=[[112,117,98,108,105,115,104],aU a.fst,aU a.bU]from rfl]at g0;have⟨o1,t1,a1,A⟩:=cW.app g0 (xs:=strs [dm a.bG.bytes]) (by simp[strs]) (by simp[strs]) .X (S++[.M a.aq [] O,.M (aA a.ae) [] O]);rw[pV,show[[112,117,98,108,105,115,104],aU a.fst,aU a.bU]++[dm a.bG.bytes]=[[112,117,98,108,105,115,104],aU a.fst,aU a.bU,dm a.bG.bytes]from rfl]at A;have wd:a.av=[[112,117,98,108,105,115,104],aU a.fst,aU a.bU,dm a.bG.bytes]:=by simp[aD.av,b8,cN,cO,h]
   have E:=λT=>iB [[112,117,98,108,105,115,104],aU a.fst,aU a.bU,dm a.bG.bytes] (by simp) (by simp[fL];omega) T;have y1:=cW.AD A;have y2:cR (aE o1)=.sl .N 1 (a.av.map λw=>[.S w]):=by rw[wd];exact(cW.cR A).trans (vZ _)
   have y3:=cW.lock A;have y4:=cW.oJ A;rw[<-wd]at E;rw[show fL [32] a.av=a.line from rfl]at E;have E:=λT=>nP y2 (E T);rw[fO Ns];try simp only[hz]
   generalize aA a.ae=U,aG=v,aP=f at*;have I:∀p:0<U.length,U[0]'p=_:=λp=>eO ((cf p).symm.trans u0);have L:∀p:1<U.length,U[1]'p=_:=λp=>eO ((cf p).symm.trans u1);have M:∀p:2<U.length,U[2]'p=_:=λp=>eO ((cf p).symm.trans u2);have N:∀p:3<U.length,U[3]'p=_:=λp=>eO ((cf p).symm.trans u3);have P:∀p:4<U.length,U[4]'p=_:=λp=>eO ((cf p).symm.trans u4);have Q:∀p:5<U.length,U[5]'p=_:=λp=>eO ((cf p).symm.trans u5);try simp at a0
   try simp at a1
   simp-implicitDefEqProofs [-aH, -sk,eZ,gI,n1,n9,kd,dk.agg,ig,hu,R,o,aT,pu,cu,br,sm,bb,ln,m,I,L,M,N,P,Q,it,r,s,l,k,b0,t,z,j,bW,hxx,gf,lf,uf,nf',a0,a1,y1,y2,y3,y4,cy,b6,E]
def Z6(a:aD)(C:a.Wf)(g:a.wv)(S:G)(h:a.ae=3)(B:a.cL=Y)(hl:a.raw.length<=4096):DF F W 6 [.A a.aq] S=J (a.eW,S):=by
 have o:1<=a.ae:=by omega
 have r:a.ae<=9:=by omega
 have gI:∀a b,aH .gtr (.I V a) (.I V b)=J (.B (bN (a>b))):=λ_ _=>rfl;have rs:∀i d x e,(e=.aB\/∃n,e=.eD 57 (.I V n))->bZ 6 i [.S x,e] S (S++d)=J (.bL [.S x,e],S):=λi d x e he=>by rcases he with rfl|⟨n,rfl⟩<;>simp[dd,bn,bp,aK,ax,aL]
 have kd:=dy;have ig:=mQ a.ae o r;have Q:=λT=>jL a o r T;have I:=λT=>iH a a.bare C.cp (aD.qT C) T;rw[aD.gh,B]at I;have E:(aA a.ae).length=6:=rfl;have A:=eL a.ae;have pu:=cm E A;have R:(AV.A (aA a.ae)).cells=aA a.ae:=rfl;have u0:(aA a.ae)[0]? =J (.S [115,121,110,99]):=by rw[h];rfl
 have u1:(aA a.ae)[1]? =J (.B Y):=by rw[h];rfl
 have u2:(aA a.ae)[2]? =J (.B O):=by rw[h];rfl
 have u3:(aA a.ae)[3]? =J (.B O):=by rw[h];rfl
 have u4:(aA a.ae)[4]? =J (.B O):=by rw[h];rfl
 have u5:(aA a.ae)[5]? =J (.B O):=by rw[h];rfl
 have X:=eM;have n1:¬a.ae<1:=by omega
 have n9:¬a.ae>9:=by omega
 have ln:=b7 a.raw;have s:¬(a.raw.length:Int)>4096:=by omega
 have hz:([AV.S [],.B O,.B O,.B O,.B O,.B O]:bE)=aP:=rfl;have t:aP.length=6:=rfl;have it:=λT=>bQ a.fst g.f0 g.f1 T;have u:=λT=>bQ a.snd g.s0 g.s1 T;have v:=λT=>bQ a.bU g.v0 g.v1 T;have l0:=bK a.fst g.f0 g.f1;have l1:=bK a.snd g.s0 g.s1;have l2:=bK a.bU g.v0 g.v1;have P:b9 .neq (.eD cC) Y .aB .aB=J (.B O):=rfl;have m:∀x y,da 1 [[AV.S []],[AV.S []]] [(0,.S x),(1,.S y)]=J (strs [x,y]):=λ_ _=>rfl;have l:∀x,da 1 [[AV.S []]] [(0,.S x)]=J (strs [x]):=λ_=>rfl;have e:a.eW=.bL [.S a.line,.aB]:=by
  have c:a.code=0:=by unfold aD.code;rw[if_neg (λq:¬_=>q ⟨o,r⟩),if_neg (λq:¬_=>q ⟨B,hl⟩),if_neg (by omega),if_neg (by omega)]
  unfold aD.eW;rw[c];rfl
 rw[e];have h0:cW 1 (.sl .X 1 (strs [[115,121,110,99],aU a.fst])) [] (strs [[115,121,110,99],aU a.fst]):=.inr (.inl rfl);have⟨o0,t0,z,j⟩:=cW.app h0 (xs:=strs [aU a.snd]) (by simp[strs]) (by simp[strs]) .X (S++[.M a.aq [] O,.M (aA a.ae) [] O]);rw[pV,show[[115,121,110,99],aU a.fst]++[aU a.snd]=[[115,121,110,99],aU a.fst,aU a.snd]from rfl]at j;have L:a.av=[[115,121,110,99],aU a.fst,aU a.snd]:=by simp[aD.av,b8,cN,cO,h]
 have k:=λT=>iB [[115,121,110,99],aU a.fst,aU a.snd] (by simp) (by simp[fL];omega) T;have y1:=cW.AD j;have M:cR (aE o0)=.sl .N 1 (a.av.map λw=>[.S w]):=by rw[L];exact(cW.cR j).trans (vZ _)
 have y3:=cW.lock j;have y4:=cW.oJ j;rw[<-L]at k;rw[show fL [32] a.av=a.line from rfl]at k;have k:=λT=>nP M (k T);rw[fO Ns];try simp only[hz]
 generalize aA a.ae=U,aG=N,aP=f at*;have v0:∀p:0<U.length,U[0]'p=_:=λp=>eO ((cf p).symm.trans u0);have v1:∀p:1<U.length,U[1]'p=_:=λp=>eO ((cf p).symm.trans u1);have v2:∀p:2<U.length,U[2]'p=_:=λp=>eO ((cf p).symm.trans u2);have v3:∀p:3<U.length,U[3]'p=_:=λp=>eO ((cf p).symm.trans u3);have v4:∀p:4<U.length,U[4]'p=_:=λp=>eO ((cf p).symm.trans u4);have v5:∀p:5<U.length,U[5]'p=_:=λp=>eO ((cf p).symm.trans u5);try simp at z
 simp-implicitDefEqProofs [-aH, -sk,eZ,gI,n1,n9,kd,X.agg,ig,E,A,t,aT,pu,R,Q,I,bb,ln,s,v0,v1,v2,v3,v4,v5,it,u,v,m,l,P,rs,z,y1,M,y3,y4,cy,b6,k]
def Z7(a:aD)(B:a.Wf)(g:a.wv)(S:G)(h:a.ae=4)(A:a.cL=Y)(hl:a.raw.length<=4096):DF F W 6 [.A a.aq] S=J (a.eW,S):=by
 have o:1<=a.ae:=by omega
 have r:a.ae<=9:=by omega
 have X:∀a b,aH .gtr (.I V a) (.I V b)=J (.B (bN (a>b))):=λ_ _=>rfl;have rs:∀i d x e,(e=.aB\/∃n,e=.eD 57 (.I V n))->bZ 6 i [.S x,e] S (S++d)=J (.bL [.S x,e],S):=λi d x e he=>by rcases he with rfl|⟨n,rfl⟩<;>simp[dd,bn,bp,aK,ax,aL]
 have kd:=dy;have ig:=mQ a.ae o r;have P:=λT=>jL a o r T;have E:=λT=>iH a a.bare B.cp (aD.qT B) T;rw[aD.gh,A]at E;have C:(aA a.ae).length=6:=rfl;have z:=eL a.ae;have pu:=cm C z;have Q:(AV.A (aA a.ae)).cells=aA a.ae:=rfl;have u0:(aA a.ae)[0]? =J (.S [100,101,108,105,118,101,114]):=by rw[h];rfl
 have u1:(aA a.ae)[1]? =J (.B O):=by rw[h];rfl
 have u2:(aA a.ae)[2]? =J (.B O):=by rw[h];rfl
 have u3:(aA a.ae)[3]? =J (.B O):=by rw[h];rfl
 have u4:(aA a.ae)[4]? =J (.B O):=by rw[h];rfl
 have u5:(aA a.ae)[5]? =J (.B O):=by rw[h];rfl
 have R:=eM;have n1:¬a.ae<1:=by omega
 have n9:¬a.ae>9:=by omega
 have ln:=b7 a.raw;have s:¬(a.raw.length:Int)>4096:=by omega
 have hz:([AV.S [],.B O,.B O,.B O,.B O,.B O]:bE)=aP:=rfl;have t:aP.length=6:=rfl;have it:=λT=>bQ a.fst g.f0 g.f1 T;have u:=λT=>bQ a.snd g.s0 g.s1 T;have v:=λT=>bQ a.bU g.v0 g.v1 T;have l0:=bK a.fst g.f0 g.f1;have l1:=bK a.snd g.s0 g.s1;have l2:=bK a.bU g.v0 g.v1;have N:b9 .neq (.eD cC) Y .aB .aB=J (.B O):=rfl;have m:∀x y,da 1 [[AV.S []],[AV.S []]] [(0,.S x),(1,.S y)]=J (strs [x,y]):=λ_ _=>rfl;have l:∀x,da 1 [[AV.S []]] [(0,.S x)]=J (strs [x]):=λ_=>rfl;have e:a.eW=.bL [.S a.line,.aB]:=by
  have c:a.code=0:=by unfold aD.code;rw[if_neg (λq:¬_=>q ⟨o,r⟩),if_neg (λq:¬_=>q ⟨A,hl⟩),if_neg (by omega),if_neg (by omega)]
  unfold aD.eW;rw[c];rfl
 rw[e];have k:cW 1 (.sl .X 1 (strs [[100,101,108,105,118,101,114],aU a.fst])) [] (strs [[100,101,108,105,118,101,114],aU a.fst]):=.inr (.inl rfl);have I:a.av=[[100,101,108,105,118,101,114],aU a.fst]:=by simp[aD.av,b8,cN,cO,h]
 have j:=λT=>iB [[100,101,108,105,118,101,114],aU a.fst] (by simp) (by simp[fL];omega) T;have y1:=cW.AD k;have L:cR (aE (.sl .X 1 (strs [[100,101,108,105,118,101,114],aU a.fst])))=.sl .N 1 (a.av.map λw=>[.S w]):=by rw[I];exact(cW.cR k).trans (vZ _)
 have y3:=cW.lock k;have y4:=cW.oJ k;rw[<-I]at j;rw[show fL [32] a.av=a.line from rfl]at j;have j:=λT=>nP L (j T);rw[fO Ns];try simp only[hz]
 generalize aA a.ae=U,aG=M,aP=f at*;have v0:∀p:0<U.length,U[0]'p=_:=λp=>eO ((cf p).symm.trans u0);have v1:∀p:1<U.length,U[1]'p=_:=λp=>eO ((cf p).symm.trans u1);have v2:∀p:2<U.length,U[2]'p=_:=λp=>eO ((cf p).symm.trans u2);have v3:∀p:3<U.length,U[3]'p=_:=λp=>eO ((cf p).symm.trans u3);have v4:∀p:4<U.length,U[4]'p=_:=λp=>eO ((cf p).symm.trans u4);have v5:∀p:5<U.length,U[5]'p=_:=λp=>eO ((cf p).symm.trans u5);simp-implicitDefEqProofs [-aH, -sk,eZ,X,n1,n9,kd,R.agg,ig,C,z,t,aT,pu,Q,P,E,bb,ln,s,v0,v1,v2,v3,v4,v5,it,u,v,m,l,N,rs,y1,L,y3,y4,cy,b6,j]
def Z8(a:aD)(B:a.Wf)(g:a.wv)(S:G)(h:a.ae=5)(A:a.cL=Y)(hl:a.raw.length<=4096):DF F W 6 [.A a.aq] S=J (a.eW,S):=by
 have o:1<=a.ae:=by omega
 have r:a.ae<=9:=by omega
 have X:∀a b,aH .gtr (.I V a) (.I V b)=J (.B (bN (a>b))):=λ_ _=>rfl;have rs:∀i d x e,(e=.aB\/∃n,e=.eD 57 (.I V n))->bZ 6 i [.S x,e] S (S++d)=J (.bL [.S x,e],S):=λi d x e he=>by rcases he with rfl|⟨n,rfl⟩<;>simp[dd,bn,bp,aK,ax,aL]
 have kd:=dy;have ig:=mQ a.ae o r;have P:=λT=>jL a o r T;have E:=λT=>iH a a.bare B.cp (aD.qT B) T;rw[aD.gh,A]at E;have C:(aA a.ae).length=6:=rfl;have z:=eL a.ae;have pu:=cm C z;have Q:(AV.A (aA a.ae)).cells=aA a.ae:=rfl;have u0:(aA a.ae)[0]? =J (.S [108,111,115,101]):=by rw[h];rfl
 have u1:(aA a.ae)[1]? =J (.B O):=by rw[h];rfl
 have u2:(aA a.ae)[2]? =J (.B O):=by rw[h];rfl
 have u3:(aA a.ae)[3]? =J (.B O):=by rw[h];rfl
 have u4:(aA a.ae)[4]? =J (.B O):=by rw[h];rfl
 have u5:(aA a.ae)[5]? =J (.B O):=by rw[h];rfl
 have R:=eM;have n1:¬a.ae<1:=by omega
 have n9:¬a.ae>9:=by omega
 have ln:=b7 a.raw;have s:¬(a.raw.length:Int)>4096:=by omega
 have hz:([AV.S [],.B O,.B O,.B O,.B O,.B O]:bE)=aP:=rfl;have t:aP.length=6:=rfl;have it:=λT=>bQ a.fst g.f0 g.f1 T;have u:=λT=>bQ a.snd g.s0 g.s1 T;have v:=λT=>bQ a.bU g.v0 g.v1 T;have l0:=bK a.fst g.f0 g.f1;have l1:=bK a.snd g.s0 g.s1;have l2:=bK a.bU g.v0 g.v1;have N:b9 .neq (.eD cC) Y .aB .aB=J (.B O):=rfl;have m:∀x y,da 1 [[AV.S []],[AV.S []]] [(0,.S x),(1,.S y)]=J (strs [x,y]):=λ_ _=>rfl;have l:∀x,da 1 [[AV.S []]] [(0,.S x)]=J (strs [x]):=λ_=>rfl;have e:a.eW=.bL [.S a.line,.aB]:=by
  have c:a.code=0:=by unfold aD.code;rw[if_neg (λq:¬_=>q ⟨o,r⟩),if_neg (λq:¬_=>q ⟨A,hl⟩),if_neg (by omega),if_neg (by omega)]
  unfold aD.eW;rw[c];rfl
 rw[e];have k:cW 1 (.sl .X 1 (strs [[108,111,115,101],aU a.fst])) [] (strs [[108,111,115,101],aU a.fst]):=.inr (.inl rfl);have I:a.av=[[108,111,115,101],aU a.fst]:=by simp[aD.av,b8,cN,cO,h]
 have j:=λT=>iB [[108,111,115,101],aU a.fst] (by simp) (by simp[fL];omega) T;have y1:=cW.AD k;have L:cR (aE (.sl .X 1 (strs [[108,111,115,101],aU a.fst])))=.sl .N 1 (a.av.map λw=>[.S w]):=by rw[I];exact(cW.cR k).trans (vZ _)
 have y3:=cW.lock k;have y4:=cW.oJ k;rw[<-I]at j;rw[show fL [32] a.av=a.line from rfl]at j;have j:=λT=>nP L (j T);rw[fO Ns];try simp only[hz]
 generalize aA a.ae=U,aG=M,aP=f at*;have v0:∀p:0<U.length,U[0]'p=_:=λp=>eO ((cf p).symm.trans u0);have v1:∀p:1<U.length,U[1]'p=_:=λp=>eO ((cf p).symm.trans u1);have v2:∀p:2<U.length,U[2]'p=_:=λp=>eO ((cf p).symm.trans u2);have v3:∀p:3<U.length,U[3]'p=_:=λp=>eO ((cf p).symm.trans u3);have v4:∀p:4<U.length,U[4]'p=_:=λp=>eO ((cf p).symm.trans u4);have v5:∀p:5<U.length,U[5]'p=_:=λp=>eO ((cf p).symm.trans u5);simp-implicitDefEqProofs [-aH, -sk,eZ,X,n1,n9,kd,R.agg,ig,C,z,t,aT,pu,Q,P,E,bb,ln,s,v0,v1,v2,v3,v4,v5,it,u,v,m,l,N,rs,y1,L,y3,y4,cy,b6,j]
def Z9(a:aD)(B:a.Wf)(g:a.wv)(S:G)(h:a.ae=6)(A:a.cL=Y)(hl:a.raw.length<=4096):DF F W 6 [.A a.aq] S=J (a.eW,S):=by
 have o:1<=a.ae:=by omega
 have r:a.ae<=9:=by omega
 have X:∀a b,aH .gtr (.I V a) (.I V b)=J (.B (bN (a>b))):=λ_ _=>rfl;have rs:∀i d x e,(e=.aB\/∃n,e=.eD 57 (.I V n))->bZ 6 i [.S x,e] S (S++d)=J (.bL [.S x,e],S):=λi d x e he=>by rcases he with rfl|⟨n,rfl⟩<;>simp[dd,bn,bp,aK,ax,aL]
 have kd:=dy;have ig:=mQ a.ae o r;have P:=λT=>jL a o r T;have E:=λT=>iH a a.bare B.cp (aD.qT B) T;rw[aD.gh,A]at E;have C:(aA a.ae).length=6:=rfl;have z:=eL a.ae;have pu:=cm C z;have Q:(AV.A (aA a.ae)).cells=aA a.ae:=rfl;have u0:(aA a.ae)[0]? =J (.S [99,111,112,121]):=by rw[h];rfl
 have u1:(aA a.ae)[1]? =J (.B O):=by rw[h];rfl
 have u2:(aA a.ae)[2]? =J (.B O):=by rw[h];rfl
 have u3:(aA a.ae)[3]? =J (.B O):=by rw[h];rfl
 have u4:(aA a.ae)[4]? =J (.B O):=by rw[h];rfl
 have u5:(aA a.ae)[5]? =J (.B O):=by rw[h];rfl
 have R:=eM;have n1:¬a.ae<1:=by omega
 have n9:¬a.ae>9:=by omega
 have ln:=b7 a.raw;have s:¬(a.raw.length:Int)>4096:=by omega
 have hz:([AV.S [],.B O,.B O,.B O,.B O,.B O]:bE)=aP:=rfl;have t:aP.length=6:=rfl;have it:=λT=>bQ a.fst g.f0 g.f1 T;have u:=λT=>bQ a.snd g.s0 g.s1 T;have v:=λT=>bQ a.bU g.v0 g.v1 T;have l0:=bK a.fst g.f0 g.f1;have l1:=bK a.snd g.s0 g.s1;have l2:=bK a.bU g.v0 g.v1;have N:b9 .neq (.eD cC) Y .aB .aB=J (.B O):=rfl;have m:∀x y,da 1 [[AV.S []],[AV.S []]] [(0,.S x),(1,.S y)]=J (strs [x,y]):=λ_ _=>rfl;have l:∀x,da 1 [[AV.S []]] [(0,.S x)]=J (strs [x]):=λ_=>rfl;have e:a.eW=.bL [.S a.line,.aB]:=by
  have c:a.code=0:=by unfold aD.code;rw[if_neg (λq:¬_=>q ⟨o,r⟩),if_neg (λq:¬_=>q ⟨A,hl⟩),if_neg (by omega),if_neg (by omega)]
  unfold aD.eW;rw[c];rfl
 rw[e];have k:cW 1 (.sl .X 1 (strs [[99,111,112,121],aU a.fst])) [] (strs [[99,111,112,121],aU a.fst]):=.inr (.inl rfl);have I:a.av=[[99,111,112,121],aU a.fst]:=by simp[aD.av,b8,cN,cO,h]
 have j:=λT=>iB [[99,111,112,121],aU a.fst] (by simp) (by simp[fL];omega) T;have y1:=cW.AD k;have L:cR (aE (.sl .X 1 (strs [[99,111,112,121],aU a.fst])))=.sl .N 1 (a.av.map λw=>[.S w]):=by rw[I];exact(cW.cR k).trans (vZ _)
 have y3:=cW.lock k;have y4:=cW.oJ k;rw[<-I]at j;rw[show fL [32] a.av=a.line from rfl]at j;have j:=λT=>nP L (j T);rw[fO Ns];try simp only[hz]
 generalize aA a.ae=U,aG=M,aP=f at*;have v0:∀p:0<U.length,U[0]'p=_:=λp=>eO ((cf p).symm.trans u0);have v1:∀p:1<U.length,U[1]'p=_:=λp=>eO ((cf p).symm.trans u1);have v2:∀p:2<U.length,U[2]'p=_:=λp=>eO ((cf p).symm.trans u2);have v3:∀p:3<U.length,U[3]'p=_:=λp=>eO ((cf p).symm.trans u3);have v4:∀p:4<U.length,U[4]'p=_:=λp=>eO ((cf p).symm.trans u4);have v5:∀p:5<U.length,U[5]'p=_:=λp=>eO ((cf p).symm.trans u5);simp-implicitDefEqProofs [-aH, -sk,eZ,X,n1,n9,kd,R.agg,ig,C,z,t,aT,pu,Q,P,E,bb,ln,s,v0,v1,v2,v3,v4,v5,it,u,v,m,l,N,rs,y1,L,y3,y4,cy,b6,j]
def Z_(a:aD)(C:a.Wf)(g:a.wv)(S:G)(h:a.ae=7)(B:a.cL=Y)(hl:a.raw.length<=4096):DF F W 6 [.A a.aq] S=J (a.eW,S):=by
 have o:1<=a.ae:=by omega
 have r:a.ae<=9:=by omega
 have gI:∀a b,aH .gtr (.I V a) (.I V b)=J (.B (bN (a>b))):=λ_ _=>rfl;have rs:∀i d x e,(e=.aB\/∃n,e=.eD 57 (.I V n))->bZ 6 i [.S x,e] S (S++d)=J (.bL [.S x,e],S):=λi d x e he=>by rcases he with rfl|⟨n,rfl⟩<;>simp[dd,bn,bp,aK,ax,aL]
 have kd:=dy;have ig:=mQ a.ae o r;have Q:=λT=>jL a o r T;have I:=λT=>iH a a.bare C.cp (aD.qT C) T;rw[aD.gh,B]at I;have E:(aA a.ae).length=6:=rfl;have A:=eL a.ae;have pu:=cm E A;have R:(AV.A (aA a.ae)).cells=aA a.ae:=rfl;have u0:(aA a.ae)[0]? =J (.S [115,119,97,112]):=by rw[h];rfl
 have u1:(aA a.ae)[1]? =J (.B Y):=by rw[h];rfl
 have u2:(aA a.ae)[2]? =J (.B O):=by rw[h];rfl
 have u3:(aA a.ae)[3]? =J (.B O):=by rw[h];rfl
 have u4:(aA a.ae)[4]? =J (.B O):=by rw[h];rfl
 have u5:(aA a.ae)[5]? =J (.B O):=by rw[h];rfl
 have X:=eM;have n1:¬a.ae<1:=by omega
 have n9:¬a.ae>9:=by omega
 have ln:=b7 a.raw;have s:¬(a.raw.length:Int)>4096:=by omega
 have hz:([AV.S [],.B O,.B O,.B O,.B O,.B O]:bE)=aP:=rfl;have t:aP.length=6:=rfl;have it:=λT=>bQ a.fst g.f0 g.f1 T;have u:=λT=>bQ a.snd g.s0 g.s1 T;have v:=λT=>bQ a.bU g.v0 g.v1 T;have l0:=bK a.fst g.f0 g.f1;have l1:=bK a.snd g.s0 g.s1;have l2:=bK a.bU g.v0 g.v1;have P:b9 .neq (.eD cC) Y .aB .aB=J (.B O):=rfl;have m:∀x y,da 1 [[AV.S []],[AV.S []]] [(0,.S x),(1,.S y)]=J (strs [x,y]):=λ_ _=>rfl;have l:∀x,da 1 [[AV.S []]] [(0,.S x)]=J (strs [x]):=λ_=>rfl;have e:a.eW=.bL [.S a.line,.aB]:=by
  have c:a.code=0:=by unfold aD.code;rw[if_neg (λq:¬_=>q ⟨o,r⟩),if_neg (λq:¬_=>q ⟨B,hl⟩),if_neg (by omega),if_neg (by omega)]
  unfold aD.eW;rw[c];rfl
 rw[e];have h0:cW 1 (.sl .X 1 (strs [[115,119,97,112],aU a.fst])) [] (strs [[115,119,97,112],aU a.fst]):=.inr (.inl rfl);have⟨o0,t0,z,j⟩:=cW.app h0 (xs:=strs [aU a.snd]) (by simp[strs]) (by simp[strs]) .X (S++[.M a.aq [] O,.M (aA a.ae) [] O]);rw[pV,show[[115,119,97,112],aU a.fst]++[aU a.snd]=[[115,119,97,112],aU a.fst,aU a.snd]from rfl]at j;have L:a.av=[[115,119,97,112],aU a.fst,aU a.snd]:=by simp[aD.av,b8,cN,cO,h]
 have k:=λT=>iB [[115,119,97,112],aU a.fst,aU a.snd] (by simp) (by simp[fL];omega) T;have y1:=cW.AD j;have M:cR (aE o0)=.sl .N 1 (a.av.map λw=>[.S w]):=by rw[L];exact(cW.cR j).trans (vZ _)
 have y3:=cW.lock j;have y4:=cW.oJ j;rw[<-L]at k;rw[show fL [32] a.av=a.line from rfl]at k;have k:=λT=>nP M (k T);rw[fO Ns];try simp only[hz]
 generalize aA a.ae=U,aG=N,aP=f at*;have v0:∀p:0<U.length,U[0]'p=_:=λp=>eO ((cf p).symm.trans u0);have v1:∀p:1<U.length,U[1]'p=_:=λp=>eO ((cf p).symm.trans u1);have v2:∀p:2<U.length,U[2]'p=_:=λp=>eO ((cf p).symm.trans u2);have v3:∀p:3<U.length,U[3]'p=_:=λp=>eO ((cf p).symm.trans u3);have v4:∀p:4<U.length,U[4]'p=_:=λp=>eO ((cf p).symm.trans u4);have v5:∀p:5<U.length,U[5]'p=_:=λp=>eO ((cf p).symm.trans u5);try simp at z
 simp-implicitDefEqProofs [-aH, -sk,eZ,gI,n1,n9,kd,X.agg,ig,E,A,t,aT,pu,R,Q,I,bb,ln,s,v0,v1,v2,v3,v4,v5,it,u,v,m,l,P,rs,z,y1,M,y3,y4,cy,b6,k]
def aaa(a:aD)(L:a.Wf)(g:a.wv)(S:G)(h:a.ae=8)(I:a.cL=Y)(hl:a.raw.length<=4096):DF F W 6 [.A a.aq] S=J (a.eW,S):=by
 have o:1<=a.ae:=by omega
 have r:a.ae<=9:=by omega
 have gI:∀a b,aH .gtr (.I V a) (.I V b)=J (.B (bN (a>b))):=λ_ _=>rfl;have rs:∀i d x e,(e=.aB\/∃n,e=.eD 57 (.I V n))->bZ 6 i [.S x,e] S (S++d)=J (.bL [.S x,e],S):=λi d x e he=>by rcases he with rfl|⟨n,rfl⟩<;>simp[dd,bn,bp,aK,ax,aL]
 have kd:=dy;have ig:=mQ a.ae o r;have br:=λT=>jL a o r T;have N:=λT=>iH a a.bare L.cp (aD.qT L) T;rw[aD.gh,I]at N;have M:(aA a.ae).length=6:=rfl;have C:=eL a.ae;have pu:=cm M C;have cu:(AV.A (aA a.ae)).cells=aA a.ae:=rfl;have u0:(aA a.ae)[0]? =J (.S [105,110,106,101,99,116]):=by rw[h];rfl
 have u1:(aA a.ae)[1]? =J (.B Y):=by rw[h];rfl
 have u2:(aA a.ae)[2]? =J (.B O):=by rw[h];rfl
 have u3:(aA a.ae)[3]? =J (.B O):=by rw[h];rfl
 have u4:(aA a.ae)[4]? =J (.B O):=by rw[h];rfl
 have u5:(aA a.ae)[5]? =J (.B Y):=by rw[h];rfl
 have dk:=eM;have n1:¬a.ae<1:=by omega
 have n9:¬a.ae>9:=by omega
 have ln:=b7 a.raw;have s:¬(a.raw.length:Int)>4096:=by omega
 have hz:([AV.S [],.B O,.B O,.B O,.B O,.B O]:bE)=aP:=rfl;have t:aP.length=6:=rfl;have it:=λT=>bQ a.fst g.f0 g.f1 T;have u:=λT=>bQ a.snd g.s0 g.s1 T;have v:=λT=>bQ a.bU g.v0 g.v1 T;have l0:=bK a.fst g.f0 g.f1;have l1:=bK a.snd g.s0 g.s1;have l2:=bK a.bU g.v0 g.v1;have X:b9 .neq (.eD cC) Y .aB .aB=J (.B O):=rfl;have m:∀x y,da 1 [[AV.S []],[AV.S []]] [(0,.S x),(1,.S y)]=J (strs [x,y]):=λ_ _=>rfl;have l:∀x,da 1 [[AV.S []]] [(0,.S x)]=J (strs [x]):=λ_=>rfl;have e:a.eW=.bL [.S a.line,.aB]:=by
  have c:a.code=0:=by unfold aD.code;rw[if_neg (λq:¬_=>q ⟨o,r⟩),if_neg (λq:¬_=>q ⟨I,hl⟩),if_neg (by omega),if_neg (by omega)]
  unfold aD.eW;rw[c];rfl
 rw[e];have z:=λT=>NQ a.raw (by omega) T;have l3:=jW a.raw;have l4:(if a.raw=[]then([45]:K)else dm a.raw).length<=8192:=by split<;>first|decide|omega
 have h0:cW 1 (.sl .X 1 (strs [[105,110,106,101,99,116],aU a.fst])) [] (strs [[105,110,106,101,99,116],aU a.fst]):=.inr (.inl rfl);have⟨o0,t0,A,E⟩:=cW.app h0 (xs:=strs [aU a.snd]) (by simp[strs]) (by simp[strs]) .X (S++[.M a.aq [] O,.M (aA a.ae) [] O]);rw[pV,show[[105,110,106,101,99,116],aU a.fst]++[aU a.snd]=[[105,110,106,101,99,116],aU a.fst,aU a.snd]from rfl]at E;have⟨o1,t1,B,j⟩:=cW.app E (xs:=strs [(if a.raw=[]then[45]else dm a.raw)]) (by simp[strs]) (by simp[strs]) .X (S++[.M a.aq [] O,.M (aA a.ae) [] O]);rw[pV,show[[105,110,106,101,99,116],aU a.fst,aU a.snd]++[(if a.raw=[]then[45]else dm a.raw)]=[[105,110,106,101,99,116],aU a.fst,aU a.snd,(if a.raw=[]then[45]else dm a.raw)]from rfl]at j;have P:a.av=[[105,110,106,101,99,116],aU a.fst,aU a.snd,(if a.raw=[]then[45]else dm a.raw)]:=by simp[aD.av,b8,cN,cO,h]
 have k:=λT=>iB [[105,110,106,101,99,116],aU a.fst,aU a.snd,(if a.raw=[]then[45]else dm a.raw)] (by simp) (by simp[fL];omega) T;have y1:=cW.AD j;have Q:cR (aE o1)=.sl .N 1 (a.av.map λw=>[.S w]):=by rw[P];exact(cW.cR j).trans (vZ _)
 have y3:=cW.lock j;have y4:=cW.oJ j;rw[<-P]at k;rw[show fL [32] a.av=a.line from rfl]at k;have k:=λT=>nP Q (k T);rw[fO Ns];try simp only[hz]
 generalize aA a.ae=U,aG=R,aP=f at*;have v0:∀p:0<U.length,U[0]'p=_:=λp=>eO ((cf p).symm.trans u0);have v1:∀p:1<U.length,U[1]'p=_:=λp=>eO ((cf p).symm.trans u1);have v2:∀p:2<U.length,U[2]'p=_:=λp=>eO ((cf p).symm.trans u2);have v3:∀p:3<U.length,U[3]'p=_:=λp=>eO ((cf p).symm.trans u3);have v4:∀p:4<U.length,U[4]'p=_:=λp=>eO ((cf p).symm.trans u4);have v5:∀p:5<U.length,U[5]'p=_:=λp=>eO ((cf p).symm.trans u5);try simp at A
 try simp at B
 simp-implicitDefEqProofs [-aH, -sk,eZ,gI,n1,n9,kd,dk.agg,ig,M,C,t,aT,pu,cu,br,N,bb,ln,s,v0,v1,v2,v3,v4,v5,it,u,v,m,l,X,rs,z,A,B,y1,Q,y3,y4,cy,b6,k]
def aab(a:aD)(C:a.Wf)(g:a.wv)(S:G)(h:a.ae=9)(B:a.cL=Y)(hl:a.raw.length<=4096):DF F W 6 [.A a.aq] S=J (a.eW,S):=by
 have o:1<=a.ae:=by omega
 have r:a.ae<=9:=by omega
 have gI:∀a b,aH .gtr (.I V a) (.I V b)=J (.B (bN (a>b))):=λ_ _=>rfl;have rs:∀i d x e,(e=.aB\/∃n,e=.eD 57 (.I V n))->bZ 6 i [.S x,e] S (S++d)=J (.bL [.S x,e],S):=λi d x e he=>by rcases he with rfl|⟨n,rfl⟩<;>simp[dd,bn,bp,aK,ax,aL]
 have kd:=dy;have ig:=mQ a.ae o r;have Q:=λT=>jL a o r T;have I:=λT=>iH a a.bare C.cp (aD.qT C) T;rw[aD.gh,B]at I;have E:(aA a.ae).length=6:=rfl;have A:=eL a.ae;have pu:=cm E A;have R:(AV.A (aA a.ae)).cells=aA a.ae:=rfl;have u0:(aA a.ae)[0]? =J (.S [114,101,97,100]):=by rw[h];rfl
 have u1:(aA a.ae)[1]? =J (.B O):=by rw[h];rfl
 have u2:(aA a.ae)[2]? =J (.B Y):=by rw[h];rfl
 have u3:(aA a.ae)[3]? =J (.B O):=by rw[h];rfl
 have u4:(aA a.ae)[4]? =J (.B O):=by rw[h];rfl
 have u5:(aA a.ae)[5]? =J (.B O):=by rw[h];rfl
 have X:=eM;have n1:¬a.ae<1:=by omega
 have n9:¬a.ae>9:=by omega
 have ln:=b7 a.raw;have s:¬(a.raw.length:Int)>4096:=by omega
 have hz:([AV.S [],.B O,.B O,.B O,.B O,.B O]:bE)=aP:=rfl;have t:aP.length=6:=rfl;have it:=λT=>bQ a.fst g.f0 g.f1 T;have u:=λT=>bQ a.snd g.s0 g.s1 T;have v:=λT=>bQ a.bU g.v0 g.v1 T;have l0:=bK a.fst g.f0 g.f1;have l1:=bK a.snd g.s0 g.s1;have l2:=bK a.bU g.v0 g.v1;have P:b9 .neq (.eD cC) Y .aB .aB=J (.B O):=rfl;have m:∀x y,da 1 [[AV.S []],[AV.S []]] [(0,.S x),(1,.S y)]=J (strs [x,y]):=λ_ _=>rfl;have l:∀x,da 1 [[AV.S []]] [(0,.S x)]=J (strs [x]):=λ_=>rfl;have e:a.eW=.bL [.S a.line,.aB]:=by
  have c:a.code=0:=by unfold aD.code;rw[if_neg (λq:¬_=>q ⟨o,r⟩),if_neg (λq:¬_=>q ⟨B,hl⟩),if_neg (by omega),if_neg (by omega)]
  unfold aD.eW;rw[c];rfl
 rw[e];have h0:cW 1 (.sl .X 1 (strs [[114,101,97,100],aU a.fst])) [] (strs [[114,101,97,100],aU a.fst]):=.inr (.inl rfl);have⟨o0,t0,z,j⟩:=cW.app h0 (xs:=strs [aU a.bU]) (by simp[strs]) (by simp[strs]) .X (S++[.M a.aq [] O,.M (aA a.ae) [] O]);rw[pV,show[[114,101,97,100],aU a.fst]++[aU a.bU]=[[114,101,97,100],aU a.fst,aU a.bU]from rfl]at j;have L:a.av=[[114,101,97,100],aU a.fst,aU a.bU]:=by simp[aD.av,b8,cN,cO,h]
 have k:=λT=>iB [[114,101,97,100],aU a.fst,aU a.bU] (by simp) (by simp[fL];omega) T;have y1:=cW.AD j;have M:cR (aE o0)=.sl .N 1 (a.av.map λw=>[.S w]):=by rw[L];exact(cW.cR j).trans (vZ _)
 have y3:=cW.lock j;have y4:=cW.oJ j;rw[<-L]at k;rw[show fL [32] a.av=a.line from rfl]at k;have k:=λT=>nP M (k T);rw[fO Ns];try simp only[hz]
 generalize aA a.ae=U,aG=N,aP=f at*;have v0:∀p:0<U.length,U[0]'p=_:=λp=>eO ((cf p).symm.trans u0);have v1:∀p:1<U.length,U[1]'p=_:=λp=>eO ((cf p).symm.trans u1);have v2:∀p:2<U.length,U[2]'p=_:=λp=>eO ((cf p).symm.trans u2);have v3:∀p:3<U.length,U[3]'p=_:=λp=>eO ((cf p).symm.trans u3);have v4:∀p:4<U.length,U[4]'p=_:=λp=>eO ((cf p).symm.trans u4);have v5:∀p:5<U.length,U[5]'p=_:=λp=>eO ((cf p).symm.trans u5);try simp at z
 simp-implicitDefEqProofs [-aH, -sk,eZ,gI,n1,n9,kd,X.agg,ig,E,A,t,aT,pu,R,Q,I,bb,ln,s,v0,v1,v2,v3,v4,v5,it,u,v,m,l,P,rs,z,y1,M,y3,y4,cy,b6,k]
def uk(a:aD)(c:a.Wf)(d:a.wv)(S:G):DF F W 6 [.A a.aq] S=J (a.eW,S):=by
 by_cases h:1<=a.ae/\a.ae<=9;rotate_left;·exact Wj a S h
 by_cases b:a.cL=Y/\a.raw.length<=4096;rotate_left;·exact Ua a c S h.1 h.2 b
 rcases oY h.1 h.2 with k|k|k|k|k|k|k|k|k;·exact Z4 a c d S k b.1 b.2
 ·exact Z5 a c d S k b.1 b.2
 ·exact Z6 a c d S k b.1 b.2
 ·exact Z7 a c d S k b.1 b.2
 ·exact Z8 a c d S k b.1 b.2
 ·exact Z9 a c d S k b.1 b.2
 ·exact Z_ a c d S k b.1 b.2
 ·exact aaa a c d S k b.1 b.2
 ·exact aab a c d S k b.1 b.2
def Mc(k:Nat)(h:k<10):aG[k*6]? =J (.S (b8 (k:Int))):=by
 have a:k=0\/k=1\/k=2\/k=3\/k=4\/k=5\/k=6\/k=7\/k=8\/k=9:=by omega
 rcases a with rfl|rfl|rfl|rfl|rfl|rfl|rfl|rfl|rfl|rfl<;>rfl
def QF(k m:Int)(c:1<=k)(d:k<=9)(a:1<=m)(b:m<=9)(h:b8 k=b8 m):k=m:=by rcases oY c d with rfl|rfl|rfl|rfl|rfl|rfl|rfl|rfl|rfl<;>rcases oY a b with rfl|rfl|rfl|rfl|rfl|rfl|rfl|rfl|rfl<;>first|rfl|(exact absurd h (by decide))
def G1(i k:Nat)(h:k<10):nJ 10 6 (.P i 0) (.I V (k:Int))=J (.P i (k*6)):=by simp only[nJ];rw[if_neg (by omega),if_pos (by omega)];simp
def kC(x:Int):bE:=cU x 0 0 0 ag ab .ao
def sE(d:Int)(C:1<=d)(E:d<=9)(ws:List K)(X:ez)(ad:bY)(S:G):∀(n k:Nat),k+n=10->1<=k->
 DC F W (.L yF) ⟨[(2,.P S.length 0),(4,.P (S.length+1) 0),(5,.P (S.length+2) 0),(6,.P (S.length+3) 0),(7,.I V (k:Int))],ad,S.length⟩ (S++[X,fP (b8 d::ws) .aB,.M (kC (if d<(k:Int)then d else 0)) [] O,.M aG [] O])=
  J (.E 0,⟨[(2,.P S.length 0),(4,.P (S.length+1) 0),(5,.P (S.length+2) 0),(6,.P (S.length+3) 0)],ad,S.length⟩,S++[X,fP (b8 d::ws) .aB,.M (kC d) [] O,.M aG [] O]):=by
 intro n;induction n with
 |zero=>
  intro k I o;have e:k=10:=by omega
  subst e;rw[if_pos (by omega)];rw[aw,a_ cZ];simp[-aH,eZ]
 |succ n M=>
  intro k I o;have g:=M (k+1) (by omega) (by omega);have v:(k:Int)<10:=by omega
  have t:=G1 (S.length+3) k (by omega);have p:∀b c,a8 (S++[b,c,.M (kC (if d<(k:Int)then d else 0)) [] O,.M aG [] O]) .C (.P (S.length+3) (k*6))=J (.S (b8 (k:Int))):=λb c=>by rw[bP (cI S [b,c,.M _ [] O,.M aG [] O] 3),sX,Mc k (by omega)]
  have m:=qJ (S:=S++[X,fP (b8 d::ws) .aB,.M (kC (if d<(k:Int)then d else 0)) [] O,.M aG [] O]) (j:=S.length+1) (ws:=b8 d::ws) (e:=.aB) (cI S _ 1);have r:=BQ (b8 d) ws;have u:∀T x,a8 T .C (.dW .N [.S x] 0)=J (.S x):=λ_ _=>rfl;have h:∀i,cb (.P i 0)=J (.P i 0):=λ_=>rfl;have l:=jY (b8 (k:Int)) (b8 d);have s:fH V ((k:Int)+1)=((k+1:Nat):Int):=aZ (by omega);by_cases f:(k:Int)=d
  ·have z:(if d<(k:Int)then d else 0)=0:=if_neg (by omega)
   have A:(if d<((k+1:Nat):Int)then d else 0)=d:=if_pos (by omega);rw[A]at g;rw[z]at p m⊢;rw[decide_eq_true (by rw[f])]at l;have P:∀b c,aY ad S.length (S++[b,c,.M (kC 0) [] O,.M aG [] O]) 1 (.P (S.length+2) 0) (.I V (k:Int))=J (ad,S++[b,c,.M (kC d) [] O,.M aG [] O]):=λb c=>by rw[dH (ly V (k:Int)).Ai (cI S [b,c,.M (kC 0) [] O,.M aG [] O] 2),if_pos ⟨rfl,by show 0+1<=(kC 0).length;rw[show(kC 0).length=35 from fN rfl rfl];omega⟩,show aR (kC 0) 0 (AV.I V (k:Int)).cells=kC (k:Int)from rfl,f];simp
   generalize AV.sl .N 1 (strs (b8 d::ws))=L,fP (b8 d::ws) .aB=R,aG=a,kC 0=w,kC d=y at*;rw[aw,a_ cZ];simp-implicitDefEqProofs [-aH, -bT, -nJ,eZ,v,t,p,m,r,u,h,l,P,rN];rw[aj cZ];try simp at g
   simp-implicitDefEqProofs [-aH,s,g]
  ·have B:(if d<((k+1:Nat):Int)then d else 0)=(if d<(k:Int)then d else 0):=by
    by_cases q:d<(k:Int);·rw[if_pos q,if_pos (by omega)]
    ·rw[if_neg q,if_neg (by omega)]
   rw[B]at g;have N:¬b8 (k:Int)=b8 d:=λq=>f (QF _ _ (by omega) (by omega) C E q);rw[decide_eq_false N]at l;generalize AV.sl .N 1 (strs (b8 d::ws))=L,fP (b8 d::ws) .aB=R,aG=a,kC (if d<(k:Int)then d else 0)=w,kC d=y at*;rw[aw,a_ cZ];simp-implicitDefEqProofs [-aH, -bT, -nJ,eZ,v,t,p,m,r,u,h,l,rN];rw[aj cZ];try simp at g
   simp-implicitDefEqProofs [-aH,s,g]
def JL{c:UInt8}:∀{s w:K}{l:List K},An c s=w::l->c∉w/\(l=[]/\s=w\/∃r,s=w++c::r/\An c r=l)
 |[],w,l,h=>by simp[An]at h;obtain⟨rfl,rfl⟩:=h;simp
 |x::s,w,l,h=>by
  unfold An at h;split at h
  ·rename_i e
   cases h;exact⟨by simp,.inr ⟨s,by simp[e],rfl⟩⟩
  ·rename_i e
   cases d:An c s with
   |nil=>exact absurd d (F4 c s)
   |cons v m=>
    rw[d]at h;cases h;have⟨f,g⟩:=JL d;refine⟨by simp[f,Ne.symm e], ?_⟩;rcases g with⟨a,b⟩|⟨r,a,b⟩;·exact .inl ⟨a,by rw[b]⟩
    ·exact .inr ⟨r,by rw[a];rfl,b⟩
def Md{c:UInt8}:∀{w:K}(_:c∉w)(r:K)(k:Nat),Cx (w++c::r) (c.toNat:Int) k=((k+w.length:Nat):Int)
 |[],_,r,k=>by simp[Cx]
 |x::w,h,r,k=>by have a:x≠c:=λe=>h (by simp[e]);have b:¬((x.toNat:Int)=(c.toNat:Int)):=λe=>a (UInt8.toNat_inj.1 (by omega));rw[z_,Cx,if_neg b,Md (λe=>h (by simp[e])) r (k+1)];simp;omega
def Gb(c:UInt8):∀s:K,(An c s).length=tu c s+1
 |[]=>rfl
 |x::r=>by
  have h:=Gb c r;unfold An tu;by_cases e:x=c;·rw[if_pos e,if_pos e];simp[h]
  ·rw[if_neg e,if_neg e]
   split
   ·rename_i w l a
    rw[a]at h;simpa using h
   ·rename_i a
    exact absurd a (F4 c r)
def NW(s:K)(c:UInt8)(S:G):DF F W 160 [.S s,.S [c]] S=J (.I V (Cx s (c.toNat:Int) 0),S):=by
 have h:pQ [.S s,.I .u8 (c.toNat:Int)] S=J (.I V (Cx s (c.toNat:Int) 0),S):=by have:=c.toNat_lt;simp only[pQ];rw[if_pos (by omega)]
 rw[jy adt];by_cases e:[c]=s
 ·subst e
  simp-implicitDefEqProofs [h,Cx]
 ·simp-implicitDefEqProofs [h,e]
def D2(s:K)(c:UInt8)(S:G):DF F W 126 [.S s,.S [c]] S=J (.I V (Cx s (c.toNat:Int) 0),S):=by have f:=λT=>NW s c T;rw[jy aeR];simp-implicitDefEqProofs [f]
def Mr(l:List K):ez:=.M (l.map .S) [] O
def Pd(S:G)(l:List K):(S++[Mr l])[S.length]? =J (.M (l.map .S) [] O):=Vu S _
def Pe(S:G)(l:List K)(i:Nat)(w:K)(h:i<l.length)(z:Nat)(a:z=1):aY [] S.length (S++[Mr l]) z (.P S.length i) (.S w)=J ([],S++[Mr (l.set i w)]):=by
 subst a;have g:=Pd S l;simp only[aY,g];rw[if_pos (by simp[fE,AV.cells];omega)];have e:aR (l.map AV.S) i [AV.S w]=(l.set i w).map .S:=by
  unfold aR;apply KI;intro j;simp only[List.getElem?_append,List.length_take,List.length_map,jN,mH]
  grind
 simp[im,e,Mr,AV.cells,aE]
def Gc(c:UInt8)(n:Nat)(u:n<=2000000)(S:G):∀(l:List K)(w s:K)(done:List K),An c s=w::l->n=done.length+l.length+1->s.length<=1000000->
 DC F W (.L rD) ⟨[(0,.S s),(1,.S [c]),(2,.I V 0),(3,.I V ((n:Int) -1)),(9,.gu S.length 0 n n 1),(10,.I V (done.length:Int))],[],S.length⟩ (S++[Mr (done++List.replicate (l.length+1) [])])=
  J (.E 0,⟨[(0,.S ((w::l).getLast (by simp))),(9,.gu S.length 0 n n 1),(10,.I V ((n:Int) -1))],[],S.length⟩,S++[Mr (done++(w::l).dropLast++[[]])])
 |[],w,s,done,h,hl,hs=>by
  have⟨_,h2⟩:=JL h;have e:s=w:=by
   rcases h2 with h2|⟨r,_,h2⟩;·exact h2.2
   ·exact absurd h2 (F4 c r)
  subst e;have p:(done.length:Int)=(n:Int) -1:=by simp at hl;omega
  have f:aH .lss (.I V ((n:Int) -1)) (.I V ((n:Int) -1))=J (.B O):=by rw[eZ];simp
  rw[aw,a_ iz,p];simp-implicitDefEqProofs [-aH,f]
 |v::l,w,s,done,h,hl,hs=>by
  have⟨t,h2⟩:=JL h;obtain⟨r,rfl,y⟩:∃r,s=w++c::r/\An c r=v::l:=by
   rcases h2 with h2|h2;·cases h2.1
   ·exact h2
  simp only[jn,jN]at hl hs;have d:=Gc c n u S l v r (done++[w]) y (by simp;omega) (by omega);have f:aH .lss (.I V (done.length:Int)) (.I V ((n:Int) -1))=J (.B Y):=by rw[eZ,decide_eq_true (by omega)]
  have g:=λT=>D2 (w++c::r) c T;rw[Md t,A_]at g;have o:aH .lss (.I V (w.length:Int)) (.I V 0)=J (.B O):=by rw[eZ,decide_eq_false (by omega)]
  have j:aH .add (.I V (w.length:Int)) (.I V 0)=J (.I V (w.length:Int)):=by rw[rN,e_ (by omega)];simp
  have k:aH .add (.I V (w.length:Int)) (.I V 1)=J (.I V ((w.length:Int)+1)):=by rw[rN,e_ (by omega)]
  have m:aH .add (.I V (done.length:Int)) (.I V 1)=J (.I V ((done++[w]).length:Int)):=by rw[rN,e_ (by omega)];simp
  have z:Kp (.S (w++c::r)) D (J (.I V (w.length:Int)))=J (.S w):=by simp only[Kp,gV];rw[if_pos (by simp;omega)];simp
  have C:Kp (.S (w++c::r)) (J (.I V ((w.length:Int)+1))) D=J (.S r):=by simp only[Kp,gV];rw[if_pos (by simp;omega)];simp only[wL];rw[show((w.length:Int)+1).toNat=(w++[c]).length by simp,show w++c::r=(w++[c])++r by simp];exact congrArg (λx=>J (AV.S x)) List.drop_left
  have I:pY 1 (.gu S.length 0 n n 1) (.I V (done.length:Int))=J (.P S.length done.length):=by simp only[pY];rw[if_neg (by omega),if_pos (by rw[Int.toNat_natCast];constructor<;>first|trivial|omega)];simp
  have i:=Pe S (done++List.replicate (l.length+1+1) ([]:K)) done.length w (by simp) 1 rfl;have E:(done++List.replicate (l.length+1+1) ([]:K)).set done.length w=done++[w]++List.replicate (l.length+1) []:=by rw[List.set_append_right _ _ (eE _)];simp[List.replicate_succ]
  rw[E]at i;have P:([c]:K).length=1:=rfl;rw[show(done++[w]++(v::l).dropLast++[[]])=done++(w::v::l).dropLast++[[]]by simp]at d;have q:(w::v::l).getLast (by simp)=(v::l).getLast (by simp):=by simp
  rw[aw,a_ iz,q];simp only[jN]at d⊢;generalize(v::l).getLast _=Q at d⊢;generalize Mr (done++(w::v::l).dropLast++[[]])=b at d⊢;generalize L:Mr (done++List.replicate (l.length+1+1) ([]:K))=A at*;generalize M:Mr (done++[w]++List.replicate (l.length+1) [])=B at*;generalize N:((done++[w]).length:Int)=a at*;generalize w++c::r=s at*;simp-implicitDefEqProofs [-aH,f,g,o,j,k,m,z,C,I,i];rw[aj iz];simp-implicitDefEqProofs [-aH,d]
def Ms(l:List K):iI:=l.map λw=>[.S w]
def Wt{T:G}{i n:Nat}{l:List K}(h:T[i]? =J (.M (l.map .S) [] O))(b:l.length=n):cD T (.gu i 0 n n 1)=J (1,Ms l):=by
 simp only[cD,h];rw[if_pos ⟨by simp[b],by omega⟩];congr 2;apply KI;intro j;unfold Ms;rw[uV,uV];by_cases a:j<n
 ·rw[List.getElem?_range a,cf (by omega)]
  simp only[Kc,A_,Nat.mul_one];have e:sub (l.map AV.S) j 1=[.S l[j]]:=by unfold sub;rw[<-List.map_drop,List.drop_eq_getElem_cons (by omega)];rfl
  rw[e];rfl
 ·rw[Ry (by simp;omega),Ry (by omega)]
  rfl
def XQ(T:G)(nb d:Nat):∀l:List K,((Ms l).mapM λ(x:bE)=>x.mapM (AO T nb (d+1)))=J (Ms l)
 |[]=>rfl
 |w::r=>by
  have h:=XQ T nb d r;have e:AO T nb (d+1) (.S w)=J (.S w):=by simp[AO,aL]
  unfold Ms at h⊢;simp[Bh,h,e]
def aaj{T:G}{nb i n:Nat}{l:List K}(h:T[i]? =J (.M (l.map .S) [] O))(a:l.length=n)(e:nb<=i):JY T nb (.gu i 0 n n 1)=J (.sl .N 1 (Ms l)):=by
 have c:=Wt h a;have d:=XQ T nb 10 l;have b:JY T nb (.gu i 0 n n 1)=AO T nb (11+1) (.gu i 0 n n 1):=rfl
 grind [AO,aL]
def Dz(l:List K):dw (Ms l)=Y:=by
 induction l with
 |nil=>rfl
 |cons w r a=>simpa[Ms,dw,bF,aL]using a
def NX(s:K)(c:UInt8)(P:s.length<=1000000)(S:G):DF F W 88 [.S s,.S [c],.I V 0,.I V (-1)] S=J (.sl .N 1 (Ms (An c s)),S):=by
 have j:∀T,countP [.S s,.S [c]] T=J (.I V (tu c s),T):=λ_=>rfl;have i:=Gb c s;have I:tu c s<=s.length:=by have:=O6 c s;have:=List.count_le_length (a:=c) (l:=s);omega
 obtain⟨w,l,k⟩:∃w l,An c s=w::l:=by
  cases h:An c s with
  |nil=>exact absurd h (F4 c s)
  |cons w l=>exact⟨w,l,rfl⟩
 rw[k]at i⊢;simp only[jN]at i;have L:=Gc c (tu c s+1) (by omega) S l w s [] k (by simp;omega) (by omega);have v:tu c s=l.length:=by omega
 rw[show(([]:List K).length:Int)=0 from rfl]at L;rw[v]at L j;have r:aH .lss (.I V (-1)) (.I V 0)=J (.B Y):=rfl;have t:aH .eql (.I V (-1)) (.I V 0)=J (.B O):=rfl;have u:bT .eql (.S [c]) (.S [])=J (.B O):=rfl;have n:aH .add (.I V (l.length:Int)) (.I V 1)=J (.I V ((l.length+1:Nat):Int)):=by rw[rN,e_ (by omega)];rfl
 have o:aH .add (.I V (s.length:Int)) (.I V 1)=J (.I V ((s.length:Int)+1)):=by rw[rN,e_ (by omega)]
 have y:qK (λa b=>bN (b<a)) V ((l.length+1:Nat):Int) [.I V ((s.length:Int)+1)]=J (.I V ((l.length+1:Nat):Int)):=by
  have h:¬((s.length:Int)+1<((l.length+1:Nat):Int)):=by omega
  simp only[qK,h,decide_false,tH,if_false]
 have x:Hp 1 [.S []] S (.I V ((l.length+1:Nat):Int)) (.I V ((l.length+1:Nat):Int))=J (.gu S.length 0 (l.length+1) (l.length+1) 1,S++[Mr ([]++List.replicate (l.length+1) [])]):=by simp only[Hp];rw[if_pos (by omega)];simp[Mr]
 have A:aH .sub (.I V ((l.length+1:Nat):Int)) (.I V 1)=J (.I V (((l.length+1:Nat):Int) -1)):=by rw[Y7,e_ (by omega)]
 have E:pY 1 (.gu S.length 0 (l.length+1) (l.length+1) 1) (.I V (((l.length+1:Nat):Int) -1))=J (.P S.length l.length):=by simp only[pY];rw[if_neg (by omega),if_pos (by constructor<;>first|trivial|omega)];simp
 have m:=Pe S ([]++(w::l).dropLast++[[]]) l.length ((w::l).getLast (by simp)) (by simp) 1 rfl;have B:([]++(w::l).dropLast++[([]:K)]).set l.length ((w::l).getLast (by simp))=w::l:=by rw[tQ,List.set_append_right _ _ (by simp)];simp only[List.length_dropLast,jN,Nat.add_sub_cancel,Nat.sub_self,List.set_cons_zero];exact List.dropLast_concat_getLast (by simp)
 rw[B]at m;have q:aH .add (.I V (((l.length+1:Nat):Int) -1)) (.I V 1)=J (.I V ((l.length+1:Nat):Int)):=by rw[rN,e_ (by omega)];congr 2;omega
 have C:Ay 1 (.gu S.length 0 (l.length+1) (l.length+1) 1) D (J (.I V ((l.length+1:Nat):Int)))=J (.gu S.length 0 (l.length+1) (l.length+1) 1):=by simp only[Ay,gV];rw[if_neg (by simp),if_pos (by omega)];simp
 have z:bZ 88 [] [.gu S.length 0 (l.length+1) (l.length+1) 1] S (S++[Mr (w::l)])=J (.sl .N 1 (Ms (w::l)),S):=by
  have M:=aaj (T:=S++[Mr (w::l)]) (nb:=S.length) (Pd S _) (show(w::l).length=l.length+1 by simp) (eE _);have p:=Dz (w::l);generalize Ms (w::l)=d at*
  grind [kB,bn,bp,aK,ax,aL,Kw,U7,iu,tF,lt]
 generalize Mr ([]++(w::l).dropLast++[[]])=f at*;generalize Mr ([]++List.replicate (l.length+1) [])=e at*;generalize(w::l).getLast _=Q at*;generalize Mr (w::l)=X at*;generalize Ms (w::l)=d at*;generalize((l.length+1:Nat):Int)=N at*;rw[Fb (args:=[.S s,.S [c],.I V 0,.I V (-1)]) aiQ (Nat.le_of_ble_eq_true rfl) S];simp only[MY,PO];have g:¬([c]=([]:K)):=by simp
 simp-implicitDefEqProofs [-aH,r,t,u,g,j,n,o,y,x,A];rw[aj iz];simp-implicitDefEqProofs [-aH,L,E,m,q,C,z]
def gR(s:K)(b:s.length<=1000000)(S:G):DF F W 39 [.S s,.S [32]] S=J (.sl .N 1 (Ms (An 32 s)),S):=by
 have f:=λT=>NX s 32 b T;have c:bZ 39 [] [.sl .N 1 (Ms (An 32 s))] S S=J (.sl .N 1 (Ms (An 32 s)),S):=by have p:=Dz (An 32 s);simp[kB,bn,bp,aK,ax,aL,p]
 rw[jy aiv];generalize Ms (An 32 s)=a at*;have d:aI [] (.sl .N 1 a)=(.sl .N 1 a,[]):=rfl;simp-implicitDefEqProofs [f,d,c]
end Go.Proofs.YtnhnmkgfgfmmhaaGreatDoor.am
