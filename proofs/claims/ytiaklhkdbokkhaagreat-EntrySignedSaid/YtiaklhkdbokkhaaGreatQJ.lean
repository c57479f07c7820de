/- Parts. No condition. -/
import Derived.Test.YtiaklhkdbokkhaaGreatQI
set_option linter.all false
namespace Go.Proofs.YtiaklhkdbokkhaaGreat.am
open Go
open Option renaming some->J,none->M
open Bool renaming false->O,true->G,and_eq_true->mv
open Go.IntKind renaming i64->Y,wrap->dr,u64->U,u32->bM,u8->L
open UInt8 renaming ofNat->cq,toNat_ofNat'->rV
open Decidable renaming decide->b_
open List renaming drop_eq_nil_of_le->jY,replicate->fL,take_of_length_le->oh,append_assoc->sD
open Nat renaming mod_eq_of_lt->iY,le_refl->gM,div_div_eq_div_mul->sG,mod_lt->jg
open BitVec renaming ofInt->gL
open Go renaming FuncId->eS
open Go.Proofs.YtiaklhkdbokkhaaGreat.am renaming om->V,St->Z,ay->N,ai->R,nk->X,aK->C,AV->Q,bh->B,DF->W,bD->F,au->K
section
section
variable{S:Z}{j d:Nat}(z:cZ)
def PH(v:bu)(hl:v.gw.length<=12)(NI:v.ar.length=v.gw.length)(hg:Mx [] v.gw=G)(k:∀n∈v.gw,0<=n/\n<18446744073709551616)(hd:d<1000)
 (hF:∀x∈v.ar,∀(S:Z)(r:Rd)(u:B),S[j]? =J (fT j r)->rJ r (x.bytes++u)->W N X 179 [.P j 0,.I Y (d:Int)] S=J (.A x.aq,S.set j (fT j (r.go x.bytes.length)))):
 ∀e i(r:Rd)(u:B)(ag:bV),i+e=v.gw.length->S[j]? =J (fT j r)->∀c:Rd,rJ c (bu.mO (v.gw.drop i) (v.ar.drop i)++u)->
 ∃aV,DC N X (.L uY) ⟨[(0,.P j 0),(1,.I Y ((d:Int)+1)),(4,.P S.length 0),(5,.P (S.length+1) 0),(51,.I Y (v.gw.length:Int)),(52,.I Y (i:Int))],ag,S.length⟩ (iZ S j c z (vbI (S.length+1) (v.gw.take i) (v.ar.take i)))=
  J (.E 1,⟨[(0,.P j 0),(4,.P S.length 0),(5,.P (S.length+1) 0)],aV,S.length⟩,iZ S j (c.go (bu.mO (v.gw.drop i) (v.ar.drop i)).length) z (vbI (S.length+1) v.gw v.ar)):=by
 intro e;induction e with
 |zero=>
  intro i r u ag hi g c p;refine⟨ag, ?_⟩;have w:¬i<v.gw.length:=V;have e1:v.gw.drop i=[]:=jY V;have e2:v.gw.take i=v.gw:=oh V;have e3:v.ar.take i=v.ar:=oh V;simp[aj,aN eB,e1,e2,e3,w,bu.mO,Rd.go]
 |succ e ih=>
  intro i r u ag hi g c p;have h3:i<v.gw.length:=V;have⟨a,A,ha'⟩:=aT (l:=v.gw) (i:=i) h3;have⟨y,T,hy'⟩:=aT (l:=v.ar) (i:=i) V;have hw:=aQ (i:=i) V;have h:dr Y ((d:Int)+1 -1)=(d:Int):=by rw[cG V];omega
  have tN:v.gw.take (i+1)=v.gw.take i++[a]:=by rw[vH,A];rfl
  have tP:v.ar.take (i+1)=v.ar.take i++[y]:=by rw[vH,T];rfl
  have lN:(v.gw.take i).length=i:=by grind
  have lP:(v.ar.take i).length=i:=by grind
  rw[bf A,bf T,bu.mO]at p⊢;rw[sD,sD]at p;have R1:=p.go;have R2:=R1.go;have har:=k a (gS A);have ea:((a.toNat:Nat):Int)=a:=V;have E:Mx [] (v.gw.take i++[a])=G:=by grind [Rd.ab2,List.take_append_drop]
  have hm:(iZ S j (c.go (cF a.toNat).length) z (vbI (S.length+1) (v.gw.take i) (v.ar.take i)))[S.length+1]? =J (.M [.I Y 6,.I Y 0,.S [],.aw,bL (S.length+1) 0 1 (Le (v.gw.take i)),bL (S.length+1) 1 6 (zh (v.ar.take i))] (iF i i) O):=by rw[pX];unfold vbI;grind
  have c1:=ot (sv g c z (vbI (S.length+1) (v.gw.take i) (v.ar.take i))) V p;rw[vA g,ea]at c1;have⟨v1,t1,S1,t2,a1,s⟩:=aAd (sz:=1) (es:=Le (v.gw.take i)) (x:=[.I U a]) (n:=i) (o:=4) ag hm (by simp;omega) V bW (by rw[<-acq];exact SC _);rw[qQ,<-acq]at s;have b1:cZ.M (aM [.I Y 6,.I Y 0,.S [],.aw,bL (S.length+1) 0 1 (Le (v.gw.take i)),bL (S.length+1) 1 6 (zh (v.ar.take i))] 4 [bL (S.length+1) 0 1 (Le (v.gw.take i++[a]))]) (iF (i+1) i) O=
   .M [.I Y 6,.I Y 0,.S [],.aw,bL (S.length+1) 0 1 (Le (v.gw.take i++[a])),bL (S.length+1) 1 6 (zh (v.ar.take i))] (iF (i+1) i) O:=rfl
  rw[b1]at s;have t:=Ge (v.gw.take i++[a]) (by grind) (iZ S j (c.go (cF a.toNat).length) z (.M [.I Y 6,.I Y 0,.S [],.aw,bL (S.length+1) 0 1 (Le (v.gw.take i++[a])),bL (S.length+1) 1 6 (zh (v.ar.take i))] (iF (i+1) i) O));have m:(v.gw.take i++[a]).length<=12:=by grind
  rw[E,decide_eq_true m]at t;have c3:=hF y (gS T) _ _ _ (sv g (c.go (cF a.toNat).length) z (.M [.I Y 6,.I Y 0,.S [],.aw,bL (S.length+1) 0 1 (Le (v.gw.take i++[a])),bL (S.length+1) 1 6 (zh (v.ar.take i))] (iF (i+1) i) O)) R1;rw[vA g]at c3;have I:=pX S j ((c.go (cF a.toNat).length).go y.bytes.length) z (.M [.I Y 6,.I Y 0,.S [],.aw,bL (S.length+1) 0 1 (Le (v.gw.take i++[a])),bL (S.length+1) 1 6 (zh (v.ar.take i))] (iF (i+1) i) O);have⟨v3,t3,S3,t4,d1,q⟩:=arW (sz:=6) (es:=zh (v.ar.take i)) (x:=y.aq) (n:=i) (o:=5) t2 I (by simp;omega) V bW (by rw[<-Np];exact GP _);rw[qQ,<-Np]at q;have b2:cZ.M (aM [.I Y 6,.I Y 0,.S [],.aw,bL (S.length+1) 0 1 (Le (v.gw.take i++[a])),bL (S.length+1) 1 6 (zh (v.ar.take i))] 5 [bL (S.length+1) 1 6 (zh (v.ar.take i++[y]))]) (iF (i+1) (i+1)) O=
   vbI (S.length+1) (v.gw.take (i+1)) (v.ar.take (i+1)):=by
   simp_all[vbI,aM]
  rw[b2]at q;have es:(c.go (cF a.toNat).length).go y.bytes.length=c.go ((cF a.toNat).length+y.bytes.length):=bW;have⟨aV,P⟩:=ih (i+1) r u t4 V g _ R2;refine⟨aV, ?_⟩;rw[(by simp[Rd.go,Di]:(((c.go (cF a.toNat).length).go y.bytes.length).go (bu.mO (v.gw.drop (i+1)) (v.ar.drop (i+1))).length)=c.go (cF a.toNat++(y.bytes++bu.mO (v.gw.drop (i+1)) (v.ar.drop (i+1)))).length)]at P;have l0:aX (iZ S j c z (vbI (S.length+1) (v.gw.take i) (v.ar.take i))) .C (.P (S.length+1) 0)=J (.I Y 6):=nY ..;have l3:∀f,aX (iZ S j f z (vbI (S.length+1) (v.gw.take i) (v.ar.take i))) .C (.P (S.length+1) 4)=J (bL (S.length+1) 0 1 (Le (v.gw.take i))):=λf=>nY ..;have nn:mq 1 (Le (v.gw.take i++[a]))=mQ (v.gw.take i++[a]):=rfl;have bo:=PG y;have fb:=arX a;simp only[es]at d1 q;rw[aj,aN eB];simp at P hw h t bo;simp[h3,l0,l3,c1,fb,a1,s,(λf b=>nY .. :∀f b,aX (iZ S j f z (.M [.I Y 6,.I Y 0,.S [],.aw,bL (S.length+1) 0 1 b,bL (S.length+1) 1 6 (zh (v.ar.take i))] (iF (i+1) i) O)) .C (.P (S.length+1) 4)=J (bL (S.length+1) 0 1 b)),U2,U3,U4,Lf,nn,t,bU,(λf b=>nY .. :∀f b,aX (iZ S j f z (.M [.I Y 6,.I Y 0,.S [],.aw,bL (S.length+1) 0 1 b,bL (S.length+1) 1 6 (zh (v.ar.take i))] (iF (i+1) i) O)) .C (.P (S.length+1) 5)=J (bL (S.length+1) 1 6 (zh (v.ar.take i)))),h,c3,bo,d1,q];rw[ab eB];simp[hw,P]
end
def zt(k n:Int)(s:B)(a b c:Q)(f:List B)(e:List Int)(ps:List bu)(g:dF a=dI f)(h:dF b=mQ e)(i:dF c=pj ps):
 cd (.A [.I Y k,.I Y n,.S s,a,b,c])=.A (bu.mk k n s f e ps).aq:=by
 rw[bu.jJ];show AV.A [_,_,_,dF a,dF b,dF c]=_;rw[g,h,i];rfl
def Lg(a:List B):dF (eV 1 (sK a))=dI a:=rS 1 _
def aed(a:List Int):dF (eV 1 (Le a))=mQ a:=rS 1 _
def SD(a:List bu):dF (eV 6 (zh a))=pj a:=rS 6 _
def Ip(k n:Int)(s:B):cZ:=.M [.I Y k,.I Y n,.S s,.aw,.aw,.aw] [] O
theorem fR{n:Nat}(cs:F)(h:cs.length=n):dx (.A n) cs 0=J (.A (cs.map aW)):=by grind [dx,sub]
def ajj:∀(d:Nat)(v:bu),v.Wf->v.bw d=G->d<1000->∀(S:Z)(j:Nat)(r:Rd)(u:B),S[j]? =J (fT j r)->rJ r (v.bytes++u)->
 W N X 179 [.P j 0,.I Y (d:Int)] S=J (.A v.aq,S.set j (fT j (r.go v.bytes.length))):=by
 intro d;induction d with
 |zero=>nofun
 |succ d ih=>
  intro v hv h hd S j r u hS hr;have a:=bu.ib h;have hj:j<S.length:=(lU.1 hS).1;have lb:=v.oJ;rw[lb]at hr;have R1:=hr.go1;have hS1:∀b,(S++[b])[j]? =J (fT j r):=λb=>dH _ hS;have I:=Je (hS1 (.M ah [] O)) hr;rw[ij _ hj]at I;have hk:((cq v.ak.toNat).toNat:Int)=v.ak:=by have:=a.ak;rw[rV];omega
  rw[hk]at I;have wk:dr Y v.ak=v.ak:=by have:=a.ak;exact cG V
  have T1:(S.set j (fT j (r.go 1))).length=S.length:=bW;have sg:=λg z b=>sv hS g z b;have ss:=λg r'' z b=>vA hS g r'' z b;have e0:∀c,S.set j (fT j (r.go 1))++[.M ah [] O,c]=iZ S j (r.go 1) (.M ah [] O) c:=λ_=>rfl;have tkS:∀g z b,(iZ S j g z b).take S.length=S.set j (fT j g):=λg z b=>by grind [iZ,oh]
  have d0:¬((d:Int)+1=0):=V;have b0:dX .neq (.kO fX) G .c_ .c_=J (.B O):=rfl;have fk:∀k:Int,dj ah [(0,1,.I Y k)]=J [.I Y k,.I Y 0,.S [],.aw,.aw,.aw]:=λ_=>rfl;have er:=λ{g:Rd}{u':B}(z b:cZ)(h':rJ g u')=>zY (sg g z b) h';have st0:∀k:Int,bd [] S.length (S.set j (fT j (r.go 1))++[.M ah [] O,.M ah [] O]) 6 (.P (S.length+1) 0) (.A [.I Y k,.I Y 0,.S [],.aw,.aw,.aw])=J ([],iZ S j (r.go 1) (.M ah [] O) (Ip k 0 [])):=λk=>by rw[My T1 rfl];rfl
  have stN:∀g k m s s',bd [] S.length (iZ S j g (.M ah [] O) (Ip k m s)) 1 (.P (S.length+1) 2) (.S s')=J ([],iZ S j g (.M ah [] O) (Ip k m s')):=λg k m s s'=>by unfold iZ;rw[stT (tD S j g) (T0 s')];rfl
  have stM:∀g k m s(m':Int),bd [] S.length (iZ S j g (.M ah [] O) (Ip k m s)) 1 (.P (S.length+1) 1) (.I Y m')=J ([],iZ S j g (.M ah [] O) (Ip k m' s)):=λg k m s m'=>by unfold iZ;rw[stT (tD S j g) (yZ Y m')];rfl
  have fin:∀(i:bV) g(p:F) bt,p.length=6->dv (p.map aW)=G->bd i S.length (iZ S j g (.M ah [] O) (.M p bt O)) 6 (.P S.length 0) (.A (p.map aW))=J (i,iZ S j g (.M (p.map aW) [] O) (.M p bt O)):=λi g p bt hc hp=>by simp_all[iZ,Ax]
  have la:∀g z(p:F) bt,p.length=6->aX (iZ S j g z (.M p bt O)) (.A 6) (.P (S.length+1) 0)=J (.A (p.map aW)):=λg z p bt hc=>by rw[nY];exact fR p hc
  have lz:∀g(p:F) b,p.length=6->(p.map aW).map aW=p.map aW->aX (iZ S j g (.M (p.map aW) [] O) b) (.A 6) (.P S.length 0)=J (.A (p.map aW)):=λg p b hc hs=>by simp_all[iZ,lT0,fR]
  have l0:∀g k n s,aX (iZ S j g (.M ah [] O) (Ip k n s)) .C (.P (S.length+1) 0)=J (.I Y k):=λg k n s=>nY ..;have lp0:∀g k n s,DC N X (.L uY) ⟨[(0,.P j 0),(1,.I Y ((d:Int)+1)),(4,.P S.length 0),(5,.P (S.length+1) 0),(51,.I Y 0),(52,.I Y 0)],[],S.length⟩ (iZ S j g (.M ah [] O) (Ip k n s))=
   J (.E 1,⟨[(0,.P j 0),(4,.P S.length 0),(5,.P (S.length+1) 0)],[],S.length⟩,iZ S j g (.M ah [] O) (Ip k n s)):=λg k n s=>by
   simp[aj,aN eB]
  have res:∀g(i:bV)(p:F)(w:bu),cd (.A (p.map aW))=.A w.aq->ds 179 i [.A (p.map aW)] S (iZ S j g (.M (p.map aW) [] O) (.M p [] O))=J (.A w.aq,S.set j (fT j g)):=λg i p w y=>by simp[ux,y,cI,tkS]
  have aAh:∀g(i:bV)(p:F) bt(w:bu),cd (.A (p.map aW))=.A w.aq->ds 179 i [.A (p.map aW)] S (iZ S j g (.M (p.map aW) [] O) (.M p bt O))=J (.A w.aq,S.set j (fT j g)):=λg i p bt w y=>by rw[ux,y];simp[cI,tkS]
  have vs:∀k n s,[AV.I Y k,.I Y n,.S s,.aw,.aw,.aw].map aW=[.I Y k,.I Y n,.S s,.aw,.aw,.aw]:=λ_ _ _=>rfl;have E:∀g k n s,bd [] S.length (iZ S j g (.M ah [] O) (Ip k n s)) 6 (.P S.length 0) (.A [.I Y k,.I Y n,.S s,.aw,.aw,.aw])=J ([],iZ S j g (Ip k n s) (Ip k n s)):=λg k n s=>fin [] g [.I Y k,.I Y n,.S s,.aw,.aw,.aw] [] rfl rfl;have la0:∀g k n s,aX (iZ S j g (.M ah [] O) (Ip k n s)) (.A 6) (.P (S.length+1) 0)=J (.A [.I Y k,.I Y n,.S s,.aw,.aw,.aw]):=λg k n s=>la g (.M ah [] O) [.I Y k,.I Y n,.S s,.aw,.aw,.aw] [] rfl;have lz0:∀g k n s,aX (iZ S j g (Ip k n s) (Ip k n s)) (.A 6) (.P S.length 0)=J (.A [.I Y k,.I Y n,.S s,.aw,.aw,.aw]):=λg k n s=>lz g [.I Y k,.I Y n,.S s,.aw,.aw,.aw] (Ip k n s) rfl rfl;have amM:∀g k n s(w:bu),cd (.A [.I Y k,.I Y n,.S s,.aw,.aw,.aw])=.A w.aq->ds 179 [] [.A [.I Y k,.I Y n,.S s,.aw,.aw,.aw]] S (iZ S j g (Ip k n s) (Ip k n s))=J (.A w.aq,S.set j (fT j g)):=λg k n s w y=>res g [] [.I Y k,.I Y n,.S s,.aw,.aw,.aw] w y;rw[j7 axP];have T2:(S.set j (fT j (r.go 1))++[cZ.M ah [] O]).length=S.length+1:=bW;have l:=er (.M ah [] O) (Ip v.ak 0 []) R1;rcases a.ak with k|k|k|k|k|k
  ·have⟨h1,h2,h3⟩:=a.bare V V
   have hn:=a.n1 k;have T:=a.s0 V V;have ev:bu.mk 1 v.n [] [] [] []=v:=bu.tO k rfl T h1 h2 h3;have eb:v.bytes=[cq v.ak.toNat]++[if b_ (v.n=1)=G then(1:UInt8)else 0]:=by rw[lb,if_pos k];rcases hn with e|e<;>rw[e]<;>rfl
   have o:rJ (r.go 1) ((if b_ (v.n=1)=G then 1 else 0)::u):=by have:=hr;rw[<-lb,eb]at this;exact this.go1
   have q:=amK (sg (r.go 1) (.M ah [] O) (Ip 1 0 [])) o;rw[ss]at q;have R2:=o.go1;have y:=zt 1 v.n [] .aw .aw .aw [] [] [] rfl rfl rfl;rw[ev]at y;have t:=amM ((r.go 1).go 1) 1 v.n [] v y;have f:=er (.M ah [] O) (Ip 1 v.n []) R2;rw[k]at I wk l;rw[eb];rcases hn with e|e
   ·rw[e]at q t f
    simp at q t f;simp[d0,I,wk,fk,st0,l,b0,l0,q];rw[ab eB];simp[lp0,f,b0,la0,E,lz0,t]
   ·rw[e]at q t f
    simp at q t f;simp[d0,I,wk,fk,st0,l,b0,l0,q,stM,e];rw[ab eB];simp[lp0,f,b0,la0,E,lz0,t]
  ·have⟨h1,h2,h3⟩:=a.bare V V
   have T:=a.s0 V V;have ev:bu.mk 2 v.n [] [] [] []=v:=bu.tO k rfl T h1 h2 h3;have eb:v.bytes=[cq v.ak.toNat]++xd v.n:=by simp_all[if_pos]
   have o:rJ (r.go 1) (xd v.n++u):=by have:=hr;rw[<-lb,eb]at this;exact this.go1
   have q:=arV (sg (r.go 1) (.M ah [] O) (Ip 2 0 [])) hv.one.n0 hv.one.n1 o;rw[ss]at q;have R2:=o.go;have y:=zt 2 v.n [] .aw .aw .aw [] [] [] rfl rfl rfl;rw[ev]at y;have t:=amM ((r.go 1).go (xd v.n).length) 2 v.n [] v y;have f:=er (.M ah [] O) (Ip 2 v.n []) R2;rw[k]at I wk l;rw[eb];simp at q t f;simp[d0,I,wk,fk,st0,l,b0,l0,q,stM];rw[ab eB];simp[lp0,f,b0,la0,E,lz0,t]
   grind
  ·have⟨h1,h2,h3⟩:=a.bare V V
   have P:=a.n0 V V;have ev:bu.mk 3 0 v.s [] [] []=v:=bu.tO k P rfl h1 h2 h3;have eb:v.bytes=[cq v.ak.toNat]++aZ v.s:=by simp_all[if_pos]
   have o:rJ (r.go 1) (aZ v.s++u):=by have:=hr;rw[<-lb,eb]at this;exact this.go1
   have q:=JM (sg (r.go 1) (.M ah [] O) (Ip 3 0 [])) (a.s3 k) o;rw[ss]at q;have R2:=o.go;have y:=zt 3 0 v.s .aw .aw .aw [] [] [] rfl rfl rfl;rw[ev]at y;have t:=amM ((r.go 1).go (aZ v.s).length) 3 0 v.s v y;have f:=er (.M ah [] O) (Ip 3 0 v.s) R2;rw[k]at I wk l;rw[eb];simp at q t f;simp[d0,I,wk,fk,st0,l,b0,l0,q,stN];rw[ab eB];simp[lp0,f,b0,la0,E,lz0,t]
   grind
  ·have⟨h1,h2,h3⟩:=a.bare V V
   have P:=a.n0 V V;have ev:bu.mk 4 0 v.s [] [] []=v:=bu.tO k P rfl h1 h2 h3;have eb:v.bytes=[cq v.ak.toNat]++aZ v.s:=by simp_all[if_pos]
   have o:rJ (r.go 1) (aZ v.s++u):=by have:=hr;rw[<-lb,eb]at this;exact this.go1
   have q:=acp (sg (r.go 1) (.M ah [] O) (Ip 4 0 [])) (a.s4 k) o;rw[ss]at q;have R2:=o.go;have y:=zt 4 0 v.s .aw .aw .aw [] [] [] rfl rfl rfl;rw[ev]at y;have t:=amM ((r.go 1).go (aZ v.s).length) 4 0 v.s v y;have f:=er (.M ah [] O) (Ip 4 0 v.s) R2;rw[k]at I wk l;rw[eb];simp at q t f;simp[d0,I,wk,fk,st0,l,b0,l0,q,stN];rw[ab eB];simp[lp0,f,b0,la0,E,lz0,t]
   grind
  ·have h5:=a.k5 k
   have P:=a.n0 V V;have T:=a.s0 V V;have ev:bu.mk 5 0 [] v.bj [] v.ar=v:=bu.tO k P T rfl h5.1 rfl;have eb:v.bytes=[cq v.ak.toNat]++(cF v.ar.length++bu.eH v.bj v.ar):=by simp_all[if_pos]
   have o:rJ (r.go 1) (cF v.ar.length++(bu.eH v.bj v.ar++u)):=by simp_all[sD]
   have q:=XJ (sg (r.go 1) (.M ah [] O) (Ip 5 0 [])) 8 V V o;rw[ss]at q;have R2:=o.go;have⟨i,lp⟩:=PF (S:=S) (j:=j) (d:=d) (.M ah [] O) v h5.2.2.2 h5.2.1 h5.2.2.1 V (λx hx S r u h1 h2=>ih x (hv.all x hx) (a.all x hx) V S j r u h1 h2) v.bj.length 0 r u [] V hS _ R2;have R3:=R2.go;have hvb:vbN (S.length+1) v.bj v.ar=.M [.I Y 5,.I Y 0,.S [],bL (S.length+1) 0 1 (sK v.bj),.aw,bL (S.length+1) 1 6 (zh v.ar)] (iF v.bj.length v.ar.length) O:=rfl;have Yc:[AV.I Y 5,.I Y 0,.S [],bL (S.length+1) 0 1 (sK v.bj),.aw,bL (S.length+1) 1 6 (zh v.ar)].map aW=[.I Y 5,.I Y 0,.S [],eV 1 (sK v.bj),.aw,eV 6 (zh v.ar)]:=by simp_all[rR]
   have q1:=pK (sz:=1) (B5 v.bj);have q2:=pK (sz:=6) (GP v.ar);have NI:dv ([AV.I Y 5,.I Y 0,.S [],bL (S.length+1) 0 1 (sK v.bj),.aw,bL (S.length+1) 1 6 (zh v.ar)].map aW)=G:=by simp_all[dv,br]
   have Y7:([AV.I Y 5,.I Y 0,.S [],bL (S.length+1) 0 1 (sK v.bj),.aw,bL (S.length+1) 1 6 (zh v.ar)].map aW).map aW=[AV.I Y 5,.I Y 0,.S [],bL (S.length+1) 0 1 (sK v.bj),.aw,bL (S.length+1) 1 6 (zh v.ar)].map aW:=by simp_all[TJ]
   have y:=zt 5 0 [] (eV 1 (sK v.bj)) .aw (eV 6 (zh v.ar)) v.bj [] v.ar (Lg _) rfl (SD _);rw[ev]at y;have t:=aAh (((r.go 1).go (cF v.ar.length).length).go (bu.eH v.bj v.ar).length) i _ (iF v.bj.length v.ar.length) v (by rw[Yc];exact y);have f:=er (.M ah [] O) (vbN (S.length+1) v.bj v.ar) R3;have f2:=fin i (((r.go 1).go (cF v.ar.length).length).go (bu.eH v.bj v.ar).length) _ (iF v.bj.length v.ar.length) rfl NI;have l2:=la (((r.go 1).go (cF v.ar.length).length).go (bu.eH v.bj v.ar).length) (.M ah [] O) [.I Y 5,.I Y 0,.S [],bL (S.length+1) 0 1 (sK v.bj),.aw,bL (S.length+1) 1 6 (zh v.ar)] (iF v.bj.length v.ar.length) rfl;have A:=lz (((r.go 1).go (cF v.ar.length).length).go (bu.eH v.bj v.ar).length) _ (vbN (S.length+1) v.bj v.ar) rfl Y7;rw[<-hvb]at l2 t f2;simp only[Yc]at f2 l2 A t;have v00:vbN (S.length+1) [] []=Ip 5 0 []:=rfl;rw[k]at I wk l;rw[eb];rw[h5.2.1]at q lp f f2 l2 A t⊢;simp[v00]at q lp f f2 l2 A t;simp[d0,I,wk,fk,st0,l,b0,l0,q];rw[ab eB];simp[lp,f,b0,l2,f2,A,t]
   grind
  ·have h6:=a.k6 k
   have P:=a.n0 V V;have T:=a.s0 V V;have ev:bu.mk 6 0 [] [] v.gw v.ar=v:=bu.tO k P T h6.1 rfl rfl;have o:rJ (r.go 1) (cF v.ar.length++(bu.mO v.gw v.ar++u)):=by simp_all[sD]
   have q:=XJ (sg (r.go 1) (.M ah [] O) (Ip 6 0 [])) 12 V V o;rw[ss]at q;have R2:=o.go;have⟨i,lp⟩:=PH (S:=S) (j:=j) (d:=d) (.M ah [] O) v h6.2.2.2 h6.2.1 h6.2.2.1 hv.one.id V (λx hx S r u h1 h2=>ih x (hv.all x hx) (a.all x hx) V S j r u h1 h2) v.gw.length 0 r u [] V hS _ R2;have R3:=R2.go;have hvb:vbI (S.length+1) v.gw v.ar=.M [.I Y 6,.I Y 0,.S [],.aw,bL (S.length+1) 0 1 (Le v.gw),bL (S.length+1) 1 6 (zh v.ar)] (iF v.gw.length v.ar.length) O:=rfl;have Yc:[AV.I Y 6,.I Y 0,.S [],.aw,bL (S.length+1) 0 1 (Le v.gw),bL (S.length+1) 1 6 (zh v.ar)].map aW=[.I Y 6,.I Y 0,.S [],.aw,eV 1 (Le v.gw),eV 6 (zh v.ar)]:=by simp_all[rR]
   have q1:=pK (sz:=1) (SC v.gw);have q2:=pK (sz:=6) (GP v.ar);have NI:dv ([AV.I Y 6,.I Y 0,.S [],.aw,bL (S.length+1) 0 1 (Le v.gw),bL (S.length+1) 1 6 (zh v.ar)].map aW)=G:=by simp_all[dv,br]
   have Y7:([AV.I Y 6,.I Y 0,.S [],.aw,bL (S.length+1) 0 1 (Le v.gw),bL (S.length+1) 1 6 (zh v.ar)].map aW).map aW=[AV.I Y 6,.I Y 0,.S [],.aw,bL (S.length+1) 0 1 (Le v.gw),bL (S.length+1) 1 6 (zh v.ar)].map aW:=by simp_all[TJ]
   have y:=zt 6 0 [] .aw (eV 1 (Le v.gw)) (eV 6 (zh v.ar)) [] v.gw v.ar rfl (aed _) (SD _);rw[ev]at y;have t:=aAh (((r.go 1).go (cF v.ar.length).length).go (bu.mO v.gw v.ar).length) i _ (iF v.gw.length v.ar.length) v (by rw[Yc];exact y);have f:=er (.M ah [] O) (vbI (S.length+1) v.gw v.ar) R3;have f2:=fin i (((r.go 1).go (cF v.ar.length).length).go (bu.mO v.gw v.ar).length) _ (iF v.gw.length v.ar.length) rfl NI;have l2:=la (((r.go 1).go (cF v.ar.length).length).go (bu.mO v.gw v.ar).length) (.M ah [] O) [.I Y 6,.I Y 0,.S [],.aw,bL (S.length+1) 0 1 (Le v.gw),bL (S.length+1) 1 6 (zh v.ar)] (iF v.gw.length v.ar.length) rfl;have A:=lz (((r.go 1).go (cF v.ar.length).length).go (bu.mO v.gw v.ar).length) _ (vbI (S.length+1) v.gw v.ar) rfl Y7;rw[<-hvb]at l2 t f2;simp only[Yc]at f2 l2 A t;have v00:vbI (S.length+1) [] []=Ip 6 0 []:=rfl;rw[k]at I wk l;rw[(by simp_all[if_neg]:v.bytes=[UInt8.ofNat v.ak.toNat]++(cF v.ar.length++bu.mO v.gw v.ar))];rw[h6.2.1]at q lp f f2 l2 A t⊢;simp[v00]at q lp f f2 l2 A t;simp[d0,I,wk,fk,st0,l,b0,l0,q];rw[ab eB];simp[lp,f,b0,l2,f2,A,t]
   grind
end
def JN{S:Z}{j:Nat}{r:Rd}{u:B}(v:bu)(i:v.Wf)(h:v.bw 5=G)(d:S[j]? =J (fT j r))(f:rJ r (v.bytes++u)):
 W N X 99 [.P j 0] S=J (.A v.aq,S.set j (fT j (r.go v.bytes.length))):=by
 have e:=ajj 5 v i h V (S++[.M ah [] O]) j r u (dH _ d) f;rw[ij _ ((lU.1 d).1)]at e;have c:(S.set j (fT j (r.go v.bytes.length))).length=S.length:=bW;have m:=Ax c (bu.ji v).br [.M ah [] O] 0 [] S.length 6;have l:aX (S.set j (fT j (r.go v.bytes.length))++[.M v.aq [] O]) (.A 6) (.P S.length 0)=J (.A v.aq):=by rw[lT0 c];simp
 have k:∀b a,(S.set j b++a).take S.length=S.set j b:=λb a=>by simp
 have g:aM ah 0 v.aq=v.aq:=dT bW;rw[js aFj];simp_all
def ZE(sz:Nat)(es:jV):Q:=if es=[]then .aw else .sl .gB sz es
def Jc(sz:Nat)(tv:Q)(ag:bV)(es:jV):Prop:=(es=[]/\tv=.aw/\ag=[])\/(es≠[]/\tv=.sl (.fr 0) sz es/\ag=[J es.length])
theorem Jc.nil(sz:Nat):Jc sz .aw [] []:=.inl ⟨rfl,rfl,rfl⟩
def Jc.app{sz:Nat}{a:Q}{ag:bV}{es:jV}(h:Jc sz a ag es)(x:F)(e:es.length<1000000)(S:Z):
 ∃b c,eD sz ag S a (.sl .X sz [x])=J (b,c,S)/\Jc sz b c (es++[x]):=by
 rcases h with⟨rfl,rfl,rfl⟩|⟨f,rfl,rfl⟩;·exact⟨.sl (.fr 0) sz [x],[J 1],by simp[eD,bZ],.inr ⟨by simp,rfl,rfl⟩⟩
 ·have d:¬(2^30<es.length+1):=V
  refine⟨.sl (.fr 0) sz (es++[x]),[J (es.length+1)],by simp[eD,bZ,d],.inr ⟨by simp,rfl,by simp⟩⟩
def Jc.res{sz:Nat}{a:Q}{ag:bV}{es:jV}(h:Jc sz a ag es)(c:eT es=G):∃t,bq ag a=(ZE sz es,t)/\cI a=G/\cd a=a/\aF (ZE sz es)=G:=by
 rcases h with⟨rfl,rfl,rfl⟩|⟨b,rfl,rfl⟩;·exact⟨[],rfl,rfl,rfl,rfl⟩
 simp_all[zQ,ZE]
def agk{T:Z}{i sz:Nat}{cs:F}{o:Nat}(es:jV)(bt ag:bV)(d:T[i]? =J (.M cs bt O))(e:o+1<=cs.length)(f:eT es=G)(nb:Nat)(b:nb<=i):
 ∃v t c,aY ag (ZE sz es)=(v,t)/\bd t nb T 1 (.P i o) v=J (c,T.set i (.M (aM cs o [bL i bt.length sz es]) (if es=[]then bt else bt++[J es.length]) O)):=by
 by_cases a:es=[]
 ·subst a
  refine⟨.aw,ag,ag,rfl, ?_⟩
  grind [bd,aU,AV.cells,lQ,bL]
 ·refine⟨.sl (.fr ag.length) sz es,ag++[J es.length],ag++[M],by simp[ZE,a,aY,dw], ?_⟩
  grind [bd,aU,AV.cells,lQ,bL]
def amN{S:Z}{j:Nat}{r:Rd}{u:B}(s:fc)(q:s.Wf)(h:s9 s=G)(l:S[j]? =J (fT j r))(m:rJ r (na s++u)):
 W N X 178 [.P j 0] S=J (.A s.aq,S.set j (fT j (r.go (na s).length))):=by
 have hl:s.name.length<=64:=by grind [s9,ig]
 unfold na at m;rw[sD]at m;have f:=JM (dH [.M [.S [],.I U 0] [] O] l) hl m;rw[ij _ ((lU.1 l).1)]at f;have y:=m.go;have T1:∀b,(S.set j b).length=S.length:=λb=>by simp
 have w:∀b a,(S.set j b++a).take S.length=S.set j b:=λb a=>by simp
 have A:∀x:B,dj [.S [],.I U 0] [(0,1,.S x)]=J [.S x,.I U 0]:=λ_=>rfl;have t:∀x:B,bd [] S.length (S.set j (fT j (r.go (aZ s.name).length))++[.M [.S [],.I U 0] [] O,.M [.S [],.I U 0] [] O]) 2 (.P (S.length+1) 0) (.A [.S x,.I U 0])=J ([],iZ S j (r.go (aZ s.name).length) (.M [.S [],.I U 0] [] O) (.M [.S x,.I U 0] [] O)):=λx=>by rw[My (T1 _) rfl];rfl
 have v:∀d x(n:Int),bd [] S.length (iZ S j d (.M [.S [],.I U 0] [] O) (.M [.S x,.I U 0] [] O)) 1 (.P (S.length+1) 1) (.I U n)=J ([],iZ S j d (.M [.S [],.I U 0] [] O) (.M [.S x,.I U n] [] O)):=λd x n=>by unfold iZ;rw[stT (tD S j d) (yZ U n)];rfl
 have I:∀d x n,aX (iZ S j d (.M [.S [],.I U 0] [] O) (.M [.S x,.I U n] [] O)) .C (.P (S.length+1) 0)=J (.S x):=λd x n=>nY ..;have P:∀d x n,aX (iZ S j d (.M [.S [],.I U 0] [] O) (.M [.S x,.I U n] [] O)) (.A 2) (.P (S.length+1) 0)=J (.A [.S x,.I U n]):=λd x n=>nY ..;have g:∀d x(n:Int),bd [] S.length (iZ S j d (.M [.S [],.I U 0] [] O) (.M [.S x,.I U n] [] O)) 2 (.P S.length 0) (.A [.S x,.I U n])=J ([],iZ S j d (.M [.S x,.I U n] [] O) (.M [.S x,.I U n] [] O)):=λd x n=>by unfold iZ;rw[Ax (tD S j d) rfl];rfl
 have T:∀d x n b,aX (iZ S j d (.M [.S x,.I U n] [] O) b) (.A 2) (.P S.length 0)=J (.A [.S x,.I U n]):=λd x n b=>by unfold iZ;rw[lT0 (tD S j d)];rfl
 have i:∀d z b,(iZ S j d z b).take S.length=S.set j (fT j d):=λd z b=>w _ _;have c:=Md s q;rw[h]at c;have en:s.aq=[.S s.name,.I U s.id]:=rfl;rw[en]at c⊢;have e:df [AV.S s.name,.I U s.id]:=bW;rw[js axO];by_cases E:s.name=[]
 ·rw[if_pos E]at y
  have k:=ot (sv l (r.go (aZ s.name).length) (.M [.S [],.I U 0] [] O) (.M [.S [],.I U 0] [] O)) (n:=s.id.toNat) (by have:=q.id1;omega) y;rw[vA l,(by have:=q.id0;omega:((s.id.toNat:Nat):Int)=s.id)]at k;have es:na s=aZ s.name++cF s.id.toNat:=by unfold na;simp_all
  rw[es];rw[E]at f k t c e⊢;simp at f k c;simp[f,A,t,I,k,v,P,c,bU,g,T,i,e]
 ·have p:s.name.isEmpty=O:=by simp_all
  have o:s.id=0:=by grind [s9]
  rw[(by unfold na;simp_all:na s=aZ s.name)];rw[o]at c e⊢;simp[f,A,t,I,p,P,c,bU,g,T,i,e]
def Ml(p:List fc):jV:=p.map fc.aq
def Lh(l:List fc):eT (Ml l)=G:=kh.2 λx a=>by obtain⟨s,_,rfl⟩:=yF.1 a;rfl
@[simp]def aBZ(l:List fc):(Ml l).length=l.length:=by simp[Ml]
def amO{S:Z}{j:Nat}{r:Rd}{u:B}(p:List fc)(hs:∀s∈p,s.Wf)(h:yM p=G)(o:S[j]? =J (fT j r))(z:rJ r (nO p++u)):
 W N X 98 [.P j 0] S=J (ZE 2 (Ml p),S.set j (fT j (r.go (nO p).length))):=by
 have x:=h;unfold yM at x;simp only[mv,decide_eq_true_eq]at x;have P:nO p=cF p.length++p.flatMap na:=rfl;rw[P,sD]at z;have I:=z.go;have E:∀d i(k:Rd)(g:Q)(e:bV),i+d=p.length->rJ k ((p.drop i).flatMap na++u)->Jc 2 g e (Ml (p.take i))->
  ∃c a,Jc 2 c a (Ml p)/\DC N X (.L HC) ⟨[(0,.P j 0),(3,.I U (p.length:Int)),(4,g),(5,.I U (i:Int))],e,S.length⟩ (S.set j (fT j k))=
   J (.E 0,⟨[(0,.P j 0),(4,c)],a,S.length⟩,S.set j (fT j (k.go ((p.drop i).flatMap na).length))):=by
  intro d;induction d with
  |zero=>
   intro i k g e hi f q;rw[(oh V:p.take i=p)]at q;refine⟨g,e,q, ?_⟩;simp[aj,aN qP,(jY V:p.drop i=[]),(V:¬i<p.length),Rd.go]
  |succ d ih=>
   intro i k g e hi f q;have⟨y,A,hy'⟩:=aT (l:=p) (i:=i) V;have T:dr U ((i:Int)+1)=((i+1:Nat):Int):=by show((i:Int)+1)%2^64=_;omega
   have ym:=gS A;rw[bf A,Dt]at f⊢;rw[sD]at f;have m:=zY (Kv o k) f;have v:=amN y (hs y ym) (zG.1 x.2 y ym) (Kv o k) f;rw[TG]at v;have⟨o2,t2,a1,a2⟩:=q.app y.aq (by simp;omega) (S.set j (fT j (k.go (na y).length)));have⟨c,a,n1,n2⟩:=ih (i+1) (k.go (na y).length) o2 t2 V f.go (by rw[(by rw[vH,A];rfl:p.take (i+1)=p.take i++[y])];simpa[Ml]using a2);refine⟨c,a,n1, ?_⟩;have bo:fg 2 [[.S [],.I U 0]] [(0,.A y.aq)]=J [y.aq]:=rfl;rw[aj,aN qP];simp at n2 T v;simp[(V:i<p.length),m,(rfl:dX .eql (.kO fX) G .c_ .c_=J (.B G)),v,bo,a1];rw[ab qP];simp[T,n2]
 have⟨c,a,g1,w⟩:=E p.length 0 _ .aw [] V I (Jc.nil 2);have⟨t,f1,f2,f3,f4⟩:=g1.res (Lh p);have m:=zY (Kv o ((r.go (cF p.length).length).go ((p.drop 0).flatMap na).length)) I.go;rw[js aFi,P];simp only[tR]at w m;simp at w m;simp[ot o (n:=p.length) V z,(eq_false V:((8:Int)<(p.length:Int))=False)];rw[ab qP];simp[w,m,(rfl:dX .neq (.kO fX) G .c_ .c_=J (.B O)),f1,f2,f3,f4,(λb=>oh bW:∀b,(S.set j b).take S.length=S.set j b)]
def x_(k:Int)(row:Q)(id af:Int)(vs:F):F:=[.I Y k,row,.I U id,.I U af]++vs
def amP{k:Int}{a:Q}{id c:Int}{b:F}(h:b.length=6):(x_ k a id c b).length=10:=by simp[x_,h]
def Li:ah.length=6:=rfl
def JO:ah.map aW=ah:=rfl
def XK:dv ah=G:=rfl
def XL:ah.map dF=rY.aq:=by rfl
def avU{S:Z}{j:Nat}{r:Rd}{u:B}(o:sH)(ho:o.Wf)(h:L7 o=G)(hS:S[j]? =J (fT j r))(hr:rJ r (yk o++u)):
 W N X 42 [.P j 0] S=J (.A o.aq,S.set j (fT j (r.go (yk o).length))):=by
 have hj:j<S.length:=(lU.1 hS).1;have kr:=Pw h;have eb:yk o=cq o.ak.toNat::(nO o.fK++((if 1<o.ak then cF o.id.toNat else[])++((if o.ak=2\/o.ak=4 then cF o.after.toNat else[])++(if o.ak=1\/o.ak=2 then o.value.bytes else[])))):=rfl;rw[eb]at hr⊢;simp only[Hn,sD]at hr;have hS1:∀b,(S++[b])[j]? =J (fT j r):=λb=>dH _ hS;have T:=Je (hS1 (.M aR [] O)) hr;rw[ij _ hj]at T;have hk:((cq o.ak.toNat).toNat:Int)=o.ak:=by rw[rV];omega
 rw[hk]at T;have wk:dr Y o.ak=o.ak:=cG V;have R1:=hr.go1;have fk:dj aR [(0,1,.I Y o.ak)]=J (x_ o.ak .aw 0 0 ah):=rfl;have y:bd [] S.length (S.set j (fT j (r.go 1))++[.M aR [] O,.M aR [] O]) 10 (.P (S.length+1) 0) (.A (x_ o.ak .aw 0 0 ah))=J ([],iZ S j (r.go 1) (.M aR [] O) (.M (x_ o.ak .aw 0 0 ah) [] O)):=by rw[My bW rfl];rfl
 have sg:=λc b=>sv hS c (.M aR [] O) b;have ss:=λc r'' b=>vA hS c r'' (.M aR [] O) b;have E:=amO o.fK ho.fK (B4 h) (sg (r.go 1) (.M (x_ o.ak .aw 0 0 ah) [] O)) R1;rw[ss]at E;have z:=R1.go;have⟨v,t1,t2,p1,A⟩:=agk (sz:=2) (o:=1) (Ml o.fK) [] [] (pX S j ((r.go 1).go (nO o.fK).length) (.M aR [] O) (.M (x_ o.ak .aw 0 0 ah) [] O)) (by simp[x_]) (Lh _) S.length V;rw[qQ]at A;generalize hbt:(if Ml o.fK=[]then([]:bV)else[]++[J (Ml o.fK).length])=i at A;have p3:aM (x_ o.ak .aw 0 0 ah) 1 [bL (S.length+1) ([]:bV).length 2 (Ml o.fK)]=x_ o.ak (bL (S.length+1) 0 2 (Ml o.fK)) 0 0 ah:=rfl;rw[p3]at A;generalize Qy:bL (S.length+1) 0 2 (Ml o.fK)=d at*;have hrs:aW d=eV 2 (Ml o.fK):=by rw[<-Qy];exact rR ..
 have q1:=pK (sz:=2) (Lh o.fK);have l0:∀c k d id g f i,aX (iZ S j c (.M aR [] O) (.M (x_ k d id g f) i O)) .C (.P (S.length+1) 0)=J (.I Y k):=λ_ _ _ _ _ _ _=>nY ..;have l2:∀c k d id g f i,aX (iZ S j c (.M aR [] O) (.M (x_ k d id g f) i O)) .C (.P (S.length+1) 2)=J (.I U id):=λ_ _ _ _ _ _ _=>nY ..;have l3:∀c k d id g f i,aX (iZ S j c (.M aR [] O) (.M (x_ k d id g f) i O)) .C (.P (S.length+1) 3)=J (.I U g):=λ_ _ _ _ _ _ _=>nY ..;have s2:∀a c k d id g f i(x:Int),bd a S.length (iZ S j c (.M aR [] O) (.M (x_ k d id g f) i O)) 1 (.P (S.length+1) 2) (.I U x)=J (a,iZ S j c (.M aR [] O) (.M (x_ k d x g f) i O)):=λa c k d id g f i x=>by rw[d_ (yZ U x) (pX ..),qQ,if_pos ⟨rfl,by simp[x_]⟩];rfl
 have s3:∀a c k d id g f i(x:Int),bd a S.length (iZ S j c (.M aR [] O) (.M (x_ k d id g f) i O)) 1 (.P (S.length+1) 3) (.I U x)=J (a,iZ S j c (.M aR [] O) (.M (x_ k d id x f) i O)):=λa c k d id g f i x=>by rw[d_ (yZ U x) (pX ..),qQ,if_pos ⟨rfl,by simp[x_]⟩];rfl
 have s4:∀a c k d id g i(x:bu),bd a S.length (iZ S j c (.M aR [] O) (.M (x_ k d id g ah) i O)) 6 (.P (S.length+1) 4) (.A x.aq)=J (a,iZ S j c (.M aR [] O) (.M (x_ k d id g x.aq) i O)):=λa c k d id g i x=>by
  rw[d_ (kU (bu.ji x)) (pX ..),qQ,if_pos ⟨by simp,by simp[x_]⟩];have:aM (x_ k d id g ah) 4 (AV.A x.aq).cells=x_ k d id g x.aq:=by simp[aM,x_,AV.cells]
  rw[this]
 have p:∀c id g f,f.length=6->f.map aW=f->aX (iZ S j c (.M aR [] O) (.M (x_ o.ak d id g f) i O)) (.A 10) (.P (S.length+1) 0)=J (.A (x_ o.ak (eV 2 (Ml o.fK)) id g f)):=λc id g f hl hs=>by simp_all[nY,fR,x_]
 have s:∀a c id g f b,f.length=6->dv f=G->bd a S.length (iZ S j c (.M aR [] O) b) 10 (.P S.length 0) (.A (x_ o.ak (eV 2 (Ml o.fK)) id g f))=J (a,iZ S j c (.M (x_ o.ak (eV 2 (Ml o.fK)) id g f) [] O) b):=λa c id g f b hl hp=>by
  unfold iZ;have NI:dv (x_ o.ak (eV 2 (Ml o.fK)) id g f)=G:=by simp_all[zT,x_]
  simp_all[Ax,amP]
 have q:∀c id g f b,f.length=6->f.map aW=f->aX (iZ S j c (.M (x_ o.ak (eV 2 (Ml o.fK)) id g f) [] O) b) (.A 10) (.P S.length 0)=J (.A (x_ o.ak (eV 2 (Ml o.fK)) id g f)):=λc id g f b hl hs=>by simp_all[iZ,lT0,fR,x_]
 have nr:∀id g f(w:bu),f.map dF=w.aq->cd (.A (x_ o.ak (eV 2 (Ml o.fK)) id g f))=.A (sH.mk o.ak o.fK id g w).aq:=λid g f w P=>by show AV.A ((x_ o.ak (eV 2 (Ml o.fK)) id g f).map dF)=_;unfold x_ sH.aq;simp only[List.map_append,P];show AV.A ([_,dF (eV 2 (Ml o.fK)),_,_]++_)=_;rw[rS];rfl
 have res:∀a c id g f b(w:bu),f.map dF=w.aq->ds 42 a [.A (x_ o.ak (eV 2 (Ml o.fK)) id g f)] S (iZ S j c (.M (x_ o.ak (eV 2 (Ml o.fK)) id g f) [] O) b)=J (.A (sH.mk o.ak o.fK id g w).aq,S.set j (fT j c)):=λa c id g f b w P=>by
  rw[ux,nr id g f w P];have:(iZ S j c (.M (x_ o.ak (eV 2 (Ml o.fK)) id g f) [] O) b).take S.length=S.set j (fT j c):=by grind [iZ]
  have hd:df (sH.mk o.ak o.fK id g w).aq:=sH.ji _;simp[cI,this,hd]
 have b0:dX .neq (.kO fX) G .c_ .c_=J (.B O):=rfl;have er:=λ{c:Rd}{u':B}(b:cZ)(h':rJ c u')=>zY (sg c b) h';have vL:o.value.aq.length=6:=bW;have vS:=(bu.ji o.value).jh;have vP:=(bu.ji o.value).br;have vN:=(bu.ji o.value).wx;have hid:((o.id.toNat:Nat):Int)=o.id:=by have:=ho.id0;omega
 have haf:((o.after.toNat:Nat):Int)=o.after:=by have:=ho.af0;omega
 have m:=h;unfold L7 at m;rw[mv]at m;have m:=m.2;rw[js aEO];rcases kr with k|k|k|k
 ·rw[if_pos k]at m
  simp only[mv,decide_eq_true_eq]at m;simp only[k]at z⊢;simp at z;have c5:=JN o.value ho.value m.2 (sg ((r.go 1).go (nO o.fK).length) (.M (x_ 1 d 0 0 ah) i O)) (by simpa using z);rw[ss]at c5;have R5:=rJ.go z;have l:=er (.M (x_ 1 d 0 0 o.value.aq) i O) R5;have P:sH.mk o.ak o.fK 0 0 o.value=o:=by cases o;grind
  have t:=λa c b=>res a c 0 0 o.value.aq b o.value vN;rw[P]at t;have p:=λc=>p c 0 0 _ vL vS;have s:=λa c b=>s a c 0 0 _ b vL vP;have q:=λc b=>q c 0 0 _ b vL vS;rw[k]at T wk fk y E A p s q t;simp at E A c5 l p s q t;simp[T,wk,fk,y,l0,E,p1,A,c5,s4,l,b0,p,s,q,t];refine⟨rfl, ?_⟩
  grind
 ·rw[tQ,if_pos k]at m
  simp only[mv,decide_eq_true_eq]at m;simp only[k]at z⊢;simp at z;have I:=ot (sg ((r.go 1).go (nO o.fK).length) (.M (x_ 2 d 0 0 ah) i O)) (n:=o.id.toNat) (by have:=ho.id1;omega) (by simpa using z);rw[ss,hid]at I;have R3:=rJ.go z;have c4:=ot (sg _ (.M (x_ 2 d o.id 0 ah) i O)) (n:=o.after.toNat) (by have:=ho.af1;omega) R3;rw[ss,haf]at c4;have R4:=rJ.go R3;have c5:=JN o.value ho.value m.2 (sg _ (.M (x_ 2 d o.id o.after ah) i O)) R4;rw[ss]at c5;have R5:=rJ.go R4;have l:=er (.M (x_ 2 d o.id o.after o.value.aq) i O) R5;have t:=λa c b=>res a c o.id o.after o.value.aq b o.value vN;have n1:¬o.id=0:=m.1.1;have n2:¬o.after=o.id:=λe=>m.1.2 e.symm;have p:=λc=>p c o.id o.after _ vL vS;have s:=λa c b=>s a c o.id o.after _ b vL vP;have q:=λc b=>q c o.id o.after _ b vL vS;have P:sH.mk 2 o.fK o.id o.after o.value=o:=by rw[<-k]
  rw[k]at T wk fk y E A p s q t;rw[P]at t;simp at E A I c4 c5 l p s q t;simp[T,wk,fk,y,l0,l2,l3,E,p1,A,I,s2,n1,c4,s3,n2,c5,s4,l,b0,p,s,q,t];refine⟨rfl, ?_⟩
  grind
 ·rw[tQ,tQ,if_pos k]at m
  simp only[mv,decide_eq_true_eq]at m;have hz:=(CW _).1 m.2;simp only[k]at z⊢;simp at z;have I:=ot (sg ((r.go 1).go (nO o.fK).length) (.M (x_ 3 d 0 0 ah) i O)) (n:=o.id.toNat) (by have:=ho.id1;omega) (by simpa using z);rw[ss,hid]at I;have R3:=rJ.go z;have l:=er (.M (x_ 3 d o.id 0 ah) i O) R3;have t:=λa c b=>res a c o.id 0 ah b rY XL;have n1:¬o.id=0:=m.1.1;have p:=λc=>p c o.id 0 _ Li JO;have s:=λa c b=>s a c o.id 0 _ b Li XK;have q:=λc b=>q c o.id 0 _ b Li JO;have P:sH.mk 3 o.fK o.id 0 rY=o:=by rw[<-k,<-hz];conv=>lhs;rw[<-m.1.2]
  rw[k]at T wk fk y E A p s q t;rw[P]at t;simp at E A I l p s q t;simp[T,wk,fk,y,l0,l2,E,p1,A,I,s2,n1,l,b0,p,s,q,t];refine⟨rfl, ?_⟩
  grind
 ·rw[tQ,tQ,tQ,if_pos k]at m
  simp only[mv,decide_eq_true_eq]at m;have hz:=(CW _).1 m.2;simp only[k]at z⊢;simp at z;have I:=ot (sg ((r.go 1).go (nO o.fK).length) (.M (x_ 4 d 0 0 ah) i O)) (n:=o.id.toNat) (by have:=ho.id1;omega) (by simpa using z);rw[ss,hid]at I;have R3:=rJ.go z;have c4:=ot (sg _ (.M (x_ 4 d o.id 0 ah) i O)) (n:=o.after.toNat) (by have:=ho.af1;omega) R3;rw[ss,haf]at c4;have R4:=rJ.go R3;have l:=er (.M (x_ 4 d o.id o.after ah) i O) R4;have t:=λa c b=>res a c o.id o.after ah b rY XL;have n1:¬o.id=0:=m.1.1;have n2:¬o.after=o.id:=λe=>m.1.2 e.symm;have p:=λc=>p c o.id o.after _ Li JO;have s:=λa c b=>s a c o.id o.after _ b Li XK;have q:=λc b=>q c o.id o.after _ b Li JO;have P:sH.mk 4 o.fK o.id o.after rY=o:=by rw[<-k,<-hz]
  rw[k]at T wk fk y E A p s q t;rw[P]at t;simp at E A I c4 l p s q t;simp[T,wk,fk,y,l0,l2,l3,E,p1,A,I,s2,n1,c4,s3,n2,l,b0,p,s,q,t];refine⟨rfl, ?_⟩
  grind
section
def arZ{S:Z}{i sz:Nat}{es:jV}{x:F}{cs:F}{o:Nat}{bt:bV}(t:bV)(k:Nat)(g:S[i]? =J (.M cs bt O))(h:es=[]->bt.length=k)(a:es≠[]->bt[k]? =J (J es.length))
 (n:es.length<1000000) (q:o+1<=cs.length) (r:eT (es++[x])=G):
 ∃f e b m,eD sz t S (bL i k sz es) (.sl .X sz [x])=J (f,e,b)/\
  ∀nb,bd e nb b 1 (.P i o) f=J (m,S.set i (.M (aM cs o [bL i k sz (es++[x])]) (if es=[]then bt++[J 1]else bt.set k (J (es.length+1))) O)):=by
 by_cases c:es=[]
 ·subst c
  obtain rfl:=h rfl;refine⟨.sl (.fr t.length) sz [x],t++[J 1],S,t++[M],by simp[eD,bL,bZ],λnb=>?_⟩
  grind [bd,br,aW,aU,AV.cells,lQ,bL]
 ·have a:=a c
  have p:=(lU.1 g).1;have l:¬(2^30<es.length+1):=V;refine⟨.sl (.bx i k) sz (es++[x]),t,S.set i (.M cs (bt.set k (J (es.length+1))) O),t, ?_,λnb=>?_⟩;all_goals simp_all[eD,bL,bZ,bd,br,aW,lQ]
def DP(l:List bJ):jV:=l.map bJ.aq
def acr(a:List bJ)(x:bJ):DP (a++[x])=DP a++[x.aq]:=by simp[DP]
@[simp]def aB0(a:List bJ):(DP a).length=a.length:=by simp[DP]
def GQ(l:List bJ):eT (DP l)=G:=kh.2 λx a=>by obtain⟨s,_,rfl⟩:=yF.1 a;exact df.br bW
def SE(a:List bJ):dF (eV 3 (DP a))=rX a:=rS 3 _
def up0(bt:bV)(n:Nat):bV:=if n=0 then bt++[J 1]else bt.set 0 (J (n+1))
def acs{T:Z}{j m:Nat}{r:Rd}{s u:B}{e:List B}{k:Int}{f:Q}{bt:bV}(hT:T[j]? =J (fT j r))(hm:T[m]? =J (.M [.I Y k,bL m 0 1 (sK e),f] bt O))(hjm:j≠m)
 (p:e=[]->bt.length=0) (hb1:e≠[]->bt[0]? =J (J e.length)) (hw:e.length<1000) (y:fM s=G) (g:eS) (hg:nk.sO g=M) (l:uk g=O) (hF:∀S,W N X g [dI (e++[s])] S=J (.B G,S)) (hr:rJ r (aZ s++u)):
 W N X 260 [.P j 0,.P m 0,.fn g [] []] T=J (.cQ [],(T.set j (fT j (r.go (aZ s).length))).set m (.M [.I Y k,bL m 0 1 (sK (e++[s])),f] (up0 bt e.length) O)):=by
 have hl:=ig y;have I:=JM hT V hr;have w:=nD s V;rw[y]at w;have i:(T.set j (fT j (r.go (aZ s).length)))[m]? =J (.M [.I Y k,bL m 0 1 (sK e),f] bt O):=by simp_all
 have nn:sK e=[]↔e=[]:=by simp[sK]
 have⟨v1,t1,S1,t2,A,n⟩:=arZ (sz:=1) (es:=sK e) (x:=[.S s]) (o:=1) [] 0 i (λh=>p (nn.1 h)) (λh=>by simp_all) (by simp;omega) bW (by rw[<-No];exact B5 _);have P:(if sK e=[]then bt++[J 1]else bt.set 0 (J ((sK e).length+1)))=up0 bt e.length:=by grind [up0,amL]
 rw[P,<-No]at n;have E:aM [.I Y k,bL m 0 1 (sK e),f] 1 [bL m 0 1 (sK (e++[s]))]=[.I Y k,bL m 0 1 (sK (e++[s])),f]:=rfl;rw[E]at n;have q:=(lU.1 i).1;have t:∀c,aX ((T.set j (fT j (r.go (aZ s).length))).set m (.M [.I Y k,c,f] (up0 bt e.length) O)) .C (.P m 1)=J c:=λc=>by rw[bI (RN q)];rfl
 have v:mq 1 (sK (e++[s]))=dI (e++[s]):=rfl;have fb:=aji s;rw[LR ayN];simp[I,g9,(by rw[bI i];rfl:aX (T.set j (fT j (r.go (aZ s).length))) .C (.P m 1)=some (bL m 0 1 (sK e))),fb,A,n,AM,w,t,U2,U3,U4,Lf,v,hg,l,hF,bU,(λa b=>oh bW:∀a b,((T.set j a).set m b).take T.length=(T.set j a).set m b),ds,aO,ck,aF]
def SF{S:Z}{j:Nat}{r:Rd}{n:Nat}{u:B}(c:S[j]? =J (fT j r))(a:Nat)(e:a<=n)(f:n<=8)(h:rJ r (cF n++u)):W N X 259 [.P j 0,.I U (a:Int)] S=J (.I Y (n:Int),S.set j (fT j (r.go (cF n).length))):=by simp[j7 ayM,ot c V h,zY (Kv c (r.go (cF n).length)) h.go,(rfl:dX .neq (.kO fX) G .c_ .c_=J (.B O)),(cG V:dr Y (n:Int)=(n:Int)),(eq_false V:((8:Int)<(n:Int))=False),(eq_false V:((n:Int)<(a:Int))=False),(λb=>oh bW:∀b,(S.set j b).take S.length=S.set j b)]
def sb4(m:Nat)(ws:List B):cZ:=.M [.I Y 4,bL m 0 1 (sK ws),.aw] (if ws.length=0 then[]else[J ws.length]) O
def sb5(m:Nat)(ws:List B)(ps:List bJ):cZ:=.M [.I Y 5,bL m 0 1 (sK ws),bL m 1 3 (DP ps)] (iF ws.length ps.length) O
section
variable{S:Z}{j d:Nat}(z:cZ)
def MN(b:List B)(E:b.length<=8)(I:j6 [] b=G)(v:∀w∈b,fM w=G):
 ∀e i(r:Rd)(u:B)(ag:bV),i+e=b.length->S[j]? =J (fT j r)->∀c:Rd,rJ c ((b.drop i).flatMap aZ++u)->
 DC N X (.L DE) ⟨[(0,.P j 0),(4,.P S.length 0),(5,.P (S.length+1) 0),(29,.I Y (b.length:Int)),(30,.I Y (i:Int))],ag,S.length⟩ (iZ S j c z (sb4 (S.length+1) (b.take i)))=
  J (.E 1,⟨[(0,.P j 0),(4,.P S.length 0),(5,.P (S.length+1) 0)],ag,S.length⟩,iZ S j (c.go ((b.drop i).flatMap aZ).length) z (sb4 (S.length+1) b)):=by
 intro e;induction e with
 |zero=>
  intro i r u ag t f c k;simp[aj,aN oQ,(jY V:b.drop i=[]),(oh V:b.take i=b),(V:¬i<b.length),Rd.go]
 |succ e y=>
  intro i r u ag t f c k;have o:i<b.length:=V;have A:=(lU.1 f).1;have⟨a,n,s⟩:=aT (l:=b) (i:=i) o;have p:=aQ (i:=i) V;have T:b.take (i+1)=b.take i++[a]:=by rw[vH,n];rfl
  have P:(b.take i).length=i:=by grind
  rw[bf n,Dt]at k⊢;rw[sD]at k;have x:j6 [] (b.take i++[a])=G:=by grind [Me,List.take_append_drop]
  have m:=acs (sv f c z (sb4 (S.length+1) (b.take i))) (pX S j c z (sb4 (S.length+1) (b.take i))) V (λh=>by grind) (λh=>by simp_all) V (v a (gS n)) 261 rfl rfl (λS=>by grind [yu]) k;rw[vA f,qQ]at m;have q:cZ.M [.I Y 4,bL (S.length+1) 0 1 (sK (b.take i++[a])),.aw] (up0 (if(b.take i).length=0 then[]else[J (b.take i).length]) (b.take i).length) O=sb4 (S.length+1) (b.take (i+1)):=by grind [sb4,up0]
  rw[q]at m;have g:=y (i+1) r u ag V f _ k.go;rw[aj,aN oQ];simp at g p m;simp[o,m,dh];rw[ab oQ];simp[p,g]
def MO(v:bJ)(hl:v.aG.length<=8)(NI:v.ar.length=v.aG.length)(hg:goN M v.aG=G)(hd:d<1000)
 (hF:∀x∈v.ar,∀(S:Z)(r:Rd)(u:B),S[j]? =J (fT j r)->rJ r (x.bytes++u)->W N X 236 [.P j 0,.I Y (d:Int)] S=J (.A x.aq,S.set j (fT j (r.go x.bytes.length)))):
 ∀e i(r:Rd)(u:B)(ag:bV),i+e=v.aG.length->S[j]? =J (fT j r)->∀c:Rd,rJ c (bJ.eH (v.aG.drop i) (v.ar.drop i)++u)->
 ∃aV,DC N X (.L DG) ⟨[(0,.P j 0),(1,.I Y ((d:Int)+1)),(4,.P S.length 0),(5,.P (S.length+1) 0),(38,.I Y (v.aG.length:Int)),(39,.I Y (i:Int))],ag,S.length⟩ (iZ S j c z (sb5 (S.length+1) (v.aG.take i) (v.ar.take i)))=
  J (.E 3,⟨[(0,.P j 0),(4,.P S.length 0),(5,.P (S.length+1) 0)],aV,S.length⟩,iZ S j (c.go (bJ.eH (v.aG.drop i) (v.ar.drop i)).length) z (sb5 (S.length+1) v.aG v.ar)):=by
 intro e;induction e with
 |zero=>
  intro i r u ag hi f c k;refine⟨ag, ?_⟩;simp[aj,aN oR,(jY V:v.aG.drop i=[]),(oh V:v.aG.take i=v.aG),(oh V:v.ar.take i=v.ar),(V:¬i<v.aG.length),bJ.eH,Rd.go]
 |succ e ih=>
  intro i r u ag hi f c k;have P:i<v.aG.length:=V;have hj:j<S.length:=(lU.1 f).1;have⟨a,s,ha'⟩:=aT (l:=v.aG) (i:=i) P;have⟨y,w,hy'⟩:=aT (l:=v.ar) (i:=i) V;have T:=aQ (i:=i) V;have g:dr Y ((d:Int)+1 -1)=(d:Int):=by rw[cG V];omega
  have tN:v.aG.take (i+1)=v.aG.take i++[a]:=by rw[vH,s];rfl
  have tP:v.ar.take (i+1)=v.ar.take i++[y]:=by rw[vH,w];rfl
  have lN:(v.aG.take i).length=i:=by grind
  have lP:(v.ar.take i).length=i:=by grind
  rw[bf s,bf w,bJ.eH]at k⊢;rw[sD,sD]at k;have A:=k.go;have hgp:goN M (v.aG.take i++[a])=G:=by grind [Rd.UE,List.take_append_drop]
  have q:∀S,W N X 262 [dI (v.aG.take i++[a])] S=J (.B G,S):=λS=>by grind [DQ,Sp]
  have m:=acs (sv f c z (sb5 (S.length+1) (v.aG.take i) (v.ar.take i))) (pX S j c z (sb5 (S.length+1) (v.aG.take i) (v.ar.take i))) V (λh=>by rw[h];rfl) (λh=>by grind [iF]) V (BG _ _ hg a (gS s)) 262 rfl rfl q k;rw[vA f,qQ]at m;have eb:up0 (iF (v.aG.take i).length (v.ar.take i).length) (v.aG.take i).length=iF (i+1) i:=by grind [up0,iF]
  rw[eb]at m;have E:=hF y (gS w) _ _ _ (sv f (c.go (aZ a).length) z (.M [.I Y 5,bL (S.length+1) 0 1 (sK (v.aG.take i++[a])),bL (S.length+1) 1 3 (DP (v.ar.take i))] (iF (i+1) i) O)) A;rw[vA f]at E;have⟨v3,t3,S3,t4,I,p⟩:=arW (sz:=3) (es:=DP (v.ar.take i)) (x:=y.aq) (n:=i) (o:=2) ag (pX S j ((c.go (aZ a).length).go y.bytes.length) z (.M [.I Y 5,bL (S.length+1) 0 1 (sK (v.aG.take i++[a])),bL (S.length+1) 1 3 (DP (v.ar.take i))] (iF (i+1) i) O)) (by simp;omega) V bW (by rw[<-acr];exact GQ _);rw[qQ,<-acr]at p;have b2:cZ.M (aM [.I Y 5,bL (S.length+1) 0 1 (sK (v.aG.take i++[a])),bL (S.length+1) 1 3 (DP (v.ar.take i))] 2 [bL (S.length+1) 1 3 (DP (v.ar.take i++[y]))]) (iF (i+1) (i+1)) O=
   sb5 (S.length+1) (v.aG.take (i+1)) (v.ar.take (i+1)):=by
   grind [sb5,aM]
  rw[b2]at p;have es:(c.go (aZ a).length).go y.bytes.length=c.go ((aZ a).length+y.bytes.length):=bW;have⟨aV,t⟩:=ih (i+1) r u t4 V f _ A.go;refine⟨aV, ?_⟩;rw[(by simp[Rd.go,Di]:(((c.go (aZ a).length).go y.bytes.length).go (bJ.eH (v.aG.drop (i+1)) (v.ar.drop (i+1))).length)=c.go (aZ a++(y.bytes++bJ.eH (v.aG.drop (i+1)) (v.ar.drop (i+1)))).length)]at t;have ll:∀es,fW (bL (S.length+1) 1 3 es)=J (.I Y (es.length:Int)):=λes=>by unfold bL;cases es<;>rfl
  have bo:fg 3 [[.I Y 0,.aw,.aw]] [(0,.A y.aq)]=J [y.aq]:=by simp_all[fg]
  have bz:fg 3 [[.I Y 0,.aw,.aw]] [(0,.A [.I Y 0,.aw,.aw])]=J [[.I Y 0,.aw,.aw]]:=rfl;simp only[es]at I p;rw[aj,aN oR];simp at t T g m;simp[P,m,dh,(λr1 b=>nY .. :∀r1 b,aX (iZ S j r1 z (.M [.I Y 5,bL (S.length+1) 0 1 b,bL (S.length+1) 1 3 (DP (v.ar.take i))] (iF (i+1) i) O)) .C (.P (S.length+1) 2)=J (bL (S.length+1) 1 3 (DP (v.ar.take i)))),g,E,ll,bz,bo,I,p];rw[ab oR];simp[T,t]
end
end
def zu(k:Int)(a b:Q)(c:List B)(ps:List bJ)(d:dF a=dI c)(e:dF b=rX ps):
 cd (.A [.I Y k,a,b])=.A (bJ.mk k c ps).aq:=by
 rw[bJ.jJ];show AV.A [_,dF a,dF b]=_;rw[d,e];rfl
def Ch(k:Int):cZ:=.M [.I Y k,.aw,.aw] [] O
def aef:∀(d:Nat)(v:bJ),v.Wf->v.bw d=G->d<1000->∀(S:Z)(j:Nat)(r:Rd)(u:B),S[j]? =J (fT j r)->rJ r (v.bytes++u)->
 W N X 236 [.P j 0,.I Y (d:Int)] S=J (.A v.aq,S.set j (fT j (r.go v.bytes.length))):=by
 intro d;induction d with
 |zero=>nofun
 |succ d ih=>
  intro v hv h hd S j r u hS hr;have a:=bJ.ib h;have hj:j<S.length:=(lU.1 hS).1;have lb:=v.oJ;rw[lb]at hr;have R1:=hr.go1;have hS1:∀b,(S++[b])[j]? =J (fT j r):=λb=>dH _ hS;have A:=Je (hS1 (.M [.I Y 0,.aw,.aw] [] O)) hr;rw[ij _ hj]at A;have hk:((cq v.ak.toNat).toNat:Int)=v.ak:=by have:=a.ak;rw[rV];omega
  rw[hk]at A;have T:dr Y v.ak=v.ak:=by have:=a.ak;exact cG V
  have T1:(S.set j (fT j (r.go 1))).length=S.length:=bW;have sg:=λf b=>sv hS f (.M [.I Y 0,.aw,.aw] [] O) b;have ss:=λf r'' b=>vA hS f r'' (.M [.I Y 0,.aw,.aw] [] O) b;have tkS:∀f z b,(iZ S j f z b).take S.length=S.set j (fT j f):=λf z b=>by grind [iZ]
  have d0:¬((d:Int)+1=0):=V;have hd1:dr Y (d:Int)=(d:Int):=cG V;have b0:dX .neq (.kO fX) G .c_ .c_=J (.B O):=rfl;have fk:∀k:Int,dj [.I Y 0,.aw,.aw] [(0,1,.I Y k)]=J [.I Y k,.aw,.aw]:=λ_=>rfl;have er:=λ{f:Rd}{u':B}(b:cZ)(h':rJ f u')=>zY (sg f b) h';have P:∀k:Int,bd [] S.length (S.set j (fT j (r.go 1))++[.M [.I Y 0,.aw,.aw] [] O,.M [.I Y 0,.aw,.aw] [] O]) 3 (.P (S.length+1) 0) (.A [.I Y k,.aw,.aw])=J ([],iZ S j (r.go 1) (.M [.I Y 0,.aw,.aw] [] O) (Ch k)):=λk=>by rw[My T1 rfl];rfl
  have E:∀(g:bV) f(m:F) bt,m.length=3->dv (m.map aW)=G->bd g S.length (iZ S j f (.M [.I Y 0,.aw,.aw] [] O) (.M m bt O)) 3 (.P S.length 0) (.A (m.map aW))=J (g,iZ S j f (.M (m.map aW) [] O) (.M m bt O)):=λg f m bt hc hp=>by simp_all[iZ,Ax]
  have la:∀f z(m:F) bt,m.length=3->aX (iZ S j f z (.M m bt O)) (.A 3) (.P (S.length+1) 0)=J (.A (m.map aW)):=λf z m bt hc=>by rw[nY];exact fR m hc
  have lz:∀f(m:F) b,m.length=3->(m.map aW).map aW=m.map aW->aX (iZ S j f (.M (m.map aW) [] O) b) (.A 3) (.P S.length 0)=J (.A (m.map aW)):=λf m b hc hs=>by simp_all[iZ,lT0,fR]
  have I:∀f(g:bV)(m:F) b(w:bJ),cd (.A (m.map aW))=.A w.aq->ds 236 g [.A (m.map aW)] S (iZ S j f (.M (m.map aW) [] O) b)=J (.A w.aq,S.set j (fT j f)):=λf g m b w t=>by simp[ux,t,cI,tkS]
  have l0:∀f k,aX (iZ S j f (.M [.I Y 0,.aw,.aw] [] O) (Ch k)) .C (.P (S.length+1) 0)=J (.I Y k):=λf k=>nY ..;have c:=er (Ch v.ak) R1;have q0:∀ws:List B,∀(i:Nat),aW (bL i 0 1 (sK ws))=eV 1 (sK ws):=λws i=>rR ..;rw[j7 ayp];rcases a.ak with k|k|k|k|k|k
  ·have⟨h1,h2⟩:=a.k13 (.inl k)
   have ev:bJ.mk 1 [] []=v:=bJ.tO k h1 h2;have eb:v.bytes=[cq v.ak.toNat]:=by simp_all[bJ.gA]
   have t:=zu 1 .aw .aw [] [] rfl rfl;rw[ev]at t;have p:bd [] S.length (iZ S j (r.go 1) (.M [.I Y 0,.aw,.aw] [] O) (Ch 1)) 3 (.P S.length 0) (.A [.I Y 1,.aw,.aw])=J ([],iZ S j (r.go 1) (Ch 1) (Ch 1)):=E [] (r.go 1) [.I Y 1,.aw,.aw] [] rfl rfl;have q:aX (iZ S j (r.go 1) (.M [.I Y 0,.aw,.aw] [] O) (Ch 1)) (.A 3) (.P (S.length+1) 0)=J (.A [.I Y 1,.aw,.aw]):=la (r.go 1) _ [.I Y 1,.aw,.aw] [] rfl;have e:aX (iZ S j (r.go 1) (Ch 1) (Ch 1)) (.A 3) (.P S.length 0)=J (.A [.I Y 1,.aw,.aw]):=lz (r.go 1) [.I Y 1,.aw,.aw] (Ch 1) rfl rfl;have n:ds 236 [] [.A [.I Y 1,.aw,.aw]] S (iZ S j (r.go 1) (Ch 1) (Ch 1))=J (.A v.aq,S.set j (fT j (r.go 1))):=I (r.go 1) [] [.I Y 1,.aw,.aw] (Ch 1) v t;rw[k]at A T c;rw[eb];simp at n;simp[d0,A,T,fk,P,c,b0,l0,q,p,e,n]
  ·have⟨h1,h2⟩:=a.k13 (.inr (.inl k))
   have ev:bJ.mk 2 [] []=v:=bJ.tO k h1 h2;have eb:v.bytes=[cq v.ak.toNat]:=by simp_all[bJ.gA]
   have t:=zu 2 .aw .aw [] [] rfl rfl;rw[ev]at t;have p:bd [] S.length (iZ S j (r.go 1) (.M [.I Y 0,.aw,.aw] [] O) (Ch 2)) 3 (.P S.length 0) (.A [.I Y 2,.aw,.aw])=J ([],iZ S j (r.go 1) (Ch 2) (Ch 2)):=E [] (r.go 1) [.I Y 2,.aw,.aw] [] rfl rfl;have q:aX (iZ S j (r.go 1) (.M [.I Y 0,.aw,.aw] [] O) (Ch 2)) (.A 3) (.P (S.length+1) 0)=J (.A [.I Y 2,.aw,.aw]):=la (r.go 1) _ [.I Y 2,.aw,.aw] [] rfl;have e:aX (iZ S j (r.go 1) (Ch 2) (Ch 2)) (.A 3) (.P S.length 0)=J (.A [.I Y 2,.aw,.aw]):=lz (r.go 1) [.I Y 2,.aw,.aw] (Ch 2) rfl rfl;have n:ds 236 [] [.A [.I Y 2,.aw,.aw]] S (iZ S j (r.go 1) (Ch 2) (Ch 2))=J (.A v.aq,S.set j (fT j (r.go 1))):=I (r.go 1) [] [.I Y 2,.aw,.aw] (Ch 2) v t;rw[k]at A T c;rw[eb];simp at n;simp[d0,A,T,fk,P,c,b0,l0,q,p,e,n]
  ·have⟨h1,h2⟩:=a.k13 (.inr (.inr k))
   have ev:bJ.mk 3 [] []=v:=bJ.tO k h1 h2;have eb:v.bytes=[cq v.ak.toNat]:=by simp_all[bJ.gA]
   have t:=zu 3 .aw .aw [] [] rfl rfl;rw[ev]at t;have p:bd [] S.length (iZ S j (r.go 1) (.M [.I Y 0,.aw,.aw] [] O) (Ch 3)) 3 (.P S.length 0) (.A [.I Y 3,.aw,.aw])=J ([],iZ S j (r.go 1) (Ch 3) (Ch 3)):=E [] (r.go 1) [.I Y 3,.aw,.aw] [] rfl rfl;have q:aX (iZ S j (r.go 1) (.M [.I Y 0,.aw,.aw] [] O) (Ch 3)) (.A 3) (.P (S.length+1) 0)=J (.A [.I Y 3,.aw,.aw]):=la (r.go 1) _ [.I Y 3,.aw,.aw] [] rfl;have e:aX (iZ S j (r.go 1) (Ch 3) (Ch 3)) (.A 3) (.P S.length 0)=J (.A [.I Y 3,.aw,.aw]):=lz (r.go 1) [.I Y 3,.aw,.aw] (Ch 3) rfl rfl;have n:ds 236 [] [.A [.I Y 3,.aw,.aw]] S (iZ S j (r.go 1) (Ch 3) (Ch 3))=J (.A v.aq,S.set j (fT j (r.go 1))):=I (r.go 1) [] [.I Y 3,.aw,.aw] (Ch 3) v t;rw[k]at A T c;rw[eb];simp at n;simp[d0,A,T,fk,P,c,b0,l0,q,p,e,n]
  ·have h4:=a.k4 k
   have ev:bJ.mk 4 v.aG []=v:=bJ.tO k rfl h4.2.2.2.2;have eb:v.bytes=[cq v.ak.toNat]++(cF v.aG.length++v.aG.flatMap aZ):=by simp_all
   have wl1:1<=v.aG.length:=by grind
   have s:rJ (r.go 1) (cF v.aG.length++(v.aG.flatMap aZ++u)):=by simp_all
   have c2:=SF (sg (r.go 1) (Ch 4)) 1 wl1 h4.2.1 s;rw[ss]at c2;have R2:=s.go;have lp:=MN (S:=S) (j:=j) (.M [.I Y 0,.aw,.aw] [] O) v.aG h4.2.1 h4.2.2.2.1 h4.2.2.1 v.aG.length 0 r u [] V hS _ R2;have R3:=R2.go;have hvb:sb4 (S.length+1) v.aG=.M [.I Y 4,bL (S.length+1) 0 1 (sK v.aG),.aw] [J v.aG.length] O:=by unfold sb4;simp_all
   have y:[AV.I Y 4,bL (S.length+1) 0 1 (sK v.aG),.aw].map aW=[.I Y 4,eV 1 (sK v.aG),.aw]:=by simp only[NF,TJ,rR];rfl
   have q1:=pK (sz:=1) (B5 v.aG);have NI:dv ([AV.I Y 4,bL (S.length+1) 0 1 (sK v.aG),.aw].map aW)=G:=by rw[y];simp[dv,br,q1.2]
   have Y7:([AV.I Y 4,bL (S.length+1) 0 1 (sK v.aG),.aw].map aW).map aW=[AV.I Y 4,bL (S.length+1) 0 1 (sK v.aG),.aw].map aW:=by simp_all
   have t:=zu 4 (eV 1 (sK v.aG)) .aw v.aG [] (Lg _) rfl;rw[ev]at t;have n:=I (((r.go 1).go (cF v.aG.length).length).go (v.aG.flatMap aZ).length) [] [AV.I Y 4,bL (S.length+1) 0 1 (sK v.aG),.aw] (sb4 (S.length+1) v.aG) v (by simp_all);have l:=er (sb4 (S.length+1) v.aG) R3;have p:=E [] (((r.go 1).go (cF v.aG.length).length).go (v.aG.flatMap aZ).length) _ [J v.aG.length] rfl NI;have q:=la (((r.go 1).go (cF v.aG.length).length).go (v.aG.flatMap aZ).length) (.M [.I Y 0,.aw,.aw] [] O) [.I Y 4,bL (S.length+1) 0 1 (sK v.aG),.aw] [J v.aG.length] rfl;have e:=lz (((r.go 1).go (cF v.aG.length).length).go (v.aG.flatMap aZ).length) _ (sb4 (S.length+1) v.aG) rfl Y7;rw[<-hvb]at q p;simp only[y]at p q e n;have v00:sb4 (S.length+1) []=Ch 4:=rfl;rw[k]at A T c;rw[eb];simp[v00, -List.length_flatMap]at c2 lp l p q e n;simp[d0,A,T,fk,P,c,b0,l0,c2, -List.length_flatMap];rw[ab oQ];simp[lp,l,b0,q,p,e,n, -List.length_flatMap]
   grind
  ·have h5:=a.k5 k
   have ev:bJ.mk 5 v.aG v.ar=v:=bJ.tO k rfl rfl;have eb:v.bytes=[cq v.ak.toNat]++(cF v.aG.length++bJ.eH v.aG v.ar):=by simp_all
   have s:rJ (r.go 1) (cF v.aG.length++(bJ.eH v.aG v.ar++u)):=by simp_all
   have c2:=SF (sg (r.go 1) (Ch 5)) 0 V h5.2.1 s;rw[ss]at c2;have R2:=s.go;have⟨g,lp⟩:=MO (S:=S) (j:=j) (d:=d) (.M [.I Y 0,.aw,.aw] [] O) v h5.2.1 h5.2.2 h5.1 V (λx hx S r u h1 h2=>ih x (hv.all x hx) (a.all x hx) V S j r u h1 h2) v.aG.length 0 r u [] V hS _ R2;have R3:=R2.go;have hvb:sb5 (S.length+1) v.aG v.ar=.M [.I Y 5,bL (S.length+1) 0 1 (sK v.aG),bL (S.length+1) 1 3 (DP v.ar)] (iF v.aG.length v.ar.length) O:=rfl;have y:[AV.I Y 5,bL (S.length+1) 0 1 (sK v.aG),bL (S.length+1) 1 3 (DP v.ar)].map aW=[.I Y 5,eV 1 (sK v.aG),eV 3 (DP v.ar)]:=by simp_all[rR]
   have q1:=pK (sz:=1) (B5 v.aG);have q2:=pK (sz:=3) (GQ v.ar);have NI:dv ([AV.I Y 5,bL (S.length+1) 0 1 (sK v.aG),bL (S.length+1) 1 3 (DP v.ar)].map aW)=G:=by simp_all[dv]
   have Y7:([AV.I Y 5,bL (S.length+1) 0 1 (sK v.aG),bL (S.length+1) 1 3 (DP v.ar)].map aW).map aW=[AV.I Y 5,bL (S.length+1) 0 1 (sK v.aG),bL (S.length+1) 1 3 (DP v.ar)].map aW:=by simp_all
   have t:=zu 5 (eV 1 (sK v.aG)) (eV 3 (DP v.ar)) v.aG v.ar (Lg _) (SE _);rw[ev]at t;have n:=I (((r.go 1).go (cF v.aG.length).length).go (bJ.eH v.aG v.ar).length) g [AV.I Y 5,bL (S.length+1) 0 1 (sK v.aG),bL (S.length+1) 1 3 (DP v.ar)] (sb5 (S.length+1) v.aG v.ar) v (by simp_all);have l:=er (sb5 (S.length+1) v.aG v.ar) R3;have p:=E g (((r.go 1).go (cF v.aG.length).length).go (bJ.eH v.aG v.ar).length) _ (iF v.aG.length v.ar.length) rfl NI;have q:=la (((r.go 1).go (cF v.aG.length).length).go (bJ.eH v.aG v.ar).length) (.M [.I Y 0,.aw,.aw] [] O) [.I Y 5,bL (S.length+1) 0 1 (sK v.aG),bL (S.length+1) 1 3 (DP v.ar)] (iF v.aG.length v.ar.length) rfl;have e:=lz (((r.go 1).go (cF v.aG.length).length).go (bJ.eH v.aG v.ar).length) _ (sb5 (S.length+1) v.aG v.ar) rfl Y7;rw[<-hvb]at q p;simp only[y]at p q e n;have v00:sb5 (S.length+1) [] []=Ch 5:=rfl;rw[k]at A T c;rw[eb];simp[v00]at c2 lp l p q e n;simp[d0,A,T,fk,P,c,b0,l0,c2];rw[ab oR];simp[lp,l,b0,q,p,e,n]
   grind
  ·have⟨hw0,hp1⟩:=a.k6 k
   have⟨x,hx⟩:=EE.1 hp1;have ev:bJ.mk 6 [] [x]=v:=bJ.tO k hw0 hx;have eb:v.bytes=[cq v.ak.toNat]++x.bytes:=by simp_all[bJ.gA]
   have s:rJ (r.go 1) (x.bytes++u):=by simp_all
   have c2:=ih x (hv.all x (by grind)) (a.all x (by grind)) V _ j (r.go 1) u (sg (r.go 1) (Ch 6)) s;rw[ss]at c2;have R2:=s.go;have hm:(iZ S j ((r.go 1).go x.bytes.length) (.M [.I Y 0,.aw,.aw] [] O) (Ch 6))[S.length+1]? =J (.M [.I Y 6,.aw,bL (S.length+1) 0 3 []] [] O):=pX ..;have⟨v3,t3,S3,t4,p1,p2⟩:=arZ (sz:=3) (es:=[]) (x:=x.aq) (o:=2) [] 0 hm (λ_=>rfl) (λh=>absurd rfl h) bW bW (GQ [x]);rw[qQ]at p2;have ra0:bL (S.length+1) 0 3 []=.aw:=rfl;rw[ra0]at p1;have hvb:cZ.M (aM [.I Y 6,.aw,.aw] 2 [bL (S.length+1) 0 3 ([]++[x.aq])]) ([]++[J 1]) O=.M [.I Y 6,.aw,bL (S.length+1) 0 3 (DP [x])] [J 1] O:=rfl;have hp2:∀nb,bd t3 nb S3 1 (.P (S.length+1) 2) v3=J (t4,iZ S j ((r.go 1).go x.bytes.length) (.M [.I Y 0,.aw,.aw] [] O) (.M [.I Y 6,.aw,bL (S.length+1) 0 3 (DP [x])] [J 1] O)):=λnb=>by simp_all
   have y:[AV.I Y 6,.aw,bL (S.length+1) 0 3 (DP [x])].map aW=[.I Y 6,.aw,eV 3 (DP [x])]:=by rfl
   have q2:=pK (sz:=3) (GQ [x]);have NI:dv ([AV.I Y 6,.aw,bL (S.length+1) 0 3 (DP [x])].map aW)=G:=by rw[y];simp[dv,br,q2.2]
   have Y7:([AV.I Y 6,.aw,bL (S.length+1) 0 3 (DP [x])].map aW).map aW=[AV.I Y 6,.aw,bL (S.length+1) 0 3 (DP [x])].map aW:=by rfl
   have t:=zu 6 .aw (eV 3 (DP [x])) [] [x] rfl (SE _);rw[ev]at t;have n:=I ((r.go 1).go x.bytes.length) t4 [AV.I Y 6,.aw,bL (S.length+1) 0 3 (DP [x])] (.M [.I Y 6,.aw,bL (S.length+1) 0 3 (DP [x])] [J 1] O) v (by trivial);have l:=er (.M [.I Y 6,.aw,bL (S.length+1) 0 3 (DP [x])] [J 1] O) R2;have p:=E t4 ((r.go 1).go x.bytes.length) _ [J 1] rfl NI;have q:=la ((r.go 1).go x.bytes.length) (.M [.I Y 0,.aw,.aw] [] O) [.I Y 6,.aw,bL (S.length+1) 0 3 (DP [x])] [J 1] rfl;have e:=lz ((r.go 1).go x.bytes.length) _ (.M [.I Y 6,.aw,bL (S.length+1) 0 3 (DP [x])] [J 1] O) rfl Y7;simp only[y]at p q e n;have ld2:∀f,aX (iZ S j f (.M [.I Y 0,.aw,.aw] [] O) (Ch 6)) .C (.P (S.length+1) 2)=J .aw:=λf=>nY ..;have bo:fg 3 [[.I Y 0,.aw,.aw]] [(0,.A x.aq)]=J [x.aq]:=by have:=(bJ.ji x).jh;simp[fg,aW,AV.cells,aU]
   have bz:fg 3 [[.I Y 0,.aw,.aw]] [(0,.A [.I Y 0,.aw,.aw])]=J [[.I Y 0,.aw,.aw]]:=rfl;rw[k]at A T c;rw[eb];generalize bL (S.length+1) 0 3 (DP [x])=row at*;simp at c2 l p q e n p1 hp2;simp[d0,hd1,A,T,fk,P,c,b0,l0,ld2,c2,fW,bo,bz,p1,hp2,l,q,p,e,n]
   grind
def SG{S:Z}{j:Nat}{r:Rd}{u:B}(v:bJ)(i:v.Wf)(h:v.bw 5=G)(d:S[j]? =J (fT j r))(f:rJ r (v.bytes++u)):
 W N X 183 [.P j 0] S=J (.A v.aq,S.set j (fT j (r.go v.bytes.length))):=by
 have e:=aef 5 v i h V (S++[.M [.I Y 0,.aw,.aw] [] O]) j r u (dH _ d) f;rw[ij _ ((lU.1 d).1)]at e;have c:(S.set j (fT j (r.go v.bytes.length))).length=S.length:=bW;have m:=Ax c (bJ.ji v).br [.M [.I Y 0,.aw,.aw] [] O] 0 [] S.length 3;have l:aX (S.set j (fT j (r.go v.bytes.length))++[.M v.aq [] O]) (.A 3) (.P S.length 0)=J (.A v.aq):=by rw[lT0 c];simp
 have k:∀b a,(S.set j b++a).take S.length=S.set j b:=λb a=>by simp
 have g:aM [.I Y 0,.aw,.aw] 0 v.aq=v.aq:=dT bW;rw[js axT];simp_all
section
def XM{S:Z}{j:Nat}{r:Rd}{s o u:B}(hS:S[j]? =J (fT j r))(d:fM s=G)(a:s≠o)(h:rJ r (aZ s++u)):
 W N X 180 [.P j 0,.S o] S=J (.S s,S.set j (fT j (r.go (aZ s).length))):=by
 have e:=ig d;have c:=nD s V (S.set j (fT j (r.go (aZ s).length)));rw[d]at c;simp[j7 axQ,JM hS V h,c,a,(λb=>oh bW:∀b,(S.set j b).take S.length=S.set j b),bU]
def Mm{S:Z}{j:Nat}{r:Rd}{u:B}(v:bu)(o:v.Wf)(h:v.bw 5=G)(hS:S[j]? =J (fT j r))(k:rJ r (v.bytes++u))(g:eS)(n:nk.sO g=M)(a:uk g=O)
 (l:∀T,W N X g [.A v.aq] T=J (.B G,T)):W N X 185 [.P j 0,.fn g [] []] S=J (.A v.aq,S.set j (fT j (r.go v.bytes.length))):=by
 have i:=JN v o h (dH [.M ah [] O] hS) k;rw[ij _ ((lU.1 hS).1)]at i;have c:(S.set j (fT j (r.go v.bytes.length))).length=S.length:=bW;have p:bd [] S.length (S.set j (fT j (r.go v.bytes.length))++[.M ah [] O,.M ah [] O]) 6 (.P (S.length+1) 0) (.A v.aq)=J ([],iZ S j (r.go v.bytes.length) (.M ah [] O) (.M v.aq [] O)):=by simp[My c (bu.ji v).br,(dT bW:aM ah 0 v.aq=v.aq),iZ]
 have e:bd [] S.length (iZ S j (r.go v.bytes.length) (.M ah [] O) (.M v.aq [] O)) 6 (.P S.length 0) (.A v.aq)=J ([],iZ S j (r.go v.bytes.length) (.M v.aq [] O) (.M v.aq [] O)):=by unfold iZ;simp[Ax c (bu.ji v).br]
 have f:∀d z b,(iZ S j d z b).take S.length=S.set j (fT j d):=λd z b=>by grind [iZ]
 rw[j7 aod];simp[i,p,zY (sv hS (r.go v.bytes.length) (.M ah [] O) (.M v.aq [] O)) k.go,(rfl:dX .eql (.kO fX) G .c_ .c_=J (.B G)),(by rw[nY];simp:aX (iZ S j (r.go v.bytes.length) (.M ah [] false) (.M v.aq [] false)) (.A 6) (.P (S.length+1) 0)=some (.A v.aq)),n,a,l,bU,e,(by unfold iZ;rw[lT0 c];simp:aX (iZ S j (r.go v.bytes.length) (.M v.aq [] false) (.M v.aq [] false)) (.A 6) (.P S.length 0)=some (.A v.aq)),f]
def Gf{S:Z}{j m:Nat}{r:Rd}{u:B}(v:bu)(o:v.Wf)(h:v.bw 5=G)(hS:S[j]? =J (fT j r))(l:rJ r (v.bytes++u))(g:eS)(n:nk.sO g=M)(a:uk g=O)
 (k:W N X g [.A v.aq,.P m 0] (iZ S j (r.go v.bytes.length) (.M ah [] O) (.M v.aq [] O))=J (.B G,iZ S j (r.go v.bytes.length) (.M ah [] O) (.M v.aq [] O))):
 W N X 185 [.P j 0,.fn g [] [.P m 0]] S=J (.A v.aq,S.set j (fT j (r.go v.bytes.length))):=by
 have i:=JN v o h (dH [.M ah [] O] hS) l;rw[ij _ ((lU.1 hS).1)]at i;have c:(S.set j (fT j (r.go v.bytes.length))).length=S.length:=bW;have p:bd [] S.length (S.set j (fT j (r.go v.bytes.length))++[.M ah [] O,.M ah [] O]) 6 (.P (S.length+1) 0) (.A v.aq)=J ([],iZ S j (r.go v.bytes.length) (.M ah [] O) (.M v.aq [] O)):=by simp[My c (bu.ji v).br,(dT bW:aM ah 0 v.aq=v.aq),iZ]
 have e:bd [] S.length (iZ S j (r.go v.bytes.length) (.M ah [] O) (.M v.aq [] O)) 6 (.P S.length 0) (.A v.aq)=J ([],iZ S j (r.go v.bytes.length) (.M v.aq [] O) (.M v.aq [] O)):=by unfold iZ;simp[Ax c (bu.ji v).br]
 have f:∀d z b,(iZ S j d z b).take S.length=S.set j (fT j d):=λd z b=>by grind [iZ]
 rw[j7 aod];simp at k;simp[i,p,zY (sv hS (r.go v.bytes.length) (.M ah [] O) (.M v.aq [] O)) l.go,(rfl:dX .eql (.kO fX) G .c_ .c_=J (.B G)),(by rw[nY];simp:aX (iZ S j (r.go v.bytes.length) (.M ah [] false) (.M v.aq [] false)) (.A 6) (.P (S.length+1) 0)=some (.A v.aq)),n,a,k,bU,e,(by unfold iZ;rw[lT0 c];simp:aX (iZ S j (r.go v.bytes.length) (.M v.aq [] false) (.M v.aq [] false)) (.A 6) (.P S.length 0)=some (.A v.aq)),f]
def lV(k:Int)(a b:B)(ts xs ys:F)(pr ir:Q):F:=[.I Y k,.S a,.S b]++(ts++(xs++(ys++[pr,ir])))
theorem pE{k:Int}{a b:B}{c xs ys:F}{pr ir:Q}(d:c.length=3)(e:xs.length=6)(f:ys.length=6):(lV k a b c xs ys pr ir).length=20:=by simp[lV,d,e,f]
def aoE{k:Int}{a b:B}{d xs ys:F}{pr ir:Q}(e:d.length=3)(f:d.map aW=d):dx (.A 3) (lV k a b d xs ys pr ir) 3=J (.A d):=
 lD (a:=[.I Y k,.S a,.S b]) (b:=d) (c:=xs++(ys++[pr,ir])) rfl rfl e f
def aAl{k:Int}{a b:B}{c xs ys:F}{pr ir:Q}(d:c.length=3)(e:xs.length=6)(f:ys.length=6):(lV k a b c xs ys pr ir)[18]? =J pr:=by simp_all[lV]
theorem me{l a b c b':F}{off:Nat}(f:l=a++(b++c))(d:a.length=off)(e:b'.length=b.length):aM l off b'=a++(b'++c):=by grind [aM]
def ar0{k:Int}{a b:B}{e xs ys:F}{pr d ir:Q}(f:e.length=3)(g:xs.length=6)(h:ys.length=6):aM (lV k a b e xs ys pr ir) 18 [d]=lV k a b e xs ys d ir:=by exact(me (l:=lV k a b e xs ys pr ir) (off:=18) (b':=[d]) (a:=[.I Y k,.S a,.S b]++(e++(xs++ys))) (b:=[pr]) (c:=[ir]) (by simp[lV]) (by simp_all) rfl).trans (by simp[lV])
def ar1{k:Int}{a b:B}{e xs ys:F}{pr ir d:Q}(f:e.length=3)(g:xs.length=6)(h:ys.length=6):aM (lV k a b e xs ys pr ir) 19 [d]=lV k a b e xs ys pr d:=by exact(me (l:=lV k a b e xs ys pr ir) (off:=19) (b':=[d]) (a:=[.I Y k,.S a,.S b]++(e++(xs++(ys++[pr])))) (b:=[ir]) (c:=[]) (by simp[lV]) (by simp_all) rfl).trans (by simp[lV])
def ajm{k:Int}{a b:B}{e d xs ys:F}{pr ir:Q}(g:e.length=3)(f:d.length=3):aM (lV k a b e xs ys pr ir) 3 d=lV k a b d xs ys pr ir:=by exact(me (l:=lV k a b e xs ys pr ir) (off:=3) (b':=d) (a:=[.I Y k,.S a,.S b]) (b:=e) (c:=xs++(ys++[pr,ir])) rfl rfl V).trans rfl
def ajn{k:Int}{a b:B}{e xs d ys:F}{pr ir:Q}(f:e.length=3)(h:xs.length=6)(g:d.length=6):aM (lV k a b e xs ys pr ir) 6 d=lV k a b e d ys pr ir:=by exact(me (l:=lV k a b e xs ys pr ir) (off:=6) (b':=d) (a:=[.I Y k,.S a,.S b]++e) (b:=xs) (c:=ys++[pr,ir]) rfl (by simp[f]) V).trans rfl
def ar2{k:Int}{a b:B}{e xs ys d:F}{pr ir:Q}(g:e.length=3)(h:xs.length=6)(i:ys.length=6)(f:d.length=6):aM (lV k a b e xs ys pr ir) 12 d=lV k a b e xs d pr ir:=by exact(me (l:=lV k a b e xs ys pr ir) (off:=12) (b':=d) (a:=[.I Y k,.S a,.S b]++(e++xs)) (b:=ys) (c:=[pr,ir]) (by simp[lV]) (by grind) V).trans (by simp[lV])
def JP(S:Z)(j m:Nat)(r:Rd)(b:cZ)(G:List cZ):Z:=(S.set j (fT j r)).set m b++G
section
variable{S:Z}{j m:Nat}{r:Rd}(hS:S[j]? =J (fT j r))(hm:m<S.length)(hjm:j≠m)
include hS hjm in
theorem Nq(c:Rd)(b:cZ)(a:List cZ):(JP S j m c b a)[j]? =J (fT j c):=by
 refine dH a ?_
 grind
include hS hjm in
theorem U5(d c:Rd)(b:cZ)(a:List cZ):(JP S j m d b a).set j (fT j c)=JP S j m c b a:=by grind [JP,List.set_comm,List.set_set]
include hm in
theorem ajo(c:Rd)(b:cZ)(a:List cZ):(JP S j m c b a)[m]? =J b:=dH a (RN (by simp_all))
include hm in
theorem ajp(d:Rd)(b c:cZ)(a:List cZ):(JP S j m d b a).set m c=JP S j m d c a:=by grind [JP,List.set_set]
end
def amQ(S:Z)(j m:Nat)(r:Rd)(b:cZ)(a c:List cZ):JP S j m r b a++c=JP S j m r b (a++c):=sD ..
def Lj(l:List fH):jV:=l.map fH.aq
def acu(a:List fH)(x:fH):Lj (a++[x])=Lj a++[x.aq]:=by simp[Lj]
@[simp]theorem acv(a:List fH):(Lj a).length=a.length:=by simp[Lj]
def SH(l:List fH):eT (Lj l)=G:=kh.2 λx a=>by obtain⟨s,_,rfl⟩:=yF.1 a;exact df.br bW
def aeg(a:List fH):dF (eV 12 (Lj a))=qK a:=rS 12 _
def U6(n:Nat):bV:=if n=0 then[]else[J n]
def Bk{T:Z}{m:Nat}{k:Int}{a b:B}{t:bJ}{xs ys:F}{pr ir:Q}{bt:bV}{q:Bool}(hm:T[m]? =J (.M (lV k a b t.aq xs ys pr ir) bt q))(y:bu)(e:y.Wf)(d:t.Wf)(h:rB y t=G):
 W N X 181 [.A y.aq,.P m 0] T=J (.B G,T):=by
 have c:=Bc y t e d (T++[.M y.aq [] O]);rw[h]at c;have f:aX (T++[.M y.aq [] O]) (.A 3) (.P m 3)=J (.A t.aq):=by rw[bI (dH [.M y.aq [] O] hm)];exact aoE bW (bJ.ji t).jh
 simp[j7 axR,f,c]
def ajq{S:Z}{j m:Nat}{r:Rd}{u:B}(l:bS)(hl:l.J3)(hq:l.type.ak<=4)(hbk:jZ l.back=G)(hp8:l.bg.length<=8)(hpr:l.bg.all (vJ l.type)=G){k:Int}{a b:B}{xs ys:F}{ir:Q}(hx:xs.length=6)(hy:ys.length=6)
 (hS:S[j]? =J (fT j r)) (hm:S[m]? =J (.M (lV k a b l.type.aq xs ys .aw ir) [] O)) (hjm:j≠m) (hr:rJ r (l.back.bytes++(cF l.bg.length++(l.bg.flatMap ni++u)))):
 W N X 186 [.P j 0,.P m 0,.fn 181 [] [.P m 0]] S=J (.cQ [],JP S j m (r.go (l.back.bytes.length+((cF l.bg.length).length+(l.bg.flatMap ni).length))) (.M (lV k a b l.type.aq xs l.back.aq (bL m 0 12 (Lj l.bg)) ir) (U6 l.bg.length) O) []):=by
 have hj:j<S.length:=(lU.1 hS).1;have hml:m<S.length:=(lU.1 hm).1;have I:=hbk;unfold jZ at I;simp only[mv]at I;have ht3:l.type.aq.length=3:=bW;have c1:=Mm l.back hl.back I.1 hS hr 237 rfl rfl (λT=>by rw[wN l.back hl.back,hbk]);have hm1:(S.set j (fT j (r.go l.back.bytes.length)))[m]? =J (.M (lV k a b l.type.aq xs ys .aw ir) [] O):=by simp_all
 have st1:bd [] S.length (S.set j (fT j (r.go l.back.bytes.length))) 6 (.P m 12) (.A l.back.aq)=J ([],JP S j m (r.go l.back.bytes.length) (.M (lV k a b l.type.aq xs l.back.aq (bL m 0 12 (Lj [])) ir) (U6 0) O) []):=by rw[d_ (kU (bu.ji l.back)) hm1,if_pos ⟨by simp,by rw[pE ht3 hx hy];omega⟩];simp_all[ar2,JP,bL,Lj,U6]
 have R1:=hr.go;have c2:=ot (Nq hS hjm (r.go l.back.bytes.length) (.M (lV k a b l.type.aq xs l.back.aq (bL m 0 12 (Lj [])) ir) (U6 0) O) []) (n:=l.bg.length) V R1;rw[U5 hS hjm]at c2;have R2:=R1.go;have gi:∀d i(A:Rd)(s:bV)(e:List cZ),i+d=l.bg.length->rJ A ((l.bg.drop i).flatMap ni++u)->
  ∃w v,DC N X (.L FV) ⟨[(0,.P j 0),(1,.P m 0),(2,.fn 181 [] [.P m 0]),(6,.I U (l.bg.length:Int)),(7,.I U (i:Int))],s,S.length⟩ (JP S j m A (.M (lV k a b l.type.aq xs l.back.aq (bL m 0 12 (Lj (l.bg.take i))) ir) (U6 i) O) e)=
   J (.E 0,⟨[],w,S.length⟩,JP S j m (A.go ((l.bg.drop i).flatMap ni).length) (.M (lV k a b l.type.aq xs l.back.aq (bL m 0 12 (Lj l.bg)) ir) (U6 l.bg.length) O) v):=by
  intro d;induction d with
  |zero=>
   intro i A s e hi z;have ei:i=l.bg.length:=V;have e3:l.bg.drop i=[]:=jY V;refine⟨s,e, ?_⟩;simp[aj,aN pS,e3,(oh V:l.bg.take i=l.bg),ei,Rd.go]
  |succ d ih=>
   intro i A s e hi z;have h3:i<l.bg.length:=V;have⟨y,hy1,hy'⟩:=aT (l:=l.bg) (i:=i) V;have ym:=gS hy1;have hw:dr U ((i:Int)+1)=((i+1:Nat):Int):=by show((i:Int)+1)%2^64=_;omega
   have yp:=zG.1 hpr y ym;have yw:=hl.pair y ym;unfold vJ at yp;simp only[mv]at yp;have yx:=yp.1;unfold jZ at yx;simp only[mv]at yx;have yy:=qA yp.2;rw[bf hy1,Dt]at z⊢;unfold ni at z;rw[sD,sD]at z;have Q1:=z.go;have Q2:=Q1.go;have lP:(l.bg.take i).length=i:=by grind
   generalize hB:cZ.M (lV k a b l.type.aq xs l.back.aq (bL m 0 12 (Lj (l.bg.take i))) ir) (U6 i) O=c at*;have ce:=zY (Nq hS hjm A c e) z;have d1:=Mm y.x yw.1 yx.1 (Nq hS hjm A c e) z 237 rfl rfl (λT=>by rw[wN y.x yw.1,yp.1]);rw[U5 hS hjm]at d1;have P:∀p E v,(JP S j m p E v).length=S.length+v.length:=λp E v=>by simp[JP]
   have ap:∀p E v f,JP S j m p E v++[f]=JP S j m p E (v++[f]):=λ_ _ _ _=>amQ ..;have hsp:aM ah 0 y.x.aq=y.x.aq:=dT bW;have lx:∀p E,aX (JP S j m p E (e++[.M y.x.aq [] O])) (.A 6) (.P (S.length+e.length) 0)=J (.A y.x.aq):=λp E=>by simp[<-ap,<-P p E e,U7]
   have hB2:∀p v,(JP S j m p c v)[m]? =J (.M (lV k a b l.type.aq xs l.back.aq (bL m 0 12 (Lj (l.bg.take i))) ir) (U6 i) O):=λp v=>by rw[ajo hml,hB]
   have l18:∀p v,aX (JP S j m p c v) .C (.P m 18)=J (bL m 0 12 (Lj (l.bg.take i))):=λp v=>by rw[bI (hB2 p v),kS,aAl ht3 hx bW]
   have d2:=Gf (m:=m) y.y yw.2 yy.1 (Nq hS hjm (A.go y.x.bytes.length) c (e++[.M y.x.aq [] O])) Q1 181 rfl rfl (by
    refine Bk (k:=k) (a:=a) (b:=b) (t:=l.type) (xs:=xs) (ys:=l.back.aq) (pr:=bL m 0 12 (Lj (l.bg.take i))) (ir:=ir) (bt:=U6 i) (q:=O) ?_ y.y yw.2 hl.type yp.2
    grind [iZ])
   rw[U5 hS hjm]at d2
   have⟨v1,t1,S1,t2,a1,a2⟩:=arZ (sz:=12) (es:=Lj (l.bg.take i)) (x:=y.aq) (o:=18) s 0 (hB2 ((A.go y.x.bytes.length).go y.y.bytes.length) (e++[.M y.x.aq [] O])) (λh=>by
    have:l.bg.take i=[]:=by simpa[Lj]using h
    have:i=0:=by simp_all
    rw[this];rfl) (λh=>by
    grind [U6,acv]) (by simp;omega) (by rw[pE ht3 hx bW];omega) (by rw[<-acu];exact SH _)
   rw[ajp hml,ar0 ht3 hx bW,<-acu]at a2;have eu:(if Lj (l.bg.take i)=[]then U6 i++[J 1]else(U6 i).set 0 (J ((Lj (l.bg.take i)).length+1)))=U6 (i+1):=by grind [acv,U6]
   rw[eu,<-(by rw[vH,hy1];rfl:l.bg.take (i+1)=l.bg.take i++[y])]at a2;have⟨w,v,n1⟩:=ih (i+1) ((A.go y.x.bytes.length).go y.y.bytes.length) t2 (e++[.M y.x.aq [] O]) V Q2;refine⟨w,v, ?_⟩;have es:(A.go y.x.bytes.length).go y.y.bytes.length=A.go (y.x.bytes.length+y.y.bytes.length):=bW;rw[(by simp[Rd.go,ni,Di]:A.go (ni y++(l.bg.drop (i+1)).flatMap ni).length=(A.go (y.x.bytes.length+y.y.bytes.length)).go ((l.bg.drop (i+1)).flatMap ni).length)];have st:∀p,bd s S.length (JP S j m p c (e++[.M ah [] O])) 6 (.P (S.length+e.length) 0) (.A y.x.aq)=J (s,JP S j m p c (e++[.M y.x.aq [] O])):=λp=>by rw[<-ap,<-ap,<-P p c e,uI (kU (bu.ji y.x))];simp
   have pe:dj oO [(0,6,.A y.x.aq),(6,6,.A y.y.aq)]=J y.aq:=by simp_all[aM,fH.aq,dj]
   have bo:fg 12 [oO] [(0,.A y.aq)]=J [y.aq]:=by simp_all[fg]
   simp only[es]at a1 a2 n1;rw[aj,aN pS];simp only[es]at d2;have ld:=P;simp[-List.length_flatMap]at hw n1 bo pe;simp[h3,ce,(rfl:dX .eql (.kO fX) G .c_ .c_=J (.B G)),d1,ap,ld,st,g9,l18,lx,d2,pe,bo,a1,a2, -List.length_flatMap];rw[ab pS];simp[hw,n1, -List.length_flatMap]
 have⟨w,v,g⟩:=gi l.bg.length 0 _ [] [] V R2;simp only[List.take_zero,tR]at g;have tk:∀p E,(JP S j m p E v).take S.length=JP S j m p E []:=λp E=>by grind [JP]
 rw[(by simp[Rd.go,Di]:((r.go l.back.bytes.length).go (cF l.bg.length).length).go (l.bg.flatMap ni).length=r.go (l.back.bytes.length+((cF l.bg.length).length+(l.bg.flatMap ni).length)))]at g;rw[LR axV];simp at c1 c2;simp[-List.length_flatMap]at g;simp[c1,g9,st1,c2,(eq_false V:((8:Int)<(l.bg.length:Int))=False), -List.length_flatMap];rw[ab pS];simp[g,tk,ds,aO,ck,aF, -List.length_flatMap]
end
@[simp high]def aB6(x:UInt64):bU .xor (C x)=J (C (~~~x)):=by
  show J (AV.I U (dr U ((gL 64 (18446744073709551615:Int)^^^gL 64 (x.toNat:Int)).toNat:Int)))=J (.I U (((~~~x).toNat:Nat):Int));have a:gL 64 (x.toNat:Int)=x.toBitVec:=by apply BitVec.eq_of_toNat_eq;rw[Yh,iY x.toNat_lt];rfl
  rw[(fV:gL 64 (18446744073709551615:Int)=BitVec.allOnes 64),(BitVec.allOnes_xor:(BitVec.allOnes 64^^^gL 64 (x.toNat:Int))= ~~~(gL 64 (x.toNat:Int))),a,G7,iY (BitVec.isLt _)];rfl
def XP(n:Nat)(h:n<72057594037927936):K .shl (.I U (n:Int)) (.I U 8)=J (.I U ((n*256:Nat):Int)):=by
 show(if(8:Int)<0 then M else J (AV.I U (dr U ((n:Int)*2^(min (8:Int).toNat 64)))))=_;have:(n:Int)*2^8=((n*256:Nat):Int):=by rfl
 rw[if_neg fV,(fV:min (8:Int).toNat 64=8),this,G7,iY V]
def acy(n:Nat)(y:UInt8)(h:n<72057594037927936):K .or (.I U ((n*256:Nat):Int)) (.I U (y.toNat:Int))=J (.I U ((n*256+y.toNat:Nat):Int)):=by
 have c:=y.toNat_lt;have a:n*256+y.toNat<2^64:=V;have b:n*256|||y.toNat=n*256+y.toNat:=by have:=amZ n y;rwa [zP]at this
 show J (AV.I U (dr U ((gL 64 ((n*256:Nat):Int)|||gL 64 (y.toNat:Int)).toNat:Int)))=_;rw[TC,Yh,Yh,iY (RT (Nat.le_add_right _ _) a),iY (RT (Nat.le_add_left _ _) a),G7,b,iY a]
def Lq(r:ia)(b:B)(w:b.length<=8)(nb:Nat)(S:Z):∀d i n,i+d=b.length->n<256^i->
 DC N X (.L AF) ⟨[(3,.I U (n:Nat)),(6,.sl r 1 (Hv b)),(7,.I Y (b.length:Int)),(8,.I Y (i:Nat))],[],nb⟩ S=
  J (.E 0,⟨[(3,.I U ((Yi n (b.drop i):Nat):Int))],[],nb⟩,S):=by
 intro d;induction d with
 |zero=>
  simp_all[aj,nm,Yi]
 |succ d u=>
  intro i n x m;have⟨y,t,g⟩:=aT (l:=b) (i:=i) V;have o:=aQ (i:=i) V;have z:=y.toNat_lt;have q:(256:Nat)^i<=256^7:=Av V V;have nb:=uu m q;have e:n*256+y.toNat<256^(i+1):=V;have h:=XP n nb;have f:=acy n y nb;have p:=u (i+1) (n*256+y.toNat) V e;rw[aj,aN nm,bf t,Yi];obtain⟨A,j⟩:∃A:Int,A=((n*256+y.toNat:Nat):Int):=⟨_,rfl⟩;obtain⟨c,k⟩:∃c:Int,c=((n*256:Nat):Int):=⟨_,rfl⟩;rw[<-j]at p f;rw[<-k]at h f;clear j k e m q nb;simp at p o;have s:∀a b,K .add (.I Y a) (.I Y b)=J (.I Y (dr Y (a+b))):=λ_ _=>rfl;have v:∀a b,K .lss (.I Y a) (.I Y b)=J (.B (b_ (a<b))):=λ_ _=>rfl;simp[(V:i<b.length),g,bn, -K, -nT,h,f,Z8 y,s,v,o];rw[ab nm];trivial
def Lr(r:ia)(b:B)(a:b.length<=8)(S:Z):W N X 220 [.sl r 1 (Hv b)] S=J (.I U ((Yi 0 b:Nat):Int),S):=by have h:=Lq r b a S.length S b.length 0 0 V bW;rw[js ayb];simp at h;simp;rw[ab nm];simp[h]
def QW(w:List UInt64)(i:Nat):UInt64:=
 w.getD (i -16) 0+(jd (w.getD (i -15) 0) 1^^^jd (w.getD (i -15) 0) 8^^^cf (w.getD (i -15) 0) 7)+w.getD (i -7) 0+(jd (w.getD (i -2) 0) 19^^^jd (w.getD (i -2) 0) 61^^^cf (w.getD (i -2) 0) 6)
def xZ(b:B)(i:Nat):UInt64:=UInt64.ofNat (Yi 0 ((b.take (8*i+8)).drop (8*i)))
def oe(b:B):Nat->List UInt64
 |0=>[]
 |i+1=>oe b i++[if i<16 then xZ b i else QW (oe b i) i]
structure W8 where
 a:UInt64
 b:UInt64
 c:UInt64
 d:UInt64
 e:UInt64
 f:UInt64
 g:UInt64
 h:UInt64
def W8.t(v:W8)(k w:UInt64):UInt64:=v.h+(jd v.e 14^^^jd v.e 18^^^jd v.e 41)+(v.e&&&v.f^^^ ~~~v.e&&&v.g)+k+w
def W8.u(v:W8):UInt64:=(jd v.a 28^^^jd v.a 34^^^jd v.a 39)+(v.a&&&v.b^^^v.a&&&v.c^^^v.b&&&v.c)
def W8.round(v:W8)(k w:UInt64):W8:=⟨v.t k w+v.u,v.a,v.b,v.c,v.d+v.t k w,v.e,v.f,v.g⟩
def W8.rounds(v:W8)(ks ws:List UInt64):Nat->W8
 |0=>v
 |i+1=>(v.rounds ks ws i).round (ks.getD i 0) (ws.getD i 0)
def W8.add(s v:W8):W8:=⟨s.a+v.a,s.b+v.b,s.c+v.c,s.d+v.d,s.e+v.e,s.f+v.f,s.g+v.g,s.h+v.h⟩
def W8.rL(s:W8)(ks:List UInt64)(b:B):W8:=s.add (s.rounds ks (oe b 80) 80)
def p5:W8:=⟨7640891576956012808,13503953896175478587,4354685564936845355,11912009170470909681,5840696475078001361,11170449401992604703,2270897969802886507,6620516959819538809⟩
def iC:List UInt64:=[4794697086780616226,8158064640168781261,13096744586834688815,16840607885511220156,4131703408338449720,6480981068601479193,10538285296894168987,12329834152419229976,15566598209576043074,1334009975649890238,2608012711638119052,6128411473006802146,8268148722764581231,9286055187155687089,11230858885718282805,13951009754708518548,16472876342353939154,17275323862435702243,1135362057144423861,2597628984639134821,3308224258029322869,5365058923640841347,6679025012923562964,8573033837759648693,10970295158949994411,12119686244451234320,12683024718118986047,13788192230050041572,14330467153632333762,15395433587784984357,489312712824947311,1452737877330783856,2861767655752347644,3322285676063803686,5560940570517711597,5996557281743188959,7280758554555802590,8532644243296465576,9350256976987008742,10552545826968843579,11727347734174303076,12113106623233404929,14000437183269869457,14369950271660146224,15101387698204529176,15463397548674623760,17586052441742319658,1182934255886127544,1847814050463011016,2177327727835720531,2830643537854262169,3796741975233480872,4115178125766777443,5681478168544905931,6601373596472566643,7507060721942968483,8399075790359081724,8693463985226723168,9568029438360202098,10144078919501101548,10430055236837252648,11840083180663258601,13761210420658862357,14299343276471374635,14566680578165727644,15097957966210449927,16922976911328602910,17689382322260857208,500013540394364858,748580250866718886,1242879168328830382,1977374033974150939,2944078676154940804,3659926193048069267,4368137639120453308,4836135668995329356,5532061633213252278,6448918945643986474,6902733635092675308,7801388544844847127]
def PW:Nat->W8->B->W8
 |0,v,_=>v
 |n+1,v,b=>PW n (v.rL iC b) (b.drop 128)
def W8.l(v:W8):List UInt64:=[v.a,v.b,v.c,v.d,v.e,v.f,v.g,v.h]
def W8.tv(v:W8):B:=v.l.flatMap λx=>D1 8 x.toNat
def dV(l:B):B:=(PW ((l++fS l.length).length/128) p5 (l++fS l.length)).tv
@[simp]def JS(b:B)(i:Nat):(oe b i).length=i:=by
  induction i with
  |zero=>rfl
  |succ i a=>simp[oe,a]
def Ad{l:List UInt64}{j:Nat}(h:j<l.length):l[j]? =J (l.getD j 0):=by simp_all
def QX(b:B)(i:Nat):F:=(oe b i).map C++fL (80 -i) (C 0)
def am0(b:B){i:Nat}(h:i<=80):(QX b i).length=80:=by simp[QX];omega
def Nt(b:B){i j:Nat}(h:j<i):(QX b i)[j]? =J (C ((oe b i).getD j 0)):=by simp_all[QX,En]
def acB(b:B){i:Nat}(h:i<80)(x:UInt64)(d:x=if i<16 then xZ b i else QW (oe b i) i):aM (QX b i) i [C x]=QX b (i+1):=by have e:80 -i=(80 -(i+1))+1:=V;have:=me (l:=QX b i) (off:=i) (b':=[C x]) (a:=(oe b i).map C) (b:=[C 0]) (c:=fL (80 -(i+1)) (C 0)) (by grind [QX]) bW rfl;rw[this,d];unfold QX;simp[oe]
def U9:∀(b:B)(n k:Nat),n<256^k->Yi n b<256^(k+b.length)
 |[],n,k,h=>by trivial
 |c::r,n,k,h=>by
  have a:=c.toNat_lt;have:=U9 r (n*256+c.toNat) (k+1) V
  grind [Yi]
def SK(S:Z)(s z w:F):Z:=S++[.M s [] O,.M z [] O,.M w [] O]
def XW(S:Z)(s z w:F):(SK S s z w)[S.length+2]? =J (.M w [] O):=cl S _ 2
def ajz(S:Z)(s z w w':F):(SK S s z w).set (S.length+2) (.M w' [] O)=SK S s z w':=zN S _ 2 _
def Nu{S:Z}{s z w:F}{j:Nat}{v:Q}(h:w[j]? =J v):aX (SK S s z w) .C (.P (S.length+2) j)=J v:=by rw[bI (XW S s z w),kS,h]
def acC{S:Z}{s z w:F}{j:Nat}{x:UInt64}(h:j+1<=w.length)(ag:bV):bd ag S.length (SK S s z w) 1 (.P (S.length+2) j) (C x)=J (ag,SK S s z (aM w j [C x])):=by rw[d_ (Jg x).Ks (XW ..),ajz,if_pos ⟨rfl,h⟩];rfl
def Bm(n m i:Nat)(h:i<n)(k:IntKind):jG n 1 (.P m 0) (.I k (i:Int))=J (.P m i):=by simp_all
def XQ(i c:Nat)(h:c<=i)(a:i<1000):K .sub (.I Y (i:Int)) (.I Y (c:Int))=J (.I Y ((i -c:Nat):Int)):=by
 show J (AV.I Y (dr Y ((i:Int) -(c:Int))))=_;rw[cG V]
 grind
def ajA(b:B)(hb:128<=b.length)(S:Z)(m:Nat)(s z:F):∀d i,i+d=80->
 DC N X (.L uV) ⟨[(1,cV b),(2,.P m 0),(3,.P S.length 0),(6,.P (S.length+1) 0),(7,.P (S.length+2) 0),(18,.I Y (i:Nat))],[],S.length⟩ (SK S s z (QX b i))=
  J (.E 0,⟨[(2,.P m 0),(3,.P S.length 0),(6,.P (S.length+1) 0),(7,.P (S.length+2) 0)],[],S.length⟩,SK S s z (QX b 80)):=by
 have aI:∀a b,K .add (.I Y a) (.I Y b)=J (.I Y (dr Y (a+b))):=λ_ _=>rfl;have lI:∀a b,K .lss (.I Y a) (.I Y b)=J (.B (b_ (a<b))):=λ_ _=>rfl;intro d;induction d with
 |zero=>
  intro i hi;have e:i=80:=V;subst e;simp[aj,aN lG]
 |succ d ih=>
  intro i hi;have h3:i<80:=V;have k:(i:Int)<80:=V;have v:=aQ (i:=i) V;have E:=ih (i+1) V;have o:=Bm 80 (S.length+2) i h3 Y;have hlen:=am0 b (i:=i) V;by_cases h16:i<16
  ·have f:(i:Int)<16:=by omega
   have m1:K .mul (.I Y 8) (.I Y (i:Int))=J (.I Y ((8*i:Nat):Int)):=by show J (AV.I Y (dr Y (8*(i:Int))))=_;rw[cG V];congr 2
   have P:dr Y (((8*i:Nat):Int)+8)=((8*i+8:Nat):Int):=by rw[cG V];omega
   have ql:((b.take (8*i+8)).drop (8*i)).length=8:=by simp;omega
   have I:=K9 b (8*i) (8*i+8) V V;obtain⟨q,hq⟩:∃q,q=(b.take (8*i+8)).drop (8*i):=⟨_,rfl⟩;have wq:xZ b i=UInt64.ofNat (Yi 0 q):=by rw[hq];rfl
   rw[<-hq]at I ql;have e1:cV q=.sl .N 1 (Hv q):=by cases q<;>rfl
   have T:=Lr .N q V (SK S s z (QX b i));rw[<-e1]at T;have bl:=U9 q 0 0 bW;rw[ql]at bl;have cv:(AV.I U ((Yi 0 q:Nat):Int))=C (xZ b i):=by show AV.I U ((Yi 0 q:Nat):Int)=AV.I U (((xZ b i).toNat:Nat):Int);simp_all[iY]
   rw[cv]at T;have g:=acC (S:=S) (s:=s) (z:=z) (w:=QX b i) (j:=i) (x:=xZ b i) V [];rw[acB b h3 (xZ b i) (by simp_all)]at g;obtain⟨A,hA⟩:∃A:Int,A=((8*i:Nat):Int):=⟨_,rfl⟩;obtain⟨c,hB⟩:∃c:Int,c=((8*i+8:Nat):Int):=⟨_,rfl⟩;rw[<-hA]at m1 P I;rw[<-hB]at P I;rw[aj,aN lG];simp at E v;simp[k,f, -K, -nT, -jG,aI,lI,m1,P,I,T,o,g];rw[ab lG];simp[v,E, -K]
  ·have f:¬(i:Int)<16:=by omega
   have p:K .sub (.I Y (i:Int)) (.I Y 15)=_:=XQ i 15 V V;have s2:K .sub (.I Y (i:Int)) (.I Y 2)=_:=XQ i 2 V V;have r:K .sub (.I Y (i:Int)) (.I Y 16)=_:=XQ i 16 V V;have s7:K .sub (.I Y (i:Int)) (.I Y 7)=_:=XQ i 7 V V;have t:=Bm 80 (S.length+2) (i -15) V Y;have x2:=Bm 80 (S.length+2) (i -2) V Y;have u:=Bm 80 (S.length+2) (i -16) V Y;have x7:=Bm 80 (S.length+2) (i -7) V Y;have l15:=Nu (S:=S) (s:=s) (z:=z) (Nt b (i:=i) (j:=i -15) V);have l2:=Nu (S:=S) (s:=s) (z:=z) (Nt b (i:=i) (j:=i -2) V);have l16:=Nu (S:=S) (s:=s) (z:=z) (Nt b (i:=i) (j:=i -16) V);have l7:=Nu (S:=S) (s:=s) (z:=z) (Nt b (i:=i) (j:=i -7) V);have g:=λx(h:True)=>acC (S:=S) (s:=s) (z:=z) (w:=QX b i) (j:=i) (x:=x) V [];have g:=g (QW (oe b i) i) trivial;rw[acB b h3 (QW (oe b i) i) (by grind)]at g;unfold QW at g;generalize hx:(oe b i).getD (i -15) 0=x at*;generalize hy:(oe b i).getD (i -2) 0=y at*;generalize hx6:(oe b i).getD (i -16) 0=xg at*;generalize hx7:(oe b i).getD (i -7) 0=xh at*;have t7:W N X 221 [C x,.I Y 1] (SK S s z (QX b i))=_:=jK x 1 V V _;have t18:W N X 221 [C x,.I Y 8] (SK S s z (QX b i))=_:=jK x 8 V V _;have t17:W N X 221 [C y,.I Y 19] (SK S s z (QX b i))=_:=jK y 19 V V _;have t19:W N X 221 [C y,.I Y 61] (SK S s z (QX b i))=_:=jK y 61 V V _;have r7:K .shr (C x) (.I U 7)=J (C (cf x 7)):=zb x 7 V U;have r6:K .shr (C y) (.I U 6)=J (C (cf y 6)):=zb y 6 V U;obtain⟨A15,l⟩:∃A:Int,A=((i -15:Nat):Int):=⟨_,rfl⟩;obtain⟨A2,hA2⟩:∃A:Int,A=((i -2:Nat):Int):=⟨_,rfl⟩;obtain⟨A16,n⟩:∃A:Int,A=((i -16:Nat):Int):=⟨_,rfl⟩;obtain⟨A7,hA7⟩:∃A:Int,A=((i -7:Nat):Int):=⟨_,rfl⟩;rw[<-l]at p t;rw[<-hA2]at s2 x2;rw[<-n]at r u;rw[<-hA7]at s7 x7;rw[aj,aN lG];simp at E v;simp[k,f, -K, -nT, -jG,aI,lI,p,s2,r,s7,t,x2,u,x7,l15,l2,l16,l7,t7,t18,t17,t19,r7,r6,o,g];rw[ab lG];simp[v,E, -K]
def W8.aq(v:W8):F:=[C v.a,C v.b,C v.c,C v.d,C v.e,C v.f,C v.g,C v.h]
@[simp]def W8.len(v:W8):v.aq.length=8:=rfl
@[simp]def W8.ji(v:W8):df v.aq:=by simp[W8.aq]
def Ih(S:Z)(s z w v:F):Z:=S++[.M s [] O,.M z [] O,.M w [] O,.M v [] O]
def ajB(S:Z)(s z w v:F):(Ih S s z w v)[S.length+2]? =J (.M w [] O):=cl S _ 2
def PY(S:Z)(s z w v:F):(Ih S s z w v)[S.length+3]? =J (.M v [] O):=cl S _ 3
def XX(S:Z)(s z w v a:F):(Ih S s z w v).set (S.length+3) (.M a [] O)=Ih S s z w a:=zN S _ 3 _
def PZ(S:Z)(s z w v:F):(Ih S s z w v)[S.length]? =J (.M s [] O):=by have:=cl S [.M s [] O,.M z [] O,.M w [] O,.M v [] O] 0;trivial
def ajC(S:Z)(s a z w v:F):(Ih S s z w v).set S.length (.M a [] O)=Ih S a z w v:=by have:=zN S [.M s [] O,.M z [] O,.M w [] O,.M v [] O] 0 (.M a [] O);trivial
def ajD(S:Z)(s z a w v:F):(Ih S s z w v).set (S.length+1) (.M a [] O)=Ih S s a w v:=zN S _ 1 _
def XY(S:Z)(s z w v:F):(Ih S s z w v)[S.length+1]? =J (.M z [] O):=cl S _ 1
def ajE(S:Z)(s z w v:F):(Ih S s z w v).take S.length=S:=TD rfl
def ar9(cs:F)(off:Nat)(x:UInt64)(r:List (Nat × Nat × Q))(h:off+1<=cs.length):dj cs ((off,1,C x)::r)=dj (aM cs off [C x]) r:=by rw[dj,if_pos ⟨rfl,rfl,h⟩];rfl
def ar_(a b c d e f g h:UInt64):dj cO [(0,1,C a),(1,1,C b),(2,1,C c),(3,1,C d),(4,1,C e),(5,1,C f),(6,1,C g),(7,1,C h)]=J [C a,C b,C c,C d,C e,C f,C g,C h]:=by simp[ar9,aM];rfl
set_option maxHeartbeats 1000000 in
def ajF(S:Z)(m:Nat)(l h:List UInt64)(hk:l.length=80)(hws:h.length=80)(bt:bV)(q:Bool)(hm:S[m]? =J (.M (l.map C) bt q))(s z:F)(v:W8):∀d i,i+d=80->
 DC N X (.L uW) ⟨[(2,.P m 0),(3,.P S.length 0),(6,.P (S.length+1) 0),(7,.P (S.length+2) 0),(11,.P (S.length+3) 0),(72,.I Y (i:Nat))],[],S.length⟩ (Ih S s z (h.map C) (v.rounds l h i).aq)=
  J (.E 2,⟨[(3,.P S.length 0),(6,.P (S.length+1) 0),(11,.P (S.length+3) 0)],[],S.length⟩,Ih S s z (h.map C) (v.rounds l h 80).aq):=by
 have aI:∀a b,K .add (.I Y a) (.I Y b)=J (.I Y (dr Y (a+b))):=λ_ _=>rfl;have lI:∀a b,K .lss (.I Y a) (.I Y b)=J (.B (b_ (a<b))):=λ_ _=>rfl;intro d;induction d with
 |zero=>
  intro i hi;have e:i=80:=V;subst e;simp[aj,aN pB]
 |succ d ih=>
  intro i hi;have h3:i<80:=V;have E:(i:Int)<80:=V;have hw:=aQ (i:=i) V;have o:=ih (i+1) V;have er:v.rounds l h (i+1)=(v.rounds l h i).round (l.getD i 0) (h.getD i 0):=rfl;rw[er]at o;generalize v.rounds l h i=f,Ih S s z (h.map C) (v.rounds l h 80).aq=c at*;generalize t:Ih S s z (h.map C) f.aq=T at*;have I:=Bm 80 m i h3 Y;have P:=Bm 80 (S.length+2) i h3 Y;have lk:aX T .C (.P m i)=J (C (l.getD i 0)):=by
   have:T[m]? =J (.M (l.map C) bt q):=by rw[<-t];exact dH _ hm
   rw[bI this,kS,yU,Ad V];rfl
  have lw:aX T .C (.P (S.length+2) i)=J (C (h.getD i 0)):=by
   have:T[S.length+2]? =J (.M (h.map C) [] O):=by rw[<-t];exact ajB ..
   rw[bI this,kS,yU,Ad V];rfl
  generalize l.getD i 0=k,h.getD i 0=w at*;have n:T[S.length+3]? =J (.M f.aq [] O):=by rw[<-t];exact PY ..
  have lv0:aX T .C (.P (S.length+3) 0)=J (C f.a):=by rw[bI n];rfl
  have lv1:aX T .C (.P (S.length+3) 1)=J (C f.b):=by rw[bI n];rfl
  have lv2:aX T .C (.P (S.length+3) 2)=J (C f.c):=by rw[bI n];rfl
  have lv3:aX T .C (.P (S.length+3) 3)=J (C f.d):=by rw[bI n];rfl
  have lv4:aX T .C (.P (S.length+3) 4)=J (C f.e):=by rw[bI n];rfl
  have lv5:aX T .C (.P (S.length+3) 5)=J (C f.f):=by rw[bI n];rfl
  have lv6:aX T .C (.P (S.length+3) 6)=J (C f.g):=by rw[bI n];rfl
  have lv7:aX T .C (.P (S.length+3) 7)=J (C f.h):=by rw[bI n];rfl
  have g:∀j:Nat,j<8->jG 8 1 (.P (S.length+3) 0) (.I Y (j:Int))=J (.P (S.length+3) j):=λj hj=>Bm 8 (S.length+3) j hj Y;have x0:jG 8 1 (.P (S.length+3) 0) (.I Y 0)=J (.P (S.length+3) 0):=g 0 V;have x1:jG 8 1 (.P (S.length+3) 0) (.I Y 1)=J (.P (S.length+3) 1):=g 1 V;have x2:jG 8 1 (.P (S.length+3) 0) (.I Y 2)=J (.P (S.length+3) 2):=g 2 V;have x3:jG 8 1 (.P (S.length+3) 0) (.I Y 3)=J (.P (S.length+3) 3):=g 3 V;have x4:jG 8 1 (.P (S.length+3) 0) (.I Y 4)=J (.P (S.length+3) 4):=g 4 V;have x5:jG 8 1 (.P (S.length+3) 0) (.I Y 5)=J (.P (S.length+3) 5):=g 5 V;have x6:jG 8 1 (.P (S.length+3) 0) (.I Y 6)=J (.P (S.length+3) 6):=g 6 V;have x7:jG 8 1 (.P (S.length+3) 0) (.I Y 7)=J (.P (S.length+3) 7):=g 7 V;have e6:W N X 221 [C f.e,.I Y 14] T=_:=jK f.e 14 V V T;have y:W N X 221 [C f.e,.I Y 18] T=_:=jK f.e 18 V V T;have A:W N X 221 [C f.e,.I Y 41] T=_:=jK f.e 41 V V T;have a2:W N X 221 [C f.a,.I Y 28] T=_:=jK f.a 28 V V T;have u:W N X 221 [C f.a,.I Y 34] T=_:=jK f.a 34 V V T;have x:W N X 221 [C f.a,.I Y 39] T=_:=jK f.a 39 V V T;have p:∀r:W8,bd [] S.length T 8 (.P (S.length+3) 0) (.A r.aq)=J ([],Ih S s z (h.map C) r.aq):=λr=>by rw[d_ (kU r.ji) n,if_pos ⟨rfl,by simp⟩,<-t,XX];rfl
  have fw:=ar_ (f.t k w+f.u) f.a f.b f.c (f.d+f.t k w) f.e f.f f.g;have p:=p (f.round k w);unfold W8.aq at p o;unfold W8.round at p o;unfold W8.t W8.u at p fw o;rw[aj,aN pB];simp at o hw;simp[E, -K, -jG,aI,lI,x0,x1,x2,x3,x4,x5,x6,x7,lv0,lv1,lv2,lv3,lv4,lv5,lv6,lv7,e6,y,A,a2,u,x,I,P,lk,lw,fw,p];rw[ab pB];simp[hw,o, -K]
def Vm(s v:List UInt64)(i:Nat):List UInt64:=(List.zipWith (·+·) s v).take i++s.drop i
theorem am1{s v:List UInt64}(h:v.length=s.length){i:Nat}(a:i<=s.length):(Vm s v i).length=s.length:=by simp[Vm,h];omega
def am2{s v:List UInt64}(h:v.length=s.length){i:Nat}(a:i<s.length):(Vm s v i)[i]? =J (s.getD i 0):=by grind [Vm]
def am3{s v:List UInt64}(h:v.length=s.length){i:Nat}(a:i<s.length):aM ((Vm s v i).map C) i [C (s.getD i 0+v.getD i 0)]=(Vm s v (i+1)).map C:=by
 have b:((List.zipWith (·+·) s v).take i).length=i:=by grind
 have c:=bf (Ad a)
 grind [me,Vm,List.take_add_one]
def W8.aoG(v:W8):v.aq=v.l.map C:=rfl
def aAu(s v:W8):(Vm s.l v.l 8).map C=(s.add v).aq:=rfl
def aAv(s v:W8):(Vm s.l v.l 0).map C=s.aq:=rfl
def ajG(S:Z)(s v:List UInt64)(r:s.length=8)(t:v.length=8)(z w:F):∀d i,i+d=8->
 DC N X (.L uX) ⟨[(3,.P S.length 0),(6,.P (S.length+1) 0),(11,.P (S.length+3) 0),(156,.I Y (i:Nat))],[],S.length⟩ (Ih S ((Vm s v i).map C) z w (v.map C))=
  J (.E 4,⟨[(3,.P S.length 0),(6,.P (S.length+1) 0)],[],S.length⟩,Ih S ((Vm s v 8).map C) z w (v.map C)):=by
 have j:∀a b,K .add (.I Y a) (.I Y b)=J (.I Y (dr Y (a+b))):=λ_ _=>rfl;have m:∀a b,K .lss (.I Y a) (.I Y b)=J (.B (b_ (a<b))):=λ_ _=>rfl;intro d;induction d with
 |zero=>
  simp_all[aj,pC]
 |succ d k=>
  intro i q;have g:=aQ (i:=i) V;have h:=k (i+1) V;have l:aX (Ih S ((Vm s v i).map C) z w (v.map C)) .C (.P S.length i)=J (C (s.getD i 0)):=by rw[bI (PZ ..),kS,yU,am2 V V];rfl
  have f:aX (Ih S ((Vm s v i).map C) z w (v.map C)) .C (.P (S.length+3) i)=J (C (v.getD i 0)):=by rw[bI (PY ..),kS,yU,Ad V];rfl
  have n:bd [] S.length (Ih S ((Vm s v i).map C) z w (v.map C)) 1 (.P S.length i) (C (s.getD i 0+v.getD i 0))=J ([],Ih S ((Vm s v (i+1)).map C) z w (v.map C)):=by rw[d_ (Jg _).Ks (PZ ..),if_pos ⟨rfl,by grind [am1]⟩,ajC];rw[show(C (s.getD i 0+v.getD i 0)).cells=[C (s.getD i 0+v.getD i 0)]from rfl,am3 V V]
  generalize s.getD i 0=a,v.getD i 0=b,(Vm s v i).map C=c,(Vm s v (i+1)).map C=o,(Vm s v 8).map C=p,v.map C=e at*;rw[aj,aN pC];simp at h g;simp[(V:(i:Int)<8), -K, -jG,j,m,Bm 8 S.length i V Y,Bm 8 (S.length+3) i V Y,l,f,n];rw[ab pC];simp[g,h, -K]
def aLj:iE=fL 80 (C 0):=rfl
def MP(s:W8)(b:B)(t:128<=b.length)(m:Nat)(e:List UInt64)(u:e.length=80)(S:Z)(bt:bV)(q:Bool)(v:S[m]? =J (.M (e.map C) bt q)):
 W N X 156 [.A s.aq,cV b,.P m 0] S=J (.A (s.rL e b).aq,S):=by
 have f:=ajA b t S m s.aq cO 80 0 V;have p:QX b 0=iE:=by rfl
 rw[p,(by unfold QX;simp:QX b 80=(oe b 80).map C)]at f;have g:=ajF S m e (oe b 80) u bW bt q v s.aq cO s 80 0 V;have y:s.rounds e (oe b 80) 0=s:=rfl;rw[y]at g;have h:=ajG S s.l (s.rounds e (oe b 80) 80).l rfl rfl cO ((oe b 80).map C) 8 0 V;rw[aAv,aAu,<-W8.aoG]at h;have r:s.add (s.rounds e (oe b 80) 80)=s.rL e b:=rfl;rw[r]at h;generalize s.rounds e (oe b 80) 80=c,s.rL e b=a,(oe b 80).map C=d at*;have l:=s.ji;have i:=a.ji;have z:S++[cZ.M s.aq [] O,cZ.M cO [] O,cZ.M iE [] O]=SK S s.aq cO iE:=rfl;have j:aX (SK S s.aq cO d) (.A 8) (.P S.length 0)=J (.A s.aq):=by
  have:(SK S s.aq cO d)[S.length]? =J (.M s.aq [] O):=by have:=cl S [.M s.aq [] O,.M cO [] O,.M d [] O] 0;assumption
  rw[bI this,fR _ s.len,l.jh]
 have k:bd [] S.length (Ih S s.aq cO d cO) 8 (.P (S.length+3) 0) (.A s.aq)=J ([],Ih S s.aq cO d s.aq):=by rw[d_ (kU l) (PY ..),if_pos ⟨s.len,by decide⟩,XX,show(AV.A s.aq).cells=s.aq from rfl,dT bW]
 have w:∀c,aX (Ih S a.aq cO d c) (.A 8) (.P S.length 0)=J (.A a.aq):=λc=>by rw[bI (PZ ..),fR _ a.len,i.jh]
 have n:∀c,bd [] S.length (Ih S a.aq cO d c) 8 (.P (S.length+1) 0) (.A a.aq)=J ([],Ih S a.aq a.aq d c):=λc=>by rw[d_ (kU i) (XY ..),if_pos ⟨a.len,by decide⟩,ajD,show(AV.A a.aq).cells=a.aq from rfl,dT bW]
 have x:∀c,aX (Ih S a.aq a.aq d c) (.A 8) (.P (S.length+1) 0)=J (.A a.aq):=λc=>by rw[bI (XY ..),fR _ a.len,i.jh]
 have E:∀c,ds 156 [] [.A a.aq] S (Ih S a.aq a.aq d c)=J (.A a.aq,S):=λc=>by
  have A:cd (.A a.aq)=.A a.aq:=by rfl
  simp_all[ajE]
 rw[LR axB];generalize iE=o at*;simp at f g h;simp[z];rw[ab lG];simp[f,j,(by unfold SK Ih;simp:SK S s.aq cO d++[cZ.M cO [] false]=Ih S s.aq cO d cO),(by simp[SK]:(SK S s.aq cO d).length=S.length+3),k];rw[ab pB];simp[g];rw[ab pC];simp_all
def ajH:iC.length=80:=rfl
def SM(l:List UInt64):df (l.map C):=by induction l<;>simp_all
def JU(S:Z):W N X 154 [] S=J (.A p5.aq,S):=by
 have a:dj cO [(0,1,.I U 7640891576956012808),(1,1,.I U 13503953896175478587),(2,1,.I U 4354685564936845355),(3,1,.I U 11912009170470909681),(4,1,.I U 5840696475078001361),(5,1,.I U 11170449401992604703),(6,1,.I U 2270897969802886507),(7,1,.I U 6620516959819538809)]=J p5.aq:=by rfl
 have b:p5.aq.length=8:=rfl;have d:cd (.A p5.aq)=.A p5.aq:=by rfl
 have e:bd [] S.length (S++[.M cO [] O]) 8 (.P S.length 0) (.A p5.aq)=J ([],S++[.M p5.aq [] O]):=by rw[uI (kU p5.ji)];rfl
 have c:aX (S++[.M p5.aq [] O]) (.A 8) (.P S.length 0)=J (.A p5.aq):=by rw[ka];rfl
 rw[V9 axz];simp_all
def am4:dj iE [(0,1,.I U 4794697086780616226),(1,1,.I U 8158064640168781261),(2,1,.I U 13096744586834688815),(3,1,.I U 16840607885511220156),(4,1,.I U 4131703408338449720),(5,1,.I U 6480981068601479193),(6,1,.I U 10538285296894168987),(7,1,.I U 12329834152419229976),(8,1,.I U 15566598209576043074),(9,1,.I U 1334009975649890238),(10,1,.I U 2608012711638119052),(11,1,.I U 6128411473006802146),(12,1,.I U 8268148722764581231),(13,1,.I U 9286055187155687089),(14,1,.I U 11230858885718282805),(15,1,.I U 13951009754708518548),(16,1,.I U 16472876342353939154),(17,1,.I U 17275323862435702243),(18,1,.I U 1135362057144423861),(19,1,.I U 2597628984639134821),(20,1,.I U 3308224258029322869),(21,1,.I U 5365058923640841347),(22,1,.I U 6679025012923562964),(23,1,.I U 8573033837759648693),(24,1,.I U 10970295158949994411),(25,1,.I U 12119686244451234320),(26,1,.I U 12683024718118986047),(27,1,.I U 13788192230050041572),(28,1,.I U 14330467153632333762),(29,1,.I U 15395433587784984357),(30,1,.I U 489312712824947311),(31,1,.I U 1452737877330783856),(32,1,.I U 2861767655752347644),(33,1,.I U 3322285676063803686),(34,1,.I U 5560940570517711597),(35,1,.I U 5996557281743188959),(36,1,.I U 7280758554555802590),(37,1,.I U 8532644243296465576),(38,1,.I U 9350256976987008742),(39,1,.I U 10552545826968843579),(40,1,.I U 11727347734174303076),(41,1,.I U 12113106623233404929),(42,1,.I U 14000437183269869457),(43,1,.I U 14369950271660146224),(44,1,.I U 15101387698204529176),(45,1,.I U 15463397548674623760),(46,1,.I U 17586052441742319658),(47,1,.I U 1182934255886127544),(48,1,.I U 1847814050463011016),(49,1,.I U 2177327727835720531),(50,1,.I U 2830643537854262169),(51,1,.I U 3796741975233480872),(52,1,.I U 4115178125766777443),(53,1,.I U 5681478168544905931),(54,1,.I U 6601373596472566643),(55,1,.I U 7507060721942968483),(56,1,.I U 8399075790359081724),(57,1,.I U 8693463985226723168),(58,1,.I U 9568029438360202098),(59,1,.I U 10144078919501101548),(60,1,.I U 10430055236837252648),(61,1,.I U 11840083180663258601),(62,1,.I U 13761210420658862357),(63,1,.I U 14299343276471374635),(64,1,.I U 14566680578165727644),(65,1,.I U 15097957966210449927),(66,1,.I U 16922976911328602910),(67,1,.I U 17689382322260857208),(68,1,.I U 500013540394364858),(69,1,.I U 748580250866718886),(70,1,.I U 1242879168328830382),(71,1,.I U 1977374033974150939),(72,1,.I U 2944078676154940804),(73,1,.I U 3659926193048069267),(74,1,.I U 4368137639120453308),(75,1,.I U 4836135668995329356),(76,1,.I U 5532061633213252278),(77,1,.I U 6448918945643986474),(78,1,.I U 6902733635092675308),(79,1,.I U 7801388544844847127)]=J (iC.map C):=by kernel_rfl
def Ii(S:Z):W N X 155 [] S=J (.A (iC.map C),S):=by
 have b:=am4;have a:=SM iC;have c:(iC.map C).length=80:=rfl;have d:iE.length=80:=rfl;have f:cd (.A (iC.map C))=.A (iC.map C):=by rfl
 have g:bd [] S.length (S++[.M iE [] O]) 80 (.P S.length 0) (.A (iC.map C))=J ([],S++[.M (iC.map C) [] O]):=by simp_all
 have e:aX (S++[.M (iC.map C) [] O]) (.A 80) (.P S.length 0)=J (.A (iC.map C)):=by simp_all[fR]
 rw[V9 axA];simp_all
theorem AT:∀k n,(D1 k n).length=k
 |0,_=>rfl
 |k+1,n=>by simp[D1,AT k]
def cv8(n:Nat):nT L (.I U (n:Int))=J (.I L (((cq n).toNat:Nat):Int)):=by rfl
theorem aaA(l A B:F)(off:Nat)(h:off+(A.length+B.length)<=l.length):aM (aM l (off+A.length) B) off A=aM l off (A++B):=by
 have a:=Cr l (off+A.length) B V;apply A4
 grind [wo]
def asa(l:F)(off:Nat)(h:off<=l.length):aM l off []=l:=by simp[aM]
def asb{T:Z}{j:Nat}{b:cZ}(h:T[j]? =J b):T.set j b=T:=by
 apply A4
 grind
def aoH{j off m cap nb:Nat}{bt:bV}:∀(k n:Nat)(cs:F)(T:Z)(ag:bV),T[j]? =J (.M cs bt O)->off+m<=cs.length->k<=m->m<1000000->n<18446744073709551616->
 DC N X (.L FR) ⟨[(0,.cH j off m cap 1),(1,.I U (n:Int)),(4,.I Y ((k:Int) -1))],ag,nb⟩ T=
  J (.E 0,⟨[],ag,nb⟩,T.set j (.M (aM cs off (R (D1 k n))) bt O))
 |0,n,cs,T,ag,hT,hc,hk,hm,hn=>by simp_all[aM,R,D1,asb,aj,pQ]
 |k+1,n,cs,T,ag,hT,hc,hk,hm,hn=>by
  have b:oc 1 (.cH j off m cap 1) (.I Y (k:Int))=J (.P j (off+k)):=by grind [oc]
  have d:bd ag nb T 1 (.P j (off+k)) (.I L (dr L (n:Int)))=J (ag,T.set j (.M (aM cs (off+k) [bn (cq n)]) bt O)):=by rw[d_ (yZ L _) hT,if_pos ⟨rfl,by omega⟩];rfl
  have c:(n:Int).fdiv (2^min 8 IntKind.u64.bits)=(n:Int)/256:=Int.fdiv_eq_ediv_of_nonneg _ fV;have a:=aoH (nb:=nb) (cap:=cap) k (n/256) (aM cs (off+k) [bn (cq n)]) (T.set j (.M (aM cs (off+k) [bn (cq n)]) bt O)) ag (RN ((lU.1 hT).1)) (by rw[Cr _ _ _ (by grind)];exact hc) V hm V;have e:aM (aM cs (off+k) [bn (cq n)]) off (R (D1 k (n/256)))=aM cs off (R (D1 (k+1) n)):=by
   have f:(R (D1 k (n/256))).length=k:=by simp[AT]
   grind [aaA,R,D1]
  rw[TG,e]at a;rw[(V:((k+1:Nat):Int) -1=k),aj,aN pQ];simp at a;simp[b,d,c,(cG V:dr Y ((k:Int) -1)=(k:Int) -1)];rw[ab pQ];simp[a]
def Vc{j off m cap:Nat}{bt:bV}{cs:F}{T:Z}(a:T[j]? =J (.M cs bt O))(b:off+m<=cs.length)(c:m<1000000)(n:Nat)(d:n<18446744073709551616):
 W N X 157 [.cH j off m cap 1,.I U (n:Int)] T=J (.cQ [],T.set j (.M (aM cs off (R (D1 m n))) bt O)):=by
 simp[j7 axC,fW,(cG V:dr Y ((m:Int) -1)=(m:Int) -1)];rw[ab pQ];simp[aoH (nb:=T.length) (cap:=cap) m n cs T [] a b (gM _) c d,(λx=>oh bW:∀x,(T.set j x).take T.length=T.set j x),ds,aO,ck,aF]
def po(l:List (Q × B)):Q:=.sl .N 1 (l.map λp=>[p.1])
def cj(l:List (Q × B)):B:=l.flatMap λp=>p.2
def HJ(S:Z)(p:Q × B):Prop:=aW p.1=p.1/\∀G,∃z,bZ (S++G) p.1=J (z,cJ p.2)/\(cJ p.2≠[]->z=1)
def P0(b:B)(T:Z):∃z,bZ T (cV b)=J (z,cJ b)/\(cJ b≠[]->z=1):=by
 cases b with
 |nil=>exact⟨1,rfl,λ_=>rfl⟩
 |cons a r=>exact⟨1,rfl,λ_=>rfl⟩
theorem Ma(S:Z)(b:B):HJ S (cV b,b):=⟨by simp,λa=>P0 b _⟩
def am5(S:Z)(l:List (Q × B))(q:∀p∈l,HJ S p)(y:(cj l).length<=100000000)(j:l.length<1000)(c:cZ):∀n i(e:Q)(ag:bV),i+n=l.length->mR e ag (cj (l.take i))->
 ∃d aV,mR d aV (cj l)/\DC N X (.L AO) ⟨[(2,.P S.length 0),(3,e),(11,po l),(12,.I Y (l.length:Int)),(13,.I Y (i:Int))],ag,S.length⟩ (S++[c])=
  J (.E 0,⟨[(2,.P S.length 0),(3,d)],aV,S.length⟩,S++[c]):=by
 intro n;induction n with
 |zero=>
  simp_all[aj,nv]
 |succ n r=>
  intro i e ag z o;have h:cj (l.take i)++l[i].2=cj (l.take (i+1)):=by grind [cj,List.take_add_one]
  have m:(cj (l.take i)++l[i].2).length<=(cj l).length:=by grind [cj,List.take_append_drop]
  have⟨A,k⟩:=q l[i] (List.getElem_mem V);have⟨v,w,f,g⟩:=fF.QN o (xs:=cJ l[i].2) (x:=l[i].1) (S:=S++[c]) (by grind [yW]) (k [c]);have⟨d,aV,u,E⟩:=r (i+1) v w V (by rw[<-h];simpa[mR,cJ]using g);refine⟨d,aV,u, ?_⟩;have s:oc 1 (po l) (.I Y (i:Int))=J (.ff .N [l[i].1] 0):=by grind [oc,po,uj]
  have t:∀T,aX T .C (.ff .N [l[i].1] 0)=J l[i].1:=λT=>by rfl
  generalize l[i].1=b,po l=a at*;rw[aj,aN nv];simp[-K,du,eJ,(aQ V:dr Y ((i:Int)+1)=((i+1:Nat):Int)),(V:(i:Int)<(l.length:Int)),s,t,f];rw[ab nv];trivial
def acA(r:ia)(a:B)(h:128<=a.length):GW 1 (.sl r 1 (cJ a)) (J (.I Y 128)) M=J (.sl (uj r) 1 (cJ (a.drop 128))):=by
 have b:(List.take (cJ a).length (cJ a)).drop 128=cJ (a.drop 128):=by rw[Dl];simp[cJ]
 grind [GW,kR,yW]
def am6(S:Z)(l:cZ):∀n(g:B)(r:ia)(v:W8)(ag:bV),g.length=128*n->(r=.N\/r=.X\/∃k,r=.fr k)->
 DC N X (.L AP) ⟨[(2,.P S.length 0),(3,.sl r 1 (cJ g)),(6,.P (S.length+1) 0),(7,.P (S.length+2) 0)],ag,S.length⟩ (S++[l,.M v.aq [] O,.M (iC.map C) [] O])=
  J (.E 2,⟨[(2,.P S.length 0),(6,.P (S.length+1) 0)],ag,S.length⟩,S++[l,.M (PW n v g).aq [] O,.M (iC.map C) [] O]):=by
 have gI:∀a b,K .gtr (.I Y a) (.I Y b)=J (.B (b_ (a>b))):=λ_ _=>rfl;intro n;induction n with
 |zero=>
  intro g r v ag hM u;have e:=Wa V;subst e;have q:PW 0 v []=v:=rfl;rw[q,aj,aN ny];generalize iC.map C=f;simp[fW,cJ]
 |succ n ih=>
  intro g r v ag hM u;have m:128<=g.length:=V;have hp:(0:Int)<(g.length:Int):=V;have t:0<g.length:=V;have P:=acA r g m;have w:uj r=.N:=by rcases u with rfl|rfl|⟨k,rfl⟩<;>rfl
  rw[w]at P;have I:=ih (g.drop 128) .N (v.rL iC g) ag (by grind) (.inl rfl);have q:PW (n+1) v g=PW n (v.rL iC g) (g.drop 128):=rfl;rw[q];have tn:g≠[]:=by grind
  have E:ej (.sl .N 1 (cJ g))=cV g:=by cases g<;>rfl
  have e2:ej (.sl .X 1 (cJ g))=cV g:=by cases g<;>rfl
  obtain⟨s,g1,g2⟩:∃s,(∀T,bH T (.sl r 1 (cJ g))=J s)/\ej s=cV g:=by
   rcases u with rfl|rfl|⟨k,rfl⟩;·exact⟨_,λ_=>rfl,E⟩
   ·exact⟨_,λ_=>rfl,e2⟩
   ·exact⟨_,λ_=>rfl,E⟩
  have lm:∀T,bK T (.sl r 1 (cJ g))=T:=λT=>by rfl
  have um:∀T p,bk T p (.sl r 1 (cJ g))=p:=λT p=>by rfl
  have cm:=MP v g m (S.length+2) iC ajH (S++[l,.M v.aq [] O,.M (iC.map C) [] O]) [] O (cl S _ 2);have x:aX (S++[l,.M v.aq [] O,.M (iC.map C) [] O]) (.A 8) (.P (S.length+1) 0)=J (.A v.aq):=by rw[bI (cl S _ 1)];rfl
  have z:bd ag S.length (S++[l,.M v.aq [] O,.M (iC.map C) [] O]) 8 (.P (S.length+1) 0) (.A (v.rL iC g).aq)=J (ag,S++[l,.M (v.rL iC g).aq [] O,.M (iC.map C) [] O]):=by rw[d_ (kU (W8.ji _)) (cl S _ 1),if_pos ⟨rfl,by simp⟩,show(AV.A (v.rL iC g).aq).cells=(v.rL iC g).aq from rfl,dT bW];simp
  have tka:∀c,aY ag (.A c)=(.A c,ag):=λ_=>rfl;have y:∀T i o,bK T (.P i o)=T:=λ_ _ _=>rfl;have A:∀T p i o,bk T p (.P i o)=p:=λ_ _ _ _=>rfl;generalize v.rL iC g=j,iC.map C=f at*;generalize PW n j (g.drop 128)=h,cJ (g.drop 128)=d at*;rw[aj,aN ny];try simp at I
  simp[(by simp[fW]:fW (.sl r 1 (cJ g))=some (.I .i64 (g.length:Int))),gI,t, -K,x,g1,g2,lm,um,y,A,cm,z,P];rw[ab ny];simp[I]
def Ij(v:W8)(i:Nat):B:=(v.l.take i).flatMap λx=>D1 8 x.toNat
def Ns:∀l:List UInt64,(l.flatMap λx=>D1 8 x.toNat).length=8*l.length:=by intro l;induction l<;>grind [AT]
def ajI(v:W8)(i:Nat)(h:i<=8):(Ij v i).length=8*i:=by rw[Ij,Ns,List.length_take,show v.l.length=8 from rfl,RU h]
def W8.acD(v:W8):v.tv.length=64:=Ns v.l
def aeq(v:W8)(i:Nat)(h:i<8):Ij v i++D1 8 (v.l.getD i 0).toNat=Ij v (i+1):=by unfold Ij;rw[vH,Ad (show i<v.l.length from h)];simp
def Mo(l a:F)(off:Nat)(h:off+a.length<=l.length):(aM l off a).length=l.length:=by unfold aM;grind
theorem XZ(l a:F)(off k:Nat)(h:off+a.length<=l.length):(aM l off a)[k]? =if off<=k/\k<off+a.length then a[k -off]? else l[k]? :=by grind [aM,List.length_append]
def Vb(l A B:F)(h:A.length+B.length<=l.length):aM (aM l 0 A) A.length B=aM l 0 (A++B):=by
 have a:=Mo l A 0 V;apply A4
 grind [XZ]
def am7{S:Z}(g:W8)(a b c:cZ)(ag:bV):∀d i,i+d=8->
 DC N X (.L AQ) ⟨[(2,.P S.length 0),(8,.P (S.length+3) 0),(36,.A g.aq),(37,.I Y (i:Nat))],ag,S.length⟩ (S++[a,b,c,.M (aM bR 0 (R (Ij g i))) [] O])=
  J (.E 4,⟨[(2,.P S.length 0),(8,.P (S.length+3) 0)],ag,S.length⟩,S++[a,b,c,.M (R g.tv) [] O]):=by
 have q:bR.length=64:=rfl;intro d;induction d with
 |zero=>
  intro i v;have e:i=8:=V;subst e;have e:Ij g 8=g.tv:=rfl;simp_all[W8.acD,aj,nA]
 |succ d y=>
  intro i v;have u:(i:Int)<8:=V;have n:=aQ (i:=i) V;have w:=ajI g i V;have hs:(aM bR 0 (R (Ij g i))).length=64:=by rw[Mo _ _ _ (by rw[q];simp;omega)];exact q
  have E:N8 8 1 .C (.A g.aq) (.I Y (i:Int))=J (C (g.l.getD i 0)):=by have:i<8:=V;have t:¬(i:Int)<0:=V;unfold N8;simp only;rw[if_neg t,LX,if_pos this,Aw,W8.aoG];show(g.l.map C)[i]? =_;rw[yU,Ad (show i<g.l.length from this)];rfl
  have x64:=jy (g.l.getD i 0);have k:=y (i+1) V;rw[<-aeq g i V]at k;have s:=Vb bR (R (Ij g i)) (R (D1 8 (g.l.getD i 0).toNat)) (by rw[q];simp[AT];omega);rw[show(R (Ij g i)).length=8*i by simp[w],show R (Ij g i)++R (D1 8 (g.l.getD i 0).toNat)=R (Ij g i++D1 8 (g.l.getD i 0).toNat)by simp[R]]at s;rw[<-s]at k;generalize g.l.getD i 0=x at*;have p:=Vc (T:=S++[a,b,c,.M (aM bR 0 (R (Ij g i))) [] O]) (j:=S.length+3) (off:=8*i) (m:=8) (cap:=64 -8*i) (cl S _ 3) V V x.toNat V;rw[zN S _ 3]at p;have p:W N X 157 [.cH (S.length+3) (8*i) 8 (64 -8*i) 1,C x] _=_:=p;obtain⟨A,hA⟩:∃A:Int,A=((8*i:Nat):Int):=⟨_,rfl⟩;obtain⟨f,hB⟩:∃f:Int,f=((8*i+8:Nat):Int):=⟨_,rfl⟩;have r:dr Y (A+8)=f:=by rw[cG V];omega
  have sl:qI 64 1 (.P (S.length+3) 0) (J (.I Y A)) (J (.I Y f))=J (.cH (S.length+3) (8*i) 8 (64 -8*i) 1):=by
   have I:¬64=8*i:=V;have e4:8*i+8 -8*i=8:=V;unfold qI;simp;rw[if_pos ⟨by omega,by omega⟩];simp only;rw[if_pos ⟨by omega,by omega⟩]
   grind [Int.toNat_natCast]
  simp at p;generalize aM bR 0 (R (Ij g i))=h at*;have ra:∀i o l c z,AX (.cH i o l c z)=J (.cH i o l c z):=λ_ _ _ _ _=>rfl;have P:∀i o l c z,ej (.cH i o l c z)=.cH i o l c z:=λ_ _ _ _ _=>rfl;have ri:AX (C x)=J (C x):=rfl;rw[aj,aN nA];simp at n k;simp[u,E,ra,ri,P, -nT,(by rw[cG V];omega:IntKind.wrap .i64 (8*(i:Int))=A),r,sl,p,dh,n, -N8];rw[ab nA];simp[k]
def DR(l:List (Q × B))(S:Z)(hv:∀p∈l,HJ S p)(hbs:l.length<1000)(hb:(cj l).length<=1000000):W N X 71 [po l] S=J (.A (R (dV (cj l))),S):=by
 have⟨o1,t1,a1,y⟩:=am5 S l hv V hbs (.M bR [] O) l.length 0 .aw [] V (.inl ⟨rfl,rfl⟩);have e0:((0:Nat):Int)=0:=rfl;rw[e0]at y;generalize cj l=b at*;have fl:(fS b.length).length<=300:=by simp[fS,AT];omega
 have fne:fS b.length≠[]:=by nofun
 have fp:∀T,HD [.I Y (b.length:Int),.I Y 128,.I Y 16] T=J (cV (fS b.length),T):=λT=>by
  have e:cV (fS b.length)=.sl .N 1 ((fS b.length).map λc=>[.I L c.toNat]):=by rfl
  grind [HD]
 have tkB:∀u,aY u (cV (fS b.length))=(cV (fS b.length),u):=λu=>by rfl
 have⟨o2,w,b1,b2⟩:=fF.QN a1 (xs:=cJ (fS b.length)) (x:=cV (fS b.length)) (S:=S++[.M bR [] O]) (by rw[yW,yW];omega) (P0 _ _);have z:mR o2 w (b++fS b.length):=by simpa[mR,cJ]using b2
 obtain⟨m,hN⟩:∃m,(b++fS b.length).length=128*m:=⟨(b++fS b.length).length/128,by grind [fS,AT]⟩;have aLk:b++fS b.length≠[]:=by simp[fS]
 have ed:dV b=(PW m p5 (b++fS b.length)).tv:=by grind [dV]
 obtain⟨r,eo,hr⟩:∃r,o2=.sl r 1 (cJ (b++fS b.length))/\(r=.N\/r=.X\/∃k,r=.fr k):=by rcases z with⟨h,_⟩|h|⟨k,h,_⟩;all_goals grind [tu]
 have A:=am6 S (.M bR [] O) m (b++fS b.length) r p5 w hN hr;rw[<-eo]at A;rw[ed];generalize PW m p5 (b++fS b.length)=n at*;have hL:=am7 (S:=S) n (.M bR [] O) (.M n.aq [] O) (.M (iC.map C) [] O) w 8 0 rfl;rw[show aM bR 0 (R (Ij n 0))=bR from by rfl]at hL;have ho:=n.acD;have dl:df (R n.tv):=aL _;have v:(R n.tv).length=64:=by simp[ho]
 generalize R n.tv=s at*;have c3:=JU;have c4:=Ii;have hk1:cO.length=8:=rfl;have hk2:iE.length=80:=rfl;have hk3:bR.length=64:=rfl;have tka:∀t c,aY t (.A c)=(.A c,t):=λ_ _=>rfl;have st1:∀o,bd w S.length (S++[o,.M cO [] O,.M iE [] O]) 8 (.P (S.length+1) 0) (.A p5.aq)=J (w,S++[o,.M p5.aq [] O,.M iE [] O]):=λo=>by rw[d_ (kU (W8.ji _)) (cl S _ 1),if_pos ⟨rfl,by omega⟩,show(AV.A p5.aq).cells=p5.aq from rfl,dT (by rfl)];simp
 have st2:∀o q,bd w S.length (S++[o,q,.M iE [] O]) 80 (.P (S.length+2) 0) (.A (iC.map C))=J (w,S++[o,q,.M (iC.map C) [] O]):=λo q=>by rw[d_ (kU (SM _)) (cl S _ 2),if_pos ⟨rfl,by omega⟩,show(AV.A (iC.map C)).cells=iC.map C from rfl,dT (by rfl)];simp
 have Vl:∀o q d,aX (S++[o,.M n.aq [] O,q,d]) (.A 8) (.P (S.length+1) 0)=J (.A n.aq):=λo q d=>by rw[bI (cl S _ 1)];rfl
 have ld3:∀a b c,aX (S++[a,b,c,.M s [] O]) (.A 64) (.P (S.length+3) 0)=J (.A s):=λa b c=>by rw[bI (cl S _ 3)];exact(fR _ v).trans (by rw[dl.jh])
 have ld0:∀l,aX (S++.M s [] O::l) (.A 64) (.P S.length 0)=J (.A s):=λl=>by rw[ka];exact(fR _ v).trans (by rw[dl.jh])
 have hsp:aM bR 0 s=s:=dT V;have rs:∀u i,ds 71 u [.A s] S (S++i)=J (.A s,S):=λu i=>by simp_all
 have st:∀u l,bd u S.length (S++.M bR [] O::l) 64 (.P S.length 0) (.A s)=J (u,S++.M s [] O::l):=λu l=>by simp_all
 have dB:=Cx (fS b.length);have pf:nk.sO 153=J HD:=rfl;have lnb:fW (po l)=J (.I Y (l.length:Int)):=by simp[fW,po]
 generalize cV (fS b.length)=g,iC.map C=j,P:bR=KZ,I:cO=KY,E:iE=KX,p5.aq=H5,n.aq=VE,po l=f at*;rw[js aE5,P,I,E];simp[lnb];rw[ab nv];simp at y A hL;simp[y,(by rw[fF.len a1,yW]:fW o1=some (.I .i64 (b.length:Int))),pf,fp,tka,dB.Ks,b1,c3,c4,st1,st2];rw[ab ny];simp[A,Vl];rw[ab nA];simp[hL,ld3,st,ld0,rs]
section
class Fld (ch:Nat) [NeZero ch] where
 inv:Fin ch->Fin ch
 Aj:∀a:Fin ch,a≠0->a*inv a=1
 d:Fin ch
 i:Fin ch
 hi:i*i= -1
 hd:∀s:Fin ch,s*s≠d
 h2:(1+1:Fin ch)≠0
section
variable{ch:Nat}[NeZero ch][F:Fld ch]
def M_{a b:Fin ch}(h:a*b=0):a=0\/b=0:=by
 by_cases c:a=0;·omega
 ·have:=F.Aj a c
  grind
def afK:(1:Fin ch)≠0:=λh=>F.h2 (by grind)
def agw{x1 y1 x2 y2:Fin ch}(l:y1*y1=1+x1*x1+F.d*(x1*x1)*(y1*y1))(m:y2*y2=1+x2*x2+F.d*(x2*x2)*(y2*y2))(t:Fin ch)(o:t=F.d*x1*x2*y1*y2)(h:t*t=1):False:=by
 have f:=F.hi
 have b:∀j:Fin ch,j*j= -1->x1*y1*(y2+j*x2)=0:=λj n=>by
  have e:(y1+t*j*x1)*(y1+t*j*x1)=F.d*((x1*y1*(y2+j*x2))*(x1*y1*(y2+j*x2))):=by grind
  by_cases c:x1*y1*(y2+j*x2)=0;·exact c
  ·exfalso
   have p:=F.Aj _ c;generalize x1*y1*(y2+j*x2)=w at*;refine F.hd ((y1+t*j*x1)*F.inv w) ?_;generalize F.inv w=v,y1+t*j*x1=s at*
   grind
 have a:x1*y1≠0:=λe=>afK (ch:=ch) (by grind);have g:=(M_ (b F.i f)).resolve_left a;have i:=(M_ (b (-F.i) (by grind))).resolve_left a;have d:(1+1:Fin ch)*(F.i*x2)=0:=by grind
 have k:=(M_ d).resolve_left F.h2
 grind
structure EP(ch:Nat)[NeZero ch][F:Fld ch]where
 x:Fin ch
 y:Fin ch
 on:y*y=1+x*x+F.d*(x*x)*(y*y)
def EP.ext{p q:EP ch}(a:p.x=q.x)(b:p.y=q.y):p=q:=by cases p;simp_all
def tt(p q:EP ch):Fin ch:=F.d*p.x*q.x*p.y*q.y
def den(p q:EP ch):1+tt p q≠0/\1 -tt p q≠0:=by
 have h:=agw p.on q.on (tt p q) rfl
 grind
def ap6{u v A B a b d:Fin ch}(c:u*A=1)(e:v*B=1)(h:b*b*(u*u)=u*v*(u*v)+a*a*(v*v)+d*(a*a)*(b*b)):(b*B)*(b*B)=1+(a*A)*(a*A)+d*((a*A)*(a*A))*((b*B)*(b*B)):=by grind
def closed{d x1 y1 x2 y2 t:Fin ch}(a:y1*y1=1+x1*x1+d*(x1*x1)*(y1*y1))(b:y2*y2=1+x2*x2+d*(x2*x2)*(y2*y2))(c:t=d*x1*x2*y1*y2):
 (y1*y2+x1*x2)*(y1*y2+x1*x2)*((1+t)*(1+t))=(1+t)*(1 -t)*((1+t)*(1 -t))+(x1*y2+x2*y1)*(x1*y2+x2*y1)*((1 -t)*(1 -t))+d*((x1*y2+x2*y1)*(x1*y2+x2*y1))*((y1*y2+x1*x2)*(y1*y2+x1*x2)):=by
 grind
def EP.add(p q:EP ch):EP ch where
 x:=(p.x*q.y+q.x*p.y)*F.inv (1+tt p q)
 y:=(p.y*q.y+p.x*q.x)*F.inv (1 -tt p q)
 on:=ap6 (F.Aj _ (den p q).1) (F.Aj _ (den p q).2) (closed p.on q.on rfl)
theorem EP.add_comm(p q:EP ch):p.add q=q.add p:=by
 have e:tt p q=tt q p:=by
  unfold tt
  grind
 apply EP.ext
 ·show(p.x*q.y+q.x*p.y)*F.inv (1+tt p q)=(q.x*p.y+p.x*q.y)*F.inv (1+tt q p)
  grind
 ·show(p.y*q.y+p.x*q.x)*F.inv (1 -tt p q)=(q.y*p.y+q.x*p.x)*F.inv (1 -tt q p)
  grind
end
end
section
section
variable{ch:Nat}[NeZero ch][F:Fld ch]
def akV(d x1 y1 x2 y2 a b:Fin ch)(c:y1*y1=1+x1*x1+d*(x1*x1)*(y1*y1))(e:y2*y2=1+x2*x2+d*(x2*x2)*(y2*y2))(f:b*b=1+a*a+d*(a*a)*(b*b)):
 ((x1*y2+x2*y1)*(1 -d*x1*x2*y1*y2)*b+a*(y1*y2+x1*x2)*(1+d*x1*x2*y1*y2))*((1+d*x2*a*y2*b)*(1 -d*x2*a*y2*b)+d*x1*y1*(x2*b+a*y2)*(y2*b+x2*a))=
 (x1*(y2*b+x2*a)*(1+d*x2*a*y2*b)+(x2*b+a*y2)*(1 -d*x2*a*y2*b)*y1)*((1+d*x1*x2*y1*y2)*(1 -d*x1*x2*y1*y2)+d*(x1*y2+x2*y1)*(y1*y2+x1*x2)*a*b):=by
 grind
def akW(d x1 y1 x2 y2 a b:Fin ch)(c:y1*y1=1+x1*x1+d*(x1*x1)*(y1*y1))(e:y2*y2=1+x2*x2+d*(x2*x2)*(y2*y2))(f:b*b=1+a*a+d*(a*a)*(b*b)):
 ((y1*y2+x1*x2)*(1+d*x1*x2*y1*y2)*b+a*(x1*y2+x2*y1)*(1 -d*x1*x2*y1*y2))*((1+d*x2*a*y2*b)*(1 -d*x2*a*y2*b) -d*x1*y1*(x2*b+a*y2)*(y2*b+x2*a))=
 (y1*(y2*b+x2*a)*(1+d*x2*a*y2*b)+x1*(x2*b+a*y2)*(1 -d*x2*a*y2*b))*((1+d*x1*x2*y1*y2)*(1 -d*x1*x2*y1*y2) -d*(x1*y2+x2*y1)*(y1*y2+x1*x2)*a*b):=by
 grind
def abf{a A f c b B g d:Fin ch}(h:a*A*c=f)(i:b*B*d=g)(e:f*d=g*c)(z1:c≠0)(z2:d≠0):a*A=b*B:=by
 have j:=F.Aj _ z1;have k:=F.Aj _ z2
 grind
theorem IX{a b:Fin ch}(c:a≠0)(d:b≠0):a*b≠0:=λh=>(M_ h).elim c d
def anA{x1 y1 x2 y2 a b d A B C:Fin ch}(c:(1+d*x1*x2*y1*y2)*A=1)(e:(1 -d*x1*x2*y1*y2)*B=1)(f:(1+d*((x1*y2+x2*y1)*A)*a*((y1*y2+x1*x2)*B)*b)*C=1):
 (((x1*y2+x2*y1)*A)*b+a*((y1*y2+x1*x2)*B))*C*((1+d*x1*x2*y1*y2)*(1 -d*x1*x2*y1*y2)+d*(x1*y2+x2*y1)*(y1*y2+x1*x2)*a*b)=(x1*y2+x2*y1)*(1 -d*x1*x2*y1*y2)*b+a*(y1*y2+x1*x2)*(1+d*x1*x2*y1*y2):=by
 grind
def anB{x1 y1 x2 y2 a b d A B C:Fin ch}(c:(1+d*x1*x2*y1*y2)*A=1)(e:(1 -d*x1*x2*y1*y2)*B=1)(f:(1 -d*((x1*y2+x2*y1)*A)*a*((y1*y2+x1*x2)*B)*b)*C=1):
 (((y1*y2+x1*x2)*B)*b+((x1*y2+x2*y1)*A)*a)*C*((1+d*x1*x2*y1*y2)*(1 -d*x1*x2*y1*y2) -d*(x1*y2+x2*y1)*(y1*y2+x1*x2)*a*b)=(y1*y2+x1*x2)*(1+d*x1*x2*y1*y2)*b+a*(x1*y2+x2*y1)*(1 -d*x1*x2*y1*y2):=by
 grind
def anD{x1 y1 x2 y2 a b d A B U:Fin ch}(c:(1+d*x1*x2*y1*y2)*A=1)(e:(1 -d*x1*x2*y1*y2)*B=1)(f:1+d*((x1*y2+x2*y1)*A)*a*((y1*y2+x1*x2)*B)*b≠0):
 (1+d*x1*x2*y1*y2)*(1 -d*x1*x2*y1*y2)+d*(x1*y2+x2*y1)*(y1*y2+x1*x2)*a*b≠0:=by
 grind
def anE{x1 y1 x2 y2 a b d A B U:Fin ch}(c:(1+d*x1*x2*y1*y2)*A=1)(e:(1 -d*x1*x2*y1*y2)*B=1)(f:1 -d*((x1*y2+x2*y1)*A)*a*((y1*y2+x1*x2)*B)*b≠0):
 (1+d*x1*x2*y1*y2)*(1 -d*x1*x2*y1*y2) -d*(x1*y2+x2*y1)*(y1*y2+x1*x2)*a*b≠0:=by
 grind
def EP.add_assoc(p q r:EP ch):(p.add q).add r=p.add (q.add r):=by
 have⟨i,k⟩:=den p q;have⟨j,l⟩:=den q r;have⟨e,g⟩:=den (p.add q) r;have⟨f,h⟩:=den (q.add r) p;have a:=F.Aj _ i;have b:=F.Aj _ k;have c:=F.Aj _ j;have d:=F.Aj _ l;have m:=F.Aj _ e;have n:=F.Aj _ g;have o:=F.Aj _ f;have s:=F.Aj _ h;rw[EP.add_comm p (q.add r)];have t:=akV F.d p.x p.y q.x q.y r.x r.y p.on q.on r.on;have u:=akW F.d p.x p.y q.x q.y r.x r.y p.on q.on r.on;apply EP.ext
 ·refine abf (anA a b m) (anA c d o) ?_ (anD (U:=0) a b e) (anD (U:=0) c d f)
  grind
 ·refine abf (anB a b n) (anB c d s) ?_ (anE (U:=0) a b g) (anE (U:=0) c d h)
  clear a b c d m n o s i k j l e g f h t
  grind
def EP.zero:EP ch:=⟨0,1,by grind⟩
def EP.neg(p:EP ch):EP ch:=⟨-p.x,p.y,by have:=p.on;grind⟩
def akX(p:EP ch):tt EP.zero p=0:=by
 show F.d*0*p.x*1*p.y=0
 grind
def ad0:F.inv (1:Fin ch)=1:=by
 have:=F.Aj (1:Fin ch) afK
 grind
theorem EP.zero_add(p:EP ch):EP.zero.add p=p:=by
 have a:(1:Fin ch)+tt EP.zero p=1:=by rw[akX];grind
 apply EP.ext
 ·show(0*p.y+p.x*1)*F.inv (1+tt EP.zero p)=p.x
  rw[a,ad0]
  grind
 ·show(1*p.y+0*p.x)*F.inv (1 -tt EP.zero p)=p.y
  rw[(by grind:(1:Fin ch) -tt EP.zero p=1),ad0]
  grind
def EP.Nb:Nat->EP ch->EP ch
 |0,_=>EP.zero
 |n+1,p=>(EP.Nb n p).add p
def EP.IY(p:EP ch)(m:Nat):∀n,EP.Nb (m+n) p=(EP.Nb m p).add (EP.Nb n p)
 |0=>by grind [EP.Nb,EP.add_comm,EP.zero_add]
 |n+1=>by show(EP.Nb (m+n) p).add p=(EP.Nb m p).add ((EP.Nb n p).add p);rw[EP.IY p m n,EP.add_assoc]
theorem EP.abg(p:EP ch):EP.Nb 1 p=p:=EP.zero_add p
def EP.abh(p:EP ch)(m:Nat):∀n,EP.Nb (n*m) p=EP.Nb n (EP.Nb m p)
 |0=>by rw[NY];rfl
 |n+1=>by rw[Ov,EP.IY,EP.abh p m n];rfl
end
end
instance:NeZero pP:=⟨by decide⟩
abbrev Zp:=Fin pP
def fi(n:Nat):Zp:=⟨n %pP,jg _ (by decide)⟩
theorem Dv{a b:Nat}:fi a=fi b↔a %pP=b %pP:=by grind [fi]
def TS(a b:Nat):fi (a+b)=fi a+fi b:=Fin.ext (Oz ..)
theorem rT(a b:Nat):fi (a*b)=fi a*fi b:=Fin.ext (EO ..)
theorem A9(a:Nat):fi (a %pP)=fi a:=Dv.2 (Nat.mod_mod ..)
theorem afR(a:Zp):fi a.val=a:=Fin.ext (iY a.isLt)
theorem yX:fi 0=0:=Fin.ext fV
theorem A_:fi 1=1:=Fin.ext fV
def aJP:fi pP=0:=yX▸Dv.2 rfl
theorem OG(a b:Nat):fi (mM a b)=fi a*fi b:=by unfold mM;rw[A9,rT]
theorem abi(a b:Nat):fi (mA a b)=fi a+fi b:=by unfold mA;rw[A9,TS]
theorem OH{a b:Nat}(c:b<pP):fi (mS a b)=fi a -fi b:=by grind [fi,pP,mS]
def ave{a:Nat}(h:a<pP)(b:a≠0):fi a≠0:=by grind [yX,Dv,iY]
def Wz:fi nU*fi nU= -1:=by
 have h:fi (nU*nU)=fi (pP -1):=Dv.2 (by simp_all[abj]);have a:fi (pP -1)+fi 1=0:=by rfl
 rw[A_]at a
 grind [rT]
def avf:wK^((pP -1)/2)%pP=pP -1:=by rw[<-L5 fV,IZ];kernel_rfl
def ap_(s:Zp):s*s≠fi wK:=by
 rw[<-afR s,<-rT];intro e;have h:=Dv.1 e;have d:=s.isLt;generalize s.val=n at*;have b:¬pP∣n:=by grind [pP,Nat.mod_eq_zero_of_dvd,IZ]
 have c:=TT aqa b;have a:pP -1=2*((pP -1)/2):=fV;rw[a,uC,Nat.pow_two,EL,h,<-EL,avf]at c;omega
instance:Fld pP where
 inv a:=fi (oK a.val)
 Aj a h:=by
  have h0:a.val≠0:=λe=>h (Fin.ext e);have hi:=acW a.isLt h0;have:fi (a.val*oK a.val)=fi 1:=Dv.2 (by rw[hi];decide)
  grind [rT,afR,A_]
 d:=fi wK
 i:=fi nU
 hi:=Wz
 hd:=ap_
 h2:=by trivial
structure P3.rep(P:P3)(e:EP pP):Prop where
 z:fi P.z≠0
 x:fi P.x=e.x*fi P.z
 y:fi P.y=e.y*fi P.z
def akY{x1 y1 z1 x2 y2 z2 d t A B:Zp}(e:t=d*x1*x2*y1*y2)(a:(1+t)*A=1)(b:(1 -t)*B=1)(h:z1≠0)(i:z2≠0)(j:1+t≠0)(k:1 -t≠0):
 let c:=z1*z2
 let f:=c*c+d*(x1*z1*(x2*z2)*(y1*z1*(y2*z2)))
 let g:=c*c -d*(x1*z1*(x2*z2)*(y1*z1*(y2*z2)))
 f*g≠0/\(x1*z1*(y2*z2)+y1*z1*(x2*z2))*c*g=(x1*y2+x2*y1)*A*(f*g)/\(y1*z1*(y2*z2)+x1*z1*(x2*z2))*c*f=(y1*y2+x1*x2)*B*(f*g):=by
 grind [IX]
def TP{P Q:P3}{p q:EP pP}(l:P.rep p)(m:Q.rep q):(P.add Q wK).rep (p.add q):=by
 have⟨j,b,c⟩:=l;have⟨k,e,f⟩:=m;have⟨g,h⟩:=den p q;have a:=akY (x1:=p.x) (y1:=p.y) (z1:=fi P.z) (x2:=q.x) (y2:=q.y) (z2:=fi Q.z) (d:=fi wK) (t:=tt p q) rfl (Fld.Aj _ g) (Fld.Aj _ h) j k g h;simp only at a;have⟨r,n,o⟩:=a;have i:fi (mS (mM (mM P.z Q.z) (mM P.z Q.z)) (mM wK (mM (mM P.x Q.x) (mM P.y Q.y))))=fi (mM (mM P.z Q.z) (mM P.z Q.z)) -fi (mM wK (mM (mM P.x Q.x) (mM P.y Q.y))):=OH (jg _ fV);refine⟨?_, ?_, ?_⟩;·grind [P3.add,OG,abi]
 ·unfold P3.add
  simp only[OG,abi,i,b,c,e,f];exact n
 ·unfold P3.add
  simp only[OG,abi,i,b,c,e,f];exact o
def afS:j8.rep EP.zero:=by refine⟨?_, ?_, ?_⟩;all_goals trivial
def TU(b:B):∀(n i:Nat)(c a:P3)(x o:EP pP),c.rep x->a.rep o->(P3.mul b n i c a).rep (o.add (EP.Nb (dN b/2^i %2^n) x))
 |0,i,c,a,x,o,hX,hO=>by rw[(V:dN b/2^i %2^0=0)];show a.rep (o.add EP.zero);rw[EP.add_comm,EP.zero_add];exact hO
 |n+1,i,c,a,x,o,hX,hO=>by
  rw[P3.mul,abk];have d:=TP hX hX;have f:x.add x=EP.Nb 2 x:=by grind [EP.Nb,EP.abg]
  rw[f]at d;have e:dN b/2^i %2^(n+1)=dN b/2^i %2+(dN b/2^(i+1)%2^n)*2:=by grind [Nat.mod_mul,sG]
  rw[e,EP.IY,EP.abh,<-EP.add_assoc];have h:dN b/2^i %2=0\/dN b/2^i %2=1:=V;rcases h with h|h
  ·rw[h]
   have g:o.add (EP.Nb 0 x)=o:=by show o.add EP.zero=o;rw[EP.add_comm,EP.zero_add]
   rw[g];exact TU b n (i+1) _ _ _ _ d hO
  ·rw[h,EP.abg]
   exact TU b n (i+1) _ _ _ _ d (TP hO hX)
def Kq(b:B)(d:b.length=32){a:P3}{x:EP pP}(c:a.rep x):(P3.mul b 256 0 a j8).rep (EP.Nb (dN b) x):=by
 have h:=TU b 256 0 a j8 x EP.zero c afS
 grind [zR,EP.zero_add]
def EP.bytes(e:EP pP):B:=if e.x.val %2=1 then(jx 32 e.y.val).set 31 (cq (((jx 32 e.y.val).getD 31 0).toNat+128))else jx 32 e.y.val
def TV{a:Nat}{x:Zp}(h:a<pP)(e:fi a=x):a=x.val:=by rw[<-e];exact(iY h).symm
def RZ{P:P3}{e:EP pP}(h:P.rep e)(c:P.z<pP):P.bytes=e.bytes:=by
 have⟨a,d,f⟩:=h;have g:fi P.z*fi (oK P.z)=1:=by rw[<-rT,<-A_];exact Dv.2 (by rw[acW c (λb=>a (by rw[b,yX]))];decide)
 have i:mM P.x (oK P.z)=e.x.val:=TV (jg _ fV) (by grind [OG]);have j:mM P.y (oK P.z)=e.y.val:=TV (jg _ fV) (by grind [OG]);unfold P3.bytes EP.bytes
 grind
def aly(l c:F)(E c2 c7:Q)(y yy u yd v w nw n d1:Fl)(p PA PB:Pt)(i m ok zw:Bool)(S:Z)(g:l.length=32)(e:df l)(hl2:c.length=32)(f:df c)
 (j:dx (.A 32) c 0=J (.A c)) (h:∀a,aX (S++[.M l [] O,a]) .C (.P S.length 31)=J E) (s:K .shr E (.I U 7)=J c7) (d:K .eql c7 (.I L 1)=J (.B i))
 (q:K .and E (.I L 127)=J c2) (A:∀a,bd [] S.length (S++[.M l [] O,a]) 1 (.P S.length 31) c2=J ([],S++[.M c [] O,a]))
 (r:∀S,W N X 103 [.A c] S=J (.B m,S)) (z:∀S,W N X 75 [] S=J (p.aq,S)) (s1:∀S,W N X 104 [.I bM 1] S=J (n.aq,S))
 (o:∀S,W N X 73 [.A c] S=J (y.aq,S)) (I:∀S,W N X 79 [y.aq,y.aq] S=J (yy.aq,S)) (P:∀S,W N X 106 [yy.aq,n.aq] S=J (u.aq,S))
 (od:∀S,W N X 107 [] S=J (d1.aq,S)) (T:∀S,W N X 79 [yy.aq,d1.aq] S=J (yd.aq,S)) (m4:∀S,W N X 108 [yd.aq,n.aq] S=J (v.aq,S))
 (rt:∀S,W N X 105 [u.aq,v.aq] S=J (.cQ [w.aq,.B ok],S)) (hz:∀S,W N X 109 [w.aq] S=J (.B zw,S)) (ng:∀S,W N X 110 [w.aq] S=J (nw.aq,S))
 (aA:∀S,W N X 72 [nw.aq,y.aq] S=J (PA.aq,S)) (aB:∀S,W N X 72 [w.aq,y.aq] S=J (PB.aq,S)):
 W N X 47 [.A l] S=J (if m=G then(if ok=G then(if i=G then(if zw=G then .cQ [p.aq,.B O]else .cQ [PA.aq,.B G])else .cQ [PB.aq,.B G])else .cQ [p.aq,.B O])else .cQ [p.aq,.B O],S):=by
 have cc1:(AV.A l).cells=l:=rfl;have cc2:(AV.A c).cells=c:=rfl;have k:∀(x:Pt)(b:Bool),aF (.cQ [x.aq,.B b])=G:=λ_ _=>rfl;have tk:∀(t:bV)(x:Fl)(b:Bool),aY t (.cQ [x.aq,.B b])=(.cQ [x.aq,.B b],t):=λ_ _ _=>rfl;rw[js aEd];cases m with
 |false=>simp-implicitDefEqProofs [g,e,f,j,h,s,d,q,A,r,z,k,bU, -K, -AV.cells, -aU]
 |true=>
  cases ok with
  |false=>cases i<;>simp-implicitDefEqProofs [g,e,f,j,h,s,d,q,A,r,z,s1,o,I,P,od,T,m4,rt,k,tk,bU,bB, -K, -AV.cells, -aU]
  |true=>
   cases i with
   |false=>simp-implicitDefEqProofs [g,e,f,j,h,s,d,q,A,r,z,s1,o,I,P,od,T,m4,rt,ng,aB,k,tk,bU,bB, -K, -AV.cells, -aU]
   |true=>cases zw<;>simp-implicitDefEqProofs [g,e,f,j,h,s,d,q,A,r,z,s1,o,I,P,od,T,m4,rt,hz,ng,aA,k,tk,bU,bB, -K, -AV.cells, -aU]
def agE(c:UInt8):K .and (bn c) (.I L 127)=J (bn (cq (c.toNat %128))):=by show J (AV.I L (dr L ((gL 8 (c.toNat:Int)&&&gL 8 ((127:Nat):Int)).toNat:Int)))=_;rw[Wv,Yh,Yh,iY c.toNat_lt,show(127:Nat)%2^8=2^7 -1 from rfl,Oo,afX,bn,rV]
def ajY(c:UInt8):K .eql (bn (cq (c.toNat/2^7))) (.I L 1)=J (.B (b_ (128<=c.toNat))):=by
 have a:=c.toNat_lt;have e:(cq (c.toNat/2^7)).toNat=c.toNat/128:=by simp_all
 show J (AV.B (((cq (c.toNat/2^7)).toNat:Int)==1))=_
 grind [decide_eq_false]
def awH{x y:Fl}(a:x.n.ic)(b:y.n.ic):(x.add y).p=mA x.p y.p/\(x.add y).n.ic:=by grind [Dw,Fl.p,mA,Nat.add_mod]
def awI{x y:Fl}(a:x.n.ic)(b:y.n.ic):(x.sub y).p=mS x.p y.p/\(x.sub y).n.ic:=Hu a b
theorem E5:Fl.one.p=1/\Fl.one.n.ic:=⟨by rfl,agF.2⟩
structure Pt.is(q:Pt)(p:P3):Prop where
 x:q.x.p=p.x
 y:q.y.p=p.y
 z:q.z.p=p.z
 t:q.t.p=q.x.p*q.y.p %pP
 gx:q.x.n.ic
 gy:q.y.n.ic
 gz:q.z.n.ic
 gt:q.t.n.ic
def OJ:Fl.nil.p=0/\Fl.nil.n.ic:=⟨rfl,uD Sm.2⟩
theorem alz:Pt.none.is j8:=⟨OJ.1,E5.1,E5.1,by rfl,OJ.2,E5.2,E5.2,OJ.2⟩
theorem afL{x y:Fl}(a:x.n.ic)(b:y.n.ic):(Pt.aff x y).is ⟨x.p,y.p,1⟩:=by have⟨c,d⟩:=BQ a b;exact⟨rfl,rfl,E5.1,c,a,b,E5.2,d⟩
def adN(b:B)(d:b.length=32):∃q:Pt,(∀S,W N X 47 [.A (R b)] S=J (.cQ [q.aq,.B (pL b).2],S))/\q.is (pL b).1:=by
 have f:(nC b).length=32:=by simp[nC,d]
 have⟨y,h,_⟩:=awF b d;have⟨o,g⟩:=BQ h h;have⟨p,j⟩:=awI g E5.2;have⟨r,k⟩:=BQ g Zn.2;have⟨s,l⟩:=awH k E5.2;have⟨w,m,n,i⟩:=alA _ _ j l;have⟨t,v⟩:=abM m;have e:rW (((Fl.of (nC b)).mul (Fl.of (nC b))).sub Fl.one).p ((((Fl.of (nC b)).mul (Fl.of (nC b))).mul Fl.d1).add Fl.one).p=yf b:=by
  have x:Fl.d1.p=wK:=Zn.1
  grind [E5,yf,mM]
 rw[e]at i n
 have a:=λS=>aly (R b) (R (nC b)) (bn (b.getD 31 0)) (bn (cq ((b.getD 31 0).toNat %128))) (bn (cq ((b.getD 31 0).toNat/2^7)))
  (Fl.of (nC b)) ((Fl.of (nC b)).mul (Fl.of (nC b))) (((Fl.of (nC b)).mul (Fl.of (nC b))).sub Fl.one) (((Fl.of (nC b)).mul (Fl.of (nC b))).mul Fl.d1) ((((Fl.of (nC b)).mul (Fl.of (nC b))).mul Fl.d1).add Fl.one) w (Fl.nil.sub w) Fl.one Fl.d1
  Pt.none (Pt.aff (Fl.nil.sub w) (Fl.of (nC b))) (Pt.aff w (Fl.of (nC b))) (b_ (128<=(b.getD 31 0).toNat)) (b_ (dN (nC b)<pP)) (yf b).2 (b_ (w.p=0)) S
  (by simp[d]) (aL _) (by simp[f]) (aL _) (bG (by simp[f]) (aL _)) (λc=>Vl (kL S _) V) (ak0 (b.getD 31 0) 7 V U) (ajY _) (agE _)
  (λc=>by grind [st8,nC])
  (Xe b d) TW Ji (adw (nC b) f) (uE _ _) (abH _ _) agx (uE _ _) (abG _ _) i (abN w) (Ko w) (OB _ _) (OB _ _)
 have u:pL b=if dN (nC b)<pP then
  (if(yf b).2=G/\¬(128<=(b.getD 31 0).toNat/\(yf b).1=0)then(⟨if 128<=(b.getD 31 0).toNat then mS 0 (yf b).1 else(yf b).1,dN (nC b)%pP,1⟩,G)else(j8,O))
  else(j8,O):=rfl
 grind [mS,alz,afL]
section
section
variable{ch:Nat}[NeZero ch][F:Fld ch]
def afT{x1 y1 z1 x2 y2 z2 d t A B:Fin ch}(n:t=d*x1*x2*y1*y2)(c:(1+t)*A=1)(i:(1 -t)*B=1)(a:z1≠0)(b:z2≠0)(p:1+t≠0)(q:1 -t≠0)(e f g h:Fin ch)
 (j:e=(y1*z1+x1*z1)*(y2*z2+x2*z2) -(y1*z1 -x1*z1)*(y2*z2 -x2*z2)) (m:h=(y1*z1+x1*z1)*(y2*z2+x2*z2)+(y1*z1 -x1*z1)*(y2*z2 -x2*z2))
 (k:f=(z1+z1)*z2 -x1*y1*z1*(d+d)*(x2*y2*z2)) (l:g=(z1+z1)*z2+x1*y1*z1*(d+d)*(x2*y2*z2)):
 f*g≠0/\e*f=(x1*y2+x2*y1)*A*(f*g)/\g*h=(y1*y2+x1*x2)*B*(f*g)/\e*h=(x1*y2+x2*y1)*A*((y1*y2+x1*x2)*B)*(f*g):=by
 have o:=IX F.h2 (IX a b);rw[(by grind:e=(1+1)*(z1*z2)*(x1*y2+x2*y1)),(by grind:h=(1+1)*(z1*z2)*(y1*y2+x1*x2)),(by grind:f=(1+1)*(z1*z2)*(1 -t)),(by grind:g=(1+1)*(z1*z2)*(1+t))]
 grind [IX]
def afU{x y z d t A B:Fin ch}(l:y*y=1+x*x+d*(x*x)*(y*y))(m:t=d*x*x*y*y)(a:(1+t)*A=1)(b:(1 -t)*B=1)(n:z≠0)(o:1+t≠0)(p:1 -t≠0)(e f g h:Fin ch)
 (c:e=h -(x*z+y*z)*(x*z+y*z)) (k:h=x*z*(x*z)+y*z*(y*z)) (j:g=x*z*(x*z) -y*z*(y*z)) (i:f=z*z+z*z+g):
 f*g≠0/\e*f=(x*y+x*y)*A*(f*g)/\g*h=(y*y+x*x)*B*(f*g)/\e*h=(x*y+x*y)*A*((y*y+x*x)*B)*(f*g):=by
 grind [IX]
end
def fx(x:Fl):Zp:=fi x.n.v
theorem mP{x y:Fl}(a:x.n.ic)(b:y.n.ic):fx (x.mul y)=fx x*fx y:=by unfold fx;rw[<-rT];exact Dv.2 (uF a b).1
def wu{x y:Fl}(a:x.n.ic)(b:y.n.ic):fx (x.add y)=fx x+fx y:=by unfold fx;rw[<-TS];exact Dv.2 (Dw a b).1
def Cu{x y:Fl}(a:x.n.ic)(b:y.n.ic):fx (x.sub y)=fx x -fx y:=by grind [Hu,fx,A9,OH,jg]
structure Pt.rep(q:Pt)(e:EP pP):Prop where
 gx:q.x.n.ic
 gy:q.y.n.ic
 gz:q.z.n.ic
 gt:q.t.n.ic
 z:fx q.z≠0
 x:fx q.x=e.x*fx q.z
 y:fx q.y=e.y*fx q.z
 t:fx q.t=e.x*e.y*fx q.z
def afV:fx Fl.d2=fi wK+fi wK/\Fl.d2.n.ic:=by
 refine⟨?_,(Dw Zn.2 Zn.2).2⟩;have a:fx Fl.d1=fi wK:=by unfold fx;rw[<-Zn.1,A9]
 show fx (Fl.d1.add Fl.d1)=_;rw[wu Zn.2 Zn.2,a]
def OE{P Q:Pt}{p q:EP pP}(a:P.rep p)(b:Q.rep q):(P.add Q).rep (p.add q):=by
 have⟨y,z⟩:=den p q;have r:=Hu a.gy a.gx;have s:=Hu b.gy b.gx;have c:=uF r.2 s.2;have u:=Dw a.gy a.gx;have v:=Dw b.gy b.gx;have e:=uF u.2 v.2;have w:=uF a.gt afV.2;have f:=uF w.2 b.gt;have z1:=Dw a.gz a.gz;have z2:=uF z1.2 b.gz;have i:=Hu e.2 c.2;have j:=Hu z2.2 f.2;have k:=Dw z2.2 f.2;have l:=Dw e.2 c.2;have⟨x,m,n,o⟩:=afT (x1:=p.x) (y1:=p.y) (z1:=fx P.z) (x2:=q.x) (y2:=q.y) (z2:=fx Q.z) (d:=fi wK) (t:=tt p q) rfl (Fld.Aj _ y) (Fld.Aj _ z) a.z b.z y z _ _ _ _ rfl rfl rfl rfl;have A:fx (((P.y.add P.x).mul (Q.y.add Q.x)).sub ((P.y.sub P.x).mul (Q.y.sub Q.x)))=(p.y*fx P.z+p.x*fx P.z)*(q.y*fx Q.z+q.x*fx Q.z) -(p.y*fx P.z -p.x*fx P.z)*(q.y*fx Q.z -q.x*fx Q.z):=by rw[Cu e.2 c.2,mP u.2 v.2,mP r.2 s.2,wu a.gy a.gx,wu b.gy b.gx,Cu a.gy a.gx,Cu b.gy b.gx,a.x,a.y,b.x,b.y]
 have E:fx (((P.y.add P.x).mul (Q.y.add Q.x)).add ((P.y.sub P.x).mul (Q.y.sub Q.x)))=(p.y*fx P.z+p.x*fx P.z)*(q.y*fx Q.z+q.x*fx Q.z)+(p.y*fx P.z -p.x*fx P.z)*(q.y*fx Q.z -q.x*fx Q.z):=by rw[wu e.2 c.2,mP u.2 v.2,mP r.2 s.2,wu a.gy a.gx,wu b.gy b.gx,Cu a.gy a.gx,Cu b.gy b.gx,a.x,a.y,b.x,b.y]
 have g:fx (((P.z.add P.z).mul Q.z).sub ((P.t.mul Fl.d2).mul Q.t))=(fx P.z+fx P.z)*fx Q.z -p.x*p.y*fx P.z*(fi wK+fi wK)*(q.x*q.y*fx Q.z):=by rw[Cu z2.2 f.2,mP z1.2 b.gz,mP w.2 b.gt,mP a.gt afV.2,wu a.gz a.gz,a.t,b.t,afV.1]
 have h:fx (((P.z.add P.z).mul Q.z).add ((P.t.mul Fl.d2).mul Q.t))=(fx P.z+fx P.z)*fx Q.z+p.x*p.y*fx P.z*(fi wK+fi wK)*(q.x*q.y*fx Q.z):=by rw[wu z2.2 f.2,mP z1.2 b.gz,mP w.2 b.gt,mP a.gt afV.2,wu a.gz a.gz,a.t,b.t,afV.1]
 rw[<-A,<-g,<-h]at m;rw[<-E,<-g,<-h]at n;rw[<-A,<-E,<-g,<-h]at o;rw[<-g,<-h]at x;rw[<-mP j.2 k.2]at x m n o;rw[<-mP i.2 j.2]at m;rw[<-mP k.2 l.2]at n;rw[<-mP i.2 l.2]at o;exact⟨(uF i.2 j.2).2,(uF k.2 l.2).2,(uF j.2 k.2).2,(uF i.2 l.2).2,x,m,n,o⟩
def I0{P:Pt}{p:EP pP}(i:P.rep p):P.Qc.rep (p.add p):=by
 have⟨n,o⟩:=den p p;have a:=uF i.gx i.gx;have b:=uF i.gy i.gy;have c:=uF i.gz i.gz;have h:=Dw a.2 b.2;have s:=Dw i.gx i.gy;have r:=uF s.2 s.2;have e:=Hu h.2 r.2;have g:=Hu a.2 b.2;have m:=Dw c.2 c.2;have f:=Dw m.2 g.2;have A:fx ((P.x.mul P.x).add (P.y.mul P.y))=p.x*fx P.z*(p.x*fx P.z)+p.y*fx P.z*(p.y*fx P.z):=by rw[wu a.2 b.2,mP i.gx i.gx,mP i.gy i.gy,i.x,i.y]
 have w:fx ((P.x.mul P.x).sub (P.y.mul P.y))=p.x*fx P.z*(p.x*fx P.z) -p.y*fx P.z*(p.y*fx P.z):=by rw[Cu a.2 b.2,mP i.gx i.gx,mP i.gy i.gy,i.x,i.y]
 have u:fx (((P.x.mul P.x).add (P.y.mul P.y)).sub ((P.x.add P.y).mul (P.x.add P.y)))=fx ((P.x.mul P.x).add (P.y.mul P.y)) -(p.x*fx P.z+p.y*fx P.z)*(p.x*fx P.z+p.y*fx P.z):=by rw[Cu h.2 r.2,mP s.2 s.2,wu i.gx i.gy,i.x,i.y]
 have v:fx (((P.z.mul P.z).add (P.z.mul P.z)).add ((P.x.mul P.x).sub (P.y.mul P.y)))=fx P.z*fx P.z+fx P.z*fx P.z+fx ((P.x.mul P.x).sub (P.y.mul P.y)):=by rw[wu m.2 g.2,wu c.2 c.2,mP i.gz i.gz]
 have⟨q,j,k,l⟩:=afU (x:=p.x) (y:=p.y) (z:=fx P.z) (d:=fi wK) (t:=tt p p) p.on rfl (Fld.Aj _ n) (Fld.Aj _ o) i.z n o _ _ _ _ u A w v;rw[<-mP f.2 g.2]at q j k l;rw[<-mP e.2 f.2]at j;rw[<-mP g.2 h.2]at k;rw[<-mP e.2 h.2]at l;have E:p.x*p.y+p.x*p.y=p.x*p.y+p.x*p.y:=rfl;exact⟨(uF e.2 f.2).2,(uF g.2 h.2).2,(uF f.2 g.2).2,(uF e.2 h.2).2,q,j,k,l⟩
end
def kT(l:List Pt):F:=l.flatMap Pt.cs
theorem rU:∀l:List Pt,(kT l).length=20*l.length
 |[]=>rfl
 |p::r=>by have:=rU r;unfold kT at this⊢;rw[Dt,zO,this,aqb,Du];omega
def Cv(l:List Pt)(k:Nat)(h:k<l.length):kT l=kT (l.take k)++(l[k].cs++kT (l.drop (k+1))):=by grind [List.take_append_drop,List.drop_eq_getElem_cons,kT]
def ady(p:Pt):p.cs.map aW=p.cs:=rfl
def adz(l:List Pt)(k:Nat)(h:k<l.length):dx (.A 20) (kT l) (k*20)=J l[k].aq:=by refine lD (Cv l k h) ?_ rfl (ady _);rw[rU,List.length_take];omega
def xe{A B C B':F}{off:Nat}(a:A.length=off)(b:B'.length=B.length):aM (A++(B++C)) off B'=A++(B'++C):=by grind [aM]
def OI(l:List Pt)(k:Nat)(h:k<l.length)(q:Pt):aM (kT l) (k*20) q.cs=kT (l.set k q):=by
 rw[Cv l k h,Cv (l.set k q) k (by grind),xe (B:=l[k].cs) (B':=q.cs) (by grind [rU]) rfl]
 grind [List.take_set_of_le,List.drop_set_of_lt]
def Pt.Qt(P:Pt):Nat->Pt
 |0=>Pt.none
 |n+1=>(P.Qt n).add P
def WA:Pt.none.rep EP.zero:=by
 have b:fx Fl.one=1:=by rfl
 have a:fx Fl.nil=0:=by rfl
 refine⟨OJ.2,E5.2,E5.2,OJ.2, ?_, ?_, ?_, ?_⟩;all_goals trivial
def abl{P:Pt}{p:EP pP}(h:P.rep p):∀n,(P.Qt n).rep (EP.Nb n p)
 |0=>WA
 |n+1=>OE (abl h n) h
def E6(b:B)(i:Nat):Nat:=(b.getD (i/2) 0).toNat/2^(4*(i %2))%16
def akZ(b:B)(i:Nat):E6 b i=dN b/16^i %16:=by
 unfold E6;rw[<-BI];have c:16^i=256^(i/2)*16^(i %2):=by
  rw[show(256:Nat)=16^2 from rfl,<-uC,<-rA]
  grind
 rw[c,<-sG];generalize dN b/256^(i/2)=a;have h:i %2=0\/i %2=1:=V;rcases h with h|h<;>rw[h]<;>simp<;>omega
def itr{α:Type}(f:Nat->α->α):Nat->α->α
 |0,o=>o
 |i+1,o=>itr f i (f i o)
def OK{α:Type}(f:Nat->α->α)(i:Nat)(o:α):itr f (i+1) o=itr f i (f i o):=rfl
def Pt.wst(P:Pt)(b:B)(i:Nat)(o:Pt):Pt:=(o.Qc.Qc.Qc.Qc).add (P.Qt (E6 b i))
def Pt.Io(P:Pt)(b:B)(n:Nat)(o:Pt):Pt:=itr (P.wst b) n o
def abm{P:Pt}{p:EP pP}(h:P.rep p)(b:B):∀n k o,o.rep (EP.Nb k p)->(P.Io b n o).rep (EP.Nb (k*16^n+dN b %16^n) p)
 |0,k,o,ho=>by have e:k*16^0+dN b %16^0=k:=V;rw[e];exact ho
 |n+1,k,o,ho=>by
  have d:∀m,(EP.Nb m p).add (EP.Nb m p)=EP.Nb (m+m) p:=λm=>(EP.IY p m m).symm;have f:=I0 ho;rw[d]at f;have g:=I0 f;rw[d]at g;have i:=I0 g;rw[d]at i;have j:=I0 i;rw[d]at j;have s:=OE j (abl h (E6 b n));rw[<-EP.IY]at s;have r:=abm h b n _ _ s;have l:P.Io b (n+1) o=P.Io b n ((o.Qc.Qc.Qc.Qc).add (P.Qt (E6 b n))):=OK (P.wst b) n o;rw[l];clear l;have e:(k+k+(k+k)+(k+k+(k+k))+(k+k+(k+k)+(k+k+(k+k)))+E6 b n)*16^n+dN b %16^n=k*16^(n+1)+dN b %16^(n+1):=by
   rw[akZ,ph,Hs,<-w_,Zg];generalize dN b/16^n %16=a;generalize dN b %16^n=E;generalize 16^n=c;have:(k+k+(k+k)+(k+k+(k+k))+(k+k+(k+k)+(k+k+(k+k)))+a)*c=k*16*c+c*a:=by rw[show k+k+(k+k)+(k+k+(k+k))+(k+k+(k+k)+(k+k+(k+k)))+a=k*16+a by omega,IG,uB a]
   omega
  rw[e]at r;exact r
def Kp{P:Pt}{p:EP pP}(h:P.rep p)(b:B)(a:b.length=32):(P.Io b 64 Pt.none).rep (EP.Nb (dN b) p):=by
 have r:=abm h b 64 0 Pt.none WA
 grind [zR]
noncomputable abbrev Kr(l:List Pt):cZ:=.M (kT l) [] O
def ixP{i k:Nat}(h:k<16)(j:IntKind):jG 16 20 (.P i 0) (.I j (k:Int))=J (.P i (k*20)):=by simp_all
def ldP{S:Z}{i k:Nat}{l:List Pt}{bt:bV}{q:Bool}(a:S[i]? =J (.M (kT l) bt q))(h:k<l.length):aX S (.A 20) (.P i (k*20))=J l[k].aq:=by rw[bI a,adz l k h]
def avh{S:Z}{i k:Nat}{l:List Pt}(a:S[i]? =J (.M (kT l) [] O))(h:k<l.length)(q:Pt)(ag:bV)(nb:Nat):bd ag nb S 20 (.P i (k*20)) q.aq=J (ag,S.set i (.M (kT (l.set k q)) [] O)):=by rw[d_ (afW q) a,if_pos ⟨rfl,by rw[rU];omega⟩,WB,OI _ _ h]
def ptZ:Pt:=⟨Fl.nil,Fl.nil,Fl.nil,Fl.nil⟩
def pZ(P:Pt)(i:Nat):List Pt:=(List.range i).map P.Qt++fL (16 -i) ptZ
theorem I4(P:Pt)(i:Nat)(h:i<=16):(pZ P i).length=16:=by simp[pZ];omega
def WC(P:Pt)(i j:Nat)(h:j<i)(a:i<=16)(b:j<(pZ P i).length):(pZ P i)[j]=P.Qt j:=by grind [pZ]
def WD(P:Pt)(i:Nat)(h:i<16):(pZ P i).set i (P.Qt i)=pZ P (i+1):=by unfold pZ;rw[show 16 -i=(16 -(i+1))+1 by omega,Rm,aa9 _ _ bW,Ot,List.length_range,Nat.sub_self,RS,List.range_succ,List.map_append,sD];rfl
def avi(S:Z)(P:Pt)(d:cZ):∀n i:Nat,i+n=16->1<=i->DC N X (.L sA) ⟨[(1,.P S.length 0),(2,.P (S.length+1) 0),(3,.P (S.length+2) 0),(4,.I Y (i:Int))],[],S.length⟩ (S++[.M P.cs [] O,d,Kr (pZ P i)])=
 J (.E 0,⟨[(2,.P (S.length+1) 0),(3,.P (S.length+2) 0)],[],S.length⟩,S++[.M P.cs [] O,d,Kr (pZ P 16)]):=by
 intro n;induction n with
 |zero=>
  simp_all[aj,iJ]
 |succ n m=>
  intro i r q;have c:i<16:=V;have h:=m (i+1) V V;obtain⟨j,g⟩:∃j,i=j+1:=⟨i -1,by omega⟩;have k:dr Y ((i:Int) -1)=(j:Int):=by rw[cG V];omega
  have l:=ixP (i:=S.length+2) (show j<16 by omega) Y;have s:=I4 P i V;have o:∀a b,aX (S++[a,b,Kr (pZ P i)]) (.A 20) (.P (S.length+2) (j*20))=J (P.Qt j).aq:=λa b=>by rw[ldP (cl S _ 2) V,WC P i j V V]
  have e:=λS=>Zk (P.Qt j) P S;have f:(P.Qt j).add P=P.Qt i:=by rw[g];rfl
  rw[f]at e;have p:bd [] S.length (S++[.M P.cs [] O,d,Kr (pZ P i)]) 20 (.P (S.length+2) (i*20)) (P.Qt i).aq=J ([],S++[.M P.cs [] O,d,Kr (pZ P (i+1))]):=by rw[avh (cl S _ 2) V,WD P i c];simp
  generalize P.Qt j=x,P.Qt i=w,pZ P i=t,pZ P (i+1)=u,pZ P 16=v at*;clear f g;rw[aj,aN iJ];simp-implicitDefEqProofs [-K, -jG,du,oZ,eJ,(V:(i:Int)<16),k,ixP (i:=S.length+2) c Y,l,o,e,p, -AV.cells, -aU];rw[ab iJ];simp at h;simp-implicitDefEqProofs [-K,(aQ V:dr Y ((i:Int)+1)=((i+1:Nat):Int)),h]
def WE(l:List Pt):df (kT l):=by
 intro x b;simp only[kT,List.mem_flatMap]at b;have⟨p,_,a⟩:=b;simp only[Pt.cs,NP]at a;rcases a with h|h|h|h;·exact yY p.x x h
 ·exact yY p.y x h
 ·exact yY p.z x h
 ·exact yY p.t x h
set_option maxRecDepth 20000 in
theorem I5:nK=kT (fL 16 ptZ):=by rfl
theorem abn(P:Pt):(fL 16 ptZ).set 0 Pt.none=pZ P 1:=WD P 0 V
def WG(P:Pt)(S:Z):W N X 74 [P.aq] S=J (.A (kT (pZ P 16)),S):=by
 have a:=avi S P (.M nK [] O) 15 1 rfl (gM _);have z:=TW;have r:=ixP (i:=S.length+2) (show 0<16 by omega) Y;have n:∀b c,bd [] S.length (S++[b,c,.M nK [] O]) 20 (.P (S.length+2) 0) Pt.none.aq=J ([],S++[b,c,Kr (pZ P 1)]):=λb c=>by have h:=avh (l:=fL 16 ptZ) (k:=0) (cl S [b,c,Kr (fL 16 ptZ)] 2) bW Pt.none [] S.length;rw[I5];rw[NY]at h;rw[h,abn P];simp
 have o:(kT (pZ P 16)).length=320:=by grind [rU,I4]
 have p:nK.length=320:=by grind [I5,rU]
 have g:=WE (pZ P 16);have j:∀b c,aX (S++[b,c,Kr (pZ P 16)]) (.A 320) (.P (S.length+2) 0)=J (.A (kT (pZ P 16))):=λb c=>by simp_all[bG]
 have f:∀b c,bd [] S.length (S++[b,.M nK [] O,c]) 320 (.P (S.length+1) 0) (.A (kT (pZ P 16)))=J ([],S++[b,.M (kT (pZ P 16)) [] O,c]):=λb c=>by simp_all
 have e:∀b c,aX (S++[b,.M (kT (pZ P 16)) [] O,c]) (.A 320) (.P (S.length+1) 0)=J (.A (kT (pZ P 16))):=λb c=>by simp_all[bG]
 have d:jG 16 20 (.P (S.length+2) 0) (.I Y 0)=J (.P (S.length+2) 0):=by rfl
 have q:=g.agg.br;have m:aM nK 0 Pt.none.cs=kT (pZ P 1):=by
  have:=OI (fL 16 ptZ) 0 bW Pt.none
  grind [abn,I5]
 generalize kT (pZ P 16)=E,Pt.none=t,pZ P 1=s at*;rw[js aC7];simp-implicitDefEqProofs [-jG,z,d,n, -AV.cells, -aU];rw[ab iJ];simp at a;simp-implicitDefEqProofs [a,j,f,e,g, -AV.cells, -aU]
def avj(c:UInt8):K .and (bn c) (.I L 15)=J (.I L ((c.toNat %16:Nat):Int)):=by show J (AV.I L (dr L ((gL 8 (c.toNat:Int)&&&gL 8 ((15:Nat):Int)).toNat:Int)))=_;rw[Wv,Yh,Yh,iY c.toNat_lt,show(15:Nat)%2^8=2^4 -1 from rfl,Oo,afX,iY V]
noncomputable abbrev Zo(p:Pt):cZ:=.M p.cs [] O
def Pt.dbs(n:Nat)(o:Pt):Pt:=itr (λ_ p=>Pt.Qc p) n o
def afY(o:Pt):Pt.dbs 0 o=o:=rfl
def afZ(n:Nat)(o:Pt):Pt.dbs (n+1) o=Pt.dbs n o.Qc:=OK (λ_ p=>Pt.Qc p) n o
def af2(o:Pt):Pt.dbs 4 o=o.Qc.Qc.Qc.Qc:=by rfl
def ldO{S:Z}{i:Nat}{p:Pt}{bt:bV}{q:Bool}(a:S[i]? =J (.M p.cs bt q)):aX S (.A 20) (.P i 0)=J p.aq:=by rw[bI a];rfl
def stO{S:Z}{i:Nat}{cs:F}(a:S[i]? =J (.M cs [] O))(b:cs.length=20)(q:Pt)(ag:bV)(nb:Nat):bd ag nb S 20 (.P i 0) q.aq=J (ag,S.set i (Zo q)):=by rw[d_ (afW q) a,if_pos ⟨rfl,by omega⟩,WB,dT (by rw[b];rfl)]
def avm(S:Z)(b:Q)(b0 c b2 f:cZ):∀(n j:Nat)(o:Pt),j+n=4->DC N X (.L yH) ⟨[(3,.P (S.length+1) 0),(4,.P (S.length+2) 0),(5,.P (S.length+3) 0),(6,.P (S.length+4) 0),(7,b),(15,.I Y (j:Int))],[],S.length⟩ (S++[b0,c,b2,f,Zo o])=
 J (.E 2,⟨[(3,.P (S.length+1) 0),(4,.P (S.length+2) 0),(5,.P (S.length+3) 0),(6,.P (S.length+4) 0),(7,b)],[],S.length⟩,S++[b0,c,b2,f,Zo (Pt.dbs n o)]):=by
 intro n;induction n with
 |zero=>
  intro j o h;have e:j=4:=V;subst e;simp[aj,aN jH,afY]
 |succ n g=>
  intro j o h;have k:=g (j+1) o.Qc V;have d:=avn o;have i:bd [] S.length (S++[b0,c,b2,f,Zo o]) 20 (.P (S.length+4) 0) o.Qc.aq=J ([],S++[b0,c,b2,f,Zo o.Qc]):=by rw[stO (cl S _ 4) rfl];simp
  rw[aj,aN jH,afZ];generalize Pt.dbs n o.Qc=a,o.Qc=l at*;simp-implicitDefEqProofs [-K,du,(V:(j:Int)<4),(ldO (cl S _ 4):aX (S++[b0,c,b2,f,Zo o]) (.A 20) (.P (S.length+4) 0)=J o.aq),d,i,eJ,(aQ V:dr Y ((j:Int)+1)=((j+1:Nat):Int)), -AV.cells, -aU];rw[ab jH];trivial
def avo(S:Z)(P:Pt)(b:B)(hb:b.length=32)(b0 b2:cZ):∀(n:Nat)(o:Pt),n<=64->DC N X (.L yI) ⟨[(3,.P (S.length+1) 0),(4,.P (S.length+2) 0),(5,.P (S.length+3) 0),(6,.P (S.length+4) 0),(7,.I Y ((n:Int) -1))],[],S.length⟩ (S++[b0,.M (R b) [] O,b2,Kr (pZ P 16),Zo o])=
 J (.E 0,⟨[(4,.P (S.length+2) 0),(6,.P (S.length+4) 0)],[],S.length⟩,S++[b0,.M (R b) [] O,b2,Kr (pZ P 16),Zo (P.Io b n o)]):=by
 intro n;induction n with
 |zero=>
  intro o h;simp[aj,aN lY,show P.Io b 0 o=o from rfl]
 |succ n ih=>
  intro o h;have v:((n+1:Nat):Int) -1=(n:Int):=V;rw[v];have t:(n:Int)≥0:=V;have E:dr Y ((n:Int) -1)=(n:Int) -1:=cG V;have s:E6 b n<16:=jg _ V;have q:K .quo (.I Y (n:Int)) (.I Y 2)=_:=TX n 2 V V;have r:K .rem (.I Y (n:Int)) (.I Y 2)=_:=WH n 2 V;have m:K .mul (.I Y 4) (.I Y ((n %2:Nat):Int))=J (.I Y ((4*(n %2):Nat):Int)):=by show J (AV.I Y (dr Y (4*((n %2:Nat):Int))))=_;rw[cG V];rfl
  have I:=GZ (i:=S.length+1) (show n/2<32 by omega) Y;have l1:∀g j l f,aX (S++[g,.M (R b) [] O,j,l,f]) .C (.P (S.length+1) (n/2))=J (bn (b.getD (n/2) 0)):=λg j l f=>Vl (cl S _ 1) V;have sh:=ak0 (b.getD (n/2) 0) (4*(n %2)) V Y;have u:=avj (cq ((b.getD (n/2) 0).toNat/2^(4*(n %2))));have w:(cq ((b.getD (n/2) 0).toNat/2^(4*(n %2)))).toNat %16=E6 b n:=by have hc:(b.getD (n/2) 0).toNat<256:=(b.getD (n/2) 0).toNat_lt;have A:(b.getD (n/2) 0).toNat/2^(4*(n %2))<=(b.getD (n/2) 0).toNat:=LZ _ _;rw[rV,iY (show(b.getD (n/2) 0).toNat/2^(4*(n %2))<2^8 by omega)];rfl
  rw[w]at u;have ix:=ixP (i:=S.length+3) s L;have lt:∀g j l f,aX (S++[g,j,l,Kr (pZ P 16),f]) (.A 20) (.P (S.length+3) (E6 b n*20))=J (P.Qt (E6 b n)).aq:=λg j l f=>by have hl:=I4 P 16 V;rw[ldP (cl S _ 3) V,WC P 16 _ s V]
  have x:P.Io b (n+1) o=P.Io b n ((Pt.dbs 4 o).add (P.Qt (E6 b n))):=by rw[af2];exact OK (P.wst b) n o
  rw[x];have y:=ih ((Pt.dbs 4 o).add (P.Qt (E6 b n))) V;have c:=avm S (.I Y (n:Int)) b0 (.M (R b) [] O) b2 (Kr (pZ P 16)) 4 0 o rfl;have z:=Zk (Pt.dbs 4 o) (P.Qt (E6 b n));have st:∀p q g j l f,bd [] S.length (S++[g,j,l,f,Zo p]) 20 (.P (S.length+4) 0) (Pt.aq q)=J ([],S++[g,j,l,f,Zo q]):=λp q g j l f=>by rw[stO (cl S _ 4) rfl];simp
  clear w x v;generalize P.Io b n ((Pt.dbs 4 o).add (P.Qt (E6 b n)))=e at*;generalize(Pt.dbs 4 o).add (P.Qt (E6 b n))=pa at*;generalize Pt.dbs 4 o=pd at*;generalize P.Qt (E6 b n)=pt at*;generalize E6 b n=dg at*;generalize bn (cq ((b.getD (n/2) 0).toNat/2^(4*(n %2))))=c2 at*;generalize bn (b.getD (n/2) 0)=c1 at*;generalize((4*(n %2):Nat):Int)=K3 at*;generalize((n %2:Nat):Int)=K2 at*;generalize n/2=k at*;generalize R b=a at*;generalize pZ P 16=T at*;generalize hN:(n:Int)=d at*;rw[aj,aN lY];simp-implicitDefEqProofs [-K, -jG,wv,t, -AV.cells, -aU];rw[ab jH];try simp at c
  simp-implicitDefEqProofs [-K, -jG,c,q,r,m,I,l1,sh,u,ix,lt,z,(λp g j l f=>ldO (cl S _ 4):∀p g j l f,aX (S++[g,j,l,f,Zo p]) (.A 20) (.P (S.length+4) 0)=J p.aq),st,oZ,E, -AV.cells, -aU];rw[ab lY];try simp at y
  simp-implicitDefEqProofs [-K,y]
def Ay(P:Pt)(b:B)(o:b.length=32)(S:Z):W N X 27 [P.aq,.A (R b)] S=J ((P.Io b 64 Pt.none).aq,S):=by
 have c:=avo S P b o (.M P.cs [] O) (.M eQ [] O) 64 Pt.none (gM _);have z:=TW;have s:=WG P;have r:(R b).length=32:=by simp[o]
 have q:df (R b):=aL _;have v:(AV.A (R b)).cells=R b:=rfl;have w:(kT (pZ P 16)).length=320:=by grind [rU,I4]
 have x:nK.length=320:=by grind [I5,rU]
 have i:eQ.length=20:=rfl;have l:=WE (pZ P 16);have m:∀f g h,bd [] S.length (S++[f,g,h,.M nK [] O]) 320 (.P (S.length+3) 0) (.A (kT (pZ P 16)))=J ([],S++[f,g,h,Kr (pZ P 16)]):=λf g h=>by simp_all
 have j:∀f g h e,bd [] S.length (S++[f,g,h,e,.M eQ [] O]) 20 (.P (S.length+4) 0) Pt.none.aq=J ([],S++[f,g,h,e,Zo Pt.none]):=λf g h e=>by rw[stO (cl S _ 4) i];simp
 have k:∀p f g h e,bd [] S.length (S++[f,g,.M eQ [] O,h,e]) 20 (.P (S.length+2) 0) (Pt.aq p)=J ([],S++[f,g,Zo p,h,e]):=λp f g h e=>by rw[stO (cl S _ 2) i];simp
 generalize P.Io b 64 Pt.none=d,Pt.none=y,R b=a,pZ P 16=T at*;have n:=l.agg;have u:∀t,aY t (.A (kT T))=(.A (kT T),t):=λt=>n.take t;simp at j k c;rw[j7 aC8];simp-implicitDefEqProofs [r,q,z,s,m,j,n, -AV.cells, -aU];rw[ab lY];try simp at c
 simp-implicitDefEqProofs [c,(λp f g h e=>ldO (cl S _ 4):∀p f g h e,aX (S++[f,g,h,e,Zo p]) (.A 20) (.P (S.length+4) 0)=J p.aq),k,(λp f g h e=>ldO (cl S _ 2):∀p f g h e,aX (S++[f,g,Zo p,h,e]) (.A 20) (.P (S.length+2) 0)=J p.aq), -AV.cells, -aU]
def bX:Nat:=15112221349535400772501151409588531511454012693041857206046113283949847762202
def bY:Nat:=46316835694926478169428394003475163141307993866256225615783033603165251855960
def aC9:oK 5=11579208923731619542357098500868790785326998466564056403945758400791312963990:=by rw[E7,<-L5 fV];kernel_rfl
def aqc:mM 4 (oK 5)=bY:=by rw[aC9];decide
def aqd{u v k a:Nat}(h:(u*v^7)^((pP -5)/8)%pP=k)(b:u*v^3*k %pP=a):TY u v=a:=by unfold TY;rw[<-zS,h,b]
def ak1:TY 37053468555941182535542715202780130513046395093004980492626426882532201484767 35320460721920060721965471946471712506633951349663716574434581141966314745466=42783823269122696939284341094755422415180979639778424813682678720006717057747:=by
 have h:(37053468555941182535542715202780130513046395093004980492626426882532201484767*35320460721920060721965471946471712506633951349663716574434581141966314745466^7)^((pP -5)/8)%pP=2861453323427594548699152106119760322257416108237569298356087714518206905866:=by rw[<-L5 fV];kernel_rfl
 exact aqd h fV
def ak2:xf 42783823269122696939284341094755422415180979639778424813682678720006717057747=bX:=by rfl
def adA:rW 37053468555941182535542715202780130513046395093004980492626426882532201484767 35320460721920060721965471946471712506633951349663716574434581141966314745466=(bX,G):=by rw[H4 fV fV fV,ak1,if_pos fV,ak2]
def IW:tJ=⟨bX,bY,1⟩:=by
 have a:dN (nC (jx 32 bY))=bY:=by rfl
 have b:mS (mM bY bY) 1=37053468555941182535542715202780130513046395093004980492626426882532201484767:=fV;have c:mA (mM wK (mM bY bY)) 1=35320460721920060721965471946471712506633951349663716574434581141966314745466:=by rw[IZ];decide
 simp_all[bY,pP,jx,yf,adA,tJ,aqc,pL]
def ak3:fi bY*fi bY=1+fi bX*fi bX+fi wK*(fi bX*fi bX)*(fi bY*fi bY):=by rw[<-A_,IZ,<-rT,<-rT,<-rT,<-rT,<-TS,<-TS];rfl
def bE:EP pP:=⟨fi bX,fi bY,ak3⟩
def af3:fi 1≠0:=ave fV fV
def OC:tJ.rep bE:=by rw[IW];refine⟨af3, ?_, ?_⟩;all_goals rfl
def afN{q:Pt}{P:P3}{e:EP pP}(h:q.is P)(i:P.rep e)(b:P.z=1):q.rep e:=by
 have⟨l,c,d⟩:=i;have a:∀x:Fl,fx x=fi x.p:=λx=>(A9 _).symm;rw[b,A_]at c d;have k:fx q.z=1:=by rw[a,h.z,b,A_]
 have f:fx q.x=e.x:=by rw[a,h.x,c];grind
 have g:fx q.y=e.y:=by rw[a,h.y,d];grind
 have j:fx q.t=e.x*e.y:=by rw[a,h.t,A9,rT,<-a,<-a,f,g]
 refine⟨h.gx,h.gy,h.gz,h.gt, ?_, ?_, ?_, ?_⟩;all_goals grind
def WI{r:Nat}(a:r<pP):fi (xf r)*fi (xf r)=fi r*fi r:=by
 unfold xf;by_cases h:r %2=1
 ·rw[if_pos h,show(0+pP -r)%pP=mS 0 r from rfl,OH a,yX]
  grind
 simp_all
def af4{u v:Nat}(b:u<pP)(e:v<pP)(h:(rW u v).2=G):fi v*(fi (rW u v).1*fi (rW u v).1)=fi u:=by
 by_cases c:v=0;·grind [rW]
 rw[H4 b e c]at h⊢;have f:TY u v<pP:=jg _ fV;generalize TY u v=r at*;by_cases a:v*(r*r)%pP=u
 ·rw[if_pos a]
  show fi v*(fi (xf r)*fi (xf r))=fi u;rw[WI f,<-rT,<-rT]
  grind [Dv,iY]
 ·rw[if_neg a]at h⊢
  by_cases d:v*(r*r)%pP=(pP -u)%pP
  ·rw[if_pos d]
   dsimp only;rw[WI (jg _ fV),A9,rT];have i:=Wz;have g:fi v*(fi r*fi r)= -fi u:=by rw[<-rT,<-rT];have:fi (v*(r*r))=fi (mS 0 u):=Dv.2 (by grind [mS,Nat.mod_mod]);rw[this,OH b,yX];rfl
   grind
  simp_all
def abe{b:B}(h:(pL b).2=G):∃e:EP pP,(pL b).1.rep e/\(pL b).1.z=1/\(pL b).1.ok:=by
 unfold pL at h⊢;by_cases j:dN (nC b)<pP
 ·rw[if_pos j]at h⊢
  by_cases f:(yf b).2=G/\¬(128<=(b.getD 31 0).toNat/\(yf b).1=0)
  ·rw[if_pos f]
   have k:mS (mM (dN (nC b)%pP) (dN (nC b)%pP)) 1<pP:=jg _ fV;have l:mA (mM wK (mM (dN (nC b)%pP) (dN (nC b)%pP))) 1<pP:=jg _ fV;have g:=af4 k l f.1;rw[show rW (mS (mM (dN (nC b)%pP) (dN (nC b)%pP)) 1) (mA (mM wK (mM (dN (nC b)%pP) (dN (nC b)%pP))) 1)=yf b from rfl]at g;have o:(yf b).1<pP:=WJ _ _;rw[OH fV,abi,OG,OG,A_]at g;have p:dN (nC b)%pP<pP:=jg _ fV;generalize(yf b).1=c,dN (nC b)%pP=d at*;have n:∀x:Zp,x*x=fi c*fi c->fi d*fi d=1+x*x+fi wK*(x*x)*(fi d*fi d):=λx q=>by grind
   have i:fi (if 128<=(b.getD 31 0).toNat then mS 0 c else c)*fi (if 128<=(b.getD 31 0).toNat then mS 0 c else c)=fi c*fi c:=by
    split
    ·rw[OH o,yX]
     grind
    ·rfl
   have m:(if 128<=(b.getD 31 0).toNat then mS 0 c else c)<pP:=by
    split;·exact jg _ fV
    omega
   generalize(if 128<=(b.getD 31 0).toNat then mS 0 c else c)=a at*;refine⟨⟨fi a,fi d,n _ i⟩,⟨af3, ?_, ?_⟩,rfl,m,p,show(1:Nat)<pP by decide⟩
   ·show fi a=fi a*fi 1
    rw[A_];grind
   ·show fi d=fi d*fi 1
    rw[A_];grind
  grind
 simp_all
def P3.neg(P:P3):P3:=⟨mS 0 P.x,P.y,P.z⟩
def akU{P:P3}{e:EP pP}(h:P.rep e)(d:P.x<pP):P.neg.rep e.neg:=by
 have⟨a,b,c⟩:=h;refine⟨a, ?_,c⟩;show fi (mS 0 P.x)= -e.x*fi P.z
 grind [OH,yX]
def Pt.neg(q:Pt):Pt:=⟨Fl.nil.sub q.x,q.y,q.z,Fl.nil.sub q.t⟩
def af5{x:Fl}(h:x.n.ic):fx (Fl.nil.sub x)= -fx x/\(Fl.nil.sub x).n.ic:=by refine⟨?_,(Hu OJ.2 h).2⟩;rw[Cu OJ.2 h,show fx Fl.nil=fi 0 from rfl,yX];rfl
def anF(e:EP pP):e.neg.x= -e.x:=rfl
def avp(e:EP pP):e.neg.y=e.y:=rfl
def ak4{a x z:Zp}(h:a=x*z): -a= -x*z:=by grind
def af6{a x y z:Zp}(h:a=x*y*z): -a= -x*y*z:=by grind
def afQ{q:Pt}{e:EP pP}(h:q.rep e):q.neg.rep e.neg:=by have⟨l,m,n,k⟩:=q;have⟨g,i,j,f,z,x,y,t⟩:=h;have⟨a,b⟩:=af5 g;have⟨c,d⟩:=af5 f;exact⟨b,i,j,d,z,by rw[anF];exact a.trans (ak4 x),by trivial,by rw[anF,avp];exact c.trans (af6 t)⟩
def aqe{c:UInt8}(h:c.toNat<128):c|||128=cq (c.toNat+128):=by
 apply TE.1;rw[UInt8.toNat_or,rV,iY V,Oy];have:=Nat.two_pow_add_eq_or_of_lt (i:=7) (b:=c.toNat) V 1
 grind
def Pt.bytes(q:Pt):B:=
 if(q.x.mul q.z.inv).p %2=1 then(jx 32 (q.y.mul q.z.inv).p).set 31 ((jx 32 (q.y.mul q.z.inv).p).getD 31 0|||128)else jx 32 (q.y.mul q.z.inv).p
def OF{q:Pt}{e:EP pP}(h:q.rep e):q.bytes=e.bytes:=by
 have⟨n,o,j,m,z,x,y,t⟩:=h;have⟨r,s⟩:=avq j;have u:fx q.z*fx q.z.inv=1:=by
  have f:fx q.z.inv=fi (oK q.z.p):=by grind [E7,Fl.p,Nat.pow_mod,A9,fx]
  have b:fx q.z=fi q.z.p:=(A9 _).symm;rw[f,b,<-rT,<-A_];exact Dv.2 (by rw[acW (ak5 _) (λd=>z (by rw[b,d,yX]))];decide)
 have a:∀(w:Fl)(v:Zp),fx w=v->w.p=v.val:=λw v l=>TV (ak5 w) ((A9 _).trans l);have g:(q.x.mul q.z.inv).p=e.x.val:=a _ _ (by grind [mP]);have i:(q.y.mul q.z.inv).p=e.y.val:=a _ _ (by grind [mP]);unfold Pt.bytes EP.bytes;rw[g,i,aqe];have k:=BI (jx 32 e.y.val) 31;have c:=e.y.isLt;rw[(by rw[I6,iY (uu c fV)]:dN (jx 32 e.y.val)=e.y.val)]at k;have p:e.y.val/256^31<128:=(Dr (EJ V)).2 (uu c fV);omega
def bxB:B:=[26,213,37,143,96,45,86,201,178,167,37,149,96,199,44,105,92,220,214,253,49,226,164,192,254,83,110,205,211,54,105,33]
def byB:B:=88::fL 31 102
def Pt.base:Pt:=Pt.aff (Fl.of bxB) (Fl.of byB)
def TM(S:Z):W N X 26 [] S=J (Pt.base.aq,S):=by have c:=λS=>adw bxB rfl S;have d:=λS=>adw byB rfl S;have h:=λS=>OB (Fl.of bxB) (Fl.of byB) S;have f:R bxB=[.I L 26,.I L 213,.I L 37,.I L 143,.I L 96,.I L 45,.I L 86,.I L 201,.I L 178,.I L 167,.I L 37,.I L 149,.I L 96,.I L 199,.I L 44,.I L 105,.I L 92,.I L 220,.I L 214,.I L 253,.I L 49,.I L 226,.I L 164,.I L 192,.I L 254,.I L 83,.I L 110,.I L 205,.I L 211,.I L 54,.I L 105,.I L 33]:=rfl;have g:R byB=[.I L 88,.I L 102,.I L 102,.I L 102,.I L 102,.I L 102,.I L 102,.I L 102,.I L 102,.I L 102,.I L 102,.I L 102,.I L 102,.I L 102,.I L 102,.I L 102,.I L 102,.I L 102,.I L 102,.I L 102,.I L 102,.I L 102,.I L 102,.I L 102,.I L 102,.I L 102,.I L 102,.I L 102,.I L 102,.I L 102,.I L 102,.I L 102]:=rfl;rw[f]at c;rw[g]at d;have e:∀k n,AV.cells (.I k n)=[.I k n]:=λ_ _=>rfl;have j:∀k n,aU (.I k n)=G:=λ_ _=>rfl;rw[V9 aC1];unfold Pt.base;generalize Fl.of bxB=a,Fl.of byB=b at*;generalize Pt.aff a b=P at*;have i:=TN P;simp at i;simp-implicitDefEqProofs [c,d,h,dj,aM, -K, -AV.cells, -aU,e]
def RX:Pt.base.rep bE:=by have h:=afL (uD (afM bxB rfl).2) (uD (afM byB rfl).2);rw[(by rfl:(Fl.of bxB).p=bX),(by rfl:(Fl.of byB).p=bY),<-IW]at h;exact afN h OC (by rw[IW])
def ap9(p:Pt)(S:Z):W N X 50 [p.aq] S=J (p.neg.aq,S):=by have d:=λS=>Ko p.x S;have e:=λS=>Ko p.t S;have c:=TO (Fl.nil.sub p.x) p.y p.z (Fl.nil.sub p.t);rw[show(⟨Fl.nil.sub p.x,p.y,p.z,Fl.nil.sub p.t⟩:Pt)=p.neg from rfl]at c;have f:=TN p.neg;simp at c f;rw[js aC2];generalize p.neg=a,Fl.nil.sub p.x=b,Fl.nil.sub p.t=T at*;simp-implicitDefEqProofs [d,e,c, -AV.cells, -aU, -K]
def OD(q:Pt)(S:Z):W N X 28 [q.aq] S=J (.A (R q.bytes),S):=by
 have u:=λS=>avd q.z S;have r:=λS=>uE q.y q.z.inv S;have s:=λS=>uE q.x q.z.inv S;have e:=λS=>abc (q.y.mul q.z.inv) S;rw[abd]at e;rw[show(q.y.mul q.z.inv).n.v %pP=(q.y.mul q.z.inv).p from rfl]at e;have l:=λS=>Zj (q.x.mul q.z.inv) S;rw[show(q.x.mul q.z.inv).n.v %pP=(q.x.mul q.z.inv).p from rfl]at l;have p:q.bytes=if(q.x.mul q.z.inv).p %2=1 then(jx 32 (q.y.mul q.z.inv).p).set 31 ((jx 32 (q.y.mul q.z.inv).p).getD 31 0|||128)else jx 32 (q.y.mul q.z.inv).p:=rfl
 have t:(jx 32 (q.y.mul q.z.inv).p).length=32:=th _ _;generalize jx 32 (q.y.mul q.z.inv).p=d at*;generalize(q.x.mul q.z.inv).p=x at*;generalize q.y.mul q.z.inv=b at*;generalize q.x.mul q.z.inv=a at*;generalize q.z.inv=I at*;have g:(R d).length=32:=by simp[t]
 have f:df (R d):=aL _;have m:dx (.A 32) (R d) 0=J (.A (R d)):=bG g f;have k:∀a b c,aX (S++[a,b,c,.M (R d) [] O]) .C (.P (S.length+3) 31)=J (bn (d.getD 31 0)):=λa b c=>Vl (cl S _ 3) V;have w:K .or (bn (d.getD 31 0)) (.I L 128)=J (bn (d.getD 31 0|||128)):=afO (d.getD 31 0) 128;have E:∀a b c,bd [] S.length (S++[a,b,c,.M (R d) [] O]) 1 (.P (S.length+3) 31) (bn (d.getD 31 0|||128))=J ([],S++[a,b,c,.M (R (d.set 31 (d.getD 31 0|||128))) [] O]):=λa b c=>by rw[st8 (cl S _ 3) V];simp
 have i:(R (d.set 31 (d.getD 31 0|||128))).length=32:=by simp[t]
 have h:df (R (d.set 31 (d.getD 31 0|||128))):=aL _;rw[p];clear p;generalize d.set 31 (d.getD 31 0|||128)=v,d.getD 31 0|||128=T,d.getD 31 0=P,A:R d=n at*;have y:(AV.A n).cells=n:=rfl;rw[js aC3];by_cases j:x %2=1
 ·rw[if_pos j]
  generalize R v=o at*;have z:(AV.A o).cells=o:=rfl;simp-implicitDefEqProofs [u,r,s,e,l,j,g,f,k,w,E,i,h,bG i h, -K, -AV.cells, -aU]
 ·rw[if_neg j,A]
  simp-implicitDefEqProofs [u,r,s,e,l,j,g,f,m, -K, -AV.cells, -aU]
def akT(n m:B)(k:n.length=32)(j:m.length=32)(p:Pt)(S:Z):W N X 49 [.A (R n),p.aq,.A (R m)] S=J (((p.Io n 64 Pt.none).add (Pt.base.Io m 64 Pt.none)).aq,S):=by
 have r:=λS=>Ay p n k S;have s:=λS=>Ay Pt.base m j S;have b:=TM;have l:=λS=>Zk (p.Io n 64 Pt.none) (Pt.base.Io m 64 Pt.none) S;have f:(R n).length=32:=by simp[k]
 have d:df (R n):=aL _;have g:(R m).length=32:=by simp[j]
 have e:df (R m):=aL _;generalize(p.Io n 64 Pt.none).add (Pt.base.Io m 64 Pt.none)=c,p.Io n 64 Pt.none=t,Pt.base.Io m 64 Pt.none=u,Pt.base=a,R n=h,R m=i at*;have o:(AV.A h).cells=h:=rfl;have q:(AV.A i).cells=i:=rfl;rw[LR aC4];simp-implicitDefEqProofs [r,s,b,l,f,d,bG f d,g,e,bG g e, -K, -AV.cells, -aU]
def adx(p:P3)(g:p.ok)(S:Z):W N X 60 [p.aq] S=J (p.neg.aq,S):=by have⟨f,l,m⟩:=g;have⟨x,k,j,d⟩:=afP (a:=0) (b:=p.x) fV f;have e:=Wy x p.y p.z fN rfl;rw[(by unfold P3.neg mS;grind:p.neg=⟨x,p.y,p.z⟩)];rw[js aC5];have⟨o,h,i⟩:=p;generalize n:(⟨x,h,i⟩:P3)=r at*;have c:AV.A r.cs=r.aq:=rfl;simp-implicitDefEqProofs [<-qJ,RY,d,e,c, -AV.cells, -aU]
def HZ(gi k s:B):P3:=(P3.mul s 256 0 tJ j8).add (P3.mul k 256 0 (pL gi).1.neg j8) wK
def Zm{b k s:B}(h:(pL b).2=G){q:Pt}(f:q.is (pL b).1)(c:k.length=32)(d:s.length=32):
 ((q.neg.Io k 64 Pt.none).add (Pt.base.Io s 64 Pt.none)).bytes=(HZ b k s).bytes:=by
 have⟨e,r,i,g⟩:=abe h;have a:=OE (Kp (afQ (afN f r i)) k c) (Kp RX s d);rw[OF a,show HZ b k s=(P3.mul s 256 0 tJ j8).add (P3.mul k 256 0 (pL b).1.neg j8) wK from rfl,RZ (TP (Kq s d OC) (Kq k c (akU r g.1))) (P3.H3 _ _ _).2.2,EP.add_comm]
def sF(n:B):B:=(P3.mul n 256 0 tJ j8).bytes
def TQ:tJ.ok:=by rw[IW];trivial
def P3.TR(b:B):∀(n i:Nat)(x o:P3),x.ok->o.ok->(P3.mul b n i x o).ok
 |0,_,_,_,_,ho=>ho
 |n+1,i,x,o,hx,ho=>by
  rw[P3.mul];refine P3.TR b n (i+1) _ _ (P3.H3 _ _ _) ?_;split;·exact P3.H3 _ _ _
  ·exact ho
def R6{n:B}(a:n.length=32):(Pt.base.Io n 64 Pt.none).bytes=sF n:=by rw[OF (Kp RX n a),show sF n=(P3.mul n 256 0 tJ j8).bytes from rfl,RZ (Kq n a OC) (P3.TR n 256 0 _ _ TQ Na).2.2]
def GD(n:B):(sF n).length=32:=by unfold sF P3.bytes;split<;>simp
def ba.bytes(e:ba):B:=e.eC++e.gX
def ba.zr{e:ba}(A:e.Ok):e.bytes.length=e.eC.length+64:=by simp[ba.bytes,A.gX]
theorem ba.ie(e:ba):e.bytes≠[]:=by nofun
def uL(e:ba)(k:e.Wf)(S:Z):W N X 11 [.A e.aq] S=J (wy e.cM e.bytes,S):=by
 have A:=k.toOk;have c:=Qw e k (S++[.M e.aq [] O]);have p:Ak 1=.kO 71 (.I Y 1):=rfl;have r:Ak 3=.kO 71 (.I Y 3):=rfl;rw[js aDj];rcases(show e.cM=O\/e.cM=G by simp)with hs|hs
 ·rw[hs]at c⊢
  simp[A,c,bU,wy,p,cI,w6,cd,bq,aF,br]
 rw[hs]at c⊢;have⟨a,u,f,d⟩:=Cz e k hs (S++[.M e.aq [] O]);have q:=ba.zr A;have i:∀b,aY [] (.cQ [.sl .gB 1 (cJ a),.B b])=(.cQ [.sl (.fr 0) 1 (cJ a),.B b],[J a.length]):=λb=>by have:=agd a (.B b) (λ_=>rfl);exact this
 by_cases l:e.eC.length+64<=4096
 ·have n:=d l
  have j:=decide_eq_true l;rw[j,n]at f;rw[n]at i;have s:bZ (S++[.M e.aq [] O]) (.cH S.length 96 64 64 1)=J (1,cJ e.gX):=zq (x:=e.gX) (bt:=[]) (b:=O) bW (ba.s96 A) A.gX (by simp[A]);have v:e.gX≠[]:=by intro h;have:=A.gX;simp_all
  have m:eD 1 [J e.eC.length] (S++[.M e.aq [] O]) (.sl (.fr 0) 1 (cJ e.eC)) (.cH S.length 96 64 64 1)=J (.sl (.fr 0) 1 (cJ e.bytes),[J e.bytes.length],S++[.M e.aq [] O]):=by
   have t:¬(2^30<e.eC.length+e.gX.length):=by rw[A.gX];omega
   simp_all[eD,ba.bytes]
  have g:=zQ [J e.bytes.length] 0 1 (cJ e.bytes) bW;have o:ds 11 [J e.bytes.length] [.sl (.fr 0) 1 (cJ e.bytes),.c_] S (S++[.M e.aq [] O])=J (.cQ [.sl .gB 1 (cJ e.bytes),.c_],S):=by grind [cd,bq,w6,cI,aF,fQ,br]
  rw[GH rfl e.ie,tQ];simp at i m o;simp[A,c,bU,f,i,qI,m,o]
 ·have j:=decide_eq_false l
  rw[j]at f;rw[GH rfl e.ie,ifP];simp[A,c,bU,f,i,cI,w6,cd,bq,aF,br]
def Qx(e:ba)(d:e.Wf)(S:Z):W N X 16 [.A e.aq] S=J (.B (e.cM&&b_ (e.bytes.length<=4096)),S):=by
 have A:=d.toOk;have b:=uL e d (S++[.M e.aq [] O]);have a:=GG e.cM e.bytes e.ie;have g:Ak 1=.kO 71 (.I Y 1):=rfl;have h:Ak 3=.kO 71 (.I Y 3):=rfl;have c:∀n,dX .eql (.kO fX) G (.kO 71 (.I Y n)) .c_=J (.B O):=λ_=>rfl;rw[js aDk];rcases(show e.cM=O\/e.cM=G by simp)with hs|hs
 ·rw[hs]at b a⊢
  rw[if_neg bW,g]at a;simp[A,b,a,c]
 rw[hs]at b a⊢;rw[if_pos rfl]at a;by_cases f:e.bytes.length<=4096
 ·rw[tQ]at a
  simp[A,b,a,(rfl:dX .eql (.kO fX) G .c_ .c_=J (.B G)),f]
 ·rw[ifP,h]at a
  simp[A,b,a,c,f]
def zi(S:Z)(j:Nat)(r:Rd)(z:cZ)(c:F)(bt:bV)(u:cZ):Z:=S.set j (fT j r)++[z,.M c bt O,u]
def JQ(S:Z)(j:Nat)(r:Rd)(z:cZ)(c:F)(bt:bV)(u:cZ):iZ S j r z (.M c bt O)++[u]=zi S j r z c bt u:=sD ..
def PI(S:Z)(j:Nat)(r:Rd)(z b:cZ):(iZ S j r z b).length=S.length+2:=by simp[iZ]
def zj{S:Z}{j:Nat}{r:Rd}(b:S[j]? =J (fT j r))(a:Rd)(z:cZ)(c:F)(bt:bV)(u:cZ):(zi S j a z c bt u)[j]? =J (fT j a):=ajh b a _
theorem wR{S:Z}{j:Nat}{r:Rd}(d:S[j]? =J (fT j r))(b a:Rd)(z:cZ)(c:F)(bt:bV)(u:cZ):(zi S j b z c bt u).set j (fT j a)=zi S j a z c bt u:=by grind [zi,List.set_set]
theorem B6(S:Z)(j:Nat)(r:Rd)(z:cZ)(c:F)(bt:bV)(u:cZ):(zi S j r z c bt u)[S.length+1]? =J (.M c bt O):=gT (tD S j r) _ 1
theorem PJ(S:Z)(j:Nat)(r:Rd)(z:cZ)(c a:F)(bt bt':bV)(u:cZ):(zi S j r z c bt u).set (S.length+1) (.M a bt' O)=zi S j r z a bt' u:=sT (tD S j r) _ 1 _
def ajr(S:Z)(j:Nat)(r:Rd)(z:cZ)(c:F)(bt:bV)(u:cZ):(zi S j r z c bt u)[S.length+2]? =J u:=gT (tD S j r) _ 2
def ajs(S:Z)(j:Nat)(r:Rd)(z:cZ)(c:F)(bt:bV)(u:cZ):(zi S j r z c bt u)[S.length]? =J z:=gT0 (tD S j r) _
theorem aat(S:Z)(j:Nat)(r:Rd)(z:cZ)(c:F)(bt:bV)(u:cZ)(a:Sh)(off:Nat):aX (zi S j r z c bt u) a (.P (S.length+1) off)=dx a c off:=bI (B6 S j r z c bt u) a off
def Nr(S:Z)(j:Nat)(r:Rd)(z:cZ)(c:F)(bt:bV)(cs:F)(a:Sh)(off:Nat):aX (zi S j r z c bt (.M cs [] O)) a (.P (S.length+2) off)=dx a cs off:=bI (ajr ..) a off
theorem amR(S:Z)(j:Nat)(r:Rd)(cs:F)(c:F)(bt:bV)(u:cZ)(a:Sh)(off:Nat):aX (zi S j r (.M cs [] O) c bt u) a (.P S.length off)=dx a cs off:=bI (ajs ..) a off
def ajt(S:Z)(j:Nat)(r:Rd)(z:cZ)(c:F)(bt:bV)(u:cZ):(zi S j r z c bt u).take S.length=S.set j (fT j r):=by grind [zi]
def amS(S:Z)(j:Nat)(r b:Rd)(z:cZ)(c a:F)(bt bt':bV)(u:cZ){d:Rd}(e:S[j]? =J (fT j d)):JP (zi S j r z c bt u) j (S.length+1) b (.M a bt' O) []=zi S j b z a bt' u:=by grind [JP,wR,PJ]
def Lk{S:Z}{j:Nat}{r:Rd}{z:cZ}{c a:F}{bt:bV}{u:cZ}{v:Q}(f:xb v)(off n:Nat)(d:v.cells.length=n)(e:off+n<=c.length)(b:aM c off v.cells=a)(ag:bV):
 bd ag S.length (zi S j r z c bt u) n (.P (S.length+1) off) v=J (ag,zi S j r z a bt u):=by
 grind [d_,B6,PJ]
def PK{S:Z}{j:Nat}{r:Rd}{cs c C:F}{bt:bV}{u:cZ}(d:dv C=G)(a:cs.length=20)(b:C.length=20)(ag:bV):
 bd ag S.length (zi S j r (.M cs [] O) c bt u) 20 (.P S.length 0) (.A C)=J (ag,zi S j r (.M C [] O) c bt u):=by
 grind [zi,Ax,dT]
def B7{k:Int}{a b:B}{c xs ys:F}{pr ir:Q}(d:dv c=G)(e:dv xs=G)(f:dv ys=G)(g:br pr=G)(h:br ir=G):dv (lV k a b c xs ys pr ir)=G:=by rw[zT]at*;intro x hx;unfold lV at hx;simp only[NP,Of,List.not_mem_nil,or_false]at hx;rcases hx with(rfl|rfl|rfl)|hx|hx|hx|rfl|rfl;all_goals simp_all
theorem SI{k:Int}{a b:B}{c xs ys:F}{pr ir:Q}(d:c.map aW=c)(e:xs.map aW=xs)(f:ys.map aW=ys):(lV k a b c xs ys pr ir).map aW=lV k a b c xs ys (aW pr) (aW ir):=by simp_all[lV]
def B8{l:bS}{k:Int}{a b:B}{c xs ys:F}{pr ir:Q}(m:k=l.ak)(i:a=l.a)(j:b=l.b)(d:c.map dF=l.type.aq)(e:xs.map dF=l.base.aq)(f:ys.map dF=l.back.aq)(g:dF pr=qK l.bg)(h:dF ir=uH l.bT):
 cd (.A (lV k a b c xs ys pr ir))=.A l.aq:=by
 subst m i j;show AV.A ((lV l.ak l.a l.b c xs ys pr ir).map dF)=_;unfold lV;simp only[List.map_append,NF,TJ,d,e,f,g,h];rw[bS.jJ];rfl
abbrev wS:F:=[.I Y 0,.aw,.aw]
def ats:wS.map dF=(bJ.mk 0 [] []).aq:=by rfl
def ar3{k:Int}(b:1<=k)(c:k<=10):(vF k=G/\tM k=O/\wB k=O/\x9 k=O)\/(vF k=O/\tM k=G/\wB k=O/\x9 k=O)\/(vF k=O/\tM k=O/\wB k=O/\x9 k=O)\/(vF k=O/\tM k=O/\wB k=O/\x9 k=G)\/(vF k=O/\tM k=G/\wB k=G/\x9 k=O):=by have a:k=1\/k=2\/k=3\/k=4\/k=5\/k=6\/k=7\/k=8\/k=9\/k=10:=V;rcases a with k|k|k|k|k|k|k|k|k|k<;>subst k<;>decide
def amT:∀(d:Nat)(l:bS),l.Wf->l.bw d=G->d<1000->∀(S:Z)(j:Nat)(r:Rd)(u:B),S[j]? =J (fT j r)->rJ r (l.bytes++u)->
 W N X 100 [.P j 0,.I Y (d:Int)] S=J (.A l.aq,S.set j (fT j (r.go l.bytes.length))):=by
 intro d;induction d with
 |zero=>nofun
 |succ d ih=>
  intro l hl h hd S j r u w hr;have f:=bS.ib h;have I:=hl.one;have hj:j<S.length:=(lU.1 w).1;have lb:=l.Ab;have k1:=f.k1;have k10:=f.k10;have hR1:rJ (r.go 1) (aZ l.a++((if vF l.ak=G then aZ l.b else[])++((if tM l.ak=G then l.type.bytes++l.base.bytes else[])++((if wB l.ak=G then l.back.bytes++(cF l.bg.length++l.bg.flatMap ni)else[])++(bS.gA l.bT++u))))):=by have:=hr;rw[lb,Hn]at this;simpa only[sD]using this.go1
  have hr0:=hr;rw[lb,Hn]at hr0;have hS1:∀b,(S++[b])[j]? =J (fT j r):=λb=>dH _ w;have c1:=Je (hS1 (.M aE [] O)) hr0;rw[ij _ hj]at c1;have hk:((cq l.ak.toNat).toNat:Int)=l.ak:=by rw[rV];omega
  rw[hk]at c1;have wk:dr Y l.ak=l.ak:=cG V;have d0:¬((d:Int)+1=0):=V;have hd1:dr Y (d:Int)=(d:Int):=cG V;have T1:(S.set j (fT j (r.go 1))).length=S.length:=bW;have fk:dj aE [(0,1,.I Y l.ak)]=J (lV l.ak [] [] wS ah ah .aw .aw):=rfl;have st0:bd [] S.length (S.set j (fT j (r.go 1))++[.M aE [] O,.M aE [] O]) 20 (.P (S.length+1) 0) (.A (lV l.ak [] [] wS ah ah .aw .aw))=J ([],iZ S j (r.go 1) (.M aE [] O) (.M (lV l.ak [] [] wS ah ah .aw .aw) [] O)):=by rw[My T1 rfl];rfl
  have lk:∀n,aX (iZ S j n (.M aE [] O) (.M (lV l.ak [] [] wS ah ah .aw .aw) [] O)) .C (.P (S.length+1) 0)=J (.I Y l.ak):=λn=>nY ..;have cu:=xw l.ak;have hok:Bb l.ak=G:=by simp[Bb,k1,k10]
  rw[hok]at cu;have stu:∀n c b t y i,bd [] S.length (zi S j n (.M aE [] O) c [] (.M [.B O,.B O,.B O,.B O] [] O)) 4 (.P (S.length+2) 0) (.A [.B b,.B t,.B y,.B i])=J ([],zi S j n (.M aE [] O) c [] (.M [.B b,.B t,.B y,.B i] [] O)):=λn c b t y i=>by unfold zi;rw[My (tD S j n) rfl];rfl
  have b0:dX .neq (.kO fX) G .c_ .c_=J (.B O):=rfl;have b1:dX .eql (.kO fX) G .c_ .c_=J (.B G):=rfl;have lu0:∀n z c bt b t y i,aX (zi S j n z c bt (.M [.B b,.B t,.B y,.B i] [] O)) .C (.P (S.length+2) 0)=J (.B b):=λ_ _ _ _ _ _ _ _=>Nr ..;have lu1:∀n z c bt b t y i,aX (zi S j n z c bt (.M [.B b,.B t,.B y,.B i] [] O)) .C (.P (S.length+2) 1)=J (.B t):=λ_ _ _ _ _ _ _ _=>Nr ..;have lu2:∀n z c bt b t y i,aX (zi S j n z c bt (.M [.B b,.B t,.B y,.B i] [] O)) .C (.P (S.length+2) 2)=J (.B y):=λ_ _ _ _ _ _ _ _=>Nr ..;have lu3:∀n z c bt b t y i,aX (zi S j n z c bt (.M [.B b,.B t,.B y,.B i] [] O)) .C (.P (S.length+2) 3)=J (.B i):=λ_ _ _ _ _ _ _ _=>Nr ..;have er:=λ{n:Rd}{u':B}(z:cZ)(c:F)(bt)(b:cZ)(h':rJ n u')=>zY (zj w n z c bt b) h';have ne0:l.a≠[]:=by have:=ig f.a;intro e;have h2:=f.a;rw[e]at h2;trivial
  have c2:=λg=>XM (o:=[]) (zj w (r.go 1) (.M aE [] O) (lV l.ak [] [] wS ah ah .aw .aw) [] g) f.a ne0 hR1;simp only[wR w]at c2;have s2:∀n g,bd [] S.length (zi S j n (.M aE [] O) (lV l.ak [] [] wS ah ah .aw .aw) [] g) 1 (.P (S.length+1) 1) (.S l.a)=J ([],zi S j n (.M aE [] O) (lV l.ak l.a [] wS ah ah .aw .aw) [] g):=λn g=>Lk (T0 l.a) 1 1 rfl (by rw[pE rfl rfl rfl];omega) rfl [];have R2:=hR1.go;have lA:∀n z a b(ts xs ys:F) pr ir bt g,ts.length=3->xs.length=6->ys.length=6->ts.map aW=ts->xs.map aW=xs->ys.map aW=ys->aX (zi S j n z (lV l.ak a b ts xs ys pr ir) bt g) (.A 20) (.P (S.length+1) 0)=J (.A (lV l.ak a b ts xs ys (aW pr) (aW ir))):=λn z a b ts xs ys pr ir bt g h1 h2 h3 g1 g2 g3=>by grind [aat,fR,pE,SI]
  have lZ:∀n a b(ts xs ys:F) pr ir c bt g,ts.length=3->xs.length=6->ys.length=6->ts.map aW=ts->xs.map aW=xs->ys.map aW=ys->aW pr=pr->aW ir=ir->aX (zi S j n (.M (lV l.ak a b ts xs ys pr ir) [] O) c bt g) (.A 20) (.P S.length 0)=J (.A (lV l.ak a b ts xs ys pr ir)):=λn a b ts xs ys pr ir c bt g h1 h2 h3 g1 g2 g3 g4 g5=>by grind [amR,fR,pE,SI]
  have res:∀n s C c bt g,cd (.A C)=.A l.aq->ds 100 s [.A C] S (zi S j n (.M C [] O) c bt g)=J (.A l.aq,S.set j (fT j n)):=λn s C c bt g hC=>by simp[ux,hC,cI,ajt]
  have tS:=(bJ.ji l.type).jh;have tP:=(bJ.ji l.type).br;have tN:=(bJ.ji l.type).wx;have xS:=(bu.ji l.base).jh;have xP:=(bu.ji l.base).br;have xN:=(bu.ji l.base).wx;have yS:=(bu.ji l.back).jh;have yP:=(bu.ji l.back).br;have yN:=(bu.ji l.back).wx;have z3:wS.map aW=wS:=rfl;have z3P:dv wS=G:=rfl;have tr:∀b t y i o,aY [] (.cQ [.A (sJ b t y i),.B o])=(.cQ [.A (sJ b t y i),.B o],[]):=λ_ _ _ _ _=>rfl;have sn:aW .aw=.aw:=rfl;have i0:l.bT=[]->bS.gA l.bT=[]:=λh=>by rw[h];rfl
  rcases ar3 k1 k10 with⟨E,P,T,hi⟩|⟨E,P,T,hi⟩|⟨E,P,T,hi⟩|⟨E,P,T,hi⟩|⟨E,P,T,hi⟩
  ·
    have e1:=f.b1 E;have e2:=f.t0 P;have e3:=f.y0 T;have e4:=f.i0 hi;rw[E,P,T,hi]at cu;simp only[E,P,T,i0 e4,if_true,Br,if_false,As]at R2 lb;have c3:=λg=>XM (o:=l.a) (zj w ((r.go 1).go (aZ l.a).length) (.M aE [] O) (lV l.ak l.a [] wS ah ah .aw .aw) [] g) e1.1 e1.2 R2;simp only[wR w]at c3;have R3:=R2.go;have l1:∀n g,aX (zi S j n (.M aE [] O) (lV l.ak l.a [] wS ah ah .aw .aw) [] g) .C (.P (S.length+1) 1)=J (.S l.a):=λ_ _=>aat ..;have s3:∀n g,bd [] S.length (zi S j n (.M aE [] O) (lV l.ak l.a [] wS ah ah .aw .aw) [] g) 1 (.P (S.length+1) 2) (.S l.b)=J ([],zi S j n (.M aE [] O) (lV l.ak l.a l.b wS ah ah .aw .aw) [] g):=λn g=>Lk (T0 l.b) 2 1 rfl (by rw[pE rfl rfl rfl];omega) rfl [];have hC:cd (.A (lV l.ak l.a l.b wS ah ah .aw .aw))=.A l.aq:=B8 rfl rfl rfl (by rw[e2.1];rfl) (by rw[e2.2];rfl) (by rw[e3.1];rfl) (by rw[e3.2];rfl) (by rw[e4];rfl);have p:=λn z g=>lA n z l.a l.b wS ah ah .aw .aw [] g rfl rfl rfl rfl rfl rfl;have lZ':=λn c g=>lZ n l.a l.b wS ah ah .aw .aw c [] g rfl rfl rfl rfl rfl rfl rfl rfl;have sZ':=λn c g=>PK (S:=S) (j:=j) (r:=n) (cs:=aE) (c:=c) (bt:=[]) (u:=g) (C:=lV l.ak l.a l.b wS ah ah .aw .aw) (B7 rfl rfl rfl rfl rfl) rfl (pE rfl rfl rfl) [];have A:=λg=>er (.M aE [] O) (lV l.ak [] [] wS ah ah .aw .aw) [] g hR1;have v:=λg=>er (.M aE [] O) (lV l.ak l.a l.b wS ah ah .aw .aw) [] g R3;have rr:=λn s c g=>res n s _ c [] g hC;simp only[sn]at p;rw[j7 Xo];rw[lb];generalize hc0:lV l.ak [] [] wS ah ah .aw .aw=C0,hc1:lV l.ak l.a [] wS ah ah .aw .aw=C1,hc2:lV l.ak l.a l.b wS ah ah .aw .aw=C2 at*;simp at c2 c3 v p;simp[d0,c1,wk,fk,st0,lk,cu,tr,bU,PI,JQ,stu,A,b0,c2,s2,lu0,lu1,lu2,lu3,l1,c3,s3,ou,v,p,sZ',lZ',rr]
    grind
  ·
    have e1:=f.b0 E;have e2:=f.t1 P;have e3:=f.y0 T;have e4:=f.i0 hi;have fr:=qA e2;rw[E,P,T,hi]at cu;simp only[E,P,T,i0 e4,if_true,Br,if_false,As,sD]at R2 lb;have c3:=λg=>SG l.type I.type fr.2 (zj w ((r.go 1).go (aZ l.a).length) (.M aE [] O) (lV l.ak l.a [] wS ah ah .aw .aw) [] g) R2;simp only[wR w]at c3;have R3:=R2.go;have s3:∀n g,bd [] S.length (zi S j n (.M aE [] O) (lV l.ak l.a [] wS ah ah .aw .aw) [] g) 3 (.P (S.length+1) 3) (.A l.type.aq)=J ([],zi S j n (.M aE [] O) (lV l.ak l.a [] l.type.aq ah ah .aw .aw) [] g):=λn g=>Lk (kU (bJ.ji l.type)) 3 3 bW (by rw[pE rfl rfl rfl];omega) (ajm rfl bW) [];have R4:=R3.go
    have c4:=λg=>Gf (m:=S.length+1) l.base I.base fr.1 (zj w (((r.go 1).go (aZ l.a).length).go l.type.bytes.length) (.M aE [] O) (lV l.ak l.a [] l.type.aq ah ah .aw .aw) [] g) R3 181 rfl rfl (by
     refine Bk (k:=l.ak) (a:=l.a) (b:=[]) (t:=l.type) (xs:=ah) (ys:=ah) (pr:=.aw) (ir:=.aw) (bt:=[]) (q:=O) ?_ l.base I.base I.type e2;unfold iZ
     grind [wR,B6])
    simp only[wR w]at c4;have s4:∀n g,bd [] S.length (zi S j n (.M aE [] O) (lV l.ak l.a [] l.type.aq ah ah .aw .aw) [] g) 6 (.P (S.length+1) 6) (.A l.base.aq)=J ([],zi S j n (.M aE [] O) (lV l.ak l.a [] l.type.aq l.base.aq ah .aw .aw) [] g):=λn g=>Lk (kU (bu.ji l.base)) 6 6 bW (by rw[pE bW rfl rfl];omega) (ajn bW rfl bW) [];have hC:cd (.A (lV l.ak l.a [] l.type.aq l.base.aq ah .aw .aw))=.A l.aq:=B8 rfl rfl e1.symm tN xN (by rw[e3.1];rfl) (by rw[e3.2];rfl) (by rw[e4];rfl);have p:=λn z g=>lA n z l.a [] l.type.aq l.base.aq ah .aw .aw [] g bW bW rfl tS xS rfl;have lZ':=λn c g=>lZ n l.a [] l.type.aq l.base.aq ah .aw .aw c [] g bW bW rfl tS xS rfl rfl rfl;have sZ':=λn c g=>PK (S:=S) (j:=j) (r:=n) (cs:=aE) (c:=c) (bt:=[]) (u:=g) (C:=lV l.ak l.a [] l.type.aq l.base.aq ah .aw .aw) (B7 tP xP rfl rfl rfl) rfl (pE bW bW rfl) [];have A:=λg=>er (.M aE [] O) (lV l.ak [] [] wS ah ah .aw .aw) [] g hR1;have v:=λg=>er (.M aE [] O) (lV l.ak l.a [] l.type.aq l.base.aq ah .aw .aw) [] g R4;have rr:=λn s c g=>res n s _ c [] g hC;simp only[sn]at p;rw[j7 Xo];rw[lb];generalize hc0:lV l.ak [] [] wS ah ah .aw .aw=C0,hc1:lV l.ak l.a [] wS ah ah .aw .aw=C1,hc2:lV l.ak l.a [] l.type.aq ah ah .aw .aw=C2,hc3:lV l.ak l.a [] l.type.aq l.base.aq ah .aw .aw=C3 at*;simp at c2 c3 c4 v p;simp[d0,c1,wk,fk,st0,lk,cu,tr,bU,PI,JQ,stu,A,b0,c2,s2,lu0,lu1,lu2,lu3,c3,s3,c4,s4,ou,v,p,sZ',lZ',rr]
    grind
  ·
    have e1:=f.b0 E;have e2:=f.t0 P;have e3:=f.y0 T;have e4:=f.i0 hi;rw[E,P,T,hi]at cu;simp only[E,P,T,i0 e4,Br,if_false,As]at R2 lb;have hC:cd (.A (lV l.ak l.a [] wS ah ah .aw .aw))=.A l.aq:=B8 rfl rfl e1.symm (by rw[e2.1];rfl) (by rw[e2.2];rfl) (by rw[e3.1];rfl) (by rw[e3.2];rfl) (by rw[e4];rfl);have p:=λn z g=>lA n z l.a [] wS ah ah .aw .aw [] g rfl rfl rfl rfl rfl rfl;have lZ':=λn c g=>lZ n l.a [] wS ah ah .aw .aw c [] g rfl rfl rfl rfl rfl rfl rfl rfl;have sZ':=λn c g=>PK (S:=S) (j:=j) (r:=n) (cs:=aE) (c:=c) (bt:=[]) (u:=g) (C:=lV l.ak l.a [] wS ah ah .aw .aw) (B7 rfl rfl rfl rfl rfl) rfl (pE rfl rfl rfl) [];have A:=λg=>er (.M aE [] O) (lV l.ak [] [] wS ah ah .aw .aw) [] g hR1;have v:=λg=>er (.M aE [] O) (lV l.ak l.a [] wS ah ah .aw .aw) [] g R2;have rr:=λn s c g=>res n s _ c [] g hC;simp only[sn]at p;rw[j7 Xo];rw[lb];generalize hc0:lV l.ak [] [] wS ah ah .aw .aw=C0,hc1:lV l.ak l.a [] wS ah ah .aw .aw=C1 at*;simp at c2 v p;simp[d0,c1,wk,fk,st0,lk,cu,tr,bU,PI,JQ,stu,A,b0,c2,s2,lu0,lu1,lu2,lu3,ou,v,p,sZ',lZ',rr]
    grind
  ·
    have e1:=f.b0 E;have e2:=f.t0 P;have e3:=f.y0 T;have e4:=f.i1 hi;obtain⟨x,ex⟩:∃x,l.bT=[x]:=EE.1 e4;have eb:bS.gA l.bT=x.bytes:=by rw[ex];simp[bS.gA]
    rw[E,P,T,hi]at cu;simp only[E,P,T,eb,Br,if_false,As]at R2 lb;have c3:=λg=>ih x (hl.all x (by grind)) (f.all x (by grind)) V _ j ((r.go 1).go (aZ l.a).length) u (zj w ((r.go 1).go (aZ l.a).length) (.M aE [] O) (lV l.ak l.a [] wS ah ah .aw .aw) [] g) R2;simp only[wR w]at c3;have R3:=R2.go;have bo:fg 20 [aE] [(0,.A x.aq)]=J [x.aq]:=by have:=(bS.ji x).jh;simp[fg,aW,AV.cells,aU]
    have px:br (.sl .X 20 [x.aq])=G:=by simp[br,eT,(bS.ji x).br]
    have s3:∀n g,bd [] S.length (zi S j n (.M aE [] O) (lV l.ak l.a [] wS ah ah .aw .aw) [] g) 1 (.P (S.length+1) 19) (.sl .X 20 [x.aq])=J ([],zi S j n (.M aE [] O) (lV l.ak l.a [] wS ah ah .aw (.sl .X 20 [x.aq])) [] g):=λn g=>by unfold bd;simp only[B6];rw[if_pos ⟨rfl,rfl,by rw[pE rfl rfl rfl];omega,.inl V⟩];show J ([],(zi ..).set _ (.M (aM _ 19 [_]) [] O))=_;rw[PJ,ar1 rfl rfl rfl];rfl
    have hC:cd (.A (lV l.ak l.a [] wS ah ah .aw (.sl .X 20 [x.aq])))=.A l.aq:=B8 rfl rfl e1.symm (by rw[e2.1];rfl) (by rw[e2.2];rfl) (by rw[e3.1];rfl) (by rw[e3.2];rfl) (by rw[ex];rfl);have p:=λn z g=>lA n z l.a [] wS ah ah .aw (.sl .X 20 [x.aq]) [] g rfl rfl rfl rfl rfl rfl;have lZ':=λn c g=>lZ n l.a [] wS ah ah .aw (.sl .X 20 [x.aq]) c [] g rfl rfl rfl rfl rfl rfl rfl rfl;have sZ':=λn c g=>PK (S:=S) (j:=j) (r:=n) (cs:=aE) (c:=c) (bt:=[]) (u:=g) (C:=lV l.ak l.a [] wS ah ah .aw (.sl .X 20 [x.aq])) (B7 rfl rfl rfl rfl px) rfl (pE rfl rfl rfl) [];have A:=λg=>er (.M aE [] O) (lV l.ak [] [] wS ah ah .aw .aw) [] g hR1;have v:=λg=>er (.M aE [] O) (lV l.ak l.a [] wS ah ah .aw (.sl .X 20 [x.aq])) [] g R3;have rr:=λn s c g=>res n s _ c [] g hC;have st9:aW (.sl .X 20 [x.aq])=.sl .X 20 [x.aq]:=rfl;simp only[st9]at p;simp only[sn]at p;rw[j7 Xo];rw[lb];generalize hc0:lV l.ak [] [] wS ah ah .aw .aw=C0,hc1:lV l.ak l.a [] wS ah ah .aw .aw=C1,hc2:lV l.ak l.a [] wS ah ah .aw (.sl .X 20 [x.aq])=C2 at*;simp at c2 c3 v p bo;simp[d0,hd1,c1,wk,fk,st0,lk,cu,tr,bU,PI,JQ,stu,A,b0,c2,s2,lu0,lu1,lu2,lu3,c3,s3,bo,ou,v,p,sZ',lZ',rr]
    grind
  ·
    have e1:=f.b0 E;have e2:=f.t1 P;have e3:=f.y1 T;have e4:=f.i0 hi;have fr:=qA e2;have tk1:=O2 e2;rw[E,P,T,hi]at cu;simp only[E,P,T,i0 e4,if_true,Br,if_false,As,sD]at R2 lb;have c3:=λg=>SG l.type I.type fr.2 (zj w ((r.go 1).go (aZ l.a).length) (.M aE [] O) (lV l.ak l.a [] wS ah ah .aw .aw) [] g) R2;simp only[wR w]at c3;have R3:=R2.go;have s3:∀n g,bd [] S.length (zi S j n (.M aE [] O) (lV l.ak l.a [] wS ah ah .aw .aw) [] g) 3 (.P (S.length+1) 3) (.A l.type.aq)=J ([],zi S j n (.M aE [] O) (lV l.ak l.a [] l.type.aq ah ah .aw .aw) [] g):=λn g=>Lk (kU (bJ.ji l.type)) 3 3 bW (by rw[pE rfl rfl rfl];omega) (ajm rfl bW) [];have R4:=R3.go;have ert:=λg=>er (.M aE [] O) (lV l.ak l.a [] l.type.aq ah ah .aw .aw) [] g R3;have l3:∀n g,aX (zi S j n (.M aE [] O) (lV l.ak l.a [] l.type.aq ah ah .aw .aw) [] g) (.A 3) (.P (S.length+1) 3)=J (.A l.type.aq):=λn g=>by rw[aat];exact aoE bW tS
    have csc:=Dz l.type;have hsc:(b_ (1<=l.type.ak)&&b_ (l.type.ak<=4))=G:=by grind
    rw[hsc]at csc;have c4:=λg=>Gf (m:=S.length+1) l.base I.base fr.1 (zj w (((r.go 1).go (aZ l.a).length).go l.type.bytes.length) (.M aE [] O) (lV l.ak l.a [] l.type.aq ah ah .aw .aw) [] g) R3 181 rfl rfl (by refine Bk (k:=l.ak) (a:=l.a) (b:=[]) (t:=l.type) (xs:=ah) (ys:=ah) (pr:=.aw) (ir:=.aw) (bt:=[]) (q:=O) ?_ l.base I.base I.type e2;unfold iZ;refine dH _ ?_;rw[wR w];exact B6 ..)
    simp only[wR w]at c4;have s4:∀n g,bd [] S.length (zi S j n (.M aE [] O) (lV l.ak l.a [] l.type.aq ah ah .aw .aw) [] g) 6 (.P (S.length+1) 6) (.A l.base.aq)=J ([],zi S j n (.M aE [] O) (lV l.ak l.a [] l.type.aq l.base.aq ah .aw .aw) [] g):=λn g=>Lk (kU (bu.ji l.base)) 6 6 bW (by rw[pE bW rfl rfl];omega) (ajn bW rfl bW) [];have jm:j≠S.length+1:=V;have c5:=λg=>ajq l I e3.1 e3.2.1 e3.2.2.1 e3.2.2.2 (k:=l.ak) (a:=l.a) (b:=[]) (xs:=l.base.aq) (ys:=ah) (ir:=.aw) bW rfl (zj w ((((r.go 1).go (aZ l.a).length).go l.type.bytes.length).go l.base.bytes.length) (.M aE [] O) (lV l.ak l.a [] l.type.aq l.base.aq ah .aw .aw) [] g) (B6 ..) jm R4;simp only[amS S j _ _ _ _ _ _ _ _ w]at c5;have R5:rJ (((((r.go 1).go (aZ l.a).length).go l.type.bytes.length).go l.base.bytes.length).go (l.back.bytes.length+((cF l.bg.length).length+(l.bg.flatMap ni).length))) u:=by
     have:=R4.go.go.go
     grind [Rd.go]
    generalize Qy:bL (S.length+1) 0 12 (Lj l.bg)=row at*;have hrs:aW row=eV 12 (Lj l.bg):=by rw[<-Qy];exact rR ..
    have q1:=pK (sz:=12) (SH l.bg);have hC:cd (.A (lV l.ak l.a [] l.type.aq l.base.aq l.back.aq (eV 12 (Lj l.bg)) .aw))=.A l.aq:=B8 rfl rfl e1.symm tN xN yN (aeg _) (by rw[e4];rfl);have p:=λn z g=>lA n z l.a [] l.type.aq l.base.aq l.back.aq row .aw (U6 l.bg.length) g bW bW bW tS xS yS;have lZ':=λn c g=>lZ n l.a [] l.type.aq l.base.aq l.back.aq (eV 12 (Lj l.bg)) .aw c (U6 l.bg.length) g bW bW bW tS xS yS q1.1 rfl;have sZ':=λn c g=>PK (S:=S) (j:=j) (r:=n) (cs:=aE) (c:=c) (bt:=U6 l.bg.length) (u:=g) (C:=lV l.ak l.a [] l.type.aq l.base.aq l.back.aq (eV 12 (Lj l.bg)) .aw) (B7 tP xP yP q1.2 rfl) rfl (pE bW bW bW) [];have A:=λg=>er (.M aE [] O) (lV l.ak [] [] wS ah ah .aw .aw) [] g hR1;have v:=λg=>er (.M aE [] O) (lV l.ak l.a [] l.type.aq l.base.aq l.back.aq row .aw) (U6 l.bg.length) g R5;have rr:=λn s c g=>res n s _ c (U6 l.bg.length) g hC;simp only[sn,hrs]at p;rw[j7 Xo];rw[lb];generalize hc0:lV l.ak [] [] wS ah ah .aw .aw=C0,hc1:lV l.ak l.a [] wS ah ah .aw .aw=C1,hc2:lV l.ak l.a [] l.type.aq ah ah .aw .aw=C2,hc3:lV l.ak l.a [] l.type.aq l.base.aq ah .aw .aw=C3,hc4:lV l.ak l.a [] l.type.aq l.base.aq l.back.aq row .aw=C4,hc5:lV l.ak l.a [] l.type.aq l.base.aq l.back.aq (eV 12 (Lj l.bg)) .aw=C5 at*;simp at c2 c3 ert c4 p;simp[-List.length_flatMap]at c5 v;simp[d0,c1,wk,fk,st0,lk,cu,tr,dh,bU,PI,JQ,stu,A,b0,b1,c2,s2,lu0,lu1,lu2,lu3,c3,s3,ert,l3,csc,c4,s4,c5,ou,v,p,sZ',lZ',rr, -List.length_flatMap]
    grind
def WX{S:Z}{j:Nat}{r:Rd}{u:B}(v:bS)(i:v.Wf)(h:v.bw 5=G)(d:S[j]? =J (fT j r))(f:rJ r (v.bytes++u)):
 W N X 43 [.P j 0] S=J (.A v.aq,S.set j (fT j (r.go v.bytes.length))):=by
 have e:=amT 5 v i h V (S++[.M aE [] O]) j r u (dH _ d) f;rw[ij _ ((lU.1 d).1)]at e;have c:(S.set j (fT j (r.go v.bytes.length))).length=S.length:=bW;have m:=Ax c (bS.ji v).br [.M aE [] O] 0 [] S.length 20;have l:aX (S.set j (fT j (r.go v.bytes.length))++[.M v.aq [] O]) (.A 20) (.P S.length 0)=J (.A v.aq):=by rw[lT0 c];simp
 have k:∀b a,(S.set j b++a).take S.length=S.set j b:=λb a=>by simp
 have g:aM aE 0 v.aq=v.aq:=dT bW;rw[js aEP];simp_all
theorem Fv(s:B):(cJ s).flatten=R s:=by
 induction s with
 |nil=>rfl
 |cons a r b=>show _::(cJ r).flatten=_;rw[b];rfl
def T9{s:B}(h:s≠[]):eV 1 (cJ s)=.sl .N 1 (cJ s):=by grind [eV,tu]
def Nc{S:Z}{j:Nat}{r:Rd}{s u:B}(c:s.length=32)(i:S[j]? =J (fT j r))(k:rJ r (s++u)):
 W N X 40 [.P j 0] S=J (.A (R s),S.set j (fT j (r.go 32))):=by
 have e:=ZC (dH [.M aP [] O,.M aP [] O] i) 32 c V k;rw[ij _ ((lU.1 i).1),c,T9 (by grind)]at e;have d:(S.set j (fT j (r.go 32))).length=S.length:=bW;have p:((cJ s).take 32).flatten=R s:=by simp_all[oh,Fv]
 have h:uw S.length (S.set j (fT j (r.go 32))++[.M aP [] O,.M aP [] O]) 1 (.cH (S.length+1) 0 32 32 1) (.sl .N 1 (cJ s))=J (.I Y 32,S.set j (fT j (r.go 32))++[.M aP [] O,.M (R s) [] O]):=by simp_all[uw,bZ,AW]
 have l:aX (S.set j (fT j (r.go 32))++[.M aP [] O,.M (R s) [] O]) (.A 32) (.P (S.length+1) 0)=J (.A (R s)):=by simp[lT d,c]
 have g:=Ax d (aL s).br [.M aP [] O,.M (R s) [] O] 0 [] S.length 32;have f:aX (S.set j (fT j (r.go 32))++[.M (R s) [] O,.M (R s) [] O]) (.A 32) (.P S.length 0)=J (.A (R s)):=by simp[lT0 d,c]
 have n:∀b a,(S.set j b++a).take S.length=S.set j b:=λb a=>by simp
 have o:aY [] (.sl .N 1 (cJ s))=(.sl .N 1 (cJ s),[]):=rfl;have m:∀a,ds 40 [] [.A (R s)] S (S.set j (fT j (r.go 32))++a)=J (.A (R s),S.set j (fT j (r.go 32))):=λa=>by simp
 simp only[RQ,RS]at g;rw[if_pos ⟨by simp[c],by decide⟩,(dT (by simp[c]):aM aP 0 (R s)=R s)]at g;rw[js aDl];simp at e h;simp[e,qI,o,h,l,g,f,m]
def Sg:∀(l:List B)(i:Nat),BN l=G->BN (l.take i)=G
 |[],i,_=>by grind
 |[a],i,_=>by cases i<;>simp[BN]
 |a::b::r,0,_=>by rfl
 |a::b::r,1,_=>by rfl
 |a::b::r,i+2,h=>by simp only[BN,mv]at h;have:=Sg (b::r) (i+1) h.2;simp at this⊢;simp only[BN,h.1,Rl];exact this
def wI(l:List B):jV:=l.map R
def age(l:List B):nL l=mq 32 (wI l):=rfl
@[simp]def aBz(l:List B):(wI l).length=l.length:=by simp[wI]
def Ku(l:List B):eT (wI l)=G:=kh.2 λx a=>by obtain⟨s,_,rfl⟩:=yF.1 a;exact df.br (aL s)
def ZD{S:Z}{j:Nat}{r:Rd}{u:B}(l:List B)(hl:∀p∈l,p.length=32)(h4:l.length<=4)(A:BN l=G)(z:S[j]? =J (fT j r))(hr:rJ r (cF l.length++(l.flatten++u))):
 W N X 41 [.P j 0] S=J (ZE 32 (wI l),S.set j (fT j (r.go ((cF l.length).length+l.flatten.length)))):=by
 have I:∀d i(k:Rd)(g:Q)(e:bV),i+d=l.length->rJ k ((l.drop i).flatten++u)->Jc 32 g e (wI (l.take i))->
  ∃c a,Jc 32 c a (wI l)/\DC N X (.L Az) ⟨[(0,.P j 0),(3,.I U (l.length:Int)),(4,g),(5,.I U (i:Int))],e,S.length⟩ (S.set j (fT j k))=
   J (.E 0,⟨[(4,c)],a,S.length⟩,S.set j (fT j (k.go (l.drop i).flatten.length))):=by
  intro d;induction d with
  |zero=>
   intro i k g e hi f q;rw[(oh V:l.take i=l)]at q;refine⟨g,e,q, ?_⟩;simp[aj,aN nj,(jY V:l.drop i=[]),(V:¬i<l.length),Rd.go]
  |succ d ih=>
   intro i k g e hi f q;have⟨y,E,hy'⟩:=aT (l:=l) (i:=i) V;have hw:dr U ((i:Int)+1)=((i+1:Nat):Int):=by show((i:Int)+1)%2^64=_;omega
   have m:=hl y (gS E);rw[bf E,Ro]at f⊢;rw[sD]at f;have v:=Nc m (Kv z k) f;rw[TG]at v;have Rn:=f.go;rw[m]at Rn;have tP:l.take (i+1)=l.take i++[y]:=by rw[vH,E];rfl
   have⟨o,t2,a1,a2⟩:=q.app (R y) (by simp;omega) (S.set j (fT j (k.go 32)));have a3:Jc 32 o t2 (wI (l.take (i+1))):=by rw[tP];simpa[wI]using a2
   have ne:wI (l.take (i+1))≠[]:=by rw[tP];simp[wI]
   have w:o=.sl (.fr 0) 32 (wI (l.take (i+1))):=by rcases a3 with⟨h,_⟩|⟨_,h,_⟩;all_goals trivial
   have gn:ej (.sl .N 32 (wI (l.take (i+1))))=nL (l.take (i+1)):=by rw[age];cases h:wI (l.take (i+1))<;>rfl
   have c3:=Fh (l.take (i+1)) (λp hp=>hl p (List.mem_of_mem_take hp)) (by grind) (S.set j (fT j (k.go 32)));rw[Sg l _ A]at c3;have⟨c,a,n1,P⟩:=ih (i+1) (k.go 32) o t2 V Rn a3;refine⟨c,a,n1, ?_⟩;have bo:fg 32 [aP] [(0,.A (R y))]=J [R y]:=by simp_all[fg]
   rw[aj,aN nj];simp only[zO,m]at P⊢;simp[-List.length_flatten]at P hw v bo;simp[(V:i<l.length),zY (Kv z k) f,(rfl:dX .eql (.kO fX) G .c_ .c_=J (.B G)),v,bo,a1,(λT=>by rw[w];rfl:∀T,bH T o=J (.sl .N 32 (wI (l.take (i+1))))),gn,(λT=>by rw[w];rfl:∀T,bK T o=T),(λT s=>by rw[w];rfl:∀T s,bk T s o=s),de,ct,c3,bU, -List.length_flatten];rw[ab nj];simp[hw,P, -List.length_flatten]
 have⟨c,a,g1,x⟩:=I l.length 0 _ .aw [] V hr.go (Jc.nil 32);have⟨t,f1,f2,f3,f4⟩:=g1.res (Ku l);rw[js aDm];simp only[tR]at x;simp[-List.length_flatten]at x;simp[ot z (n:=l.length) V hr,(eq_false V:((4:Int)<(l.length:Int))=False), -List.length_flatten];rw[ab nj];simp[x,f1,f2,f3,f4,(λb=>oh bW:∀b,(S.set j b).take S.length=S.set j b), -List.length_flatten]
def Db{S:Z}{l:List cZ}{k off n c:Nat}{b:B}{bt:bV}{q:Bool}(h:l[k]? =J (.M (R b) bt q))(a:off+n<=b.length):bZ (S++l) (.cH (S.length+k) off n c 1)=J (1,cJ ((b.drop off).take n)):=by grind [zq,R,sub,List.map_take,List.map_drop]
def AU(b:B)(u:b.length=64)(s:Bool)(S:Z):W N X 46 [.A (R b),.B s] S=J (.A (R (if s=G then b.drop 32 else b.take 32)),S):=by
 have h:(R b).length=64:=by simp[u]
 have g:df (R b):=aL _;have v:(AV.A (R b)).cells=R b:=rfl;have r:aP.length=32:=rfl
 have i:∀off c:Nat,off+32<=64->uw S.length (S++[.M (R b) [] O,.M aP [] O,.M aP [] O]) 1 (.cH (S.length+2) 0 32 32 1) (.cH S.length off 32 c 1)=J (.I Y 32,S++[.M (R b) [] O,.M aP [] O,.M (R ((b.drop off).take 32)) [] O]):=λoff c x=>by
  have m:=Db (S:=S) (l:=[.M (R b) [] O,.M aP [] O,.M aP [] O]) (k:=0) (off:=off) (n:=32) (c:=c) (b:=b) rfl V;have q:((b.drop off).take 32).length=32:=by simp;omega
  unfold uw;rw[Ow]at m;rw[m];simp only[AW];rw[tQ,gT (S:=S) rfl];simp only[Wu,RQ];have w:((cJ ((b.drop off).take 32)).take 32).flatten=R ((b.drop off).take 32):=by grind [yW,Fv]
  simp_all
 have o:=λc=>i 0 c V;have p:=λc=>i 32 c V;rw[(bW:(b.drop 0).take 32=b.take 32)]at o;rw[(by grind [oh]:(b.drop 32).take 32=b.drop 32)]at p;rw[j7 aES];cases s with
 |false=>
  rw[if_neg bW];have e:df (R (b.take 32)):=aL _;have f:(R (b.take 32)).length=32:=by simp;omega
  have j:=bG f e;generalize R (b.take 32)=a at*;generalize R b=E at*;have t:(AV.A a).cells=a:=rfl;generalize aP=d at*;simp-implicitDefEqProofs [h,g,r,qI,o,e,f,j, -AV.cells, -aU]
 |true=>
  rw[if_pos rfl];have e:df (R (b.drop 32)):=aL _;have f:(R (b.drop 32)).length=32:=by simp;omega
  generalize R (b.drop 32)=a at*;generalize R b=E at*;have t:(AV.A a).cells=a:=rfl;generalize aP=d at*;simp-implicitDefEqProofs [h,g,r,qI,p,e,f,bG f e, -AV.cells, -aU]
def ajJ(c:UInt8):K .andNot (bn c) (.I L 7)=J (bn (cq (c.toNat/8*8))):=by
 have h:∀n:Nat,n<256->(gL 8 (n:Int)&&& ~~~gL 8 7).toNat=n/8*8:=by decide+kernel
 show J (AV.I L (dr L ((gL 8 (c.toNat:Int)&&& ~~~gL 8 7).toNat:Int)))=_;rw[h c.toNat c.toNat_lt,bn,rV,afX]
def ajK(c:UInt8):K .or (bn (cq (c.toNat %128))) (.I L 64)=J (bn (cq (c.toNat %64+64))):=by
 have h:∀n:Nat,n<256->n %128|||64=n %64+64:=by decide+kernel
 have e:=h c.toNat c.toNat_lt;have:=afO (cq (c.toNat %128)) 64
 grind [bn,UInt8.toNat_or,rV]
def clp(h:B):B:=(h.set 0 (cq ((h.getD 0 0).toNat/8*8))).set 31 (cq ((h.getD 31 0).toNat %64+64))
def iL(s:B):B:=clp ((dV s).take 32)
def oU(s:B):B:=(dV s).drop 32
def Gm(b:B):(dV b).length=64:=by unfold dV W8.tv;rw[Ns];rfl
def GR(s:B):(iL s).length=32:=by simp_all[Gm,iL,clp]
def SN(s:B):(oU s).length=32:=by have:=Gm s;simp[oU];omega
def HJ.more{S:Z}{p:Q × B}(h:HJ S p)(b:List cZ):HJ (S++b) p:=⟨h.1,λa=>by rw[sD];exact h.2 _⟩
def aaB{S:Z}{l:List cZ}{k n c:Nat}{b:B}{bt:bV}{q:Bool}(h:l[k]? =J (.M (R b) bt q))(d:b.length=n):HJ (S++l) (.cH (S.length+k) 0 n c 1,b):=by
 refine⟨rfl,λa=>⟨1, ?_,λ_=>rfl⟩⟩;have e:=(lU.1 h).1;have:=Db (S:=S) (l:=l++a) (k:=k) (off:=0) (n:=n) (c:=c) (b:=b) (bt:=bt) (q:=q) (by grind) V
 grind
def JV(s:B)(hs:s.length=32)(S:Z):W N X 25 [.A (R s)] S=J (.cQ [.A (R (iL s)),.A (R (oU s))],S):=by
 have i:=Gm s;have hl1:(R s).length=32:=by simp[hs]
 have hd1:df (R s):=aL _;have hz:aP.length=32:=rfl;have hz2:bR.length=64:=rfl;have z:=DR [(.cH S.length 0 32 32 1,s)] (S++[.M (R s) [] O,.M aP [] O,.M aP [] O]) (λp hp=>by rw[Ze.1 hp];have:=aaB (S:=S) (l:=[.M (R s) [] O,.M aP [] O,.M aP [] O]) (k:=0) (n:=32) (c:=32) (b:=s) rfl hs;omega) bW (by simp[cj];omega);rw[show cj [(AV.cH S.length 0 32 32 1,s)]=s from by simp[cj]]at z;rw[show po [(AV.cH S.length 0 32 32 1,s)]=.sl .N 1 [[.cH S.length 0 32 32 1]]from rfl]at z;have hf:=λT=>AU (dV s) i O T;have ht:=λT=>AU (dV s) i G T;rw[if_neg bW]at hf;rw[if_pos rfl]at ht;have l32:((dV s).take 32).length=32:=by simp[i]
 have a7:=ajJ (((dV s).take 32).getD 0 0);have a8:=agE (((dV s).take 32).getD 31 0);have a9:=ajK (((dV s).take 32).getD 31 0);have bo:fg 1 (fL 1 [AV.aw]) [(0,.cH S.length 0 32 32 1)]=J [[.cH S.length 0 32 32 1]]:=rfl;have ed:oU s=(dV s).drop 32:=rfl;have en:iL s=(((dV s).take 32).set 0 (cq ((((dV s).take 32).getD 0 0).toNat/8*8))).set 31 (cq ((((dV s).take 32).getD 31 0).toNat %64+64)):=rfl;rw[ed,en];clear ed en;have u:∀f g h e,aX (S++[f,g,h,e,.M (R ((dV s).take 32)) [] O]) .C (.P (S.length+4) 0)=J (bn (((dV s).take 32).getD 0 0)):=λf g h e=>Vl (cl S _ 4) V;have v:∀f g h e c,bd [] S.length (S++[f,g,h,e,.M (R ((dV s).take 32)) [] O]) 1 (.P (S.length+4) 0) (bn c)=J ([],S++[f,g,h,e,.M (R (((dV s).take 32).set 0 c)) [] O]):=λf g h e c=>by rw[st8 (cl S _ 4) V];simp
 have q:∀f g h e c,aX (S++[f,g,h,e,.M (R (((dV s).take 32).set 0 c)) [] O]) .C (.P (S.length+4) 31)=J (bn (((dV s).take 32).getD 31 0)):=λf g h e c=>by rw[Vl (cl S _ 4) (by simp[i]),Bw,RM V,<-Bw]
 have r:∀f g h e c d,bd [] S.length (S++[f,g,h,e,.M (R (((dV s).take 32).set 0 c)) [] O]) 1 (.P (S.length+4) 31) (bn d)=J ([],S++[f,g,h,e,.M (R ((((dV s).take 32).set 0 c).set 31 d)) [] O]):=λf g h e c d=>by rw[st8 (cl S _ 4) (by simp[i])];simp
 have i0:jG 32 1 (.P (S.length+4) 0) (.I Y 0)=J (.P (S.length+4) 0):=QB (k:=0) V;have i31:jG 32 1 (.P (S.length+4) 0) (.I Y 31)=J (.P (S.length+4) 31):=QB (k:=31) V;have P:∀T,bH T (.sl .X 1 [[.cH S.length 0 32 32 1]])=J (.sl .X 1 [[.cH S.length 0 32 32 1]]):=λ_=>rfl;have lkX:∀T,bK T (.sl .X 1 [[.cH S.length 0 32 32 1]])=T:=λ_=>rfl;have ulX:∀T T',bk T T' (.sl .X 1 [[.cH S.length 0 32 32 1]])=T':=λ_ _=>rfl;have noX:ej (.sl .X 1 [[.cH S.length 0 32 32 1]])=.sl .N 1 [[.cH S.length 0 32 32 1]]:=rfl;have hH:(R (dV s)).length=64:=by simp[i]
 have y:df (R (dV s)):=aL _;have hHp:=bG hH y;have hF:(R ((dV s).take 32)).length=32:=by simp[i]
 have hFd:df (R ((dV s).take 32)):=aL _;have hG:(R ((dV s).drop 32)).length=32:=by simp[i]
 have m:df (R ((dV s).drop 32)):=aL _;have hGp:=bG hG m;generalize cq ((((dV s).take 32).getD 0 0).toNat/8*8)=t,cq ((((dV s).take 32).getD 31 0).toNat %64+64)=j,cq ((((dV s).take 32).getD 31 0).toNat %128)=I at*;have hN:(R ((((dV s).take 32).set 0 t).set 31 j)).length=32:=by simp[i]
 have o:df (R ((((dV s).take 32).set 0 t).set 31 j)):=aL _;have hNp:=bG hN o;have u:=u;have v:=λf g h e=>v f g h e t;have q:=λf g h e=>q f g h e t;have r:=λf g h e=>r f g h e t j;generalize((dV s).take 32).getD 0 0=c0,((dV s).take 32).getD 31 0=A,R ((((dV s).take 32).set 0 t).set 31 j)=x,R (((dV s).take 32).set 0 t)=EM,R ((dV s).take 32)=EF,R ((dV s).drop 32)=w,R (dV s)=EH,R s=E,bn t=cd0,bn j=aLt,bn I=aLu at*;generalize bn c0=cc0,bn A=aLv at*;have c1:(AV.A E).cells=E:=rfl;have c2:(AV.A EH).cells=EH:=rfl;have c3:(AV.A EF).cells=EF:=rfl;have c4:(AV.A w).cells=w:=rfl;have c5:(AV.A x).cells=x:=rfl;have rs:∀a,ds 25 [] [.A x,.A w] S (S++a)=J (.cQ [.A x,.A w],S):=λa=>by have n1:cd (.A x)=.A x:=o.agg.cd;have n2:cd (.A w)=.A w:=m.agg.cd;have g1:=o.agg.I7;have g2:=m.agg.I7;have p1:=o.br;have p2:=m.br;simp_all[aF]
 try simp at bo
 rw[js aED];generalize hZ:aP=h,hY:bR=g at*;try simp at z
 simp-implicitDefEqProofs [hl1,hd1,hz,hz2,qI,bo,P,lkX,ulX,noX,de,ct,z,hf,ht,hH,y,hHp,hF,hFd,hG,m,hGp,hN,o,hNp,i0,i31,u,a7,v,q,a8,a9,r,rs, -K, -jG, -AV.cells, -aU]
def iI(d:Nat):Q:=.I Y (d:Int)
def rK(l:List Nat):jV:=l.map λd=>[iI d]
def eI(l:List Nat):F:=l.map iI
@[simp]def aBU(l:List Nat):(rK l).length=l.length:=Ot ..
@[simp]def aip(l:List Nat):(eI l).length=l.length:=Ot ..
def aiq(l:List Nat)(i:Nat):(eI l)[i]? =l[i]?.map iI:=yU ..
def arp(l:List Nat)(i d:Nat):(eI l).set i (iI d)=eI (l.set i d):=(TH ..).symm
def CU(d:Nat):xb (iI d):=(uG Y _).Ks
theorem K8(l:List Nat):eT (rK l)=G:=kh.2 λx a=>by obtain⟨d,_,rfl⟩:=yF.1 a;rfl
def aad(es:jV):mq 1 es=.sl .N 1 es:=by cases es<;>rfl
def gat(l:List Nat)(i:Int):Nat:=if i<0 then 0 else l.getD i.toNat 0
def Pj(r:ia)(l:List Nat)(i:Int)(S:Z):W N X 201 [.sl r 1 (rK l),.I Y i] S=J (iI (gat l i),S):=by
 have j:fW (.sl r 1 (rK l))=J (.I Y (l.length:Int)):=by simp[fW]
 have g:∀a b,K .geq (.I Y a) (.I Y b)=J (.B (b_ (a≥b))):=λ_ _=>rfl;unfold gat;rw[j7 ax2];by_cases h:i<0
 ·rw[if_pos h]
  generalize rK l=c at*;simp[-K,du,h];rfl
 ·rw[if_neg h]
  by_cases d:(l.length:Int)<=i
  ·have e:l.getD i.toNat 0=0:=by simp_all
   rw[e];have f:=d;generalize rK l=c at*;simp[-K,du,g,h,j,d];rfl
  ·have f:=d
   have m:oc 1 (.sl r 1 (rK l)) (.I Y i)=J (.ff (uj r) [iI (l.getD i.toNat 0)] 0):=by grind [rK,oc]
   have k:=CU (l.getD i.toNat 0);generalize iI (l.getD i.toNat 0)=v,rK l=c at*;simp[-K,du,g,h,j,d,m,(λ_=>rfl:∀T,aX T .C (.ff (uj r) [iI (l.getD i.toNat 0)] 0)=J (iI (l.getD i.toNat 0))),k]
def qD:List Nat:=[237,211,245,92,26,99,18,88,214,156,247,162,222,249,222,20,0,0,0,0,0,0,0,0,0,0,0,0,0,0,0,16]
def azY:vB 256 qD=qN:=fV
def abY:Dg 256 qD:=by unfold Dg;decide
def aFv:qD.length=32:=rfl
def Jy(S:Z):W N X 128 [] S=J (.sl .X 1 (rK qD),S):=by
 have b:fg 1 (fL 32 [.I Y 0]) [(0,.I Y 237),(1,.I Y 211),(2,.I Y 245),(3,.I Y 92),(4,.I Y 26),(5,.I Y 99),(6,.I Y 18),(7,.I Y 88),(8,.I Y 214),(9,.I Y 156),(10,.I Y 247),(11,.I Y 162),(12,.I Y 222),(13,.I Y 249),(14,.I Y 222),(15,.I Y 20),(16,.I Y 0),(17,.I Y 0),(18,.I Y 0),(19,.I Y 0),(20,.I Y 0),(21,.I Y 0),(22,.I Y 0),(23,.I Y 0),(24,.I Y 0),(25,.I Y 0),(26,.I Y 0),(27,.I Y 0),(28,.I Y 0),(29,.I Y 0),(30,.I Y 0),(31,.I Y 16)]=J (rK qD):=by rfl
 have c:=K8 qD;generalize rK qD=a at*;rw[V9 azE];simp_all[bq,aF,br]
def dgB(b:B):List Nat:=b.map UInt8.toNat
def air(b:B):Dg 256 (dgB b):=λd a=>by obtain⟨c,_,rfl⟩:=yF.1 a;exact c.toNat_lt
def ais:∀b:B,vB 256 (dgB b)=dN b
 |[]=>rfl
 |c::r=>by show c.toNat+256*vB 256 (dgB r)=_;rw[ais r,dN]
@[simp]theorem al3(b:B):(dgB b).length=b.length:=Ot ..
def aFw(c:UInt8):nT Y (bn c)=J (iI c.toNat):=by have h:=c.toNat_lt;show J (AV.I Y (dr Y (c.toNat:Int)))=_;rw[cG V];rfl
def azZ(h:ia)(b:B)(z:b.length<1000)(S:Z):∀n i(f:Q)(ag:bV),i+n=b.length->fF 1 f ag (rK (dgB (b.take i)))->
 ∃d aV,fF 1 d aV (rK (dgB b))/\DC N X (.L ua) ⟨[(0,.sl h 1 (cJ b)),(3,f),(4,.I Y (i:Int))],ag,S.length⟩ S=
  J (.E 0,⟨[(3,d)],aV,S.length⟩,S):=by
 have l:fW (.sl h 1 (cJ b))=J (.I Y (b.length:Int)):=by simp[fW]
 intro n;induction n with
 |zero=>
  intro i f ag s g;have e:i=b.length:=V;subst e;rw[Dl]at g;refine⟨f,ag,g, ?_⟩;rw[aj,aN jw];generalize cJ b=a at*;simp[-K,du,l]
 |succ n t=>
  intro i f ag s g;have j:i<b.length:=V;have u:=ixB h b i j;have q:=aFw (b.getD i 0);have p:fg 1 [[AV.I Y 0]] [(0,iI (b.getD i 0).toNat)]=J [[iI (b.getD i 0).toNat]]:=rfl;have r:rK (dgB (b.take i))++[[iI (b.getD i 0).toNat]]=rK (dgB (b.take (i+1))):=by grind [rK,dgB,List.take_add_one]
  have⟨x,y,o,k⟩:=fF.app g (xs:=[[iI (b.getD i 0).toNat]]) bW (by simp;omega) .X S;rw[r]at k;have⟨d,aV,w,m⟩:=t (i+1) x y V k;refine⟨d,aV,w, ?_⟩;generalize iI (b.getD i 0).toNat=v,b.getD i 0=c,cJ b=a at*;rw[aj,aN jw];simp[-K, -nT,du,eJ,(V:(i:Int)<(b.length:Int)),l,u,(λ_ _=>rfl:∀T c,aX T .C (.ff (uj h) [bn c] 0)=J (bn c)),q,p,o];rw[ab jw];try simp at m
  simp[-K,(aQ V:dr Y ((i:Int)+1)=((i+1:Nat):Int)),m]
def Jz(d:ia)(b:B)(e:b.length<1000)(S:Z):∃r,Pk 1 r (rK (dgB b))/\W N X 127 [.sl d 1 (cJ b)] S=J (r,S):=by have⟨o,t,c,h⟩:=azZ d b e S b.length 0 .aw [] V (.inl ⟨rfl,rfl⟩);have⟨q,k,i,f,j⟩:=c.res (K8 _);refine⟨q,f, ?_⟩;have g:=c.nt;rw[js azD];generalize cJ b=a at*;simp[-K];rw[ab jw];simp_all
def CV(r:ia):Prop:=r=.N\/∃i,r=.jf i
def CV.ga{r:ia}(h:CV r)(T:Z)(es:jV):bH T (.sl r 1 es)=J (.sl r 1 es):=by rcases h with rfl|⟨i,rfl⟩<;>rfl
def CV.lk{r:ia}(h:CV r)(T:Z)(es:jV):bK T (.sl r 1 es)=T:=by rfl
def CV.ul{r:ia}(h:CV r)(T a:Z)(es:jV):bk T a (.sl r 1 es)=a:=by rfl
def CV.no{r:ia}(h:CV r)(es:jV):ej (.sl r 1 es)=.sl r 1 es:=by
 rcases h with rfl|⟨i,rfl⟩;·cases es<;>rfl
 ·rfl
def arq(a b:Nat):K .neq (iI a) (iI b)=J (.B (b_ (a≠b))):=by show J (AV.B ((a:Int) !=(b:Int)))=_;simp
def ars(a b:Nat):K .lss (iI a) (iI b)=J (.B (b_ (a<b))):=by show J (AV.B (b_ ((a:Int)<(b:Int))))=_;simp
def aaf{b:List Nat}(c:Dg 256 b)(i a:Nat):gat b ((i:Int) -(a:Int))=vB 256 b*256^a/256^i %256:=by
 unfold gat;by_cases h:(i:Int) -(a:Int)<0
 ·rw[if_pos h]
  have e:a=i+(1+(a -i -1)):=V;rw[e,rA,<-w_,Zg,Nat.mul_div_cancel _ (EJ V),rA,Nat.pow_one,<-w_,Zg,Nat.mul_mod_left]
 ·rw[if_neg h]
  have e:i=a+(i -a):=V
  grind [CQ,sG,Nat.mul_div_cancel]
def abZ{a:List Nat}(b:Dg 256 a)(i:Nat):gat a (i:Int)=vB 256 a/256^i %256:=by have:=aaf b i 0;simp_all
def aag(r s:ia)(g:CV r)(i:CV s)(a b:List Nat)(ha:Dg 256 a)(hb:Dg 256 b)(f:Nat)(hup:f<1000)(S:Z):∀n:Nat,n<10000->vB 256 a/256^n=vB 256 b*256^f/256^n->
 ∃q,DC N X (.L rk) ⟨[(0,.sl r 1 (rK a)),(1,.sl s 1 (rK b)),(2,.I Y (f:Int)),(8,.I Y ((n:Int) -1))],[],S.length⟩ S=
  if vB 256 a=vB 256 b*256^f then J (.E 0,⟨[],[],S.length⟩,S)else J (.R,⟨[(6,.B (b_ (vB 256 a<vB 256 b*256^f)))],[],q⟩,S):=by
 have gI:∀a b,K .geq (.I Y a) (.I Y b)=J (.B (b_ (a≥b))):=λ_ _=>rfl;have d:=Pj;intro n;induction n with
 |zero=>
  simp_all[aj,eO]
 |succ n ih=>
  intro hn he;rw[(V:((n+1:Nat):Int) -1=(n:Int))];have k:(n:Int)≥0:=V;have sb:K .sub (.I Y (n:Int)) (.I Y (f:Int))=J (.I Y ((n:Int) -(f:Int))):=by show J (AV.I Y (dr Y ((n:Int) -(f:Int))))=_;rw[cG V]
  have m:=λS=>d r a (n:Int) S;have o:=λS=>d s b ((n:Int) -(f:Int)) S;rw[abZ ha]at m;rw[aaf hb]at o;have l:=arq (vB 256 a/256^n %256) (vB 256 b*256^f/256^n %256);have q2:=ars (vB 256 a/256^n %256) (vB 256 b*256^f/256^n %256);have T:=CU (vB 256 a/256^n %256);have d2:=CU (vB 256 b*256^f/256^n %256);have t:=g.ga;have u:=g.lk;have v:=g.ul;have w:=g.no;have z:=i.ga;have E:=i.lk;have I:=i.ul;have P:=i.no;by_cases j:vB 256 a/256^n %256=vB 256 b*256^f/256^n %256
  ·have⟨q,hi⟩:=ih V (arc he j)
   refine⟨q, ?_⟩;rw[decide_eq_false (λh=>h j)]at l;generalize(if vB 256 a=vB 256 b*256^f then J (Out.E 0,(⟨[],[],S.length⟩:bQ),S)else J (.R,⟨[(6,.B (b_ (vB 256 a<vB 256 b*256^f)))],[],q⟩,S))=e,iI (vB 256 a/256^n %256)=x,iI (vB 256 b*256^f/256^n %256)=y,rK a=A,rK b=c at*;rw[aj,aN eO];simp-implicitDefEqProofs [-K,gI,k,t,u,v,w,z,E,I,P,de,ct,m,o,sb,T,d2,l,oZ];rw[ab eO];simp-implicitDefEqProofs [-K,(cG V:dr Y ((n:Int) -1)=(n:Int) -1),hi]
  ·have p:=ard he j
   refine⟨S.length, ?_⟩;rw[if_neg (λh=>j (by rw[h]))];rw[decide_eq_true (show vB 256 a/256^n %256≠vB 256 b*256^f/256^n %256 from j)]at l;rw[p]at q2;generalize b_ (vB 256 a<vB 256 b*256^f)=qb,iI (vB 256 a/256^n %256)=x,iI (vB 256 b*256^f/256^n %256)=y,rK a=A,rK b=c at*;rw[aj,aN eO];simp-implicitDefEqProofs [-K,gI,k,t,u,v,w,z,E,I,P,de,ct,m,o,sb,T,d2,l,q2]
def H8(k l:ia)(u:CV k)(v:CV l)(a b:List Nat)(y:Dg 256 a)(z:Dg 256 b)(la:a.length<1000)(lb:b.length<1000)(e:Nat)(w:e<1000)(S:Z):
 W N X 126 [.sl k 1 (rK a),.sl l 1 (rK b),.I Y (e:Int)] S=J (.B (b_ (vB 256 a<vB 256 b*256^e)),S):=by
 have vb:=Js z;have f:fW (.sl k 1 (rK a))=J (.I Y (a.length:Int)):=by simp[fW]
 have g:fW (.sl l 1 (rK b))=J (.I Y (b.length:Int)):=by simp[fW]
 have o:K .add (.I Y (b.length:Int)) (.I Y (e:Int))=J (.I Y ((b.length+e:Nat):Int)):=by show J (AV.I Y (dr Y ((b.length:Int)+(e:Int))))=_;rw[cG V];rfl
 have i:K .gtr (.I Y ((b.length+e:Nat):Int)) (.I Y (a.length:Int))=J (.B (b_ (b.length+e>a.length))):=by
  show J (AV.B (b_ (((b.length+e:Nat):Int)>(a.length:Int))))=_;congr 2
  grind
 have x:vB 256 b*256^e<256^(b.length+e):=by simp_all[rA,EJ]
 have p:∀n,a.length<=n->b.length+e<=n->vB 256 a/256^n=vB 256 b*256^e/256^n:=λn r s=>by rw[Hr (uu (Js y) (Av V r)),Hr (uu x (Av V s))]
 rw[LR azC];have h:∀n:Nat,n<10000->a.length<=n->b.length+e<=n->∃q,DC N X (.L rk) ⟨[(0,.sl k 1 (rK a)),(1,.sl l 1 (rK b)),(2,.I Y (e:Int)),(8,.I Y ((n:Int) -1))],[],S.length⟩ S=
  if vB 256 a=vB 256 b*256^e then J (.E 0,⟨[],[],S.length⟩,S)else J (.R,⟨[(6,.B (b_ (vB 256 a<vB 256 b*256^e)))],[],q⟩,S):=λn I r s=>
  aag k l u v a b y z e w S n I (p n r s)
 by_cases E:b.length+e>a.length
 ·have⟨q,t⟩:=h (b.length+e) V V V
  rw[decide_eq_true E]at i;have m:dr Y (((b.length+e:Nat):Int) -1)=((b.length+e:Nat):Int) -1:=cG V;by_cases j:vB 256 a=vB 256 b*256^e
  ·rw[if_pos j]at t
   have P:b_ (vB 256 a<vB 256 b*256^e)=O:=decide_eq_false V;rw[P];generalize((b.length+e:Nat):Int)=d,rK a=A,rK b=c at*;simp-implicitDefEqProofs [-K,f,g,o,i,oZ,m];rw[ab eO];simp-implicitDefEqProofs [-K,t]
  ·rw[if_neg j]at t
   generalize b_ (vB 256 a<vB 256 b*256^e)=T,((b.length+e:Nat):Int)=d,rK a=A,rK b=c at*;simp-implicitDefEqProofs [-K,f,g,o,i,oZ,m];rw[ab eO];simp-implicitDefEqProofs [-K,t]
 ·have⟨q,t⟩:=h a.length V V V
  rw[decide_eq_false E]at i;have m:dr Y ((a.length:Int) -1)=(a.length:Int) -1:=cG V;by_cases j:vB 256 a=vB 256 b*256^e
  ·rw[if_pos j]at t
   rw[(decide_eq_false V:b_ (vB 256 a<vB 256 b*256^e)=O)];generalize((b.length+e:Nat):Int)=d,rK a=A,rK b=c at*;simp-implicitDefEqProofs [-K,f,g,o,i,oZ,m];rw[ab eO];simp-implicitDefEqProofs [-K,t]
  ·rw[if_neg j]at t
   generalize b_ (vB 256 a<vB 256 b*256^e)=T,((b.length+e:Nat):Int)=d,rK a=A,rK b=c at*;simp-implicitDefEqProofs [-K,f,g,o,i,oZ,m];rw[ab eO];simp-implicitDefEqProofs [-K,t]
def aBV{es:jV}(h:es≠[]):ej (.sl .X 1 es)=.sl .N 1 es:=by cases es<;>rfl
def UB:ej (.sl .X 1 (rK qD))=.sl .N 1 (rK qD):=rfl
def ixO{i k n:Nat}(h:k<n):oc 1 (.jW i 0 n 1) (.I Y (k:Int))=J (.P i k):=by grind [oc]
def ldI{S:Z}{i k d:Nat}{l:List Nat}{bt:bV}{q:Bool}(a:S[i]? =J (.M (eI l) bt q))(h:l[k]? =J d):aX S .C (.P i k)=J (iI d):=by rw[bI a,kS,aiq,h];rfl
def stI{S:Z}{i k:Nat}{l:List Nat}(a:S[i]? =J (.M (eI l) [] O))(h:k<l.length)(d:Nat)(ag:bV)(nb:Nat):bd ag nb S 1 (.P i k) (iI d)=J (ag,S.set i (.M (eI (l.set k d)) [] O)):=by rw[d_ (CU d) a,if_pos ⟨rfl,by rw[aip];omega⟩,show(iI d).cells=[iI d]from rfl,z4 _ _ _ (by rwa [aip]),arp]
def art(a b:Nat)(c:a<1000)(d:b<1000):K .sub (iI a) (iI b)=J (.I Y ((a:Int) -(b:Int))):=by show J (AV.I Y (dr Y ((a:Int) -(b:Int))))=_;rw[cG V]
def Xs(a b u:Nat):Nat:=if a<b+u then a+256 -b -u else a -b -u
def dfU(a b u:Nat):Nat:=if a<b+u then 1 else 0
def al4{a b u:Nat}(c:a<256)(d:b<256)(e:u<=1):Xs a b u+b+u=a+256*dfU a b u/\Xs a b u<256/\dfU a b u<=1:=by
 unfold Xs dfU
 grind
def adX(n m:Nat)(hn:n<1000)(hup:m<1000)(f g:Nat)(hY:g=vB 256 qD*256^m)(S:Z):∀k i(l:List Nat)(u:Nat),i+k=n->Dg 256 l->l.length=n->u<=1->vB 256 l+g %256^i=f+u*256^i->
 ∃l' u',Dg 256 l'/\l'.length=n/\u'<=1/\vB 256 l'+g %256^n=f+u'*256^n/\
  DC N X (.L vZ) ⟨[(3,.jW S.length 0 n 1),(4,.I Y (m:Int)),(5,.I Y (u:Int)),(6,.I Y (i:Int))],[],S.length⟩ (S++[.M (eI l) [] O])=
   J (.E 4,⟨[(3,.jW S.length 0 n 1),(4,.I Y (m:Int))],[],S.length⟩,S++[.M (eI l') [] O]):=by
 have v:fW (.jW S.length 0 n 1)=J (.I Y (n:Int)):=rfl;intro k;induction k with
 |zero=>
  intro i l u hi hl q hu hv;have e:i=n:=V;subst e;refine⟨l,u,hl,q,hu,hv, ?_⟩;rw[aj,aN eN];generalize eI l=E;simp[-K,du,v]
 |succ k ih=>
  intro i l u hi hl q hu hv;have Ed:(i:Int)<(n:Int):=V;have hin:i<n:=V;have hw:dr Y ((i:Int)+1)=((i+1:Nat):Int):=aQ V;have ix:=ixO (i:=S.length) hin;have gk:l[i]? =J (l.getD i 0):=by simp_all
  have ld:aX (S++[.M (eI l) [] O]) .C (.P S.length i)=J (iI (l.getD i 0)):=ldI (kL S _) gk;have al:=Jt hl V i;have st:=λd=>stI (k:=i) (kL S [.M (eI l) [] O]) V d [] S.length;have x:∀d,(S++[cZ.M (eI l) [] O]).set S.length (.M (eI (l.set i d)) [] O)=S++[.M (eI (l.set i d)) [] O]:=λd=>by simp
  simp only[x]at st;have sb:K .sub (.I Y (i:Int)) (.I Y (m:Int))=J (.I Y ((i:Int) -(m:Int))):=by show J (AV.I Y (dr Y ((i:Int) -(m:Int))))=_;rw[cG V]
  have I:=Jy;have fa:=λS=>Pj .N qD ((i:Int) -(m:Int)) S;rw[aaf abY,<-hY]at fa;have bl:g/256^i %256<256:=jg _ V;have⟨e1,e2,e3⟩:=al4 al bl hu;have hs:=O_ (B:=256) l i (Xs (l.getD i 0) (g/256^i %256) u) V;have hp:256^(i+1)=256^i*256:=ph ..;have hm:g %256^(i+1)=g %256^i+256^i*(g/256^i %256):=by rw[hp,Hs]
  have r:vB 256 (l.set i (Xs (l.getD i 0) (g/256^i %256) u))+g %256^(i+1)=f+dfU (l.getD i 0) (g/256^i %256) u*256^(i+1):=by grind
  have⟨l',u',r1,r2,r3,r4,P⟩:=ih (i+1) (l.set i (Xs (l.getD i 0) (g/256^i %256) u)) (dfU (l.getD i 0) (g/256^i %256) u) V (Uw hl e2) (by simp[q]) e3 r;refine⟨l',u',r1,r2,r3,r4, ?_⟩;have h:=art (l.getD i 0) (g/256^i %256) V V;have j:K .sub (.I Y (((l.getD i 0:Nat):Int) -((g/256^i %256:Nat):Int))) (.I Y (u:Int))=J (.I Y (((l.getD i 0:Nat):Int) -((g/256^i %256:Nat):Int) -(u:Int))):=by show J (AV.I Y (dr Y (((l.getD i 0:Nat):Int) -((g/256^i %256:Nat):Int) -(u:Int))))=_;rw[cG V]
  have dA:=CU (l.getD i 0);have dB:=CU (g/256^i %256);have nq:=UB;by_cases hd:l.getD i 0<g/256^i %256+u
  ·have p:((l.getD i 0:Nat):Int) -((g/256^i %256:Nat):Int) -(u:Int)<0:=V
   have hD:Xs (l.getD i 0) (g/256^i %256) u=l.getD i 0+256 -g/256^i %256 -u:=if_pos hd;have hU:dfU (l.getD i 0) (g/256^i %256) u=1:=if_pos hd;have ad:K .add (.I Y (((l.getD i 0:Nat):Int) -((g/256^i %256:Nat):Int) -(u:Int))) (.I Y 256)=J (iI (Xs (l.getD i 0) (g/256^i %256) u)):=by
    show J (AV.I Y (dr Y (((l.getD i 0:Nat):Int) -((g/256^i %256:Nat):Int) -(u:Int)+256)))=_
    grind [cG,iI]
   rw[hU]at P;have sd:=st (Xs (l.getD i 0) (g/256^i %256) u);have dD:=CU (Xs (l.getD i 0) (g/256^i %256) u);clear st x r hs hm e1 e2 e3 hD hU I;have I:=Jy;generalize iI (Xs (l.getD i 0) (g/256^i %256) u)=z,eI (l.set i (Xs (l.getD i 0) (g/256^i %256) u))=E1,((l.getD i 0:Nat):Int) -((g/256^i %256:Nat):Int) -(u:Int)=w,((l.getD i 0:Nat):Int) -((g/256^i %256:Nat):Int)=w0,iI (l.getD i 0)=a,iI (g/256^i %256)=b,eI l=E0,eI l'=E2,rK qD=c,(u:Int)=ui at*;have y:∀t,aY t (.sl .X 1 c)=(.sl .X 1 c,t):=λ_=>rfl;have o:∀T,bH T (.sl .X 1 c)=J (.sl .X 1 c):=λ_=>rfl;have s:∀T,bK T (.sl .X 1 c)=T:=λ_=>rfl;have A:∀T T',bk T T' (.sl .X 1 c)=T':=λ_ _=>rfl;rw[aj,aN eN];simp-implicitDefEqProofs [-K,du,Ed,v,ix,ld,I,y,o,s,A,de,ct,nq,fa,sb,h,j,dB,p,ad,sd,eJ];rw[ab eN];try simp at P
   simp-implicitDefEqProofs [-K,hw,P]
  ·have p:¬((l.getD i 0:Nat):Int) -((g/256^i %256:Nat):Int) -(u:Int)<0:=V
   have hD:Xs (l.getD i 0) (g/256^i %256) u=l.getD i 0 -g/256^i %256 -u:=if_neg hd;have hU:dfU (l.getD i 0) (g/256^i %256) u=0:=if_neg hd;have ew:AV.I Y (((l.getD i 0:Nat):Int) -((g/256^i %256:Nat):Int) -(u:Int))=iI (Xs (l.getD i 0) (g/256^i %256) u):=by
    rw[hD];unfold iI
    grind
   rw[hU]at P;have sd:=st (Xs (l.getD i 0) (g/256^i %256) u);rw[<-ew]at sd;have dD:=CU (Xs (l.getD i 0) (g/256^i %256) u);rw[<-ew]at dD;clear st x r hs hm e1 e2 e3 hD hU ew I;have I:=Jy;generalize eI (l.set i (Xs (l.getD i 0) (g/256^i %256) u))=E1,((l.getD i 0:Nat):Int) -((g/256^i %256:Nat):Int) -(u:Int)=w,((l.getD i 0:Nat):Int) -((g/256^i %256:Nat):Int)=w0,iI (l.getD i 0)=a,iI (g/256^i %256)=b,eI l=E0,eI l'=E2,rK qD=c,(u:Int)=ui at*;have y:∀t,aY t (.sl .X 1 c)=(.sl .X 1 c,t):=λ_=>rfl;have o:∀T,bH T (.sl .X 1 c)=J (.sl .X 1 c):=λ_=>rfl;have s:∀T,bK T (.sl .X 1 c)=T:=λ_=>rfl;have A:∀T T',bk T T' (.sl .X 1 c)=T':=λ_ _=>rfl;rw[aj,aN eN];simp-implicitDefEqProofs [-K,du,Ed,v,ix,ld,I,y,o,s,A,de,ct,nq,fa,sb,h,j,dB,p,sd,eJ];rw[ab eN];try simp at P
   simp-implicitDefEqProofs [-K,hw,P]
def ait{l:List Nat}(i:Nat)(h:i<l.length):sub (eI l) i 1=[iI (l.getD i 0)]:=by
 unfold sub;apply A4;intro j;rw[Wd,YX,aiq,Bw]
 grind
def ab0{T:Z}{i k:Nat}{l:List Nat}{bt:bV}{q:Bool}(h:T[i]? =J (.M (eI l) bt q))(b:l.length=k):bZ T (.jW i 0 k 1)=J (1,rK l):=by
 simp only[bZ,h];rw[if_pos ⟨by simp[b],by omega⟩];congr 2;apply A4;intro j;unfold rK;rw[yU,yU];by_cases a:j<k
 ·rw[List.getElem?_range a,Ek V]
  simp only[S8];rw[LG,Aw,ait j V,Bw,Ek V];rfl
 simp_all
def aox(T:Z)(nb d:Nat):∀l:List Nat,(rK l).mapM (λx:F=>x.mapM (GV T nb (d+1)))=J (rK l)
 |[]=>rfl
 |a::r=>by have h:=aox T nb d r;have e:GV T nb (d+1) (iI a)=J (iI a):=rfl;unfold rK at*;simp[NF,EC,h,e]
def arv{T:Z}{nb i k:Nat}{l:List Nat}{bt:bV}{q:Bool}(h:T[i]? =J (.M (eI l) bt q))(a:l.length=k)(e:nb<=i):Qf T nb (.jW i 0 k 1)=J (.sl .N 1 (rK l)):=by
 have c:=ab0 h a;have d:=aox T nb 10 l;have b:Qf T nb (.jW i 0 k 1)=GV T nb (11+1) (.jW i 0 k 1):=rfl
 grind [GV,br]
def aFx(S:Z)(l:List Nat)(n:Nat)(h:l.length=n):bH (S++[.M (eI l) [] O]) (.jW S.length 0 n 1)=J (.sl (.jf S.length) 1 (rK l)):=by
 have:=ab0 (T:=S++[.M (eI l) [] O]) (kL S _) h;show Option.map _ (bZ _ _)=_
 grind
def aFy(S:Z)(E:F)(n:Nat):bK (S++[.M E [] O]) (.jW S.length 0 n 1)=S++[.M E [] G]:=by simp[bK,og]
def aFz(S:Z)(E:F)(n:Nat):bk (S++[.M E [] O]) (S++[.M E [] G]) (.jW S.length 0 n 1)=S++[.M E [] O]:=by simp[bk,og]
def adY(n f:Nat)(hn:n<1000)(j:f<1000)(c:Nat)(v:c=vB 256 qD*256^f)(S:Z):∀(B:Nat)(l:List Nat),vB 256 l<B->Dg 256 l->l.length=n->
 ∃l',Dg 256 l'/\l'.length=n/\vB 256 l'=vB 256 l %c/\
  DC N X (.L v8) ⟨[(3,.jW S.length 0 n 1),(4,.I Y (f:Int))],[],S.length⟩ (S++[.M (eI l) [] O])=
   J (.E 2,⟨[(3,.jW S.length 0 n 1),(4,.I Y (f:Int))],[],S.length⟩,S++[.M (eI l') [] O]):=by
 have hq:0<vB 256 qD:=by trivial
 have hY0:0<c:=by simp_all[EJ]
 intro B;induction B with
 |zero=>omega
 |succ B ih=>
  intro l hB q e;have s:=Jy;have fl:=λS=>H8 (.jf S.length) .N (.inr ⟨_,rfl⟩) (.inl rfl) l qD q abY V fV f j S;have d:∀i T,W N X 126 [.sl (.jf i) 1 (rK l),.sl .N 1 (rK qD),.I Y (f:Int)] T=J (.B (b_ (vB 256 l<vB 256 qD*256^f)),T):=λi T=>H8 (.jf i) .N (.inr ⟨_,rfl⟩) (.inl rfl) l qD q abY V fV f j T;rw[<-v]at d;clear fl;have u:=aFx S l n e;have x:=aFy S (eI l) n;have P:=aFz S (eI l) n;have y:=UB;by_cases h:vB 256 l<c
  ·refine⟨l,q,e,(iY h).symm, ?_⟩
   rw[decide_eq_true h]at d;generalize rK l=a,eI l=E0,rK qD=b at*;have m:∀t,aY t (.sl .X 1 b)=(.sl .X 1 b,t):=λ_=>rfl;have g:∀T,bH T (.sl .X 1 b)=J (.sl .X 1 b):=λ_=>rfl;have k:∀T,bK T (.sl .X 1 b)=T:=λ_=>rfl;have o:∀T p,bk T p (.sl .X 1 b)=p:=λ_ _=>rfl;rw[aj,aN kE];simp-implicitDefEqProofs [-K,s,m,g,k,o,u,x,P,de,ct,sj,y,d,bU]
  ·have r:c<=vB 256 l:=V
   have⟨w,u1,z,A,r3,E,I⟩:=adX n f hn j (vB 256 l) c v S n 0 l 0 V q e V V;have v0:=Js q;have v1:=Js z;rw[e]at v0;rw[A]at v1;rw[iY (show c<256^n by omega)]at E;have hu:u1=0:=by grind
   rw[hu,NY,Ow]at E;have⟨l',t1,t2,t3,t4⟩:=ih w V z A;refine⟨l',t1,t2, ?_, ?_⟩
   ·rw[t3,Nat.mod_eq_sub_mod r]
    congr 1;omega
   rw[decide_eq_false h]at d;generalize rK l=a,eI l=E0,eI w=E1,eI l'=E2,rK qD=b at*;have m:∀t,aY t (.sl .X 1 b)=(.sl .X 1 b,t):=λ_=>rfl;have g:∀T,bH T (.sl .X 1 b)=J (.sl .X 1 b):=λ_=>rfl;have k:∀T,bK T (.sl .X 1 b)=T:=λ_=>rfl;have o:∀T p,bk T p (.sl .X 1 b)=p:=λ_ _=>rfl;rw[aj,aN kE];simp-implicitDefEqProofs [-K,s,m,g,k,o,u,x,P,de,ct,sj,y,d,bU];rw[ab eN];try simp at I
   simp-implicitDefEqProofs [-K,I];omega
def adZ(n:Nat)(y:n<999)(c:Nat)(S:Z):∀(k:Nat)(l:List Nat),k<=n+1->Dg 256 l->l.length=n->vB 256 l=c %(vB 256 qD*256^k)->
 ∃l',Dg 256 l'/\l'.length=n/\vB 256 l'=c %vB 256 qD/\
  DC N X (.L v9) ⟨[(3,.jW S.length 0 n 1),(4,.I Y ((k:Int) -1))],[],S.length⟩ (S++[.M (eI l) [] O])=
   J (.E 0,⟨[(3,.jW S.length 0 n 1)],[],S.length⟩,S++[.M (eI l') [] O]):=by
 have i:∀a b,K .geq (.I Y a) (.I Y b)=J (.B (b_ (a≥b))):=λ_ _=>rfl;intro k;induction k with
 |zero=>
  intro l j f d e;rw[Ou,Aw]at e;refine⟨l,f,d,e, ?_⟩;simp_all[aj,kF]
 |succ k m=>
  intro l j f d e;rw[(V:((k+1:Nat):Int) -1=(k:Int))];have z:dr Y ((k:Int) -1)=(k:Int) -1:=cG V;have⟨g,r,s,t,u⟩:=adY n k V V _ rfl S (vB 256 l+1) l V f d;have h:vB 256 g=c %(vB 256 qD*256^k):=by rw[t,e];exact Zf _ ⟨256,by grind⟩
  have⟨l',o,p,q,A⟩:=m g V r s h;refine⟨l',o,p,q, ?_⟩;generalize eI l=v,eI g=w,eI l'=x at*;rw[aj,aN kF];simp-implicitDefEqProofs [-K,i,(V:(k:Int)≥0)];rw[ab kE];simp-implicitDefEqProofs [-K,u,oZ];rw[ab kF];simp_all
def aiu(l:List Nat):(rK l).flatten=eI l:=by
 induction l with
 |nil=>rfl
 |cons a r b=>show _::(rK r).flatten=_;rw[b];rfl
def aah(r:ia)(a:List Nat)(g:Dg 256 a)(d:a≠[])(m:a.length<999)(S:Z):∃l',Dg 256 l'/\l'.length=a.length/\vB 256 l'=vB 256 a %qN/\
 W N X 203 [.sl r 1 (rK a)] S=J (.sl .N 1 (rK l'),S):=by
 have b:vB 256 a<vB 256 qD*256^(a.length+1):=by refine uu (Js g) (uv (Av V (Nat.le_succ _)) ?_);exact Nat.le_mul_of_pos_left _ (by trivial)
 have⟨l',n,i,j,k⟩:=adZ a.length m (vB 256 a) S (a.length+1) a (gM _) g rfl (iY b).symm;rw[azY]at j;refine⟨l',n,i,j, ?_⟩;rw[(V:((a.length+1:Nat):Int) -1=(a.length:Int))]at k;have c:¬a.length=0:=λh=>d (List.length_eq_zero_iff.1 h);have l:Bx 1 S (.sl .X 1 []) (.sl r 1 (rK a))=J (.jW S.length 0 a.length 1,S++[.M (eI a) [] O]):=by simp only[Bx,bZ,SR];rw[if_neg (by simp[c]),if_neg (by simp;omega),aiu];simp
 have f:fg 1 (fL 0 [AV.I Y 0]) []=J []:=rfl;have e:fW (.jW S.length 0 a.length 1)=J (.I Y (a.length:Int)):=rfl;have o:ds 203 [] [.jW S.length 0 a.length 1] S (S++[.M (eI l') [] O])=J (.sl .N 1 (rK l'),S):=by
  have s:=arv (T:=S++[.M (eI l') [] O]) (nb:=S.length) (kL S _) i (gM _)
  grind [K8,ux,cI,cd,bq,aF,br,Tf,ae_,kK,zy,lt]
 rw[js ax4];generalize rK a=A,eI a=p,eI l'=q at*;try simp at f
 simp-implicitDefEqProofs [-K,f,l,e];rw[ab kF];simp-implicitDefEqProofs [-K,k,o]
def Xt(r:ia)(d:CV r)(l:List Nat)(k:Dg 256 l)(S:Z)(b0:cZ):∀n i:Nat,i+n=32->DC N X (.L u9) ⟨[(0,.sl r 1 (rK l)),(2,.P S.length 0),(3,.P (S.length+1) 0),(4,.I Y (i:Int))],[],S.length⟩ (S++[b0,.M (R (zd i (vB 256 l))) [] O])=
 J (.E 0,⟨[(2,.P S.length 0),(3,.P (S.length+1) 0)],[],S.length⟩,S++[b0,.M (R (jx 32 (vB 256 l))) [] O]):=by
 intro n;induction n with
 |zero=>
  simp_all[aj,jP,K7]
 |succ n m=>
  intro i t;have b:i<32:=V;have g:=m (i+1) V;have f:=λT=>Pj r l (i:Int) T;rw[abZ k]at f;have h:nT L (iI (vB 256 l/256^i %256))=J (bn (cq (vB 256 l/256^i))):=by
   have:vB 256 l/256^i %256<256:=jg _ V;show J (AV.I L (dr L ((vB 256 l/256^i %256:Nat):Int)))=_;have e:dr L ((vB 256 l/256^i %256:Nat):Int)=((vB 256 l/256^i %256:Nat):Int):=by show((vB 256 l/256^i %256:Nat):Int)%256=_;omega
   rw[e,bn,rV]
  have o:bd [] S.length (S++[b0,.M (R (zd i (vB 256 l))) [] O]) 1 (.P (S.length+1) i) (bn (cq (vB 256 l/256^i)))=J ([],S++[b0,.M (R (zd (i+1) (vB 256 l))) [] O]):=by rw[st8 (cl S _ 1) (by rw[Pd _ _ V];exact b),Pe _ _ b];simp
  have j:=CU (vB 256 l/256^i %256);generalize R (zd i (vB 256 l))=p,R (zd (i+1) (vB 256 l))=q,R (jx 32 (vB 256 l))=s,bn (cq (vB 256 l/256^i))=c,iI (vB 256 l/256^i %256)=w,rK l=a at*;rw[aj,aN jP];simp-implicitDefEqProofs [-K, -nT, -jG,du,eJ,(V:(i:Int)<32),d.ga,d.lk,d.ul,d.no,de,ct,f,j,h,GZ (i:=S.length+1) b Y,o];rw[ab jP];try simp at g
  simp-implicitDefEqProofs [-K,(aQ V:dr Y ((i:Int)+1)=((i+1:Nat):Int)),g]
def Xu(r:ia)(e:CV r)(l:List Nat)(d:Dg 256 l)(S:Z):W N X 202 [.sl r 1 (rK l)] S=J (.A (R (jx 32 (vB 256 l))),S):=by have z:R (fL 32 0)=aP:=rfl;have h:=Xt r e l d S (.M (R (fL 32 0)) [] O) 32 0 rfl;rw[(by rfl:zd 0 (vB 256 l)=List.replicate 32 0),z]at h;have c:(R (jx 32 (vB 256 l))).length=32:=bW;have g:=bG c (aL _);have f:df (R (jx 32 (vB 256 l))):=aL _;generalize R (jx 32 (vB 256 l))=b,rK l=a at*;simp[js ax3, -AV.cells, -aU];rw[ab jP];simp_all
def UC(b:B)(u:b.length=64)(S:Z):W N X 129 [.A (R b)] S=J (.A (R (jx 32 (dN b %qN))),S):=by
 have r:(R b).length=64:=by simp[u]
 have p:df (R b):=aL _;have z:∀d,bH (S++.M (R b) [] O::d) (.cH S.length 0 64 64 1)=J (.sl (.jf S.length) 1 (cJ b)):=λd=>Jx (l:=.M (R b) [] O::d) (k:=0) rfl u;have I:∀d,bK (S++.M (R b) [] O::d) (.cH S.length 0 64 64 1)=S++.M (R b) [] G::d:=λd=>HF (l:=.M (R b) [] O::d) (k:=0) rfl;have ul:∀d j,bk (S++.M (R b) [] O::d) (S++.M (R b) [] G::j) (.cH S.length 0 64 64 1)=S++.M (R b) [] O::j:=λd j=>HG (l:=.M (R b) [] O::d) (l':=.M (R b) [] G::j) (k:=0) rfl rfl;have c1:(AV.A (R b)).cells=R b:=rfl;have A:aP.length=32:=rfl;have⟨q,q1,x⟩:=Jz (.jf S.length) b V (S++[.M (R b) [] G,.M aP [] O]);have⟨o,t,v,m⟩:=q1.take [];have o3:=fF.I7 m;have w:=fF.ej m;have o5:=fF.lock m;have o6:=fF.yg m;rw[aad]at w;have n:dgB b≠[]:=by grind [al3]
 have⟨l',r1,r2,r3,y⟩:=aah .N (dgB b) (air b) n (by simp;omega) (S++[.M (R b) [] O,.M aP [] O]);have g:=λT=>Xu .N (.inl rfl) l' r1 T;rw[r3,ais]at g;have P:ej (.sl .N 1 (rK l'))=.sl .N 1 (rK l'):=CV.no (.inl rfl) _;have h:df (R (jx 32 (dN b %qN))):=aL _;have i:(R (jx 32 (dN b %qN))).length=32:=bW;have s:=bG i h;generalize R (jx 32 (dN b %qN))=f,rK l'=e,rK (dgB b)=c,R b=E,cJ b=a at*;have c2:(AV.A f).cells=f:=rfl;rw[js azF];try simp at v
 try simp at x
 try simp at y
 simp-implicitDefEqProofs [r,p,qI,z,I,ul,de,ct,sj,Z9,Z_,aaa,aab,x,v,o3,w,o5,o6,y,P,g,h,i,s,A, -AV.cells, -aU]
def Xv(b:B)(u:b.length=32)(S:Z):W N X 54 [.A (R b)] S=J (.B (b_ (dN b<qN)),S):=by
 have j:(R b).length=32:=by simp[u]
 have i:df (R b):=aL _;have A:∀d,bH (S++.M (R b) [] O::d) (.cH S.length 0 32 32 1)=J (.sl (.jf S.length) 1 (cJ b)):=λd=>Jx (l:=.M (R b) [] O::d) (k:=0) rfl u;have I:∀d,bK (S++.M (R b) [] O::d) (.cH S.length 0 32 32 1)=S++.M (R b) [] G::d:=λd=>HF (l:=.M (R b) [] O::d) (k:=0) rfl;have ul:∀d f,bk (S++.M (R b) [] O::d) (S++.M (R b) [] G::f) (.cH S.length 0 32 32 1)=S++.M (R b) [] O::f:=λd f=>HG (l:=.M (R b) [] O::d) (l':=.M (R b) [] G::f) (k:=0) rfl rfl;have c1:(AV.A (R b)).cells=R b:=rfl;have⟨q,q1,x⟩:=Jz (.jf S.length) b V (S++[.M (R b) [] G]);have⟨o,t,v,g⟩:=q1.take [];have o3:=fF.I7 g;have w:=fF.ej g;have o5:=fF.lock g;have o6:=fF.yg g;rw[aad]at w;have z:=Jy;have P:=UB;have s:=λT=>H8 .N .N (.inl rfl) (.inl rfl) (dgB b) qD (air b) abY (by simp;omega) fV 0 V T;rw[azY,ais,Ou,Aw,show((0:Nat):Int)=0 from rfl]at s;generalize b_ (dN b<qN)=y,rK (dgB b)=c,R b=E,cJ b=a,rK qD=e at*;have n:∀t,aY t (.sl .X 1 e)=(.sl .X 1 e,t):=λ_=>rfl;have h:∀T,bH T (.sl .X 1 e)=J (.sl .X 1 e):=λ_=>rfl;have m:∀T,bK T (.sl .X 1 e)=T:=λ_=>rfl;have p:∀T r,bk T r (.sl .X 1 e)=r:=λ_ _=>rfl;rw[js aEV];try simp at v
 try simp at x
 simp-implicitDefEqProofs [j,i,qI,A,I,ul,de,ct,sj,x,v,o3,w,o5,o6,z,P,n,h,m,p,s, -AV.cells, -aU]
def aoI(t:bV)(x y:B):aY t (.cQ [.A (R x),.A (R y)])=(.cQ [.A (R x),.A (R y)],t):=by rfl
def Hz(s:B)(q:s.length=32)(S:Z):W N X 12 [.A (R s)] S=J (.A (R (sF (iL s))),S):=by
 have w:=λS=>JV s q S;have x:=λt=>aoI t (iL s) (oU s);have r:=TM;have u:=λS=>Ay Pt.base (iL s) (GR s) S;have p:=λS=>OD (Pt.base.Io (iL s) 64 Pt.none) S;rw[R6 (GR s)]at p;have h:(R s).length=32:=by simp[q]
 have e:df (R s):=aL _;have i:(R (iL s)).length=32:=by simp[GR]
 have f:df (R (iL s)):=aL _;have m:=bG i f;have l:(R (oU s)).length=32:=by simp[SN]
 have k:df (R (oU s)):=aL _;have j:(R (sF (iL s))).length=32:=by simp[GD]
 have g:df (R (sF (iL s))):=aL _;have v:aP.length=32:=rfl;generalize R (sF (iL s))=b,Pt.base.Io (iL s) 64 Pt.none=c,Pt.base=a,R (iL s)=n,R (oU s)=o,R s=E at*;have y:(AV.A E).cells=E:=rfl;have z:(AV.A n).cells=n:=rfl;have A:(AV.A o).cells=o:=rfl;have I:(AV.A b).cells=b:=rfl;rw[js aEz];generalize P:aP=d at*;simp-implicitDefEqProofs [w,x,bB,r,u,p,h,e,bG h e,i,f,m,l,k,j,g,bG j g,v, -K, -AV.cells, -aU]
def kN(m:B):B:=jx 32 (dN (dV m)%qN)
def GS(m:B):(kN m).length=32:=th _ _
def ajL(l:List (Q × B)):AV.sl .N 1 (l.map λp=>[p.1])=po l:=rfl
def Gn(m n:ia)(u:CV m)(v:CV n)(a b:B)(l:List (Q × B))(S:Z)(hv:∀p∈l,HJ S p)(hl:l.length<900)(t:a.length+b.length+(cj l).length<=1000000):
 W N X 35 [.sl m 1 (cJ a),.sl n 1 (cJ b),po l] S=J (.A (R (kN (a++(b++cj l)))),S):=by
 have o:∀r,CV r->∀x,aW (.sl r 1 (cJ x))=.sl r 1 (cJ x):=λr h x=>by rcases h with rfl|⟨i,rfl⟩<;>rfl
 have bo:fg 1 (fL 2 [AV.aw]) [(0,.sl m 1 (cJ a)),(1,.sl n 1 (cJ b))]=J [[.sl m 1 (cJ a)],[.sl n 1 (cJ b)]]:=by rcases u with rfl|⟨i,rfl⟩<;>rcases v with rfl|⟨j,rfl⟩<;>rfl
 have z:fF 1 (.sl .X 1 [[.sl m 1 (cJ a)],[.sl n 1 (cJ b)]]) [] [[.sl m 1 (cJ a)],[.sl n 1 (cJ b)]]:=.inr (.inl rfl);have⟨o2,t2,I,w⟩:=fF.QN z (xs:=l.map λp=>[p.1]) (x:=po l) (S:=S++[.M aP [] O]) (by grind) ⟨1,rfl,λ_=>rfl⟩;have P:=fF.ej w;rw[aad,show[[AV.sl m 1 (cJ a)],[.sl n 1 (cJ b)]]++(l.map λp=>[p.1])=((.sl m 1 (cJ a),a)::(.sl n 1 (cJ b),b)::l).map (λp=>[p.1])from rfl,ajL]at P
 have E:=DR ((.sl m 1 (cJ a),a)::(.sl n 1 (cJ b),b)::l) (S++[.M aP [] O]) (λp hp=>by
  rcases Of.1 hp with h|h;·rw[h];exact⟨o m u a,λd=>⟨1,rfl,λ_=>rfl⟩⟩
  ·rcases Of.1 h with h|h
   ·rw[h];exact⟨o n v b,λd=>⟨1,rfl,λ_=>rfl⟩⟩
   ·exact(hv p h).more _) (by grind) (by simp[cj]at t⊢;omega)
 rw[show cj ((AV.sl m 1 (cJ a),a)::(.sl n 1 (cJ b),b)::l)=a++(b++cj l)from by rfl]at E;have rd:=λT=>Pf (dV (a++(b++cj l))) (Gm _) T;rw[show jx 32 (dN (dV (a++(b++cj l)))%qN)=kN (a++(b++cj l))from rfl]at rd;have y:df (R (dV (a++(b++cj l)))):=aL _;have s:(R (kN (a++(b++cj l)))).length=32:=by rfl
 have q:df (R (kN (a++(b++cj l)))):=aL _;have hz:aP.length=32:=rfl;generalize R (kN (a++(b++cj l)))=g,R (dV (a++(b++cj l)))=e,po ((AV.sl m 1 (cJ a),a)::(.sl n 1 (cJ b),b)::l)=RE,po l=f,AV.sl m 1 (cJ a)=A,AV.sl n 1 (cJ b)=c at*;have c4:(AV.A g).cells=g:=rfl;try simp at bo
 rw[LR aEJ];generalize hZ:aP=k at*;try simp at E
 try simp at I
 simp-implicitDefEqProofs [bo,I,fF.I7 w,P,fF.lock w,fF.yg w,de,ct,E,rd,y,s,q,bG s q,hz, -K, -AV.cells, -aU]
def aaC:[AV.I L 0,.I L 0,.I L 0,.I L 0,.I L 0,.I L 0,.I L 0,.I L 0,.I L 0,.I L 0,.I L 0,.I L 0,.I L 0,.I L 0,.I L 0,.I L 0,.I L 0,.I L 0,.I L 0,.I L 0,.I L 0,.I L 0,.I L 0,.I L 0,.I L 0,.I L 0,.I L 0,.I L 0,.I L 0,.I L 0,.I L 0,.I L 0]=aP:=rfl
def ZH(gi gX m:B):Bool:=(pL gi).2&&(b_ (dN (gX.drop 32)<qN)&&b_ ((HZ gi (kN (gX.take 32++(gi++m))) (gX.drop 32)).bytes=gX.take 32))
def X0(a k s:B):(HZ a k s).bytes.length=32:=by unfold P3.bytes;split<;>simp
def X1(l:List (Q × B)):ej (po l)=po l:=CV.no (.inl rfl) _
def X2(T:Z)(l:List (Q × B)):bH T (po l)=J (po l):=rfl
def X3(T:Z)(l:List (Q × B)):bK T (po l)=T:=rfl
def X4(T a:Z)(l:List (Q × B)):bk T a (po l)=a:=rfl
def asc(t:bV)(q:Pt)(b:Bool):aY t (.cQ [q.aq,.B b])=(.cQ [q.aq,.B b],t):=by rfl
def Qz(m j:B)(hk:m.length=32)(hs:j.length=64)(l:List (Q × B))(S:Z)(hv:∀p∈l,HJ S p)(hl:l.length<900)(hlen:(cj l).length<=900000):
 W N X 17 [.A (R m),.A (R j),po l] S=J (.B (ZH m j (cj l)),S):=by
 have hf:=λT=>AU j hs O T;have ht:=λT=>AU j hs G T;rw[if_neg bW]at hf;rw[if_pos rfl]at ht;have⟨q,dq,hq⟩:=adN m hk;have tq:=λt=>asc t q (pL m).2;have lf:(j.take 32).length=32:=by simp[hs]
 have ls:(j.drop 32).length=32:=by simp[hs]
 have fb:=λT=>QL (j.drop 32) ls T;have y:(R m).length=32:=by simp[hk]
 have u:df (R m):=aL _;have ZI:=bG y u;have z:(R j).length=64:=by simp[hs]
 have v:df (R j):=aL _;have pk2:=bG z v;have E:(R (j.take 32)).length=32:=by simp[hs]
 have w:df (R (j.take 32)):=aL _;have pk3:=bG E w;have I:(R (j.drop 32)).length=32:=by simp[hs]
 have x:df (R (j.drop 32)):=aL _;have aAx:=bG I x;have hz:aP.length=32:=rfl;have hz2:eQ.length=20:=rfl;have P:∀g h i f,bd [] S.length (S++[g,h,i,f,.M eQ [] O]) 20 (.P (S.length+4) 0) q.aq=J ([],S++[g,h,i,f,.M q.cs [] O]):=λg h i f=>by rw[stO (cl S _ 4) hz2];simp
 have ldq:∀g h i f e,aX (S++[g,h,i,f,.M q.cs [] O,e]) (.A 20) (.P (S.length+4) 0)=J q.aq:=λg h i f e=>ldO (cl S _ 4);simp only[eQ]at P;unfold ZH;rw[LR aEB];simp only[aaC];cases hok:(pL m).2 with
 |false=>
  rw[hok]at dq tq;generalize R (j.take 32)=EF,R (j.drop 32)=EG,R m=EK,R j=ES,po l=d at*;have c1:(AV.A EK).cells=EK:=rfl;have c2:(AV.A ES).cells=ES:=rfl;have c3:(AV.A EF).cells=EF:=rfl;have c4:(AV.A EG).cells=EG:=rfl;generalize aP=i at*;simp-implicitDefEqProofs [y,u,ZI,z,v,pk2,E,w,I,x,hz,hf,ht,dq,tq,bB,P,bU, -K, -AV.cells, -aU]
 |true=>
  rw[hok]at dq tq;by_cases hb:dN (j.drop 32)<qN
  ·rw[decide_eq_true hb]at fb⊢
   have lm:(j.take 32++(m++cj l)).length=32+32+(cj l).length:=by grind
   have gaF:∀g h A a b,bH (S++[g,h,.M (R (j.take 32)) [] O,A,a,b]) (.cH (S.length+2) 0 32 32 1)=J (.sl (.jf (S.length+2)) 1 (cJ (j.take 32))):=λg h A a b=>Jx (l:=[g,h,.M (R (j.take 32)) [] O,A,a,b]) (k:=2) rfl lf;have gaK:∀h A a b c,bH (S++[.M (R m) [] O,h,A,a,b,c]) (.cH S.length 0 32 32 1)=J (.sl (.jf S.length) 1 (cJ m)):=λh A a b c=>Jx (l:=[.M (R m) [] O,h,A,a,b,c]) (k:=0) rfl hk;have lkF:∀g h A a b,bK (S++[g,h,.M (R (j.take 32)) [] O,A,a,b]) (.cH (S.length+2) 0 32 32 1)=S++[g,h,.M (R (j.take 32)) [] G,A,a,b]:=λg h A a b=>HF (l:=[g,h,.M (R (j.take 32)) [] O,A,a,b]) (k:=2) rfl;have lkK:∀h A a b c,bK (S++[.M (R m) [] O,h,A,a,b,c]) (.cH S.length 0 32 32 1)=S++[.M (R m) [] G,h,A,a,b,c]:=λh A a b c=>HF (l:=[.M (R m) [] O,h,A,a,b,c]) (k:=0) rfl;have ulF:∀g h A a b X' s n o r,bk (S++[g,h,.M (R (j.take 32)) [] O,A,a,b]) (S++[X',s,.M (R (j.take 32)) [] G,n,o,r]) (.cH (S.length+2) 0 32 32 1)=S++[X',s,.M (R (j.take 32)) [] O,n,o,r]:=λg h A a b X' s n o r=>HG (l:=[g,h,.M (R (j.take 32)) [] O,A,a,b]) (l':=[X',s,.M (R (j.take 32)) [] G,n,o,r]) (k:=2) rfl rfl;have ulK:∀h A a b c s n o r D',bk (S++[.M (R m) [] O,h,A,a,b,c]) (S++[.M (R m) [] G,s,n,o,r,D']) (.cH S.length 0 32 32 1)=S++[.M (R m) [] O,s,n,o,r,D']:=λh A a b c s n o r D'=>HG (l:=[.M (R m) [] O,h,A,a,b,c]) (l':=[.M (R m) [] G,s,n,o,r,D']) (k:=0) rfl rfl;have ha:=Gn (.jf (S.length+2)) (.jf S.length) (.inr ⟨_,rfl⟩) (.inr ⟨_,rfl⟩) (j.take 32) m l (S++[.M (R m) [] G,.M (R j) [] O,.M (R (j.take 32)) [] G,.M (R (j.drop 32)) [] O,.M q.cs [] O,.M aP [] O]) (λp hp=>(hv p hp).more _) hl V;have hkl:=GS (j.take 32++(m++cj l));have fn:=λT=>ap9 q T;have fB:=λT=>akT (kN (j.take 32++(m++cj l))) (j.drop 32) hkl ls q.neg T;have fy:=λT=>OD ((q.neg.Io (kN (j.take 32++(m++cj l))) 64 Pt.none).add (Pt.base.Io (j.drop 32) 64 Pt.none)) T;rw[Zm hok hq hkl ls]at fy;have eq:=alx (HZ m (kN (j.take 32++(m++cj l))) (j.drop 32)).bytes (j.take 32) (X0 _ _ _) lf O;have hl5:(R (kN (j.take 32++(m++cj l)))).length=32:=by rfl
   have hd5:df (R (kN (j.take 32++(m++cj l)))):=aL _;have pk5:=bG hl5 hd5;have hd6:df (R (HZ m (kN (j.take 32++(m++cj l))) (j.drop 32)).bytes):=aL _;have rn:=X1 l;have rg:=λT=>X2 T l;have rl:=λT=>X3 T l;have ru:=λT T'=>X4 T T' l;generalize b_ ((HZ m (kN (j.take 32++(m++cj l))) (j.drop 32)).bytes=j.take 32)=ans,R (HZ m (kN (j.take 32++(m++cj l))) (j.drop 32)).bytes=EV,(q.neg.Io (kN (j.take 32++(m++cj l))) 64 Pt.none).add (Pt.base.Io (j.drop 32) 64 Pt.none)=PB,R (kN (j.take 32++(m++cj l)))=EH,q.neg=qn,cJ (j.take 32)=BF,cJ m=BK,R (j.take 32)=EF,R (j.drop 32)=EG,R m=EK,R j=ES,po l=d at*;have c1:(AV.A EK).cells=EK:=rfl;have c2:(AV.A ES).cells=ES:=rfl;have c3:(AV.A EF).cells=EF:=rfl;have c4:(AV.A EG).cells=EG:=rfl;have c5:(AV.A EH).cells=EH:=rfl;generalize aP=i at*;try simp at ha
   simp-implicitDefEqProofs [y,u,ZI,z,v,pk2,E,w,pk3,I,x,aAx,hz,hf,ht,dq,tq,bB,P,bU,fb,qI,gaF,gaK,lkF,lkK,ulF,ulK,sj,rn,rg,rl,ru,de,ct,ha,hl5,hd5,pk5,ldq,fn,fB,fy,eq,hd6, -K, -AV.cells, -aU]
  ·rw[decide_eq_false hb]at fb⊢
   generalize R (j.take 32)=EF,R (j.drop 32)=EG,R m=EK,R j=ES,po l=d at*;have c1:(AV.A EK).cells=EK:=rfl;have c2:(AV.A ES).cells=ES:=rfl;have c3:(AV.A EF).cells=EF:=rfl;have c4:(AV.A EG).cells=EG:=rfl;generalize aP=i at*;simp-implicitDefEqProofs [y,u,ZI,z,v,pk2,E,w,I,x,aAx,hz,hf,ht,dq,tq,bB,P,bU,fb, -K, -AV.cells, -aU]
def oB(l:List UInt64):jV:=l.map λx=>[C x]
def pq:F:=[.I Y 64,.sl .N 1 (oB p5.l),.sl .N 1 (oB iC),.I Y 28,.I Y 34,.I Y 39,.I Y 14,.I Y 18,.I Y 41,.I Y 1,.I Y 8,.I Y 7,.I Y 19,.I Y 61,.I Y 6,.I Y 16,C 18446744073709551615]
def PX(l:List UInt64):∀c∈oB l,df c:=by intro c a;obtain⟨x,_,rfl⟩:=yF.1 a;simp
def Lo(l:List UInt64):eT (oB l)=G:=kh.2 λx a=>(PX l x a).br
def acz(x:UInt64):x&&&18446744073709551615=x:=by apply UInt64.toBitVec_inj.1;rw[UInt64.toBitVec_and];exact BitVec.and_allOnes
def aFV(x:UInt64):(18446744073709551615:UInt64)^^^x= ~~~x:=by rfl
def wU:df pq:=by
 have a:yh (.sl .N 1 (oB p5.l)):=by have:=kV 1 (PX p5.l);exact this
 have b:yh (.sl .N 1 (oB iC)):=by have:=kV 1 (PX iC);exact this
 simp_all[pq]
def JT:pq.length=17:=rfl
def x8(x:UInt64)(n:Nat)(p:1<=n)(q:n<64)(S:Z):W N X 280 [.A pq,C x,.I Y (n:Int)] S=J (C (jd x n),S):=by
 have g:=wU;have i:aX (S++[.M pq [] O]) .C (.P S.length 0)=J (.I Y 64):=by rw[ka];rfl
 have d:aX (S++[.M pq [] O]) .C (.P S.length 16)=J (C 18446744073709551615):=by rw[ka];rfl
 have e:=zb x n V Y;have f:=Ng x (64 -n) V Y;have l:K .sub (.I Y 64) (.I Y (n:Int))=J (.I Y ((64 -n:Nat):Int)):=by
  show J (AV.I Y (dr Y (64 -(n:Int))))=_;rw[cG V]
  grind
 have k:cf x n|||AB x (64 -n)=jd x n:=UInt64.or_comm _ _;have j:=acz (jd x n);have h:=JT;rw[LR ay7];generalize r:((64 -n:Nat):Int)=a,s:pq=b,jd x n=c,cf x n=m,AB x (64 -n)=o at*;simp[-K,g,h,e,f,l,i,d,k,j]
def Mn(x:UInt64)(a b c:Nat)(e:1<=a)(j:a<64)(f:1<=b)(k:b<64)(s:c<64)(S:Z):W N X 265 [.A pq,C x,.A [.I Y (a:Int),.I Y (b:Int),.I Y (c:Int)]] S=J (C (jd x a^^^jd x b^^^cf x c),S):=by
 have l:=wU;have m:=JT;have n:aX (S++[.M pq [] O,.M [.I Y (a:Int),.I Y (b:Int),.I Y (c:Int)] [] O]) (.A 17) (.P S.length 0)=J (.A pq):=by rw[ka];rfl
 have h:=λS=>x8 x a e j S;have i:=λS=>x8 x b f k S;have g:=zb x c V Y;rw[LR ayS];generalize r:pq=d,jd x a=o,jd x b=p,cf x c=q at*;simp[-K,l,m,n,h,i,g]
def SJ(x:UInt64)(a b c:Nat)(e:1<=a)(k:a<64)(f:1<=b)(l:b<64)(g:1<=c)(m:c<64)(S:Z):W N X 266 [.A pq,C x,.A [.I Y (a:Int),.I Y (b:Int),.I Y (c:Int)]] S=J (C (jd x a^^^jd x b^^^jd x c),S):=by
 have n:=wU;have o:=JT;have p:aX (S++[.M pq [] O,.M [.I Y (a:Int),.I Y (b:Int),.I Y (c:Int)] [] O]) (.A 17) (.P S.length 0)=J (.A pq):=by rw[ka];rfl
 have h:=λS=>x8 x a e k S;have i:=λS=>x8 x b f l S;have j:=λS=>x8 x c g m S;rw[LR ayT];generalize t:pq=d,jd x a=q,jd x b=r,jd x c=s at*;simp[-K,n,o,p,h,i,j]
@[simp]def aB4(l:List UInt64):(oB l).length=l.length:=by simp[oB]
theorem acw(a:List UInt64)(x:UInt64):oB (a++[x])=oB a++[[C x]]:=by simp[oB]
def acx{l:List UInt64}{i:Nat}(h:i<l.length):(oB l)[i]? =J [C (l.getD i 0)]:=by grind [oB]
def Ac{a:Q}{ag:bV}{l:List UInt64}(h:fF 1 a ag (oB l))(i:Nat)(b:i<l.length)(k:IntKind):oc 1 a (.I k (i:Int))=J (.ff .N [C (l.getD i 0)] 0):=by rw[fF.ix h k i (by simp_all),acx b];rfl
def aB5(T:Z)(x:UInt64):aX T .C (.ff .N [C x] 0)=J (C x):=rfl
def PU(S:Z):let T:=S++[cZ.M pq [] O]
 aX T .C (.P S.length 0)=J (.I Y 64)/\aX T .C (.P S.length 2)=J (.sl .N 1 (oB iC))/\aX T .C (.P S.length 16)=J (C 18446744073709551615)/\
 aX T (.A 3) (.P S.length 3)=J (.A [.I Y 28,.I Y 34,.I Y 39])/\aX T (.A 3) (.P S.length 6)=J (.A [.I Y 14,.I Y 18,.I Y 41])/\
 aX T (.A 3) (.P S.length 9)=J (.A [.I Y 1,.I Y 8,.I Y 7])/\aX T (.A 3) (.P S.length 12)=J (.A [.I Y 19,.I Y 61,.I Y 6])/\
 aX T (.A 17) (.P S.length 0)=J (.A pq):=by
 refine⟨?_, ?_, ?_, ?_, ?_, ?_, ?_, ?_⟩;·rw[ka];rfl
 ·rw[ka];rfl
 ·rw[ka];rfl
 ·rw[ka];rfl
 ·rw[ka];rfl
 ·rw[ka];rfl
 ·rw[ka];rfl
 ·rw[ka]
  rfl
def aJ(a b:Int):K .add (.I Y a) (.I Y b)=J (.I Y (dr Y (a+b))):=rfl
def lJ(a b:Int):K .lss (.I Y a) (.I Y b)=J (.B (b_ (a<b))):=rfl
def aau(m:B)(i:Nat)(hi:8*i+8<=m.length)(hi2:i<16)(rh h:Q)(ag:bV)(S:Z):∀d j n,j+d=8->n<256^j->
 DC N X (.L nE) ⟨[(1,rh),(2,cV m),(3,.P S.length 0),(7,h),(8,.I Y (i:Nat)),(9,.I U (n:Nat)),(10,.I Y (j:Nat))],ag,S.length⟩ (S++[.M pq [] O])=
  J (.E 2,⟨[(1,rh),(2,cV m),(3,.P S.length 0),(7,h),(8,.I Y (i:Nat)),(9,.I U ((Yi n ((m.take (8*i+8)).drop (8*i+j)):Nat):Int))],ag,S.length⟩,S++[.M pq [] O]):=by
 obtain⟨l0, -, -, -, -, -, -, -⟩:=PU S;have q8:K .quo (.I Y 64) (.I Y 8)=J (.I Y 8):=rfl;generalize hT:S++[cZ.M pq [] O]=T at*;intro d;induction d with
 |zero=>
  intro j n hj r;have e:j=8:=V;subst e;have h3:(m.take (8*i+8)).drop (8*i+8)=[]:=jY (by grind);simp[aj,aN jD,h3, -K,l0,q8,lJ,Yi]
 |succ d ih=>
  intro j n hj r;have hw:=aQ (i:=j) V;have⟨y,hy,hy'⟩:=aT (l:=m) (i:=8*i+j) V;have s:(m.take (8*i+8))[8*i+j]? =J y:=by grind
  have p4:(256:Nat)^j<=256^7:=Av V V;have t:=uu r p4;have yl:=y.toNat_lt;have g:n*256+y.toNat<256^(j+1):=V;have v:=XP n t;have q:=acy n y t;have m1:K .mul (.I Y (i:Int)) (.I Y 64)=J (.I Y ((64*i:Nat):Int)):=by
   show J (AV.I Y (dr Y ((i:Int)*64)))=_;rw[cG V]
   grind
  have u:K .quo (.I Y ((64*i:Nat):Int)) (.I Y 8)=J (.I Y ((8*i:Nat):Int)):=by show(if(8:Int)=0 then M else J (AV.I Y (dr Y (((64*i:Nat):Int).tdiv 8))))=_;rw[tQ,Wt V,cG V];congr 2;omega
  have p:dr Y (((8*i:Nat):Int)+(j:Int))=((8*i+j:Nat):Int):=by rw[cG V];omega
  have k:=zV m Y (8*i+j);rw[hy]at k;have o:=ih (j+1) (n*256+y.toNat) V g;rw[aj,aN jD,bf s,Yi];rw[show 8*i+(j+1)=8*i+j+1 from rfl]at o;obtain⟨A,w⟩:∃A:Int,A=((n*256+y.toNat:Nat):Int):=⟨_,rfl⟩;obtain⟨a,x⟩:∃a:Int,a=((n*256:Nat):Int):=⟨_,rfl⟩;obtain⟨b,z⟩:∃b:Int,b=((64*i:Nat):Int):=⟨_,rfl⟩;obtain⟨c,I⟩:∃c:Int,c=((8*i:Nat):Int):=⟨_,rfl⟩;obtain⟨E,P⟩:∃E:Int,E=((8*i+j:Nat):Int):=⟨_,rfl⟩;rw[<-w]at o q;rw[<-x]at v q;rw[<-z]at m1 u;rw[<-I]at u p;rw[<-P]at p k;generalize Yi (n*256+y.toNat) (List.drop (8*i+j+1) (List.take (8*i+8) m))=f at*;clear w x z I P g r p4 t;simp at o hw;simp at k;simp[(V:(j:Int)<8), -K, -nT, -zV,l0,q8,lJ,aJ,v,q,Z8 y,m1,u,p,k,bn];rw[ab jD];simp[hw,o, -K]
def amX(a w2 b c:UInt64):(jd w2 19^^^jd w2 61^^^cf w2 6)+c+(jd a 1^^^jd a 8^^^cf a 7)+b=
 b+(jd a 1^^^jd a 8^^^cf a 7)+c+(jd w2 19^^^jd w2 61^^^cf w2 6):=by
 ac_rfl
def aek(m:B)(hm:128<=m.length)(rh:Q)(S:Z):∀d i(f:Q)(ag:bV),i+d=80->fF 1 f ag (oB (oe m i))->
 ∃c aV,fF 1 c aV (oB (oe m 80))/\DC N X (.L nF) ⟨[(1,rh),(2,cV m),(3,.P S.length 0),(7,f),(8,.I Y (i:Nat))],ag,S.length⟩ (S++[.M pq [] O])=
  J (.E 0,⟨[(1,rh),(3,.P S.length 0),(7,c)],aV,S.length⟩,S++[.M pq [] O]):=by
 have⟨l0,l2,l16,l3,l6,l9,l12,lA⟩:=PU S;have lk:fW (.sl .N 1 (oB iC))=J (.I Y 80):=rfl;intro d;induction d with
 |zero=>
  intro i f ag hi k;have e:i=80:=V;subst e;refine⟨f,ag,k, ?_⟩;rw[aj,aN fC];generalize S++[cZ.M pq [] O]=T,AV.sl .N 1 (oB iC)=KK at*;simp[-K,l2,lk,lJ]
 |succ d ih=>
  intro i f ag hi k;have h3:(i:Int)<80:=V;have z:=aQ (i:=i) V;have bo:∀x,fg 1 [[AV.I U 0]] [(0,C x)]=J [[C x]]:=λ_=>rfl;have es:oe m (i+1)=oe m i++[if i<16 then xZ m i else QW (oe m i) i]:=rfl
  have ap:∀x:UInt64,x=(if i<16 then xZ m i else QW (oe m i) i)->∃l n,eD 1 ag (S++[.M pq [] O]) f (.sl .X 1 [[C x]])=J (l,n,S++[.M pq [] O])/\fF 1 l n (oB (oe m (i+1))):=λx hx=>by
   have⟨l,n,o,y⟩:=fF.app k (xs:=[[C x]]) bW (by simp;omega) .X (S++[.M pq [] O])
   grind [acw]
  by_cases I:i<16
  ·have h:(i:Int)<16:=V
   have g:=aau m i V I rh f ag S 8 0 0 V bW;have bl:=U9 ((m.take (8*i+8)).drop (8*i)) 0 0 bW;have ql:((m.take (8*i+8)).drop (8*i)).length=8:=by grind
   rw[ql]at bl;have ew:AV.I U ((Yi 0 ((m.take (8*i+8)).drop (8*i)):Nat):Int)=C (xZ m i):=by
    show _=AV.I U (((xZ m i).toNat:Nat):Int)
    grind [xZ,UInt64.toNat_ofNat']
   rw[show 8*i+0=8*i from rfl,ew]at g;have⟨l,n,o,y⟩:=ap (xZ m i) (by simp_all);have⟨c,aV,n1,t⟩:=ih (i+1) l n V y;refine⟨c,aV,n1, ?_⟩;rw[aj,aN fC];generalize S++[cZ.M pq [] O]=T,AV.sl .N 1 (oB iC)=KK,xZ m i=b at*;simp at g t z;simp[h3,h, -K,l2,lk,lJ];rw[ab jD];simp[g,bo,o, -K,aJ];rw[ab fC];simp[z,t, -K]
  ·have h:¬(i:Int)<16:=V
   have r:=Ac k (i -15) (by rw[JS];omega) Y;have i2:=Ac k (i -2) (by rw[JS];omega) Y;have s:=Ac k (i -16) (by rw[JS];omega) Y;have i7:=Ac k (i -7) (by rw[JS];omega) Y;have u:K .sub (.I Y (i:Int)) (.I Y 15)=_:=XQ i 15 V V;have s2:K .sub (.I Y (i:Int)) (.I Y 2)=_:=XQ i 2 V V;have v:K .sub (.I Y (i:Int)) (.I Y 16)=_:=XQ i 16 V V;have s7:K .sub (.I Y (i:Int)) (.I Y 7)=_:=XQ i 7 V V;have⟨l,n,o,y⟩:=ap (QW (oe m i) i) (by grind);have⟨c,aV,n1,t⟩:=ih (i+1) l n V y;refine⟨c,aV,n1, ?_⟩;have j:=bo (QW (oe m i) i);unfold QW at o j;rw[<-amX]at o j;generalize(oe m i).getD (i -15) 0=w,(oe m i).getD (i -2) 0=x2,(oe m i).getD (i -16) 0=x16,(oe m i).getD (i -7) 0=x7 at*;have c2:∀T,W N X 265 [.A pq,C x2,.A [.I Y 19,.I Y 61,.I Y 6]] T=_:=λT=>Mn x2 19 61 6 V V V V V T;have E:∀T,W N X 265 [.A pq,C w,.A [.I Y 1,.I Y 8,.I Y 7]] T=_:=λT=>Mn w 1 8 7 V V V V V T;obtain⟨A15,p⟩:∃A:Int,A=((i -15:Nat):Int):=⟨_,rfl⟩;obtain⟨A2,P⟩:∃A:Int,A=((i -2:Nat):Int):=⟨_,rfl⟩;obtain⟨A16,q⟩:∃A:Int,A=((i -16:Nat):Int):=⟨_,rfl⟩;obtain⟨A7,hA7⟩:∃A:Int,A=((i -7:Nat):Int):=⟨_,rfl⟩;rw[<-p]at u r;rw[<-P]at s2 i2;rw[<-q]at v s;rw[<-hA7]at s7 i7;have kd:=wU;rw[aj,aN fC];generalize hT:S++[cZ.M pq [] O]=T at*;generalize AV.sl .N 1 (oB iC)=KK,pq=a at*;simp at t z;simp[h3,h, -K,l2,lk,lJ,aJ,lA,l12,l9,l16,u,s2,v,s7,r,i2,s,i7,(λ_=>rfl:∀x:UInt64,aX T .C (.ff .N [C x] 0)=J (C x)),kd,c2,E,acz,j,o];rw[ab fC];simp[z,t, -K]
def ajx(l:List UInt64)(i:Nat)(h:i<l.length):oc 1 (.sl .N 1 (oB l)) (.I Y (i:Int))=J (.ff .N [C (l.getD i 0)] 0):=by unfold oc;simp only[if_true,LX];rw[tQ,acx h];rfl
def aFU(a b c d e f g h:UInt64):fg 1 (fL 8 [AV.I U 0]) [(0,C a),(1,C b),(2,C c),(3,C d),(4,C e),(5,C f),(6,C g),(7,C h)]=J [[C a],[C b],[C c],[C d],[C e],[C f],[C g],[C h]]:=by rfl
def U_(j:List UInt64)(hws:j.length=80)(I m:Q)(v:W8)(S:Z)(ag:bV)(hw:fF 1 m ag (oB j)):∀d i(f:Q),i+d=80->fF 1 f ag (oB (v.rounds iC j i).l)->
 ∃g,(f=.sl .X 1 (oB (v.rounds iC j i).l)\/0<d->g=.sl .X 1 (oB (v.rounds iC j 80).l))/\DC N X (.L nG) ⟨[(1,I),(3,.P S.length 0),(7,m),(11,f),(12,.I Y (i:Nat))],ag,S.length⟩ (S++[.M pq [] O])=
  J (.E 4,⟨[(1,I),(3,.P S.length 0),(11,g)],ag,S.length⟩,S++[.M pq [] O]):=by
 have⟨l0,y,t,l3,l6,l9,l12,lA⟩:=PU S;have z:fW (.sl .N 1 (oB iC))=J (.I Y 80):=rfl;intro d;induction d with
 |zero=>
  intro i f hi l;have e:i=80:=V;subst e;refine⟨f,λh=>h.resolve_right V, ?_⟩;rw[aj,aN jE];generalize S++[cZ.M pq [] O]=T,AV.sl .N 1 (oB iC)=P at*;simp[-K,y,z,lJ]
 |succ d p=>
  intro i f hi l;have h3:(i:Int)<80:=V;have n:=aQ (i:=i) V;have er:v.rounds iC j (i+1)=(v.rounds iC j i).round (iC.getD i 0) (j.getD i 0):=rfl;have r:=ajx iC i (by rw[show iC.length=80 from rfl];omega);have s:=Ac hw i V Y;have p:=p (i+1);rw[er]at p;generalize v.rounds iC j i=c,iC.getD i 0=k,j.getD i 0=w at*;have v0:oc 1 f (.I Y 0)=J (.ff .N [C c.a] 0):=Ac l 0 (show 0<8 by omega) Y;have v1:oc 1 f (.I Y 1)=J (.ff .N [C c.b] 0):=Ac l 1 (show 1<8 by omega) Y;have v2:oc 1 f (.I Y 2)=J (.ff .N [C c.c] 0):=Ac l 2 (show 2<8 by omega) Y;have v3:oc 1 f (.I Y 3)=J (.ff .N [C c.d] 0):=Ac l 3 (show 3<8 by omega) Y;have v4:oc 1 f (.I Y 4)=J (.ff .N [C c.e] 0):=Ac l 4 (show 4<8 by omega) Y;have v5:oc 1 f (.I Y 5)=J (.ff .N [C c.f] 0):=Ac l 5 (show 5<8 by omega) Y;have v6:oc 1 f (.I Y 6)=J (.ff .N [C c.g] 0):=Ac l 6 (show 6<8 by omega) Y;have v7:oc 1 f (.I Y 7)=J (.ff .N [C c.h] 0):=Ac l 7 (show 7<8 by omega) Y;have q:fF 1 (.sl .X 1 (oB (c.round k w).l)) ag (oB (c.round k w).l):=.inr (.inl rfl);have⟨g,A,E⟩:=p _ V q;refine⟨g,λ_=>A (.inl rfl), ?_⟩;clear A;have o:=aFU (c.t k w+c.u) c.a c.b c.c (c.d+c.t k w) c.e c.f c.g;have eR:oB (c.round k w).l=[[C (c.t k w+c.u)],[C c.a],[C c.b],[C c.c],[C (c.d+c.t k w)],[C c.e],[C c.f],[C c.g]]:=rfl;rw[<-eR]at o;have c4:∀T,W N X 266 [.A pq,C c.e,.A [.I Y 14,.I Y 18,.I Y 41]] T=_:=λT=>SJ c.e 14 18 41 V V V V V V T;have c0:∀T,W N X 266 [.A pq,C c.a,.A [.I Y 28,.I Y 34,.I Y 39]] T=_:=λT=>SJ c.a 28 34 39 V V V V V V T;unfold W8.t W8.u at o;have kd:=wU;generalize oB (c.round k w).l=a at*;rw[aj,aN jE];generalize hT:S++[cZ.M pq [] O]=T at*;have u:∀x:UInt64,aX T .C (.ff .N [C x] 0)=J (C x):=λ_=>rfl;generalize AV.sl .N 1 (oB iC)=P,pq=b at*;simp at E n;simp at o;simp[h3, -K,y,z,lJ,aJ,lA,l6,l3,t,v0,v1,v2,v3,v4,v5,v6,v7,r,s,u,kd,c4,c0,acz,aFV,o];rw[ab jE];simp[n,E, -K]
def aen(s v:List UInt64)(P:s.length=8)(hv:v.length=8)(S:Z):∀d i(b:Q)(ag:bV),i+d=8->fF 1 b ag (oB ((List.zipWith (·+·) s v).take i))->
 ∃a aV,fF 1 a aV (oB (List.zipWith (·+·) s v))/\DC N X (.L nH) ⟨[(1,.sl .N 1 (oB s)),(3,.P S.length 0),(11,.sl .X 1 (oB v)),(15,b),(16,.I Y (i:Nat))],ag,S.length⟩ (S++[.M pq [] O])=
  J (.E 6,⟨[(15,a)],aV,S.length⟩,S++[.M pq [] O]):=by
 have⟨l0,l2,k,l3,l6,l9,t,lA⟩:=PU S;have zl:(List.zipWith (·+·) s v).length=8:=by grind
 intro d;induction d with
 |zero=>
  intro i b ag q f;have e:i=8:=V;subst e;rw[oh V]at f;refine⟨b,ag,f, ?_⟩;simp[aj,aN jF]
 |succ d g=>
  intro i b ag q f;have p:(i:Int)<8:=V;have c:=aQ (i:=i) V;have h:=ajx s i V;have j:=Ac (ag:=ag) (.inr (.inl rfl):fF 1 (.sl .X 1 (oB v)) ag (oB v)) i V Y;have r:(List.zipWith (·+·) s v)[i]? =J (s.getD i 0+v.getD i 0):=by grind
  have g:=g (i+1);rw[(by rw[vH,r];rfl:(List.zipWith (·+·) s v).take (i+1)=(List.zipWith (·+·) s v).take i++[s.getD i 0+v.getD i 0]),acw]at g;generalize s.getD i 0=x,v.getD i 0=y at*;have⟨w,z,m,n⟩:=fF.app f (xs:=[[C (x+y)]]) bW (by simp;omega) .X (S++[.M pq [] O]);have⟨a,aV,u,l⟩:=g w z V n;refine⟨a,aV,u, ?_⟩;have o:fg 1 [[AV.I U 0]] [(0,C (x+y))]=J [[C (x+y)]]:=rfl;rw[aj,aN jF];generalize I:S++[cZ.M pq [] O]=T at*;generalize AV.sl .N 1 (oB s)=A,AV.sl .X 1 (oB v)=E at*;simp at l c;simp[p, -K,lJ,aJ,k,h,j,(λ_=>rfl:∀x:UInt64,aX T .C (.ff .N [C x] 0)=J (C x)),acz,o,m];rw[ab jF];simp[c,l, -K]
def XS(v:W8)(m:B)(q:128<=m.length)(S:Z):∃r,Pk 1 r (oB (v.rL iC m).l)/\aF r=G/\W N X 243 [.A pq,.sl .N 1 (oB v.l),cV m] S=J (r,S):=by
 have s:=wU;have u:=JT;have⟨w,b,n,f⟩:=aek m q (.sl .N 1 (oB v.l)) S 80 0 .aw [] V (.inl ⟨rfl,rfl⟩);have g:eD 1 b (S++[.M pq [] O]) (.sl .X 1 []) (.sl .N 1 (oB v.l))=J (.sl (.fr b.length) 1 (oB v.l),b++[J 8],S++[.M pq [] O]):=rfl;have o:fF 1 (.sl (.fr b.length) 1 (oB v.l)) (b++[J 8]) (oB (v.rounds iC (oe m 80) 0).l):=.inr (.inr ⟨b.length,rfl,by simp;rfl⟩);have⟨v2,h,d⟩:=U_ (oe m 80) bW (.sl .N 1 (oB v.l)) w v S (b++[J 8]) (n.more _) 80 0 _ V o;rw[h (.inr V)]at d;have⟨E,I,c,l⟩:=aen v.l (v.rounds iC (oe m 80) 80).l rfl rfl S 8 0 .aw (b++[J 8]) V (.inl ⟨rfl,rfl⟩);rw[(rfl:List.zipWith (·+·) v.l (v.rounds iC (oe m 80) 80).l=(v.rL iC m).l)]at c;have⟨r,t,i,j,k⟩:=c.res (Lo _);rw[fF.nr c]at i;have A:=fF.nt c;have z:=fF.nr c;refine⟨r,j,k, ?_⟩;have e:fg 1 (fL 0 [AV.I U 0]) []=J []:=rfl;rw[LR ayu];generalize p:S++[cZ.M pq [] O]=T at*;have P:T.take S.length=S:=by grind
 generalize pq=a,oB v.l=y,oB (v.rounds iC (oe m 80) 80).l=x at*;simp at f d l e;simp[u,s,p];rw[ab fC];simp[f,e,g];rw[ab jE];simp[d];rw[ab jF];simp_all
def ael(b c:B)(h:128<=b.length){i:Nat}(a:i<16):xZ (b++c) i=xZ b i:=by grind [xZ]
def XR(b c:B)(h:128<=b.length):∀n,oe (b++c) n=oe b n
 |0=>rfl
 |n+1=>by
  rw[oe,oe,XR b c h n];by_cases a:n<16;·rw[if_pos a,if_pos a,ael b c h a]
  ·rw[if_neg a,if_neg a]
theorem ajw(v:W8)(a:List UInt64)(b c:B)(h:128<=b.length):v.rL a (b++c)=v.rL a b:=by unfold W8.rL;rw[XR b c h]
def aem(v:W8)(a:List UInt64)(b:B)(h:128<=b.length):v.rL a (b.take 128)=v.rL a b:=by grind [ajw,List.take_append_drop]
theorem aav(n:Nat):(fS n).length=17+(239 -n %128)%128:=by grind [fS,AT]
def Lp:∀k n,D1 (k+1) n=cq (n/256^k)::D1 k n
 |0,n=>by simp[D1]
 |k+1,n=>by rw[show D1 (k+1+1) n=D1 (k+1) (n/256)++[cq n]from rfl,Lp k (n/256),Hn,sG,show 256*256^k=256^(k+1)by rw[ph,uB]];rfl
def aAs(k:Nat)(h:k<100):dr Y (((k:Nat):Int) -1)=(k:Int) -1:=cG V
def aAt(n:Nat):nT L (.I U (n:Int))=J (.I L (((cq n).toNat:Nat):Int)):=by rfl
def aoF(a k:Nat)(h:k<8):K .shr (.I U (a:Int)) (.I Y ((8*k:Nat):Int))=J (.I U ((a/256^k:Nat):Int)):=by
 show(if((8*k:Nat):Int)<0 then M else J (AV.I U ((a:Int).fdiv (2^(min ((8*k:Nat):Int).toNat 64)))))=_;have e:(256:Nat)^k=2^(8*k):=by rw[uC]
 grind
def aaw(b:B)(w:b.length<1000000000)(S:Z):∀d k(e:Q)(ag:bV),k+d=(239 -b.length %128)%128->mR e ag (b++128::fL k 0)->
 ∃c aV,mR c aV (b++128::fL ((239 -b.length %128)%128) 0)/\DC N X (.L xD) ⟨[(1,cV b),(2,.P S.length 0),(5,e),(6,.I Y 128)],ag,S.length⟩ (S++[.M pq [] O])=
  J (.E 0,⟨[(1,cV b),(2,.P S.length 0),(5,c),(6,.I Y 128)],aV,S.length⟩,S++[.M pq [] O]):=by
 have g:aX (S++[.M pq [] O]) .C (.P S.length 15)=J (.I Y 16):=by rw[ka];rfl
 intro d;induction d with
 |zero=>
  intro k e ag q f;have p:k=(239 -b.length %128)%128:=V;have h:=fF.len f;have o:(cJ (b++128::fL k 0)).length=b.length+1+k:=by simp;omega
  rw[o]at h;have i:(((b.length+1+k:Nat):Int)+16).tmod 128=0:=by grind
  have j:dr Y (((b.length+1+k:Nat):Int)+16)=((b.length+1+k:Nat):Int)+16:=cG V;rw[<-p];refine⟨e,ag,f, ?_⟩;rw[aj,aN k9];generalize((b.length+1+k:Nat):Int)=a at*;simp[h,g,j,i]
 |succ d r=>
  intro k e ag q f;have h:=fF.len f;rw[(by simp;omega:(cJ (b++128::List.replicate k 0)).length=b.length+1+k)]at h;have i:¬(((b.length+1+k:Nat):Int)+16).tmod 128=0:=by grind
  have j:dr Y (((b.length+1+k:Nat):Int)+16)=((b.length+1+k:Nat):Int)+16:=cG V;have⟨t,u,l,m⟩:=f.one 0 (by grind) (S++[.M pq [] O]);rw[(by grind [List.replicate_succ']:b++128::List.replicate k 0++[0]=b++128::List.replicate (k+1) (0:UInt8))]at m;have⟨c,aV,s,n⟩:=r (k+1) t u V m;refine⟨c,aV,s, ?_⟩;have v:(((0:UInt8).toNat:Nat):Int)=0:=rfl;rw[v]at l;rw[aj,aN k9];generalize((b.length+1+k:Nat):Int)=a,S++[cZ.M pq [] O]=T at*;try simp at n
  simp[h,g,j,i,l];rw[ab k9];simp[n]
def aax(d:Nat)(S:Z):∀k(s:B)(f:Q)(ag:bV),k<=8->s.length+k<1000000000->mR f ag s->
 ∃e aV,mR e aV (s++D1 k d)/\DC N X (.L r9) ⟨[(2,.P S.length 0),(5,f),(6,.I Y 128),(7,.I U (d:Int)),(8,.I Y ((k:Int) -1))],ag,S.length⟩ (S++[.M pq [] O])=
  J (.E 2,⟨[(2,.P S.length 0),(5,e),(6,.I Y 128)],aV,S.length⟩,S++[.M pq [] O]):=by
 intro k;induction k with
 |zero=>
  intro s f ag m n g;refine⟨f,ag,by rw[D1,EI];exact g, ?_⟩;simp[aj,aN hJ]
 |succ k o=>
  intro s f ag m n g;rw[(V:(((k+1:Nat):Int) -1)=(k:Int))];have⟨r,w,h,i⟩:=g.one (cq (d/256^k)) V (S++[.M pq [] O]);have⟨e,aV,x,q⟩:=o (s++[cq (d/256^k)]) r w V (by grind) i;refine⟨e,aV,by rw[Lp];simp_all, ?_⟩;have p:K .mul (.I Y 8) (.I Y (k:Int))=J (.I Y ((8*k:Nat):Int)):=by show J (AV.I Y (dr Y (8*(k:Int))))=_;rw[cG V];congr 2
  have v:=aoF d k V;have j:=aAt (d/256^k);have l:∀a b,K .geq (.I Y a) (.I Y b)=J (.B (b_ (a≥b))):=λ_ _=>rfl;have t:K .sub (.I Y (k:Int)) (.I Y 1)=J (.I Y ((k:Int) -1)):=by show J (AV.I Y (dr Y ((k:Int) -1)))=_;rw[aAs k V]
  generalize cq (d/256^k)=u,((8*k:Nat):Int)=A,((d/256^k:Nat):Int)=c at*;rw[aj,aN hJ];generalize S++[cZ.M pq [] O]=T at*;try simp at q
  simp[(V:(0:Int)<=(k:Int)),(V:¬(8:Int)<=(k:Int)), -K, -nT,l,p,v,j,h,t];rw[ab hJ];trivial
def XT(c:Nat)(S:Z):∀j(s:B)(e:Q)(ag:bV),j<=8->s.length+8+j<1000000000->mR e ag s->
 ∃d aV,mR d aV (s++(fL j 0++D1 8 c))/\DC N X (.L r9) ⟨[(2,.P S.length 0),(5,e),(6,.I Y 128),(7,.I U (c:Int)),(8,.I Y ((j:Int)+7))],ag,S.length⟩ (S++[.M pq [] O])=
  J (.E 2,⟨[(2,.P S.length 0),(5,d),(6,.I Y 128)],aV,S.length⟩,S++[.M pq [] O]):=by
 intro j;induction j with
 |zero=>
  intro s e ag m n f;exact aax c S 8 s e ag V V f
 |succ j o=>
  intro s e ag m n f;rw[(V:(((j+1:Nat):Int)+7)=(j:Int)+8)];have k:(0:Int)<=(j:Int)+8:=V;have l:(8:Int)<=(j:Int)+8:=V;have⟨q,t,g,h⟩:=f.one 0 V (S++[.M pq [] O]);have⟨d,aV,x,p⟩:=o (s++[0]) q t V (by grind) h;refine⟨d,aV,by grind, ?_⟩;have i:∀a b,K .geq (.I Y a) (.I Y b)=J (.B (b_ (a≥b))):=λ_ _=>rfl;have r:K .sub (.I Y ((j:Int)+8)) (.I Y 1)=J (.I Y ((j:Int)+7)):=by
   show J (AV.I Y (dr Y ((j:Int)+8 -1)))=_;rw[cG V]
   grind
  have u:(((0:UInt8).toNat:Nat):Int)=0:=rfl;rw[u]at g;generalize(j:Int)+7=v,(j:Int)+8=w at*;rw[aj,aN hJ];generalize S++[cZ.M pq [] O]=T at*;try simp at p
  simp[k,l, -K, -nT,i,g,r];rw[ab hJ];trivial
def HL(h:Q)(v:W8):Prop:=h=.sl .N 1 (oB v.l)\/∃ag,fF 1 h ag (oB v.l)
def aFW(v:W8):oB v.l≠[]:=by nofun
def HL.I7{h:Q}{v:W8}(a:HL h v)(T:Z):bH T h=J (.sl .N 1 (oB v.l))\/bH T h=J (.sl .X 1 (oB v.l)):=by
 rcases a with rfl|⟨t,a⟩;·exact .inl rfl
 ·rcases a with⟨b,_⟩|rfl|⟨k,rfl,_⟩
  ·trivial
  ·exact .inr rfl
  ·exact .inl rfl
theorem ajy(v:W8):ej (.sl .N 1 (oB v.l))=.sl .N 1 (oB v.l)/\ej (.sl .X 1 (oB v.l))=.sl .N 1 (oB v.l):=⟨rfl,rfl⟩
def HL.lock{h:Q}{v:W8}(a:HL h v)(T:Z):bK T h=T:=by
 rcases a with rfl|⟨t,a⟩;·rfl
 ·exact fF.lock a T
def HL.yg{h:Q}{v:W8}(a:HL h v)(T b:Z):bk T b h=b:=by
 rcases a with rfl|⟨t,a⟩;·rfl
 ·exact fF.yg a T b
def HL.ix{h:Q}{v:W8}(a:HL h v)(i:Nat)(b:i<8):oc 1 h (.I Y (i:Int))=J (.ff .N [C (v.l.getD i 0)] 0):=by
 rcases a with rfl|⟨t,a⟩;·exact ajx v.l i b
 ·exact Ac a i b Y
def amY(r:ia)(a:B)(h:128<=a.length):∃q,GW 1 (.sl r 1 (cJ a)) M (J (.I Y 128))=J (.sl q 1 (cJ (a.take 128)))/\(q=r\/q=uj r):=by
 have b:(List.take 128 (cJ a)).drop 0=cJ (a.take 128):=by simp[cJ]
 grind [GW,kR,yW]
def Va(S:Z):∀n(d:B)(r:ia)(h:Q)(v:W8)(ag:bV),d.length=128*n->(r=.N\/r=.X\/∃k,r=.fr k)->HL h v->
 ∃j aV,HL j (PW n v d)/\DC N X (.L xE) ⟨[(2,.P S.length 0),(5,.sl r 1 (cJ d)),(6,.I Y 128),(9,h)],ag,S.length⟩ (S++[.M pq [] O])=
  J (.E 4,⟨[(2,.P S.length 0),(9,j)],aV,S.length⟩,S++[.M pq [] O]):=by
 have⟨l0,l2,l16,l3,l6,l9,l12,lA⟩:=PU S;have gJ:∀a b,K .gtr (.I Y a) (.I Y b)=J (.B (b_ (a>b))):=λ_ _=>rfl;intro n;induction n with
 |zero=>
  intro d r h v ag hM x i;have e:=Wa V;subst e;refine⟨h,ag,i, ?_⟩;simp[aj,aN k_,fW,cJ]
 |succ n ih=>
  intro d r h v ag hM x i;have f:128<=d.length:=V;have hp:(0:Int)<(d.length:Int):=V;have s:0<d.length:=V;have⟨q,s1,hq⟩:=amY r d f;have y:=acA r d f;have t:uj r=.N:=by rcases x with rfl|rfl|⟨k,rfl⟩<;>rfl
  have g:q=.N\/q=.X\/∃k,q=.fr k:=by grind
  have⟨o,u,b2,z⟩:=XS v (d.take 128) (by simp_all) (S++[.M pq [] O]);rw[aem v iC d f]at u;have⟨o2,t2,A,E⟩:=u.take ag;have⟨j,aV,n1,n2⟩:=ih (d.drop 128) .N o2 (v.rL iC d) (ag++t2) (by grind) (.inl rfl) (.inr ⟨_,E⟩);refine⟨j,aV,n1, ?_⟩;have tn:d.take 128≠[]:=by grind [List.length_nil]
  have gq:∀T,(bH T (.sl q 1 (cJ (d.take 128)))).map ej=J (cV (d.take 128)):=λT=>by
   have w:ej (.sl .N 1 (cJ (d.take 128)))=cV (d.take 128):=by cases hh:d.take 128<;>rfl
   rcases g with rfl|rfl|⟨k,rfl⟩;·exact congrArg J w
   ·exact congrArg J (by cases hh:d.take 128<;>rfl)
   ·exact congrArg J w
  obtain⟨p,g1,g2⟩:∃p,(∀T,bH T (.sl q 1 (cJ (d.take 128)))=J p)/\ej p=cV (d.take 128):=by rcases g with rfl|rfl|⟨k,rfl⟩;all_goals simp_all[bH]
  have lm:∀T,bK T (.sl q 1 (cJ (d.take 128)))=T:=λT=>by rfl
  have um:∀T l,bk T l (.sl q 1 (cJ (d.take 128)))=l:=λT l=>by rfl
  obtain⟨m,I,P⟩:∃m,bH (S++[.M pq [] O]) h=J m/\ej m=.sl .N 1 (oB v.l):=by rcases i.I7 (S++[.M pq [] O])with e|e;all_goals grind [ajy]
  have lh:=i.lock;have uh:=i.yg;have kd:=wU;rw[t]at y;rw[aj,aN k_];generalize AV.sl q 1 (cJ (d.take 128))=MQ,AV.sl .N 1 (oB v.l)=DV,hT:S++[cZ.M pq [] O]=T,pq=c at*;try simp at n2
  simp[(by simp[fW]:fW (.sl r 1 (cJ d))=some (.I .i64 (d.length:Int))),s, -K,gJ,lA,s1,y,kd,g1,g2,lm,um,I,P,lh,uh,de,ct,z,A];rw[ab k_];trivial
def gJ(a b:Int):K .geq (.I Y a) (.I Y b)=J (.B (b_ (a≥b))):=rfl
def aay(S:Z)(h:Q)(v:W8)(c:HL h v)(i:Nat)(p:i<8):∀k(s:B)(e:Q)(ag:bV),k<=8->s.length+k<1000->mR e ag s->
 ∃d aV,mR d aV (s++D1 k (v.l.getD i 0).toNat)/\DC N X (.L xF) ⟨[(2,.P S.length 0),(9,h),(10,e),(11,.I Y (i:Nat)),(12,.I Y (8*(k:Int) -8))],ag,S.length⟩ (S++[.M pq [] O])=
  J (.E 8,⟨[(2,.P S.length 0),(9,h),(10,d),(11,.I Y (i:Nat))],aV,S.length⟩,S++[.M pq [] O]):=by
 have w:=c.ix i p;generalize v.l.getD i 0=x at*;have f:C x=.I U ((x.toNat:Nat):Int):=rfl;intro k;induction k with
 |zero=>
  intro s e ag q r g;refine⟨e,ag,by rw[D1,EI];exact g, ?_⟩;simp[aj,aN jk]
 |succ k t=>
  intro s e ag q r g;rw[(V:8*((k+1:Nat):Int) -8=((8*k:Nat):Int))];have o:(0:Int)<=((8*k:Nat):Int):=V;have⟨z,I,l,m⟩:=g.one (cq (x.toNat/256^k)) V (S++[.M pq [] O]);have⟨d,aV,P,y⟩:=t (s++[cq (x.toNat/256^k)]) z I V (by grind) m;refine⟨d,aV,by rw[Lp];simp_all, ?_⟩;have j:=aoF x.toNat k V;rw[<-f]at j;have n:=aAt (x.toNat/256^k);have E:K .sub (.I Y ((8*k:Nat):Int)) (.I Y 8)=J (.I Y (8*(k:Int) -8)):=by show J (AV.I Y (dr Y (((8*k:Nat):Int) -8)))=_;rw[cG V];congr 2
  generalize cq (x.toNat/256^k)=u,((8*k:Nat):Int)=A,8*(k:Int) -8=b,((x.toNat/256^k:Nat):Int)=a at*;rw[aj,aN jk];generalize S++[cZ.M pq [] O]=T at*;unfold C at*;try simp at y
  simp[o, -K, -nT,gJ,w,(rfl:aX T .C (.ff .N [C x] 0)=J (C x)),j,n,l,E];rw[ab jk];trivial
def aeo(S:Z)(h:Q)(v:W8)(a:HL h v):∀d i(c:Q)(ag:bV),i+d=8->mR c ag ((v.l.take i).flatMap λx=>D1 8 x.toNat)->
 ∃b aV,mR b aV v.tv/\DC N X (.L xG) ⟨[(2,.P S.length 0),(9,h),(10,c),(11,.I Y (i:Nat))],ag,S.length⟩ (S++[.M pq [] O])=
  J (.E 6,⟨[(10,b)],aV,S.length⟩,S++[.M pq [] O]):=by
 have⟨p,A,r,E,I,P,q,lA⟩:=PU S;have z:∀l:List UInt64,(l.flatMap λx=>D1 8 x.toNat).length=8*l.length:=by intro l;induction l<;>grind [AT]
 intro d;induction d with
 |zero=>
  intro i c ag n g;have e:i=8:=V;subst e;refine⟨c,ag,g, ?_⟩;simp_all[aj,lg]
 |succ d o=>
  intro i c ag n g;have f:=aQ (i:=i) V;have u:K .sub (.I Y 64) (.I Y 8)=J (.I Y 56):=rfl;have⟨t,w,j,k⟩:=aay S h v a i V 8 _ c ag V (by grind) g;have y:(v.l.take i).flatMap (λx=>D1 8 x.toNat)++D1 8 (v.l.getD i 0).toNat=(v.l.take (i+1)).flatMap λx=>D1 8 x.toNat:=by rw[vH,Ad (show i<v.l.length from by show i<8;omega)];simp
  rw[y]at j;have⟨b,aV,s,m⟩:=o (i+1) t w V j;refine⟨b,aV,s, ?_⟩;rw[(V:8*((8:Nat):Int) -8=56)]at k;rw[aj,aN lg];generalize S++[cZ.M pq [] O]=T at*;simp at m f;simp[(V:(i:Int)<8), -K,lJ,p,u];rw[ab jk];simp[k, -K,aJ];rw[ab lg];simp[f,m, -K]
def aep(b:B)(hb:b.length<100000000)(S:Z):∃r,G6 r (dV b)/\W N X 204 [.A pq,cV b] S=J (r,S):=by
 have kd:=wU;have kl:=JT;have⟨l0,l2,l16,l3,l6,l9,l12,lA⟩:=PU S;have l1:aX (S++[.M pq [] O]) .C (.P S.length 1)=J (.sl .N 1 (oB p5.l)):=by rw[ka];rfl
 have i:aX (S++[.M pq [] O]) .C (.P S.length 15)=J (.I Y 16):=by rw[ka];rfl
 have g:mR (.sl .X 1 []) [] []:=.inr (.inl rfl);obtain⟨z,P⟩:∃z,bZ (S++[.M pq [] O]) (cV b)=J (z,cJ b)/\(cJ b≠[]->z=1):=by
  cases b with
  |nil=>exact⟨1,rfl,λ_=>rfl⟩
  |cons a r=>exact⟨1,rfl,λ_=>rfl⟩
 have⟨o1,t1,p,a2⟩:=fF.QN g (xs:=cJ b) (x:=cV b) (S:=S++[.M pq [] O]) (by simp[cJ];omega) ⟨z,P⟩;have f:mR o1 t1 b:=by trivial
 have⟨o2,t2,j,s⟩:=f.one 128 V (S++[.M pq [] O]);have⟨o3,t3,u,v⟩:=aaw b V S ((239 -b.length %128)%128) 0 o2 t2 V s;have⟨o4,t4,m,n⟩:=XT (8*b.length) S 8 _ o3 t3 V (by grind) u;have E:b++128::fL ((239 -b.length %128)%128) 0++(fL 8 0++D1 8 (8*b.length))=b++fS b.length:=by simp[fS]
 rw[E]at m;obtain⟨d,hN⟩:∃d,(b++fS b.length).length=128*d:=⟨(b++fS b.length).length/128,by grind [aav]⟩;have ed:dV b=(PW d p5 (b++fS b.length)).tv:=by grind [dV]
 have hne:b++fS b.length≠[]:=by grind
 obtain⟨r,I,hr⟩:∃r,o4=.sl r 1 (cJ (b++fS b.length))/\(r=.N\/r=.X\/∃k,r=.fr k):=by rcases m with⟨h,_⟩|h|⟨k,h,_⟩;all_goals grind [tu]
 have⟨h5,t5,y,o⟩:=Va S d (b++fS b.length) r (.sl .N 1 (oB p5.l)) p5 t4 hN hr (.inl rfl);rw[<-I]at o;have⟨o6,t6,f1,f2⟩:=aeo S h5 _ y 8 0 .aw t5 V (.inl ⟨rfl,rfl⟩);have⟨q,t,q1,q2,q3,q4,q5⟩:=f1.fin;refine⟨q,by simp_all, ?_⟩;have l:fg 1 (fL 0 [AV.I L 0]) []=J []:=rfl;have e:(((128:UInt8).toNat:Nat):Int)=128:=rfl;rw[e]at j;have w8:dr U (b.length:Int)=(b.length:Int):=by show(b.length:Int)%2^64=_;omega
 have m8:K .mul (.I U (b.length:Int)) (.I U 8)=J (.I U ((8*b.length:Nat):Int)):=by
  show J (AV.I U (dr U ((b.length:Int)*8)))=_;have:dr U ((b.length:Int)*8)=((8*b.length:Nat):Int):=by show((b.length:Int)*8)%2^64=_;omega
  rw[this]
 have m2:K .mul (.I Y 2) (.I Y 64)=J (.I Y 128):=rfl;have s1:K .sub (.I Y 16) (.I Y 1)=J (.I Y 15):=rfl;have A:((8:Nat):Int)+7=15:=V;rw[A]at n;have w:((0:Nat):Int)=0:=rfl;rw[w]at f2;rw[j7 ax5];generalize((8*b.length:Nat):Int)=L8,hT:S++[cZ.M pq [] O]=T at*;have tk:T.take S.length=S:=by grind
 generalize AV.sl .N 1 (oB p5.l)=H0,pq=c at*;simp at l;simp[kl,kd,hT,l,p,j,l0,m2, -K];rw[ab k9];simp[v,w8,m8,i,s1, -K];rw[ab hJ];simp[n,l1, -K];rw[ab k_];simp[o, -K];rw[ab lg];simp_all
def ar6:fg 1 (fL 8 [AV.I U 0]) [(0,.I U 7640891576956012808),(1,.I U 13503953896175478587),(2,.I U 4354685564936845355),(3,.I U 11912009170470909681),(4,.I U 5840696475078001361),(5,.I U 11170449401992604703),(6,.I U 2270897969802886507),(7,.I U 6620516959819538809)]=J (oB p5.l):=by rfl
def ar7:fg 1 (fL 80 [AV.I U 0]) [(0,.I U 4794697086780616226),(1,.I U 8158064640168781261),(2,.I U 13096744586834688815),(3,.I U 16840607885511220156),(4,.I U 4131703408338449720),(5,.I U 6480981068601479193),(6,.I U 10538285296894168987),(7,.I U 12329834152419229976),(8,.I U 15566598209576043074),(9,.I U 1334009975649890238),(10,.I U 2608012711638119052),(11,.I U 6128411473006802146),(12,.I U 8268148722764581231),(13,.I U 9286055187155687089),(14,.I U 11230858885718282805),(15,.I U 13951009754708518548),(16,.I U 16472876342353939154),(17,.I U 17275323862435702243),(18,.I U 1135362057144423861),(19,.I U 2597628984639134821),(20,.I U 3308224258029322869),(21,.I U 5365058923640841347),(22,.I U 6679025012923562964),(23,.I U 8573033837759648693),(24,.I U 10970295158949994411),(25,.I U 12119686244451234320),(26,.I U 12683024718118986047),(27,.I U 13788192230050041572),(28,.I U 14330467153632333762),(29,.I U 15395433587784984357),(30,.I U 489312712824947311),(31,.I U 1452737877330783856),(32,.I U 2861767655752347644),(33,.I U 3322285676063803686),(34,.I U 5560940570517711597),(35,.I U 5996557281743188959),(36,.I U 7280758554555802590),(37,.I U 8532644243296465576),(38,.I U 9350256976987008742),(39,.I U 10552545826968843579),(40,.I U 11727347734174303076),(41,.I U 12113106623233404929),(42,.I U 14000437183269869457),(43,.I U 14369950271660146224),(44,.I U 15101387698204529176),(45,.I U 15463397548674623760),(46,.I U 17586052441742319658),(47,.I U 1182934255886127544),(48,.I U 1847814050463011016),(49,.I U 2177327727835720531),(50,.I U 2830643537854262169),(51,.I U 3796741975233480872),(52,.I U 4115178125766777443),(53,.I U 5681478168544905931),(54,.I U 6601373596472566643),(55,.I U 7507060721942968483),(56,.I U 8399075790359081724),(57,.I U 8693463985226723168),(58,.I U 9568029438360202098),(59,.I U 10144078919501101548),(60,.I U 10430055236837252648),(61,.I U 11840083180663258601),(62,.I U 13761210420658862357),(63,.I U 14299343276471374635),(64,.I U 14566680578165727644),(65,.I U 15097957966210449927),(66,.I U 16922976911328602910),(67,.I U 17689382322260857208),(68,.I U 500013540394364858),(69,.I U 748580250866718886),(70,.I U 1242879168328830382),(71,.I U 1977374033974150939),(72,.I U 2944078676154940804),(73,.I U 3659926193048069267),(74,.I U 4368137639120453308),(75,.I U 4836135668995329356),(76,.I U 5532061633213252278),(77,.I U 6448918945643986474),(78,.I U 6902733635092675308),(79,.I U 7801388544844847127)]=J (oB iC):=by kernel_rfl
def kdH(a b:jV):F:=[.I Y 64,.sl .X 1 a,.sl .X 1 b,.I Y 28,.I Y 34,.I Y 39,.I Y 14,.I Y 18,.I Y 41,.I Y 1,.I Y 8,.I Y 7,.I Y 19,.I Y 61,.I Y 6,.I Y 16,.I U 18446744073709551615]
def ar8(a b:jV):dj FX [(0,1,.I Y 64),(1,1,.sl .X 1 a),(2,1,.sl .X 1 b),(3,3,.A [.I Y 28,.I Y 34,.I Y 39]),(6,3,.A [.I Y 14,.I Y 18,.I Y 41]),(9,3,.A [.I Y 1,.I Y 8,.I Y 7]),(12,3,.A [.I Y 19,.I Y 61,.I Y 6]),(15,1,.I Y 16),(16,1,.I U 18446744073709551615)]=J (kdH a b):=by simp[dj,aM,aW,kdH]
def XU(S:Z):W N X 205 [] S=J (.A pq,S):=by
 have f:=ar6;have h:=ar7;have g:=ar8 (oB p5.l) (oB iC);have k:(kdH (oB p5.l) (oB iC)).length=17:=rfl;have p:(kdH (oB p5.l) (oB iC)).map aW=kdH (oB p5.l) (oB iC):=rfl;have q:=Lo p5.l;have r:=Lo iC;have l:dv (kdH (oB p5.l) (oB iC))=G:=by rfl
 have n:cd (.A (kdH (oB p5.l) (oB iC)))=.A pq:=rfl;have e:=Ax (S:=S) (T:=S) rfl l [.M FX [] O] 0 [] S.length 17;simp only[RQ,RS]at e;rw[if_pos ⟨k,by decide⟩,dT (by rfl)]at e;have m:aX (S++[.M (kdH (oB p5.l) (oB iC)) [] O]) (.A 17) (.P S.length 0)=J (.A (kdH (oB p5.l) (oB iC))):=by simp_all[fR]
 have j:=wU;have o:ds 205 [] [.A (kdH (oB p5.l) (oB iC))] S (S++[.M (kdH (oB p5.l) (oB iC)) [] O])=J (.A pq,S):=by simp[ux,n,cI,j]
 have i:∀a b c,dj [.I Y 0,.I Y 0,.I Y 0] [(0,1,.I Y a),(1,1,.I Y b),(2,1,.I Y c)]=J [.I Y a,.I Y b,.I Y c]:=λ_ _ _=>rfl;rw[V9 ax6];generalize oB p5.l=A,oB iC=d at*;generalize kdH A d=E at*;simp at f h g;simp[f,h,i,g,e,m,o]
def aaz(b:B):(dV b).length=64:=by unfold dV W8.tv;rw[Ns];rfl
def XV(b:B)(q:b.length<100000000)(S:Z):W N X 130 [cV b] S=J (.A (R (dV b)),S):=by
 have j:=aaz b;have u:bR.length=64:=rfl;have⟨r,p,i⟩:=aep b q (S++[.M bR [] O,.M bR [] O]);have⟨o,t,k,l⟩:=p.1.take [];have⟨z,A,n⟩:=fF.elems l (S++[.M bR [] O,.M bR [] O]);have g:=XU (S++[.M bR [] O,.M bR [] O]);generalize dV b=s at*;have y:=n (by grind [tu]);subst y;have v:=wU;have E:((cJ s).take 64).flatten=R s:=by simp_all[oh,Fv]
 have h:uw S.length (S++[.M bR [] O,.M bR [] O]) 1 (.cH (S.length+1) 0 64 64 1) o=J (.I Y 64,S++[.M bR [] O,.M (R s) [] O]):=by simp_all[uw,AW]
 have m:=aL s;have w:aX (S++[.M bR [] O,.M (R s) [] O]) (.A 64) (.P (S.length+1) 0)=J (.A (R s)):=by simp_all
 have e:=λd=>Ax (S:=S) rfl m.br [.M bR [] O,.M (R s) [] O] 0 d S.length 64;have f:aX (S++[.M (R s) [] O,.M (R s) [] O]) (.A 64) (.P S.length 0)=J (.A (R s)):=by simp_all
 have x:∀d a,ds 130 d [.A (R s)] S (S++a)=J (.A (R s),S):=λd a=>by simp
 simp only[RQ,RS]at e;simp only[(dT (by simp[j,u]):aM bR 0 (R s)=R s)]at e;have e:=λd=>(e d).trans (if_pos ⟨by simp[j],by decide⟩);rw[js azG];generalize pq=c at*;try simp at i
 try simp at h
 try simp at g
 simp[g,v,i,k,qI,h,w,e,f,x]
def aaE(b:B)(k:b.length<100000000)(S:Z):W N X 55 [cV b] S=J (.A (R (kN b)),S):=by
 have m:=λT=>XV b k T;have i:=λT=>UC (dV b) (Gm b) T;rw[show jx 32 (dN (dV b)%qN)=kN b from rfl]at i;have j:=Cx b;have h:df (R (dV b)):=aL _;have g:(R (kN b)).length=32:=by rfl
 have f:df (R (kN b)):=aL _;have l:aP.length=32:=rfl;generalize R (kN b)=d,R (dV b)=c,cV b=a at*;have n:(AV.A d).cells=d:=rfl;rw[js aEW];generalize o:aP=e at*;simp-implicitDefEqProofs [m,j.Ks,i,h,g,f,bG g f,l, -K, -AV.cells, -aU]
def Vn(x:B)(i:Nat):B:=x.take i++fL (32 -i) 0
theorem acG(x:B)(i:Nat)(a:32<=x.length)(h:i<=32):(Vn x i).length=32:=by simp[Vn];omega
def X5(x:B):Vn x 32=x.take 32:=by simp[Vn]
def acH(x:B)(i:Nat)(b:32<=x.length)(h:i<32):(Vn x i).set i (x.getD i 0)=Vn x (i+1):=by
 unfold Vn;have a:(x.take i).length=i:=by grind
 rw[vH,Ek V,show 32 -i=(32 -(i+1))+1 by omega,Rm,aa9 _ _ V,a,Nat.sub_self,RS,sD,Bw,Ek V];rfl
def aaF(h:B)(hs:h.length=64)(c:Q)(b0:cZ)(S:Z):∀n i:Nat,i+n=32->
 DC N X (.L tX) ⟨[(2,c),(3,.P S.length 0),(4,.P (S.length+1) 0),(7,.P (S.length+2) 0),(8,.P (S.length+3) 0),(9,.I Y (i:Int))],[],S.length⟩ (S++[b0,.M (R h) [] O,.M (R (Vn h i)) [] O,.M (R (Vn (h.drop 32) i)) [] O])=
  J (.E 0,⟨[(2,c),(3,.P S.length 0),(7,.P (S.length+2) 0),(8,.P (S.length+3) 0)],[],S.length⟩,S++[b0,.M (R h) [] O,.M (R (h.take 32)) [] O,.M (R (h.drop 32)) [] O]):=by
 intro n;induction n with
 |zero=>
  intro i q;have e:i=32:=V;subst e;simp[aj,aN fJ,X5,X5,show(h.drop 32).take 32=h.drop 32 from oh (by grind)]
 |succ n t=>
  intro i q;have k:i<32:=V;have o:=t (i+1) V;have p:K .add (.I Y 32) (.I Y (i:Int))=J (.I Y ((32+i:Nat):Int)):=arn 32 i V;have l:=QB (n:=64) (i:=S.length+1) (show i<64 by omega);have m:=QB (n:=64) (i:=S.length+1) (show 32+i<64 by omega);have r:=QB (n:=32) (i:=S.length+2) k;have s:=QB (n:=32) (i:=S.length+3) k;have u:∀d f g,aX (S++[d,.M (R h) [] O,f,g]) .C (.P (S.length+1) i)=J (bn (h.getD i 0)):=λd f g=>Vl (cl S _ 1) V;have v:∀d f g,aX (S++[d,.M (R h) [] O,f,g]) .C (.P (S.length+1) (32+i))=J (bn ((h.drop 32).getD i 0)):=λd f g=>by rw[Vl (cl S _ 1) V];simp
  have w:∀d f g,bd [] S.length (S++[d,f,.M (R (Vn h i)) [] O,g]) 1 (.P (S.length+2) i) (bn (h.getD i 0))=J ([],S++[d,f,.M (R (Vn h (i+1))) [] O,g]):=λd f g=>by rw[st8 (cl S _ 2) (by grind [acG]),acH _ _ V k];simp
  have x:∀d f g,bd [] S.length (S++[d,f,g,.M (R (Vn (h.drop 32) i)) [] O]) 1 (.P (S.length+3) i) (bn ((h.drop 32).getD i 0))=J ([],S++[d,f,g,.M (R (Vn (h.drop 32) (i+1))) [] O]):=λd f g=>by rw[st8 (cl S _ 3) (by grind [acG]),acH _ _ (by grind) k];simp
  generalize R (Vn h i)=y,R (Vn h (i+1))=z,R (Vn (h.drop 32) i)=A,R (Vn (h.drop 32) (i+1))=I,R (h.take 32)=a,R (h.drop 32)=b,R h=E,bn (h.getD i 0)=P,bn ((h.drop 32).getD i 0)=T,((32+i:Nat):Int)=j,32+i=jn at*;rw[aj,aN fJ];simp-implicitDefEqProofs [-K, -jG,du,(V:(i:Int)<32),p,l,m,r,s,u,v,w,x,eJ];rw[ab fJ];try simp at o
  simp-implicitDefEqProofs [-K,(aQ V:dr Y ((i:Int)+1)=((i+1:Nat):Int)),o]
def SO{S:Z}{l:List cZ}{k n:Nat}{b:B}{bt:bV}{q:Bool}(h:l[k]? =J (.M (R b) bt q))(a:b.length=n):bZ (S++l) (.cH (S.length+k) 0 n n 1)=J (1,cJ b):=by
 have:=Db (S:=S) (off:=0) (n:=n) (c:=n) h V
 grind
def Ud(j i m:B)(hk:j.length=32)(r:i.length=64)(hm:m.length<=1000000)(S:Z):W N X 19 [.A (R j),.A (R i),cV m] S=J (.B (ZH j i m),S):=by
 have lf:(i.take 32).length=32:=by simp[r]
 have ls:(i.drop 32).length=32:=by simp[r]
 have d:=aaF i r (cV m) (.M (R j) [] O) S 32 0 rfl;have z0:∀x:B,R (Vn x 0)=aP:=λx=>by rfl
 rw[z0,z0]at d;have dc:=λT=>JJ j hk T;have tq:=λt=>ai4 t (pL j).1 (pL j).2;have fb:=λT=>Xv (i.drop 32) ls T;have q:(R j).length=32:=by simp[hk]
 have n:df (R j):=aL _;have ZI:=bG q n;have z:(R i).length=64:=by simp[r]
 have w:df (R i):=aL _;have hl3:(R (i.take 32)).length=32:=by simp[r]
 have hd3:df (R (i.take 32)):=aL _;have pk3:=bG hl3 hd3;have hl4:(R (i.drop 32)).length=32:=by simp[r]
 have y:df (R (i.drop 32)):=aL _;have v:=bG hl4 y;have hz:aP.length=32:=rfl;have P:fN.length=24:=rfl;have sp:aM fN 0 (pL j).1.cs=(pL j).1.cs:=dT bW;have dm:=Cx m;unfold ZH;rw[LR aEC];try simp only[aaC]
 cases I:(pL j).2 with
 |false=>
  rw[I]at dc tq;generalize(pL j).1=p,R (i.take 32)=EF,R (i.drop 32)=EG,R j=s,R i=u,cV m=f at*;have c1:(AV.A s).cells=s:=rfl;have c2:(AV.A u).cells=u:=rfl;generalize aP=h,fN=g at*;simp-implicitDefEqProofs [q,n,z,w, -K, -AV.cells, -aU];rw[ab fJ];try simp at d
  simp-implicitDefEqProofs [d,ZI,P,dc,tq,bB,sp,bU,n, -K, -AV.cells, -aU]
 |true=>
  rw[I]at dc tq;have⟨e,_,_,ok⟩:=abe I;by_cases hb:dN (i.drop 32)<qN
  ·rw[decide_eq_true hb]at fb⊢
   have hex:mR (.sl .X 1 []) [] []:=.inr (.inl rfl);have e1:∀A a b c,bZ (S++[A,a,.M (R (i.take 32)) [] O,b,c,.M aP [] O]) (.cH (S.length+2) 0 32 32 1)=J (1,cJ (i.take 32)):=λA a b c=>SO (l:=[A,a,.M (R (i.take 32)) [] O,b,c,.M aP [] O]) (k:=2) rfl lf;have e2:∀A a b c E,bZ (S++[.M (R j) [] O,A,a,b,c,E]) (.cH S.length 0 32 32 1)=J (1,cJ j):=λA a b c E=>SO (l:=[.M (R j) [] O,A,a,b,c,E]) (k:=0) rfl hk;have⟨o1,t1,a1,a2⟩:=fF.QN hex (xs:=cJ (i.take 32)) (x:=.cH (S.length+2) 0 32 32 1) (S:=S++[.M (R j) [] O,.M (R i) [] O,.M (R (i.take 32)) [] O,.M (R (i.drop 32)) [] O,.M (pL j).1.cs [] O,.M aP [] O]) (by simp[r]) ⟨1,e1 _ _ _ _,λ_=>rfl⟩;have a2':mR o1 t1 (i.take 32):=by trivial
   have⟨o2,t2,b1,b2⟩:=fF.QN a2' (xs:=cJ j) (x:=.cH S.length 0 32 32 1) (S:=S++[.M (R j) [] O,.M (R i) [] O,.M (R (i.take 32)) [] O,.M (R (i.drop 32)) [] O,.M (pL j).1.cs [] O,.M aP [] O]) (by simp[r,hk]) ⟨1,e2 _ _ _ _ _,λ_=>rfl⟩;have b2':mR o2 t2 (i.take 32++j):=by simpa[mR,cJ]using b2
   have⟨o3,t3,d1,d2⟩:=fF.QN b2' (xs:=cJ m) (x:=cV m) (S:=S++[.M (R j) [] O,.M (R i) [] O,.M (R (i.take 32)) [] O,.M (R (i.drop 32)) [] O,.M (pL j).1.cs [] O,.M aP [] O]) (by simp[r,hk];omega) (P0 m _);have o:mR o3 t3 (i.take 32++(j++m)):=by grind [mR,cJ]
   have g1:=fF.I7 o;have g2:ej (aW o3)=cV (i.take 32++(j++m)):=fF.ej o;have g3:=fF.lock o;have g4:=fF.yg o;have ha:=λT=>aaE (i.take 32++(j++m)) (by grind) T;have hkl:=GS (i.take 32++(j++m));have fB:=aar;have fD:=UW;have m1:=λT=>SA tJ TQ (i.drop 32) ls T;have fn:=λT=>adx (pL j).1 ok T;have nok:(pL j).1.neg.ok:=⟨jg _ fV,ok.2.1,ok.2.2⟩;have m2:=λT=>SA (pL j).1.neg nok (kN (i.take 32++(j++m))) hkl T;have fA:=λT=>Lc (P3.mul (i.drop 32) 256 0 tJ j8) (P3.mul (kN (i.take 32++(j++m))) 256 0 (pL j).1.neg j8) wK (P3.TR _ _ _ _ _ TQ Na) (P3.TR _ _ _ _ _ nok Na) UX T;rw[show(P3.mul (i.drop 32) 256 0 tJ j8).add (P3.mul (kN (i.take 32++(j++m))) 256 0 (pL j).1.neg j8) wK=HZ j (kN (i.take 32++(j++m))) (i.drop 32)from rfl]at fA;have fy:=λT=>XG (HZ j (kN (i.take 32++(j++m))) (i.drop 32)) (P3.H3 _ _ _) T;have eq:=alx (HZ j (kN (i.take 32++(j++m))) (i.drop 32)).bytes (i.take 32) (X0 _ _ _) lf O;have hl5:(R (kN (i.take 32++(j++m)))).length=32:=by rfl
   have hd5:df (R (kN (i.take 32++(j++m)))):=aL _;have pk5:=bG hl5 hd5;clear a2 b2 d2 e1 e2 hex a2' b2' o hkl nok ok;generalize b_ ((HZ j (kN (i.take 32++(j++m))) (i.drop 32)).bytes=i.take 32)=ans,R (HZ j (kN (i.take 32++(j++m))) (i.drop 32)).bytes=EV,HZ j (kN (i.take 32++(j++m))) (i.drop 32)=PV,P3.mul (kN (i.take 32++(j++m))) 256 0 (pL j).1.neg j8=PB,P3.mul (i.drop 32) 256 0 tJ j8=PA,R (kN (i.take 32++(j++m)))=EH,cV (i.take 32++(j++m))=BM,(pL j).1.neg=pn,(pL j).1=p,tJ=b6,wK=d6,R (i.take 32)=EF,R (i.drop 32)=EG,R j=s,R i=u,cV m=f at*;have c1:(AV.A s).cells=s:=rfl;have c2:(AV.A u).cells=u:=rfl;have c5:(AV.A EH).cells=EH:=rfl;have bo:fg 1 (fL 0 [AV.I L 0]) []=J []:=rfl;try simp at bo
   generalize aP=h,fN=g at*;simp-implicitDefEqProofs [q,n,z,w, -K, -AV.cells, -aU];rw[ab fJ];try simp at d
   try simp at a1
   try simp at b1
   try simp at d1
   simp-implicitDefEqProofs [d,ZI,pk3,y,v,hz,P,dc,tq,bB,sp,bU,n,fb,qI,bo,a1,b1,d1,g1,g2,g3,g4,de,ct,ha,hl5,hd5,pk5,fB,fD,m1,fn,m2,fA,fy,eq,(aL _:df (R (HZ j (kN (i.take 32++(j++m))) (i.drop 32)).bytes)), -K, -AV.cells, -aU]
  ·rw[decide_eq_false hb]at fb⊢
   generalize(pL j).1=p,R (i.take 32)=EF,R (i.drop 32)=EG,R j=s,R i=u,cV m=f at*;have c1:(AV.A s).cells=s:=rfl;have c2:(AV.A u).cells=u:=rfl;generalize aP=h,fN=g at*;simp-implicitDefEqProofs [q,n,z,w, -K, -AV.cells, -aU];rw[ab fJ];try simp at d
   simp-implicitDefEqProofs [d,ZI,y,v,P,dc,tq,bB,sp,bU,n,fb, -K, -AV.cells, -aU]
def JW(s m:B):B:=kN (oU s++m)
def sc(s m:B):B:=sF (JW s m)
def aaD(s m:B):B:=kN (sc s m++(sF (iL s)++m))
def MR(s m:B):B:=jx 32 ((dN (aaD s m)*dN (iL s)+dN (JW s m))%qN)
def QA(s m:B):B:=sc s m++MR s m
def Xa(s m:B):(QA s m).length=64:=by simp[QA,sc,MR,GD]
def aer:bR=R (fL 32 0)++(R (fL 32 0)++[]):=rfl
def acF{S:Z}{l:List cZ}{k k' off c a:Nat}{cs:F}{b:B}{bt:bV}{q:Bool}(h:l[k]? =J (.M cs [] O))(d:l[k']? =J (.M (R b) bt q))(f:b.length=32)(g:off+32<=cs.length):
 uw S.length (S++l) 1 (.cH (S.length+k) off 32 c 1) (.cH (S.length+k') 0 32 a 1)=J (.I Y 32,S++l.set k (.M (aM cs off (R b)) [] O)):=by
 have e:=Db (S:=S) (off:=0) (n:=32) (c:=a) d V
 grind [uw,AW,yW,Fv]
def aGn(i:Nat):qI 64 1 (.P i 0) M (J (.I Y 32))=J (.cH i 0 32 64 1):=rfl
def aGo(i:Nat):qI 64 1 (.P i 0) (J (.I Y 32)) M=J (.cH i 32 32 32 1):=rfl
def aGp(i:Nat):qI 32 1 (.P i 0) M M=J (.cH i 0 32 32 1):=rfl
def W_(s:bh)(hs:s.length=32)(l:List (Q × bh))(S:Z)(hv:∀p∈l,HJ S p)(hl:l.length<900)(hlen:(cj l).length<=900000):
 W N X 14 [.A (R s),po l] S=J (.A (R (QA s (cj l))),S):=by
 have sp:=λS=>JV s hs S;have tk:=λt=>aoI t (iL s) (oU s);have pu:=λS=>Hz s hs S;have fb:=TM;have lN:=GR s;have lS:=SN s;have lK:=GD (iL s);have lR:(JW s (cj l)).length=32:=GS _;have r:(sc s (cj l)).length=32:=GD _;have lH:(aaD s (cj l)).length=32:=GS _;have lZ:(MR s (cj l)).length=32:=th _ _;have fm:=λS=>Ay Pt.base (JW s (cj l)) lR S;have fy:=λS=>OD (Pt.base.Io (JW s (cj l)) 64 Pt.none) S;rw[R6 lR,show sF (JW s (cj l))=sc s (cj l)from rfl]at fy;have h1:=Gn (.jf (S.length+3)) .N (.inr ⟨_,rfl⟩) (.inl rfl) (oU s) [] l (S++[.M (R s) [] O,.M bR [] O,.M (R (iL s)) [] O,.M (R (oU s)) [] G,.M (R (sF (iL s))) [] O]) (λp hp=>(hv p hp).more _) hl (by grind);rw[As,show kN (oU s++cj l)=JW s (cj l)from rfl]at h1;have h2:=Gn (.jf (S.length+6)) (.jf (S.length+4)) (.inr ⟨_,rfl⟩) (.inr ⟨_,rfl⟩) (sc s (cj l)) (sF (iL s)) l (S++[.M (R s) [] O,.M bR [] O,.M (R (iL s)) [] O,.M (R (oU s)) [] O,.M (R (sF (iL s))) [] G,.M (R (JW s (cj l))) [] O,.M (R (sc s (cj l))) [] G,.M aP [] O]) (λp hp=>(hv p hp).more _) hl V;rw[show kN (sc s (cj l)++(sF (iL s)++cj l))=aaD s (cj l)from rfl]at h2;have ma:=λT=>Pg (aaD s (cj l)) (iL s) (JW s (cj l)) lH lN lR T;rw[show jx 32 ((dN (aaD s (cj l))*dN (iL s)+dN (JW s (cj l)))%qN)=MR s (cj l)from rfl]at ma;have y:(R s).length=32:=by simp[hs]
 have u:df (R s):=aL _;have ZI:=bG y u;have z:(R (iL s)).length=32:=by simp[lN]
 have v:df (R (iL s)):=aL _;have pk2:=bG z v;have hl3:(R (oU s)).length=32:=by simp[lS]
 have hd3:df (R (oU s)):=aL _;have hl4:(R (sF (iL s))).length=32:=by simp[lK]
 have hd4:df (R (sF (iL s))):=aL _;have I:(R (JW s (cj l))).length=32:=by rfl
 have w:df (R (JW s (cj l))):=aL _;have pk5:=bG I w;have hl6:(R (sc s (cj l))).length=32:=by simp[r]
 have hd6:df (R (sc s (cj l))):=aL _;have hd7:df (R (aaD s (cj l))):=aL _;have hl8:(R (MR s (cj l))).length=32:=by rfl
 have hd8:df (R (MR s (cj l))):=aL _;have P:(R (QA s (cj l))).length=64:=by simp[Xa]
 have x:df (R (QA s (cj l))):=aL _;have pk9:=bG P x;have hz:aP.length=32:=rfl;have hz2:bR.length=64:=rfl;have gaS:∀A B C a,bH (S++[A,B,C,.M (R (oU s)) [] O,a]) (.cH (S.length+3) 0 32 32 1)=J (.sl (.jf (S.length+3)) 1 (cJ (oU s))):=λA B C a=>Jx (l:=[A,B,C,.M (R (oU s)) [] O,a]) (k:=3) rfl lS;have h_:∀A B C a,bK (S++[A,B,C,.M (R (oU s)) [] O,a]) (.cH (S.length+3) 0 32 32 1)=S++[A,B,C,.M (R (oU s)) [] G,a]:=λA B C a=>HF (l:=[A,B,C,.M (R (oU s)) [] O,a]) (k:=3) rfl;have ulS:∀A B C a i B' j m,bk (S++[A,B,C,.M (R (oU s)) [] O,a]) (S++[i,B',j,.M (R (oU s)) [] G,m]) (.cH (S.length+3) 0 32 32 1)=S++[i,B',j,.M (R (oU s)) [] O,m]:=λA B C a i B' j m=>HG (l:=[A,B,C,.M (R (oU s)) [] O,a]) (l':=[i,B',j,.M (R (oU s)) [] G,m]) (k:=3) rfl rfl;have gaF:∀A B C a E b c,bH (S++[A,B,C,a,E,b,.M (R (sc s (cj l))) [] O,c]) (.cH (S.length+6) 0 32 32 1)=J (.sl (.jf (S.length+6)) 1 (cJ (sc s (cj l)))):=λA B C a E b c=>Jx (l:=[A,B,C,a,E,b,.M (R (sc s (cj l))) [] O,c]) (k:=6) rfl r;have gaK:∀A B C a b c d,bH (S++[A,B,C,a,.M (R (sF (iL s))) [] O,b,c,d]) (.cH (S.length+4) 0 32 32 1)=J (.sl (.jf (S.length+4)) 1 (cJ (sF (iL s)))):=λA B C a b c d=>Jx (l:=[A,B,C,a,.M (R (sF (iL s))) [] O,b,c,d]) (k:=4) rfl lK;have lkF:∀A B C a E b c,bK (S++[A,B,C,a,E,b,.M (R (sc s (cj l))) [] O,c]) (.cH (S.length+6) 0 32 32 1)=S++[A,B,C,a,E,b,.M (R (sc s (cj l))) [] G,c]:=λA B C a E b c=>HF (l:=[A,B,C,a,E,b,.M (R (sc s (cj l))) [] O,c]) (k:=6) rfl;have lkK:∀A B C a b c d,bK (S++[A,B,C,a,.M (R (sF (iL s))) [] O,b,c,d]) (.cH (S.length+4) 0 32 32 1)=S++[A,B,C,a,.M (R (sF (iL s))) [] G,b,c,d]:=λA B C a b c d=>HF (l:=[A,B,C,a,.M (R (sF (iL s))) [] O,b,c,d]) (k:=4) rfl;have ulF:∀A B C a E b c i B' j m E' n o,bk (S++[A,B,C,a,E,b,.M (R (sc s (cj l))) [] O,c]) (S++[i,B',j,m,E',n,.M (R (sc s (cj l))) [] G,o]) (.cH (S.length+6) 0 32 32 1)=S++[i,B',j,m,E',n,.M (R (sc s (cj l))) [] O,o]:=λA B C a E b c i B' j m E' n o=>HG (l:=[A,B,C,a,E,b,.M (R (sc s (cj l))) [] O,c]) (l':=[i,B',j,m,E',n,.M (R (sc s (cj l))) [] G,o]) (k:=6) rfl rfl;have ulK:∀A B C a b c d i B' j m n o H',bk (S++[A,B,C,a,.M (R (sF (iL s))) [] O,b,c,d]) (S++[i,B',j,m,.M (R (sF (iL s))) [] G,n,o,H']) (.cH (S.length+4) 0 32 32 1)=S++[i,B',j,m,.M (R (sF (iL s))) [] O,n,o,H']:=λA B C a b c d i B' j m n o H'=>HG (l:=[A,B,C,a,.M (R (sF (iL s))) [] O,b,c,d]) (l':=[i,B',j,m,.M (R (sF (iL s))) [] G,n,o,H']) (k:=4) rfl rfl;have k1:aM bR 0 (R (sc s (cj l)))=R (sc s (cj l))++(R (fL 32 0)++[]):=by rw[aer];have:=xe (A:=[]) (B:=R (fL 32 0)) (C:=R (fL 32 0)++[]) (off:=0) (B':=R (sc s (cj l))) rfl (by simp[r]);simp_all
 have k2:aM (R (sc s (cj l))++(R (fL 32 0)++[])) 32 (R (MR s (cj l)))=R (QA s (cj l)):=by have:=xe (A:=R (sc s (cj l))) (B:=R (fL 32 0)) (C:=[]) (off:=32) (B':=R (MR s (cj l))) (by simp[r]) (by simp[lZ]);simp_all[QA,R]
 have q:∀A B C a E b c d,uw S.length (S++[A,B,C,a,E,b,.M (R (sc s (cj l))) [] O,c,.M bR [] O]) 1 (.cH (S.length+8) 0 32 64 1) (.cH (S.length+6) 0 32 32 1)=J (.I Y 32,S++[A,B,C,a,E,b,.M (R (sc s (cj l))) [] O,c,.M (R (sc s (cj l))++(R (fL 32 0)++[])) [] O]):=λA B C a E b c(d:Nat)=>by rw[<-k1];exact acF (l:=[A,B,C,a,E,b,.M (R (sc s (cj l))) [] O,c,.M bR [] O]) (k:=8) (k':=6) rfl rfl r V
 have q:=λA B C a E b c=>q A B C a E b c 0;have cp2:∀A B C a E b c,uw S.length (S++[A,B,C,a,E,b,c,.M (R (MR s (cj l))) [] O,.M (R (sc s (cj l))++(R (fL 32 0)++[])) [] O]) 1 (.cH (S.length+8) 32 32 32 1) (.cH (S.length+7) 0 32 32 1)=J (.I Y 32,S++[A,B,C,a,E,b,c,.M (R (MR s (cj l))) [] O,.M (R (QA s (cj l))) [] O]):=λA B C a E b c=>by rw[<-k2];exact acF (l:=[A,B,C,a,E,b,c,.M (R (MR s (cj l))) [] O,.M (R (sc s (cj l))++(R (fL 32 0)++[])) [] O]) (k:=8) (k':=7) rfl rfl lZ (by simp[r])
 have rn:=X1 l;have rg:=λT=>X2 T l;have rl:=λT=>X3 T l;have ru:=λT T'=>X4 T T' l;have nn:ej .aw=.sl .N 1 (cJ []):=rfl;have ng:∀T,bH T .aw=J .aw:=λ_=>rfl;have nl:∀T,bK T .aw=T:=λ_=>rfl;have nu:∀T T',bk T T' .aw=T':=λ_ _=>rfl;clear k1 k2;generalize R (sc s (cj l))++(R (fL 32 0)++[])=EQ at*;generalize R (QA s (cj l))=EB at*;generalize R (MR s (cj l))=EZ at*;generalize R (aaD s (cj l))=EH at*;generalize R (sc s (cj l))=EF at*;generalize R (JW s (cj l))=ER at*;generalize Pt.base.Io (JW s (cj l)) 64 Pt.none=f at*;generalize Pt.base=B at*;generalize R (sF (iL s))=EK at*;generalize R (iL s)=EN at*;generalize R (oU s)=ES at*;generalize R s=E at*;generalize cJ (sc s (cj l))=BF at*;generalize cJ (sF (iL s))=BK at*;generalize cJ (oU s)=BS at*;generalize cJ []=B0 at*;generalize po l=e at*;have c1:(AV.A E).cells=E:=rfl;have c2:(AV.A EN).cells=EN:=rfl;have c3:(AV.A ES).cells=ES:=rfl;have c4:(AV.A EK).cells=EK:=rfl;have c5:(AV.A ER).cells=ER:=rfl;have c6:(AV.A EF).cells=EF:=rfl;have c8:(AV.A EZ).cells=EZ:=rfl;have c9:(AV.A EB).cells=EB:=rfl;rw[j7 aEA];try simp only[aaC]
 generalize hZ:aP=h,hY:bR=g at*;try simp at h1
 try simp at h2
 simp-implicitDefEqProofs [sp,tk,bB,pu,fb,fm,fy,y,u,ZI,z,v,pk2,hl3,hd3,hl4,hd4,I,w,pk5,hl6,hd6,hd7,hl8,hd8,P,x,pk9,hz,hz2,aGn,aGo,aGp,gaS,h_,ulS,gaF,gaK,lkF,lkK,ulF,ulK,sj,nn,ng,nl,nu,rn,rg,rl,ru,de,ct,h1,h2,ma,q,cp2, -K, -AV.cells, -aU]
end Go.Proofs.YtiaklhkdbokkhaaGreat.am
