/- Parts. No condition. -/
import Derived.Test.YtiaklhkdbokkhaaGreatQI
set_option linter.all false
namespace Go.Proofs.YtiaklhkdbokkhaaGreat.am
open Go
open Option renaming some->J,none->M
open Bool renaming false->O,true->G,and_eq_true->mr
open Go.IntKind renaming i64->Y,wrap->dt,u64->U,u32->bM,u8->L
open UInt8 renaming ofNat->cq,toNat_ofNat'->rU
open Decidable renaming decide->b_
open List renaming drop_eq_nil_of_le->jX,replicate->fK,take_of_length_le->og,append_assoc->sC
open Nat renaming mod_eq_of_lt->iX,le_refl->gL,div_div_eq_div_mul->sF,mod_lt->jf
open BitVec renaming ofInt->gK
open Go.Proofs.YtiaklhkdbokkhaaGreat.am renaming om->V,St->Z,ai->R,nk->X,AV->Q,bh->B,DF->W,bD->F,au->K
section
section
variable{S:Z}{j d:Nat}(z:cZ)
def PG(v:bu)(hl:v.gu.length<=12)(NH:v.aq.length=v.gu.length)(hg:Mw [] v.gu=G)(k:∀n∈v.gu,0<=n/\n<18446744073709551616)(hd:d<1000)
 (hF:∀x∈v.aq,∀(S:Z)(r:Rd)(u:B),S[j]? =J (fS j r)->rI r (x.bytes++u)->W ax X 179 [.P j 0,.I Y (d:Int)] S=J (.A x.ao,S.set j (fS j (r.go x.bytes.length)))):
 ∀e i(r:Rd)(u:B)(ae:bV),i+e=v.gu.length->S[j]? =J (fS j r)->∀c:Rd,rI c (bu.mN (v.gu.drop i) (v.aq.drop i)++u)->
 ∃aV,DC ax X (.L uX) ⟨[(0,.P j 0),(1,.I Y ((d:Int)+1)),(4,.P S.length 0),(5,.P (S.length+1) 0),(51,.I Y (v.gu.length:Int)),(52,.I Y (i:Int))],ae,S.length⟩ (iY S j c z (vbI (S.length+1) (v.gu.take i) (v.aq.take i)))=
  J (.E 1,⟨[(0,.P j 0),(4,.P S.length 0),(5,.P (S.length+1) 0)],aV,S.length⟩,iY S j (c.go (bu.mN (v.gu.drop i) (v.aq.drop i)).length) z (vbI (S.length+1) v.gu v.aq)):=by
 intro e;induction e with
 |zero=>
  intro i r u ae hi g c p;refine⟨ae, ?_⟩;have w:¬i<v.gu.length:=V;have e1:v.gu.drop i=[]:=jX V;have e2:v.gu.take i=v.gu:=og V;have e3:v.aq.take i=v.aq:=og V;simp[aj,aN eB,e1,e2,e3,w,bu.mN,Rd.go]
 |succ e ih=>
  intro i r u ae hi g c p;have h3:i<v.gu.length:=V;have⟨a,A,ha'⟩:=aT (l:=v.gu) (i:=i) h3;have⟨y,T,hy'⟩:=aT (l:=v.aq) (i:=i) V;have hw:=aQ (i:=i) V;have h:dt Y ((d:Int)+1 -1)=(d:Int):=by rw[cG V];omega
  have tN:v.gu.take (i+1)=v.gu.take i++[a]:=by rw[vG,A];rfl
  have tP:v.aq.take (i+1)=v.aq.take i++[y]:=by rw[vG,T];rfl
  have lN:(v.gu.take i).length=i:=by grind
  have lP:(v.aq.take i).length=i:=by grind
  rw[bf A,bf T,bu.mN]at p⊢;rw[sC,sC]at p;have R1:=p.go;have R2:=R1.go;have har:=k a (gR A);have ea:((a.toNat:Nat):Int)=a:=V;have E:Mw [] (v.gu.take i++[a])=G:=by grind [Rd.ab1,List.take_append_drop]
  have hm:(iY S j (c.go (cF a.toNat).length) z (vbI (S.length+1) (v.gu.take i) (v.aq.take i)))[S.length+1]? =J (.M [.I Y 6,.I Y 0,.S [],.aw,bL (S.length+1) 0 1 (Ld (v.gu.take i)),bL (S.length+1) 1 6 (zg (v.aq.take i))] (iE i i) O):=by rw[pW];unfold vbI;grind
  have c1:=oq (su g c z (vbI (S.length+1) (v.gu.take i) (v.aq.take i))) V p;rw[vy g,ea]at c1;have⟨v1,t1,S1,t2,a1,s⟩:=aAc (sz:=1) (es:=Ld (v.gu.take i)) (x:=[.I U a]) (n:=i) (o:=4) ae hm (by simp;omega) V bW (by rw[<-acp];exact SB _);rw[qP,<-acp]at s;have b1:cZ.M (aM [.I Y 6,.I Y 0,.S [],.aw,bL (S.length+1) 0 1 (Ld (v.gu.take i)),bL (S.length+1) 1 6 (zg (v.aq.take i))] 4 [bL (S.length+1) 0 1 (Ld (v.gu.take i++[a]))]) (iE (i+1) i) O=
   .M [.I Y 6,.I Y 0,.S [],.aw,bL (S.length+1) 0 1 (Ld (v.gu.take i++[a])),bL (S.length+1) 1 6 (zg (v.aq.take i))] (iE (i+1) i) O:=rfl
  rw[b1]at s;have t:=Gd (v.gu.take i++[a]) (by grind) (iY S j (c.go (cF a.toNat).length) z (.M [.I Y 6,.I Y 0,.S [],.aw,bL (S.length+1) 0 1 (Ld (v.gu.take i++[a])),bL (S.length+1) 1 6 (zg (v.aq.take i))] (iE (i+1) i) O));have m:(v.gu.take i++[a]).length<=12:=by grind
  rw[E,decide_eq_true m]at t;have c3:=hF y (gR T) _ _ _ (su g (c.go (cF a.toNat).length) z (.M [.I Y 6,.I Y 0,.S [],.aw,bL (S.length+1) 0 1 (Ld (v.gu.take i++[a])),bL (S.length+1) 1 6 (zg (v.aq.take i))] (iE (i+1) i) O)) R1;rw[vy g]at c3;have I:=pW S j ((c.go (cF a.toNat).length).go y.bytes.length) z (.M [.I Y 6,.I Y 0,.S [],.aw,bL (S.length+1) 0 1 (Ld (v.gu.take i++[a])),bL (S.length+1) 1 6 (zg (v.aq.take i))] (iE (i+1) i) O);have⟨v3,t3,S3,t4,d1,q⟩:=arV (sz:=6) (es:=zg (v.aq.take i)) (x:=y.ao) (n:=i) (o:=5) t2 I (by simp;omega) V bW (by rw[<-No];exact GO _);rw[qP,<-No]at q;have b2:cZ.M (aM [.I Y 6,.I Y 0,.S [],.aw,bL (S.length+1) 0 1 (Ld (v.gu.take i++[a])),bL (S.length+1) 1 6 (zg (v.aq.take i))] 5 [bL (S.length+1) 1 6 (zg (v.aq.take i++[y]))]) (iE (i+1) (i+1)) O=
   vbI (S.length+1) (v.gu.take (i+1)) (v.aq.take (i+1)):=by
   simp_all[vbI,aM]
  rw[b2]at q;have es:(c.go (cF a.toNat).length).go y.bytes.length=c.go ((cF a.toNat).length+y.bytes.length):=bW;have⟨aV,P⟩:=ih (i+1) r u t4 V g _ R2;refine⟨aV, ?_⟩;rw[(by simp[Rd.go,Dh]:(((c.go (cF a.toNat).length).go y.bytes.length).go (bu.mN (v.gu.drop (i+1)) (v.aq.drop (i+1))).length)=c.go (cF a.toNat++(y.bytes++bu.mN (v.gu.drop (i+1)) (v.aq.drop (i+1)))).length)]at P;have l0:aX (iY S j c z (vbI (S.length+1) (v.gu.take i) (v.aq.take i))) .C (.P (S.length+1) 0)=J (.I Y 6):=nX ..;have l3:∀f,aX (iY S j f z (vbI (S.length+1) (v.gu.take i) (v.aq.take i))) .C (.P (S.length+1) 4)=J (bL (S.length+1) 0 1 (Ld (v.gu.take i))):=λf=>nX ..;have nn:mo 1 (Ld (v.gu.take i++[a]))=mP (v.gu.take i++[a]):=rfl;have bo:=PF y;have fb:=arW a;simp only[es]at d1 q;rw[aj,aN eB];simp at P hw h t bo;simp[h3,l0,l3,c1,fb,a1,s,(λf b=>nX .. :∀f b,aX (iY S j f z (.M [.I Y 6,.I Y 0,.S [],.aw,bL (S.length+1) 0 1 b,bL (S.length+1) 1 6 (zg (v.aq.take i))] (iE (i+1) i) O)) .C (.P (S.length+1) 4)=J (bL (S.length+1) 0 1 b)),U1,U2,U3,Le,nn,t,bU,(λf b=>nX .. :∀f b,aX (iY S j f z (.M [.I Y 6,.I Y 0,.S [],.aw,bL (S.length+1) 0 1 b,bL (S.length+1) 1 6 (zg (v.aq.take i))] (iE (i+1) i) O)) .C (.P (S.length+1) 5)=J (bL (S.length+1) 1 6 (zg (v.aq.take i)))),h,c3,bo,d1,q];rw[ab eB];simp[hw,P]
end
def zs(k n:Int)(s:B)(a b c:Q)(f:List B)(e:List Int)(ps:List bu)(g:dF a=dI f)(h:dF b=mP e)(i:dF c=ph ps):
 cd (.A [.I Y k,.I Y n,.S s,a,b,c])=.A (bu.mk k n s f e ps).ao:=by
 rw[bu.jI];show AV.A [_,_,_,dF a,dF b,dF c]=_;rw[g,h,i];rfl
def Lf(a:List B):dF (eU 1 (sJ a))=dI a:=rR 1 _
def aec(a:List Int):dF (eU 1 (Ld a))=mP a:=rR 1 _
def SC(a:List bu):dF (eU 6 (zg a))=ph a:=rR 6 _
def Io(k n:Int)(s:B):cZ:=.M [.I Y k,.I Y n,.S s,.aw,.aw,.aw] [] O
theorem fQ{n:Nat}(cs:F)(h:cs.length=n):dx (.A n) cs 0=J (.A (cs.map aW)):=by grind [dx,sub]
def aji:∀(d:Nat)(v:bu),v.Wf->v.bw d=G->d<1000->∀(S:Z)(j:Nat)(r:Rd)(u:B),S[j]? =J (fS j r)->rI r (v.bytes++u)->
 W ax X 179 [.P j 0,.I Y (d:Int)] S=J (.A v.ao,S.set j (fS j (r.go v.bytes.length))):=by
 intro d;induction d with
 |zero=>nofun
 |succ d ih=>
  intro v hv h hd S j r u hS hr;have a:=bu.ia h;have hj:j<S.length:=(lQ.1 hS).1;have lb:=v.oI;rw[lb]at hr;have R1:=hr.go1;have hS1:∀b,(S++[b])[j]? =J (fS j r):=λb=>dH _ hS;have I:=Jd (hS1 (.M ah [] O)) hr;rw[ig _ hj]at I;have hk:((cq v.ak.toNat).toNat:Int)=v.ak:=by have:=a.ak;rw[rU];omega
  rw[hk]at I;have wk:dt Y v.ak=v.ak:=by have:=a.ak;exact cG V
  have T1:(S.set j (fS j (r.go 1))).length=S.length:=bW;have sg:=λg z b=>su hS g z b;have ss:=λg r'' z b=>vy hS g r'' z b;have e0:∀c,S.set j (fS j (r.go 1))++[.M ah [] O,c]=iY S j (r.go 1) (.M ah [] O) c:=λ_=>rfl;have tkS:∀g z b,(iY S j g z b).take S.length=S.set j (fS j g):=λg z b=>by grind [iY,og]
  have d0:¬((d:Int)+1=0):=V;have b0:dX .neq (.kN fW) G .c_ .c_=J (.B O):=rfl;have fk:∀k:Int,dj ah [(0,1,.I Y k)]=J [.I Y k,.I Y 0,.S [],.aw,.aw,.aw]:=λ_=>rfl;have er:=λ{g:Rd}{u':B}(z b:cZ)(h':rI g u')=>zX (sg g z b) h';have st0:∀k:Int,bd [] S.length (S.set j (fS j (r.go 1))++[.M ah [] O,.M ah [] O]) 6 (.P (S.length+1) 0) (.A [.I Y k,.I Y 0,.S [],.aw,.aw,.aw])=J ([],iY S j (r.go 1) (.M ah [] O) (Io k 0 [])):=λk=>by rw[Mx T1 rfl];rfl
  have stN:∀g k m s s',bd [] S.length (iY S j g (.M ah [] O) (Io k m s)) 1 (.P (S.length+1) 2) (.S s')=J ([],iY S j g (.M ah [] O) (Io k m s')):=λg k m s s'=>by unfold iY;rw[stT (tC S j g) (TZ s')];rfl
  have stM:∀g k m s(m':Int),bd [] S.length (iY S j g (.M ah [] O) (Io k m s)) 1 (.P (S.length+1) 1) (.I Y m')=J ([],iY S j g (.M ah [] O) (Io k m' s)):=λg k m s m'=>by unfold iY;rw[stT (tC S j g) (yY Y m')];rfl
  have fin:∀(i:bV) g(p:F) bt,p.length=6->dv (p.map aW)=G->bd i S.length (iY S j g (.M ah [] O) (.M p bt O)) 6 (.P S.length 0) (.A (p.map aW))=J (i,iY S j g (.M (p.map aW) [] O) (.M p bt O)):=λi g p bt hc hp=>by simp_all[iY,Aw]
  have la:∀g z(p:F) bt,p.length=6->aX (iY S j g z (.M p bt O)) (.A 6) (.P (S.length+1) 0)=J (.A (p.map aW)):=λg z p bt hc=>by rw[nX];exact fQ p hc
  have lz:∀g(p:F) b,p.length=6->(p.map aW).map aW=p.map aW->aX (iY S j g (.M (p.map aW) [] O) b) (.A 6) (.P S.length 0)=J (.A (p.map aW)):=λg p b hc hs=>by simp_all[iY,lT0,fQ]
  have l0:∀g k n s,aX (iY S j g (.M ah [] O) (Io k n s)) .C (.P (S.length+1) 0)=J (.I Y k):=λg k n s=>nX ..;have lp0:∀g k n s,DC ax X (.L uX) ⟨[(0,.P j 0),(1,.I Y ((d:Int)+1)),(4,.P S.length 0),(5,.P (S.length+1) 0),(51,.I Y 0),(52,.I Y 0)],[],S.length⟩ (iY S j g (.M ah [] O) (Io k n s))=
   J (.E 1,⟨[(0,.P j 0),(4,.P S.length 0),(5,.P (S.length+1) 0)],[],S.length⟩,iY S j g (.M ah [] O) (Io k n s)):=λg k n s=>by
   simp[aj,aN eB]
  have res:∀g(i:bV)(p:F)(w:bu),cd (.A (p.map aW))=.A w.ao->dr 179 i [.A (p.map aW)] S (iY S j g (.M (p.map aW) [] O) (.M p [] O))=J (.A w.ao,S.set j (fS j g)):=λg i p w y=>by simp[uw,y,cI,tkS]
  have aAg:∀g(i:bV)(p:F) bt(w:bu),cd (.A (p.map aW))=.A w.ao->dr 179 i [.A (p.map aW)] S (iY S j g (.M (p.map aW) [] O) (.M p bt O))=J (.A w.ao,S.set j (fS j g)):=λg i p bt w y=>by rw[uw,y];simp[cI,tkS]
  have vs:∀k n s,[AV.I Y k,.I Y n,.S s,.aw,.aw,.aw].map aW=[.I Y k,.I Y n,.S s,.aw,.aw,.aw]:=λ_ _ _=>rfl;have E:∀g k n s,bd [] S.length (iY S j g (.M ah [] O) (Io k n s)) 6 (.P S.length 0) (.A [.I Y k,.I Y n,.S s,.aw,.aw,.aw])=J ([],iY S j g (Io k n s) (Io k n s)):=λg k n s=>fin [] g [.I Y k,.I Y n,.S s,.aw,.aw,.aw] [] rfl rfl;have la0:∀g k n s,aX (iY S j g (.M ah [] O) (Io k n s)) (.A 6) (.P (S.length+1) 0)=J (.A [.I Y k,.I Y n,.S s,.aw,.aw,.aw]):=λg k n s=>la g (.M ah [] O) [.I Y k,.I Y n,.S s,.aw,.aw,.aw] [] rfl;have lz0:∀g k n s,aX (iY S j g (Io k n s) (Io k n s)) (.A 6) (.P S.length 0)=J (.A [.I Y k,.I Y n,.S s,.aw,.aw,.aw]):=λg k n s=>lz g [.I Y k,.I Y n,.S s,.aw,.aw,.aw] (Io k n s) rfl rfl;have amL:∀g k n s(w:bu),cd (.A [.I Y k,.I Y n,.S s,.aw,.aw,.aw])=.A w.ao->dr 179 [] [.A [.I Y k,.I Y n,.S s,.aw,.aw,.aw]] S (iY S j g (Io k n s) (Io k n s))=J (.A w.ao,S.set j (fS j g)):=λg k n s w y=>res g [] [.I Y k,.I Y n,.S s,.aw,.aw,.aw] w y;rw[j6 axO];have T2:(S.set j (fS j (r.go 1))++[cZ.M ah [] O]).length=S.length+1:=bW;have l:=er (.M ah [] O) (Io v.ak 0 []) R1;rcases a.ak with k|k|k|k|k|k
  ·have⟨h1,h2,h3⟩:=a.bare V V
   have hn:=a.n1 k;have T:=a.s0 V V;have ev:bu.mk 1 v.n [] [] [] []=v:=bu.tM k rfl T h1 h2 h3;have eb:v.bytes=[cq v.ak.toNat]++[if b_ (v.n=1)=G then(1:UInt8)else 0]:=by rw[lb,if_pos k];rcases hn with e|e<;>rw[e]<;>rfl
   have o:rI (r.go 1) ((if b_ (v.n=1)=G then 1 else 0)::u):=by have:=hr;rw[<-lb,eb]at this;exact this.go1
   have q:=amJ (sg (r.go 1) (.M ah [] O) (Io 1 0 [])) o;rw[ss]at q;have R2:=o.go1;have y:=zs 1 v.n [] .aw .aw .aw [] [] [] rfl rfl rfl;rw[ev]at y;have t:=amL ((r.go 1).go 1) 1 v.n [] v y;have f:=er (.M ah [] O) (Io 1 v.n []) R2;rw[k]at I wk l;rw[eb];rcases hn with e|e
   ·rw[e]at q t f
    simp at q t f;simp[d0,I,wk,fk,st0,l,b0,l0,q];rw[ab eB];simp[lp0,f,b0,la0,E,lz0,t]
   ·rw[e]at q t f
    simp at q t f;simp[d0,I,wk,fk,st0,l,b0,l0,q,stM,e];rw[ab eB];simp[lp0,f,b0,la0,E,lz0,t]
  ·have⟨h1,h2,h3⟩:=a.bare V V
   have T:=a.s0 V V;have ev:bu.mk 2 v.n [] [] [] []=v:=bu.tM k rfl T h1 h2 h3;have eb:v.bytes=[cq v.ak.toNat]++xb v.n:=by simp_all[if_pos]
   have o:rI (r.go 1) (xb v.n++u):=by have:=hr;rw[<-lb,eb]at this;exact this.go1
   have q:=arU (sg (r.go 1) (.M ah [] O) (Io 2 0 [])) hv.one.n0 hv.one.n1 o;rw[ss]at q;have R2:=o.go;have y:=zs 2 v.n [] .aw .aw .aw [] [] [] rfl rfl rfl;rw[ev]at y;have t:=amL ((r.go 1).go (xb v.n).length) 2 v.n [] v y;have f:=er (.M ah [] O) (Io 2 v.n []) R2;rw[k]at I wk l;rw[eb];simp at q t f;simp[d0,I,wk,fk,st0,l,b0,l0,q,stM];rw[ab eB];simp[lp0,f,b0,la0,E,lz0,t]
   grind
  ·have⟨h1,h2,h3⟩:=a.bare V V
   have P:=a.n0 V V;have ev:bu.mk 3 0 v.s [] [] []=v:=bu.tM k P rfl h1 h2 h3;have eb:v.bytes=[cq v.ak.toNat]++aZ v.s:=by simp_all[if_pos]
   have o:rI (r.go 1) (aZ v.s++u):=by have:=hr;rw[<-lb,eb]at this;exact this.go1
   have q:=JL (sg (r.go 1) (.M ah [] O) (Io 3 0 [])) (a.s3 k) o;rw[ss]at q;have R2:=o.go;have y:=zs 3 0 v.s .aw .aw .aw [] [] [] rfl rfl rfl;rw[ev]at y;have t:=amL ((r.go 1).go (aZ v.s).length) 3 0 v.s v y;have f:=er (.M ah [] O) (Io 3 0 v.s) R2;rw[k]at I wk l;rw[eb];simp at q t f;simp[d0,I,wk,fk,st0,l,b0,l0,q,stN];rw[ab eB];simp[lp0,f,b0,la0,E,lz0,t]
   grind
  ·have⟨h1,h2,h3⟩:=a.bare V V
   have P:=a.n0 V V;have ev:bu.mk 4 0 v.s [] [] []=v:=bu.tM k P rfl h1 h2 h3;have eb:v.bytes=[cq v.ak.toNat]++aZ v.s:=by simp_all[if_pos]
   have o:rI (r.go 1) (aZ v.s++u):=by have:=hr;rw[<-lb,eb]at this;exact this.go1
   have q:=aco (sg (r.go 1) (.M ah [] O) (Io 4 0 [])) (a.s4 k) o;rw[ss]at q;have R2:=o.go;have y:=zs 4 0 v.s .aw .aw .aw [] [] [] rfl rfl rfl;rw[ev]at y;have t:=amL ((r.go 1).go (aZ v.s).length) 4 0 v.s v y;have f:=er (.M ah [] O) (Io 4 0 v.s) R2;rw[k]at I wk l;rw[eb];simp at q t f;simp[d0,I,wk,fk,st0,l,b0,l0,q,stN];rw[ab eB];simp[lp0,f,b0,la0,E,lz0,t]
   grind
  ·have h5:=a.k5 k
   have P:=a.n0 V V;have T:=a.s0 V V;have ev:bu.mk 5 0 [] v.bj [] v.aq=v:=bu.tM k P T rfl h5.1 rfl;have eb:v.bytes=[cq v.ak.toNat]++(cF v.aq.length++bu.eH v.bj v.aq):=by simp_all[if_pos]
   have o:rI (r.go 1) (cF v.aq.length++(bu.eH v.bj v.aq++u)):=by simp_all[sC]
   have q:=XI (sg (r.go 1) (.M ah [] O) (Io 5 0 [])) 8 V V o;rw[ss]at q;have R2:=o.go;have⟨i,lp⟩:=PE (S:=S) (j:=j) (d:=d) (.M ah [] O) v h5.2.2.2 h5.2.1 h5.2.2.1 V (λx hx S r u h1 h2=>ih x (hv.all x hx) (a.all x hx) V S j r u h1 h2) v.bj.length 0 r u [] V hS _ R2;have R3:=R2.go;have hvb:vbN (S.length+1) v.bj v.aq=.M [.I Y 5,.I Y 0,.S [],bL (S.length+1) 0 1 (sJ v.bj),.aw,bL (S.length+1) 1 6 (zg v.aq)] (iE v.bj.length v.aq.length) O:=rfl;have Yb:[AV.I Y 5,.I Y 0,.S [],bL (S.length+1) 0 1 (sJ v.bj),.aw,bL (S.length+1) 1 6 (zg v.aq)].map aW=[.I Y 5,.I Y 0,.S [],eU 1 (sJ v.bj),.aw,eU 6 (zg v.aq)]:=by simp_all[rQ]
   have q1:=pJ (sz:=1) (B4 v.bj);have q2:=pJ (sz:=6) (GO v.aq);have NH:dv ([AV.I Y 5,.I Y 0,.S [],bL (S.length+1) 0 1 (sJ v.bj),.aw,bL (S.length+1) 1 6 (zg v.aq)].map aW)=G:=by simp_all[dv,br]
   have Y6:([AV.I Y 5,.I Y 0,.S [],bL (S.length+1) 0 1 (sJ v.bj),.aw,bL (S.length+1) 1 6 (zg v.aq)].map aW).map aW=[AV.I Y 5,.I Y 0,.S [],bL (S.length+1) 0 1 (sJ v.bj),.aw,bL (S.length+1) 1 6 (zg v.aq)].map aW:=by simp_all[TH]
   have y:=zs 5 0 [] (eU 1 (sJ v.bj)) .aw (eU 6 (zg v.aq)) v.bj [] v.aq (Lf _) rfl (SC _);rw[ev]at y;have t:=aAg (((r.go 1).go (cF v.aq.length).length).go (bu.eH v.bj v.aq).length) i _ (iE v.bj.length v.aq.length) v (by rw[Yb];exact y);have f:=er (.M ah [] O) (vbN (S.length+1) v.bj v.aq) R3;have f2:=fin i (((r.go 1).go (cF v.aq.length).length).go (bu.eH v.bj v.aq).length) _ (iE v.bj.length v.aq.length) rfl NH;have l2:=la (((r.go 1).go (cF v.aq.length).length).go (bu.eH v.bj v.aq).length) (.M ah [] O) [.I Y 5,.I Y 0,.S [],bL (S.length+1) 0 1 (sJ v.bj),.aw,bL (S.length+1) 1 6 (zg v.aq)] (iE v.bj.length v.aq.length) rfl;have A:=lz (((r.go 1).go (cF v.aq.length).length).go (bu.eH v.bj v.aq).length) _ (vbN (S.length+1) v.bj v.aq) rfl Y6;rw[<-hvb]at l2 t f2;simp only[Yb]at f2 l2 A t;have v00:vbN (S.length+1) [] []=Io 5 0 []:=rfl;rw[k]at I wk l;rw[eb];rw[h5.2.1]at q lp f f2 l2 A t⊢;simp[v00]at q lp f f2 l2 A t;simp[d0,I,wk,fk,st0,l,b0,l0,q];rw[ab eB];simp[lp,f,b0,l2,f2,A,t]
   grind
  ·have h6:=a.k6 k
   have P:=a.n0 V V;have T:=a.s0 V V;have ev:bu.mk 6 0 [] [] v.gu v.aq=v:=bu.tM k P T h6.1 rfl rfl;have o:rI (r.go 1) (cF v.aq.length++(bu.mN v.gu v.aq++u)):=by simp_all[sC]
   have q:=XI (sg (r.go 1) (.M ah [] O) (Io 6 0 [])) 12 V V o;rw[ss]at q;have R2:=o.go;have⟨i,lp⟩:=PG (S:=S) (j:=j) (d:=d) (.M ah [] O) v h6.2.2.2 h6.2.1 h6.2.2.1 hv.one.id V (λx hx S r u h1 h2=>ih x (hv.all x hx) (a.all x hx) V S j r u h1 h2) v.gu.length 0 r u [] V hS _ R2;have R3:=R2.go;have hvb:vbI (S.length+1) v.gu v.aq=.M [.I Y 6,.I Y 0,.S [],.aw,bL (S.length+1) 0 1 (Ld v.gu),bL (S.length+1) 1 6 (zg v.aq)] (iE v.gu.length v.aq.length) O:=rfl;have Yb:[AV.I Y 6,.I Y 0,.S [],.aw,bL (S.length+1) 0 1 (Ld v.gu),bL (S.length+1) 1 6 (zg v.aq)].map aW=[.I Y 6,.I Y 0,.S [],.aw,eU 1 (Ld v.gu),eU 6 (zg v.aq)]:=by simp_all[rQ]
   have q1:=pJ (sz:=1) (SB v.gu);have q2:=pJ (sz:=6) (GO v.aq);have NH:dv ([AV.I Y 6,.I Y 0,.S [],.aw,bL (S.length+1) 0 1 (Ld v.gu),bL (S.length+1) 1 6 (zg v.aq)].map aW)=G:=by simp_all[dv,br]
   have Y6:([AV.I Y 6,.I Y 0,.S [],.aw,bL (S.length+1) 0 1 (Ld v.gu),bL (S.length+1) 1 6 (zg v.aq)].map aW).map aW=[AV.I Y 6,.I Y 0,.S [],.aw,bL (S.length+1) 0 1 (Ld v.gu),bL (S.length+1) 1 6 (zg v.aq)].map aW:=by simp_all[TH]
   have y:=zs 6 0 [] .aw (eU 1 (Ld v.gu)) (eU 6 (zg v.aq)) [] v.gu v.aq rfl (aec _) (SC _);rw[ev]at y;have t:=aAg (((r.go 1).go (cF v.aq.length).length).go (bu.mN v.gu v.aq).length) i _ (iE v.gu.length v.aq.length) v (by rw[Yb];exact y);have f:=er (.M ah [] O) (vbI (S.length+1) v.gu v.aq) R3;have f2:=fin i (((r.go 1).go (cF v.aq.length).length).go (bu.mN v.gu v.aq).length) _ (iE v.gu.length v.aq.length) rfl NH;have l2:=la (((r.go 1).go (cF v.aq.length).length).go (bu.mN v.gu v.aq).length) (.M ah [] O) [.I Y 6,.I Y 0,.S [],.aw,bL (S.length+1) 0 1 (Ld v.gu),bL (S.length+1) 1 6 (zg v.aq)] (iE v.gu.length v.aq.length) rfl;have A:=lz (((r.go 1).go (cF v.aq.length).length).go (bu.mN v.gu v.aq).length) _ (vbI (S.length+1) v.gu v.aq) rfl Y6;rw[<-hvb]at l2 t f2;simp only[Yb]at f2 l2 A t;have v00:vbI (S.length+1) [] []=Io 6 0 []:=rfl;rw[k]at I wk l;rw[(by simp_all[if_neg]:v.bytes=[UInt8.ofNat v.ak.toNat]++(cF v.aq.length++bu.mN v.gu v.aq))];rw[h6.2.1]at q lp f f2 l2 A t⊢;simp[v00]at q lp f f2 l2 A t;simp[d0,I,wk,fk,st0,l,b0,l0,q];rw[ab eB];simp[lp,f,b0,l2,f2,A,t]
   grind
end
def JM{S:Z}{j:Nat}{r:Rd}{u:B}(v:bu)(i:v.Wf)(h:v.bw 5=G)(d:S[j]? =J (fS j r))(f:rI r (v.bytes++u)):
 W ax X 99 [.P j 0] S=J (.A v.ao,S.set j (fS j (r.go v.bytes.length))):=by
 have e:=aji 5 v i h V (S++[.M ah [] O]) j r u (dH _ d) f;rw[ig _ ((lQ.1 d).1)]at e;have c:(S.set j (fS j (r.go v.bytes.length))).length=S.length:=bW;have m:=Aw c (bu.jh v).br [.M ah [] O] 0 [] S.length 6;have l:aX (S.set j (fS j (r.go v.bytes.length))++[.M v.ao [] O]) (.A 6) (.P S.length 0)=J (.A v.ao):=by rw[lT0 c];simp
 have k:∀b a,(S.set j b++a).take S.length=S.set j b:=λb a=>by simp
 have g:aM ah 0 v.ao=v.ao:=dT bW;rw[jr aFi];simp_all
def ZD(sz:Nat)(es:jU):Q:=if es=[]then .aw else .sl .gA sz es
def Jb(sz:Nat)(tu:Q)(ae:bV)(es:jU):Prop:=(es=[]/\tu=.aw/\ae=[])\/(es≠[]/\tu=.sl (.fr 0) sz es/\ae=[J es.length])
theorem Jb.nil(sz:Nat):Jb sz .aw [] []:=.inl ⟨rfl,rfl,rfl⟩
def Jb.app{sz:Nat}{a:Q}{ae:bV}{es:jU}(h:Jb sz a ae es)(x:F)(e:es.length<1000000)(S:Z):
 ∃b c,eD sz ae S a (.sl .X sz [x])=J (b,c,S)/\Jb sz b c (es++[x]):=by
 rcases h with⟨rfl,rfl,rfl⟩|⟨f,rfl,rfl⟩;·exact⟨.sl (.fr 0) sz [x],[J 1],by simp[eD,bZ],.inr ⟨by simp,rfl,rfl⟩⟩
 ·have d:¬(2^30<es.length+1):=V
  refine⟨.sl (.fr 0) sz (es++[x]),[J (es.length+1)],by simp[eD,bZ,d],.inr ⟨by simp,rfl,by simp⟩⟩
def Jb.res{sz:Nat}{a:Q}{ae:bV}{es:jU}(h:Jb sz a ae es)(c:eS es=G):∃t,bq ae a=(ZD sz es,t)/\cI a=G/\cd a=a/\aF (ZD sz es)=G:=by
 rcases h with⟨rfl,rfl,rfl⟩|⟨b,rfl,rfl⟩;·exact⟨[],rfl,rfl,rfl,rfl⟩
 simp_all[zP,ZD]
def agj{T:Z}{i sz:Nat}{cs:F}{o:Nat}(es:jU)(bt ae:bV)(d:T[i]? =J (.M cs bt O))(e:o+1<=cs.length)(f:eS es=G)(nb:Nat)(b:nb<=i):
 ∃v t c,aY ae (ZD sz es)=(v,t)/\bd t nb T 1 (.P i o) v=J (c,T.set i (.M (aM cs o [bL i bt.length sz es]) (if es=[]then bt else bt++[J es.length]) O)):=by
 by_cases a:es=[]
 ·subst a
  refine⟨.aw,ae,ae,rfl, ?_⟩
  grind [bd,aU,AV.cells,lO,bL]
 ·refine⟨.sl (.fr ae.length) sz es,ae++[J es.length],ae++[M],by simp[ZD,a,aY,dw], ?_⟩
  grind [bd,aU,AV.cells,lO,bL]
def amM{S:Z}{j:Nat}{r:Rd}{u:B}(s:e_)(q:s.Wf)(h:sY s=G)(l:S[j]? =J (fS j r))(m:rI r (m_ s++u)):
 W ax X 178 [.P j 0] S=J (.A s.ao,S.set j (fS j (r.go (m_ s).length))):=by
 have hl:s.name.length<=64:=by grind [sY,ie]
 unfold m_ at m;rw[sC]at m;have f:=JL (dH [.M [.S [],.I U 0] [] O] l) hl m;rw[ig _ ((lQ.1 l).1)]at f;have y:=m.go;have T1:∀b,(S.set j b).length=S.length:=λb=>by simp
 have w:∀b a,(S.set j b++a).take S.length=S.set j b:=λb a=>by simp
 have A:∀x:B,dj [.S [],.I U 0] [(0,1,.S x)]=J [.S x,.I U 0]:=λ_=>rfl;have t:∀x:B,bd [] S.length (S.set j (fS j (r.go (aZ s.name).length))++[.M [.S [],.I U 0] [] O,.M [.S [],.I U 0] [] O]) 2 (.P (S.length+1) 0) (.A [.S x,.I U 0])=J ([],iY S j (r.go (aZ s.name).length) (.M [.S [],.I U 0] [] O) (.M [.S x,.I U 0] [] O)):=λx=>by rw[Mx (T1 _) rfl];rfl
 have v:∀d x(n:Int),bd [] S.length (iY S j d (.M [.S [],.I U 0] [] O) (.M [.S x,.I U 0] [] O)) 1 (.P (S.length+1) 1) (.I U n)=J ([],iY S j d (.M [.S [],.I U 0] [] O) (.M [.S x,.I U n] [] O)):=λd x n=>by unfold iY;rw[stT (tC S j d) (yY U n)];rfl
 have I:∀d x n,aX (iY S j d (.M [.S [],.I U 0] [] O) (.M [.S x,.I U n] [] O)) .C (.P (S.length+1) 0)=J (.S x):=λd x n=>nX ..;have P:∀d x n,aX (iY S j d (.M [.S [],.I U 0] [] O) (.M [.S x,.I U n] [] O)) (.A 2) (.P (S.length+1) 0)=J (.A [.S x,.I U n]):=λd x n=>nX ..;have g:∀d x(n:Int),bd [] S.length (iY S j d (.M [.S [],.I U 0] [] O) (.M [.S x,.I U n] [] O)) 2 (.P S.length 0) (.A [.S x,.I U n])=J ([],iY S j d (.M [.S x,.I U n] [] O) (.M [.S x,.I U n] [] O)):=λd x n=>by unfold iY;rw[Aw (tC S j d) rfl];rfl
 have T:∀d x n b,aX (iY S j d (.M [.S x,.I U n] [] O) b) (.A 2) (.P S.length 0)=J (.A [.S x,.I U n]):=λd x n b=>by unfold iY;rw[lT0 (tC S j d)];rfl
 have i:∀d z b,(iY S j d z b).take S.length=S.set j (fS j d):=λd z b=>w _ _;have c:=Mc s q;rw[h]at c;have en:s.ao=[.S s.name,.I U s.id]:=rfl;rw[en]at c⊢;have e:df [AV.S s.name,.I U s.id]:=bW;rw[jr axN];by_cases E:s.name=[]
 ·rw[if_pos E]at y
  have k:=oq (su l (r.go (aZ s.name).length) (.M [.S [],.I U 0] [] O) (.M [.S [],.I U 0] [] O)) (n:=s.id.toNat) (by have:=q.id1;omega) y;rw[vy l,(by have:=q.id0;omega:((s.id.toNat:Nat):Int)=s.id)]at k;have es:m_ s=aZ s.name++cF s.id.toNat:=by unfold m_;simp_all
  rw[es];rw[E]at f k t c e⊢;simp at f k c;simp[f,A,t,I,k,v,P,c,bU,g,T,i,e]
 ·have p:s.name.isEmpty=O:=by simp_all
  have o:s.id=0:=by grind [sY]
  rw[(by unfold m_;simp_all:m_ s=aZ s.name)];rw[o]at c e⊢;simp[f,A,t,I,p,P,c,bU,g,T,i,e]
def Mk(p:List e_):jU:=p.map e_.ao
def Lg(l:List e_):eS (Mk l)=G:=kg.2 λx a=>by obtain⟨s,_,rfl⟩:=yE.1 a;rfl
@[simp]def aBY(l:List e_):(Mk l).length=l.length:=by simp[Mk]
def amN{S:Z}{j:Nat}{r:Rd}{u:B}(p:List e_)(hs:∀s∈p,s.Wf)(h:yL p=G)(o:S[j]? =J (fS j r))(z:rI r (nN p++u)):
 W ax X 98 [.P j 0] S=J (ZD 2 (Mk p),S.set j (fS j (r.go (nN p).length))):=by
 have x:=h;unfold yL at x;simp only[mr,decide_eq_true_eq]at x;have P:nN p=cF p.length++p.flatMap m_:=rfl;rw[P,sC]at z;have I:=z.go;have E:∀d i(k:Rd)(g:Q)(e:bV),i+d=p.length->rI k ((p.drop i).flatMap m_++u)->Jb 2 g e (Mk (p.take i))->
  ∃c a,Jb 2 c a (Mk p)/\DC ax X (.L HB) ⟨[(0,.P j 0),(3,.I U (p.length:Int)),(4,g),(5,.I U (i:Int))],e,S.length⟩ (S.set j (fS j k))=
   J (.E 0,⟨[(0,.P j 0),(4,c)],a,S.length⟩,S.set j (fS j (k.go ((p.drop i).flatMap m_).length))):=by
  intro d;induction d with
  |zero=>
   intro i k g e hi f q;rw[(og V:p.take i=p)]at q;refine⟨g,e,q, ?_⟩;simp[aj,aN qO,(jX V:p.drop i=[]),(V:¬i<p.length),Rd.go]
  |succ d ih=>
   intro i k g e hi f q;have⟨y,A,hy'⟩:=aT (l:=p) (i:=i) V;have T:dt U ((i:Int)+1)=((i+1:Nat):Int):=by show((i:Int)+1)%2^64=_;omega
   have ym:=gR A;rw[bf A,Ds]at f⊢;rw[sC]at f;have m:=zX (Ku o k) f;have v:=amM y (hs y ym) (zF.1 x.2 y ym) (Ku o k) f;rw[TF]at v;have⟨o2,t2,a1,a2⟩:=q.app y.ao (by simp;omega) (S.set j (fS j (k.go (m_ y).length)));have⟨c,a,n1,n2⟩:=ih (i+1) (k.go (m_ y).length) o2 t2 V f.go (by rw[(by rw[vG,A];rfl:p.take (i+1)=p.take i++[y])];simpa[Mk]using a2);refine⟨c,a,n1, ?_⟩;have bo:ff 2 [[.S [],.I U 0]] [(0,.A y.ao)]=J [y.ao]:=rfl;rw[aj,aN qO];simp at n2 T v;simp[(V:i<p.length),m,(rfl:dX .eql (.kN fW) G .c_ .c_=J (.B G)),v,bo,a1];rw[ab qO];simp[T,n2]
 have⟨c,a,g1,w⟩:=E p.length 0 _ .aw [] V I (Jb.nil 2);have⟨t,f1,f2,f3,f4⟩:=g1.res (Lg p);have m:=zX (Ku o ((r.go (cF p.length).length).go ((p.drop 0).flatMap m_).length)) I.go;rw[jr aFh,P];simp only[tQ]at w m;simp at w m;simp[oq o (n:=p.length) V z,(eq_false V:((8:Int)<(p.length:Int))=False)];rw[ab qO];simp[w,m,(rfl:dX .neq (.kN fW) G .c_ .c_=J (.B O)),f1,f2,f3,f4,(λb=>og bW:∀b,(S.set j b).take S.length=S.set j b)]
def x9(k:Int)(row:Q)(id af:Int)(vs:F):F:=[.I Y k,row,.I U id,.I U af]++vs
def amO{k:Int}{a:Q}{id c:Int}{b:F}(h:b.length=6):(x9 k a id c b).length=10:=by simp[x9,h]
def Lh:ah.length=6:=rfl
def JN:ah.map aW=ah:=rfl
def XJ:dv ah=G:=rfl
def XK:ah.map dF=rX.ao:=by rfl
def avT{S:Z}{j:Nat}{r:Rd}{u:B}(o:sG)(ho:o.Wf)(h:L6 o=G)(hS:S[j]? =J (fS j r))(hr:rI r (yj o++u)):
 W ax X 42 [.P j 0] S=J (.A o.ao,S.set j (fS j (r.go (yj o).length))):=by
 have hj:j<S.length:=(lQ.1 hS).1;have kr:=Pv h;have eb:yj o=cq o.ak.toNat::(nN o.fJ++((if 1<o.ak then cF o.id.toNat else[])++((if o.ak=2\/o.ak=4 then cF o.after.toNat else[])++(if o.ak=1\/o.ak=2 then o.value.bytes else[])))):=rfl;rw[eb]at hr⊢;simp only[Hm,sC]at hr;have hS1:∀b,(S++[b])[j]? =J (fS j r):=λb=>dH _ hS;have T:=Jd (hS1 (.M aR [] O)) hr;rw[ig _ hj]at T;have hk:((cq o.ak.toNat).toNat:Int)=o.ak:=by rw[rU];omega
 rw[hk]at T;have wk:dt Y o.ak=o.ak:=cG V;have R1:=hr.go1;have fk:dj aR [(0,1,.I Y o.ak)]=J (x9 o.ak .aw 0 0 ah):=rfl;have y:bd [] S.length (S.set j (fS j (r.go 1))++[.M aR [] O,.M aR [] O]) 10 (.P (S.length+1) 0) (.A (x9 o.ak .aw 0 0 ah))=J ([],iY S j (r.go 1) (.M aR [] O) (.M (x9 o.ak .aw 0 0 ah) [] O)):=by rw[Mx bW rfl];rfl
 have sg:=λc b=>su hS c (.M aR [] O) b;have ss:=λc r'' b=>vy hS c r'' (.M aR [] O) b;have E:=amN o.fJ ho.fJ (BZ h) (sg (r.go 1) (.M (x9 o.ak .aw 0 0 ah) [] O)) R1;rw[ss]at E;have z:=R1.go;have⟨v,t1,t2,p1,A⟩:=agj (sz:=2) (o:=1) (Mk o.fJ) [] [] (pW S j ((r.go 1).go (nN o.fJ).length) (.M aR [] O) (.M (x9 o.ak .aw 0 0 ah) [] O)) (by simp[x9]) (Lg _) S.length V;rw[qP]at A;generalize hbt:(if Mk o.fJ=[]then([]:bV)else[]++[J (Mk o.fJ).length])=i at A;have p3:aM (x9 o.ak .aw 0 0 ah) 1 [bL (S.length+1) ([]:bV).length 2 (Mk o.fJ)]=x9 o.ak (bL (S.length+1) 0 2 (Mk o.fJ)) 0 0 ah:=rfl;rw[p3]at A;generalize Qx:bL (S.length+1) 0 2 (Mk o.fJ)=d at*;have hrs:aW d=eU 2 (Mk o.fJ):=by rw[<-Qx];exact rQ ..
 have q1:=pJ (sz:=2) (Lg o.fJ);have l0:∀c k d id g f i,aX (iY S j c (.M aR [] O) (.M (x9 k d id g f) i O)) .C (.P (S.length+1) 0)=J (.I Y k):=λ_ _ _ _ _ _ _=>nX ..;have l2:∀c k d id g f i,aX (iY S j c (.M aR [] O) (.M (x9 k d id g f) i O)) .C (.P (S.length+1) 2)=J (.I U id):=λ_ _ _ _ _ _ _=>nX ..;have l3:∀c k d id g f i,aX (iY S j c (.M aR [] O) (.M (x9 k d id g f) i O)) .C (.P (S.length+1) 3)=J (.I U g):=λ_ _ _ _ _ _ _=>nX ..;have s2:∀a c k d id g f i(x:Int),bd a S.length (iY S j c (.M aR [] O) (.M (x9 k d id g f) i O)) 1 (.P (S.length+1) 2) (.I U x)=J (a,iY S j c (.M aR [] O) (.M (x9 k d x g f) i O)):=λa c k d id g f i x=>by rw[d_ (yY U x) (pW ..),qP,if_pos ⟨rfl,by simp[x9]⟩];rfl
 have s3:∀a c k d id g f i(x:Int),bd a S.length (iY S j c (.M aR [] O) (.M (x9 k d id g f) i O)) 1 (.P (S.length+1) 3) (.I U x)=J (a,iY S j c (.M aR [] O) (.M (x9 k d id x f) i O)):=λa c k d id g f i x=>by rw[d_ (yY U x) (pW ..),qP,if_pos ⟨rfl,by simp[x9]⟩];rfl
 have s4:∀a c k d id g i(x:bu),bd a S.length (iY S j c (.M aR [] O) (.M (x9 k d id g ah) i O)) 6 (.P (S.length+1) 4) (.A x.ao)=J (a,iY S j c (.M aR [] O) (.M (x9 k d id g x.ao) i O)):=λa c k d id g i x=>by
  rw[d_ (kT (bu.jh x)) (pW ..),qP,if_pos ⟨by simp,by simp[x9]⟩];have:aM (x9 k d id g ah) 4 (AV.A x.ao).cells=x9 k d id g x.ao:=by simp[aM,x9,AV.cells]
  rw[this]
 have p:∀c id g f,f.length=6->f.map aW=f->aX (iY S j c (.M aR [] O) (.M (x9 o.ak d id g f) i O)) (.A 10) (.P (S.length+1) 0)=J (.A (x9 o.ak (eU 2 (Mk o.fJ)) id g f)):=λc id g f hl hs=>by simp_all[nX,fQ,x9]
 have s:∀a c id g f b,f.length=6->dv f=G->bd a S.length (iY S j c (.M aR [] O) b) 10 (.P S.length 0) (.A (x9 o.ak (eU 2 (Mk o.fJ)) id g f))=J (a,iY S j c (.M (x9 o.ak (eU 2 (Mk o.fJ)) id g f) [] O) b):=λa c id g f b hl hp=>by
  unfold iY;have NH:dv (x9 o.ak (eU 2 (Mk o.fJ)) id g f)=G:=by simp_all[zS,x9]
  simp_all[Aw,amO]
 have q:∀c id g f b,f.length=6->f.map aW=f->aX (iY S j c (.M (x9 o.ak (eU 2 (Mk o.fJ)) id g f) [] O) b) (.A 10) (.P S.length 0)=J (.A (x9 o.ak (eU 2 (Mk o.fJ)) id g f)):=λc id g f b hl hs=>by simp_all[iY,lT0,fQ,x9]
 have nr:∀id g f(w:bu),f.map dF=w.ao->cd (.A (x9 o.ak (eU 2 (Mk o.fJ)) id g f))=.A (sG.mk o.ak o.fJ id g w).ao:=λid g f w P=>by show AV.A ((x9 o.ak (eU 2 (Mk o.fJ)) id g f).map dF)=_;unfold x9 sG.ao;simp only[List.map_append,P];show AV.A ([_,dF (eU 2 (Mk o.fJ)),_,_]++_)=_;rw[rR];rfl
 have res:∀a c id g f b(w:bu),f.map dF=w.ao->dr 42 a [.A (x9 o.ak (eU 2 (Mk o.fJ)) id g f)] S (iY S j c (.M (x9 o.ak (eU 2 (Mk o.fJ)) id g f) [] O) b)=J (.A (sG.mk o.ak o.fJ id g w).ao,S.set j (fS j c)):=λa c id g f b w P=>by
  rw[uw,nr id g f w P];have:(iY S j c (.M (x9 o.ak (eU 2 (Mk o.fJ)) id g f) [] O) b).take S.length=S.set j (fS j c):=by grind [iY]
  have hd:df (sG.mk o.ak o.fJ id g w).ao:=sG.jh _;simp[cI,this,hd]
 have b0:dX .neq (.kN fW) G .c_ .c_=J (.B O):=rfl;have er:=λ{c:Rd}{u':B}(b:cZ)(h':rI c u')=>zX (sg c b) h';have vL:o.value.ao.length=6:=bW;have vS:=(bu.jh o.value).jg;have vP:=(bu.jh o.value).br;have vN:=(bu.jh o.value).wv;have hid:((o.id.toNat:Nat):Int)=o.id:=by have:=ho.id0;omega
 have haf:((o.after.toNat:Nat):Int)=o.after:=by have:=ho.af0;omega
 have m:=h;unfold L6 at m;rw[mr]at m;have m:=m.2;rw[jr aEN];rcases kr with k|k|k|k
 ·rw[if_pos k]at m
  simp only[mr,decide_eq_true_eq]at m;simp only[k]at z⊢;simp at z;have c5:=JM o.value ho.value m.2 (sg ((r.go 1).go (nN o.fJ).length) (.M (x9 1 d 0 0 ah) i O)) (by simpa using z);rw[ss]at c5;have R5:=rI.go z;have l:=er (.M (x9 1 d 0 0 o.value.ao) i O) R5;have P:sG.mk o.ak o.fJ 0 0 o.value=o:=by cases o;grind
  have t:=λa c b=>res a c 0 0 o.value.ao b o.value vN;rw[P]at t;have p:=λc=>p c 0 0 _ vL vS;have s:=λa c b=>s a c 0 0 _ b vL vP;have q:=λc b=>q c 0 0 _ b vL vS;rw[k]at T wk fk y E A p s q t;simp at E A c5 l p s q t;simp[T,wk,fk,y,l0,E,p1,A,c5,s4,l,b0,p,s,q,t];refine⟨rfl, ?_⟩
  grind
 ·rw[tO,if_pos k]at m
  simp only[mr,decide_eq_true_eq]at m;simp only[k]at z⊢;simp at z;have I:=oq (sg ((r.go 1).go (nN o.fJ).length) (.M (x9 2 d 0 0 ah) i O)) (n:=o.id.toNat) (by have:=ho.id1;omega) (by simpa using z);rw[ss,hid]at I;have R3:=rI.go z;have c4:=oq (sg _ (.M (x9 2 d o.id 0 ah) i O)) (n:=o.after.toNat) (by have:=ho.af1;omega) R3;rw[ss,haf]at c4;have R4:=rI.go R3;have c5:=JM o.value ho.value m.2 (sg _ (.M (x9 2 d o.id o.after ah) i O)) R4;rw[ss]at c5;have R5:=rI.go R4;have l:=er (.M (x9 2 d o.id o.after o.value.ao) i O) R5;have t:=λa c b=>res a c o.id o.after o.value.ao b o.value vN;have n1:¬o.id=0:=m.1.1;have n2:¬o.after=o.id:=λe=>m.1.2 e.symm;have p:=λc=>p c o.id o.after _ vL vS;have s:=λa c b=>s a c o.id o.after _ b vL vP;have q:=λc b=>q c o.id o.after _ b vL vS;have P:sG.mk 2 o.fJ o.id o.after o.value=o:=by rw[<-k]
  rw[k]at T wk fk y E A p s q t;rw[P]at t;simp at E A I c4 c5 l p s q t;simp[T,wk,fk,y,l0,l2,l3,E,p1,A,I,s2,n1,c4,s3,n2,c5,s4,l,b0,p,s,q,t];refine⟨rfl, ?_⟩
  grind
 ·rw[tO,tO,if_pos k]at m
  simp only[mr,decide_eq_true_eq]at m;have hz:=(CV _).1 m.2;simp only[k]at z⊢;simp at z;have I:=oq (sg ((r.go 1).go (nN o.fJ).length) (.M (x9 3 d 0 0 ah) i O)) (n:=o.id.toNat) (by have:=ho.id1;omega) (by simpa using z);rw[ss,hid]at I;have R3:=rI.go z;have l:=er (.M (x9 3 d o.id 0 ah) i O) R3;have t:=λa c b=>res a c o.id 0 ah b rX XK;have n1:¬o.id=0:=m.1.1;have p:=λc=>p c o.id 0 _ Lh JN;have s:=λa c b=>s a c o.id 0 _ b Lh XJ;have q:=λc b=>q c o.id 0 _ b Lh JN;have P:sG.mk 3 o.fJ o.id 0 rX=o:=by rw[<-k,<-hz];conv=>lhs;rw[<-m.1.2]
  rw[k]at T wk fk y E A p s q t;rw[P]at t;simp at E A I l p s q t;simp[T,wk,fk,y,l0,l2,E,p1,A,I,s2,n1,l,b0,p,s,q,t];refine⟨rfl, ?_⟩
  grind
 ·rw[tO,tO,tO,if_pos k]at m
  simp only[mr,decide_eq_true_eq]at m;have hz:=(CV _).1 m.2;simp only[k]at z⊢;simp at z;have I:=oq (sg ((r.go 1).go (nN o.fJ).length) (.M (x9 4 d 0 0 ah) i O)) (n:=o.id.toNat) (by have:=ho.id1;omega) (by simpa using z);rw[ss,hid]at I;have R3:=rI.go z;have c4:=oq (sg _ (.M (x9 4 d o.id 0 ah) i O)) (n:=o.after.toNat) (by have:=ho.af1;omega) R3;rw[ss,haf]at c4;have R4:=rI.go R3;have l:=er (.M (x9 4 d o.id o.after ah) i O) R4;have t:=λa c b=>res a c o.id o.after ah b rX XK;have n1:¬o.id=0:=m.1.1;have n2:¬o.after=o.id:=λe=>m.1.2 e.symm;have p:=λc=>p c o.id o.after _ Lh JN;have s:=λa c b=>s a c o.id o.after _ b Lh XJ;have q:=λc b=>q c o.id o.after _ b Lh JN;have P:sG.mk 4 o.fJ o.id o.after rX=o:=by rw[<-k,<-hz]
  rw[k]at T wk fk y E A p s q t;rw[P]at t;simp at E A I c4 l p s q t;simp[T,wk,fk,y,l0,l2,l3,E,p1,A,I,s2,n1,c4,s3,n2,l,b0,p,s,q,t];refine⟨rfl, ?_⟩
  grind
section
def arY{S:Z}{i sz:Nat}{es:jU}{x:F}{cs:F}{o:Nat}{bt:bV}(t:bV)(k:Nat)(g:S[i]? =J (.M cs bt O))(h:es=[]->bt.length=k)(a:es≠[]->bt[k]? =J (J es.length))
 (n:es.length<1000000) (q:o+1<=cs.length) (r:eS (es++[x])=G):
 ∃f e b m,eD sz t S (bL i k sz es) (.sl .X sz [x])=J (f,e,b)/\
  ∀nb,bd e nb b 1 (.P i o) f=J (m,S.set i (.M (aM cs o [bL i k sz (es++[x])]) (if es=[]then bt++[J 1]else bt.set k (J (es.length+1))) O)):=by
 by_cases c:es=[]
 ·subst c
  obtain rfl:=h rfl;refine⟨.sl (.fr t.length) sz [x],t++[J 1],S,t++[M],by simp[eD,bL,bZ],λnb=>?_⟩
  grind [bd,br,aW,aU,AV.cells,lO,bL]
 ·have a:=a c
  have p:=(lQ.1 g).1;have l:¬(2^30<es.length+1):=V;refine⟨.sl (.bx i k) sz (es++[x]),t,S.set i (.M cs (bt.set k (J (es.length+1))) O),t, ?_,λnb=>?_⟩;all_goals simp_all[eD,bL,bZ,bd,br,aW,lO]
def DO(l:List bJ):jU:=l.map bJ.ao
def acq(a:List bJ)(x:bJ):DO (a++[x])=DO a++[x.ao]:=by simp[DO]
@[simp]def aBZ(a:List bJ):(DO a).length=a.length:=by simp[DO]
def GP(l:List bJ):eS (DO l)=G:=kg.2 λx a=>by obtain⟨s,_,rfl⟩:=yE.1 a;exact df.br bW
def SD(a:List bJ):dF (eU 3 (DO a))=rW a:=rR 3 _
def up0(bt:bV)(n:Nat):bV:=if n=0 then bt++[J 1]else bt.set 0 (J (n+1))
def acr{T:Z}{j m:Nat}{r:Rd}{s u:B}{e:List B}{k:Int}{f:Q}{bt:bV}(hT:T[j]? =J (fS j r))(hm:T[m]? =J (.M [.I Y k,bL m 0 1 (sJ e),f] bt O))(hjm:j≠m)
 (p:e=[]->bt.length=0) (hb1:e≠[]->bt[0]? =J (J e.length)) (hw:e.length<1000) (y:fL s=G) (g:FuncId) (hg:nk.sN g=M) (l:uj g=O) (hF:∀S,W ax X g [dI (e++[s])] S=J (.B G,S)) (hr:rI r (aZ s++u)):
 W ax X 260 [.P j 0,.P m 0,.fn g [] []] T=J (.cQ [],(T.set j (fS j (r.go (aZ s).length))).set m (.M [.I Y k,bL m 0 1 (sJ (e++[s])),f] (up0 bt e.length) O)):=by
 have hl:=ie y;have I:=JL hT V hr;have w:=nC s V;rw[y]at w;have i:(T.set j (fS j (r.go (aZ s).length)))[m]? =J (.M [.I Y k,bL m 0 1 (sJ e),f] bt O):=by simp_all
 have nn:sJ e=[]↔e=[]:=by simp[sJ]
 have⟨v1,t1,S1,t2,A,n⟩:=arY (sz:=1) (es:=sJ e) (x:=[.S s]) (o:=1) [] 0 i (λh=>p (nn.1 h)) (λh=>by simp_all) (by simp;omega) bW (by rw[<-Nn];exact B4 _);have P:(if sJ e=[]then bt++[J 1]else bt.set 0 (J ((sJ e).length+1)))=up0 bt e.length:=by grind [up0,amK]
 rw[P,<-Nn]at n;have E:aM [.I Y k,bL m 0 1 (sJ e),f] 1 [bL m 0 1 (sJ (e++[s]))]=[.I Y k,bL m 0 1 (sJ (e++[s])),f]:=rfl;rw[E]at n;have q:=(lQ.1 i).1;have t:∀c,aX ((T.set j (fS j (r.go (aZ s).length))).set m (.M [.I Y k,c,f] (up0 bt e.length) O)) .C (.P m 1)=J c:=λc=>by rw[bI (RM q)];rfl
 have v:mo 1 (sJ (e++[s]))=dI (e++[s]):=rfl;have fb:=ajh s;rw[LQ ayM];simp[I,g8,(by rw[bI i];rfl:aX (T.set j (fS j (r.go (aZ s).length))) .C (.P m 1)=some (bL m 0 1 (sJ e))),fb,A,n,AL,w,t,U1,U2,U3,Le,v,hg,l,hF,bU,(λa b=>og bW:∀a b,((T.set j a).set m b).take T.length=(T.set j a).set m b),dr,aO,ck,aF]
def SE{S:Z}{j:Nat}{r:Rd}{n:Nat}{u:B}(c:S[j]? =J (fS j r))(a:Nat)(e:a<=n)(f:n<=8)(h:rI r (cF n++u)):W ax X 259 [.P j 0,.I U (a:Int)] S=J (.I Y (n:Int),S.set j (fS j (r.go (cF n).length))):=by simp[j6 ayL,oq c V h,zX (Ku c (r.go (cF n).length)) h.go,(rfl:dX .neq (.kN fW) G .c_ .c_=J (.B O)),(cG V:dt Y (n:Int)=(n:Int)),(eq_false V:((8:Int)<(n:Int))=False),(eq_false V:((n:Int)<(a:Int))=False),(λb=>og bW:∀b,(S.set j b).take S.length=S.set j b)]
def sb4(m:Nat)(ws:List B):cZ:=.M [.I Y 4,bL m 0 1 (sJ ws),.aw] (if ws.length=0 then[]else[J ws.length]) O
def sb5(m:Nat)(ws:List B)(ps:List bJ):cZ:=.M [.I Y 5,bL m 0 1 (sJ ws),bL m 1 3 (DO ps)] (iE ws.length ps.length) O
section
variable{S:Z}{j d:Nat}(z:cZ)
def MM(b:List B)(E:b.length<=8)(I:j5 [] b=G)(v:∀w∈b,fL w=G):
 ∀e i(r:Rd)(u:B)(ae:bV),i+e=b.length->S[j]? =J (fS j r)->∀c:Rd,rI c ((b.drop i).flatMap aZ++u)->
 DC ax X (.L DD) ⟨[(0,.P j 0),(4,.P S.length 0),(5,.P (S.length+1) 0),(29,.I Y (b.length:Int)),(30,.I Y (i:Int))],ae,S.length⟩ (iY S j c z (sb4 (S.length+1) (b.take i)))=
  J (.E 1,⟨[(0,.P j 0),(4,.P S.length 0),(5,.P (S.length+1) 0)],ae,S.length⟩,iY S j (c.go ((b.drop i).flatMap aZ).length) z (sb4 (S.length+1) b)):=by
 intro e;induction e with
 |zero=>
  intro i r u ae t f c k;simp[aj,aN oP,(jX V:b.drop i=[]),(og V:b.take i=b),(V:¬i<b.length),Rd.go]
 |succ e y=>
  intro i r u ae t f c k;have o:i<b.length:=V;have A:=(lQ.1 f).1;have⟨a,n,s⟩:=aT (l:=b) (i:=i) o;have p:=aQ (i:=i) V;have T:b.take (i+1)=b.take i++[a]:=by rw[vG,n];rfl
  have P:(b.take i).length=i:=by grind
  rw[bf n,Ds]at k⊢;rw[sC]at k;have x:j5 [] (b.take i++[a])=G:=by grind [Md,List.take_append_drop]
  have m:=acr (su f c z (sb4 (S.length+1) (b.take i))) (pW S j c z (sb4 (S.length+1) (b.take i))) V (λh=>by grind) (λh=>by simp_all) V (v a (gR n)) 261 rfl rfl (λS=>by grind [yr]) k;rw[vy f,qP]at m;have q:cZ.M [.I Y 4,bL (S.length+1) 0 1 (sJ (b.take i++[a])),.aw] (up0 (if(b.take i).length=0 then[]else[J (b.take i).length]) (b.take i).length) O=sb4 (S.length+1) (b.take (i+1)):=by grind [sb4,up0]
  rw[q]at m;have g:=y (i+1) r u ae V f _ k.go;rw[aj,aN oP];simp at g p m;simp[o,m,dh];rw[ab oP];simp[p,g]
def MN(v:bJ)(hl:v.aG.length<=8)(NH:v.aq.length=v.aG.length)(hg:goN M v.aG=G)(hd:d<1000)
 (hF:∀x∈v.aq,∀(S:Z)(r:Rd)(u:B),S[j]? =J (fS j r)->rI r (x.bytes++u)->W ax X 236 [.P j 0,.I Y (d:Int)] S=J (.A x.ao,S.set j (fS j (r.go x.bytes.length)))):
 ∀e i(r:Rd)(u:B)(ae:bV),i+e=v.aG.length->S[j]? =J (fS j r)->∀c:Rd,rI c (bJ.eH (v.aG.drop i) (v.aq.drop i)++u)->
 ∃aV,DC ax X (.L DE) ⟨[(0,.P j 0),(1,.I Y ((d:Int)+1)),(4,.P S.length 0),(5,.P (S.length+1) 0),(38,.I Y (v.aG.length:Int)),(39,.I Y (i:Int))],ae,S.length⟩ (iY S j c z (sb5 (S.length+1) (v.aG.take i) (v.aq.take i)))=
  J (.E 3,⟨[(0,.P j 0),(4,.P S.length 0),(5,.P (S.length+1) 0)],aV,S.length⟩,iY S j (c.go (bJ.eH (v.aG.drop i) (v.aq.drop i)).length) z (sb5 (S.length+1) v.aG v.aq)):=by
 intro e;induction e with
 |zero=>
  intro i r u ae hi f c k;refine⟨ae, ?_⟩;simp[aj,aN oQ,(jX V:v.aG.drop i=[]),(og V:v.aG.take i=v.aG),(og V:v.aq.take i=v.aq),(V:¬i<v.aG.length),bJ.eH,Rd.go]
 |succ e ih=>
  intro i r u ae hi f c k;have P:i<v.aG.length:=V;have hj:j<S.length:=(lQ.1 f).1;have⟨a,s,ha'⟩:=aT (l:=v.aG) (i:=i) P;have⟨y,w,hy'⟩:=aT (l:=v.aq) (i:=i) V;have T:=aQ (i:=i) V;have g:dt Y ((d:Int)+1 -1)=(d:Int):=by rw[cG V];omega
  have tN:v.aG.take (i+1)=v.aG.take i++[a]:=by rw[vG,s];rfl
  have tP:v.aq.take (i+1)=v.aq.take i++[y]:=by rw[vG,w];rfl
  have lN:(v.aG.take i).length=i:=by grind
  have lP:(v.aq.take i).length=i:=by grind
  rw[bf s,bf w,bJ.eH]at k⊢;rw[sC,sC]at k;have A:=k.go;have hgp:goN M (v.aG.take i++[a])=G:=by grind [Rd.UD,List.take_append_drop]
  have q:∀S,W ax X 262 [dI (v.aG.take i++[a])] S=J (.B G,S):=λS=>by grind [DP,So]
  have m:=acr (su f c z (sb5 (S.length+1) (v.aG.take i) (v.aq.take i))) (pW S j c z (sb5 (S.length+1) (v.aG.take i) (v.aq.take i))) V (λh=>by rw[h];rfl) (λh=>by grind [iE]) V (BB _ _ hg a (gR s)) 262 rfl rfl q k;rw[vy f,qP]at m;have eb:up0 (iE (v.aG.take i).length (v.aq.take i).length) (v.aG.take i).length=iE (i+1) i:=by grind [up0,iE]
  rw[eb]at m;have E:=hF y (gR w) _ _ _ (su f (c.go (aZ a).length) z (.M [.I Y 5,bL (S.length+1) 0 1 (sJ (v.aG.take i++[a])),bL (S.length+1) 1 3 (DO (v.aq.take i))] (iE (i+1) i) O)) A;rw[vy f]at E;have⟨v3,t3,S3,t4,I,p⟩:=arV (sz:=3) (es:=DO (v.aq.take i)) (x:=y.ao) (n:=i) (o:=2) ae (pW S j ((c.go (aZ a).length).go y.bytes.length) z (.M [.I Y 5,bL (S.length+1) 0 1 (sJ (v.aG.take i++[a])),bL (S.length+1) 1 3 (DO (v.aq.take i))] (iE (i+1) i) O)) (by simp;omega) V bW (by rw[<-acq];exact GP _);rw[qP,<-acq]at p;have b2:cZ.M (aM [.I Y 5,bL (S.length+1) 0 1 (sJ (v.aG.take i++[a])),bL (S.length+1) 1 3 (DO (v.aq.take i))] 2 [bL (S.length+1) 1 3 (DO (v.aq.take i++[y]))]) (iE (i+1) (i+1)) O=
   sb5 (S.length+1) (v.aG.take (i+1)) (v.aq.take (i+1)):=by
   grind [sb5,aM]
  rw[b2]at p;have es:(c.go (aZ a).length).go y.bytes.length=c.go ((aZ a).length+y.bytes.length):=bW;have⟨aV,t⟩:=ih (i+1) r u t4 V f _ A.go;refine⟨aV, ?_⟩;rw[(by simp[Rd.go,Dh]:(((c.go (aZ a).length).go y.bytes.length).go (bJ.eH (v.aG.drop (i+1)) (v.aq.drop (i+1))).length)=c.go (aZ a++(y.bytes++bJ.eH (v.aG.drop (i+1)) (v.aq.drop (i+1)))).length)]at t;have ll:∀es,fV (bL (S.length+1) 1 3 es)=J (.I Y (es.length:Int)):=λes=>by unfold bL;cases es<;>rfl
  have bo:ff 3 [[.I Y 0,.aw,.aw]] [(0,.A y.ao)]=J [y.ao]:=by simp_all[ff]
  have bz:ff 3 [[.I Y 0,.aw,.aw]] [(0,.A [.I Y 0,.aw,.aw])]=J [[.I Y 0,.aw,.aw]]:=rfl;simp only[es]at I p;rw[aj,aN oQ];simp at t T g m;simp[P,m,dh,(λr1 b=>nX .. :∀r1 b,aX (iY S j r1 z (.M [.I Y 5,bL (S.length+1) 0 1 b,bL (S.length+1) 1 3 (DO (v.aq.take i))] (iE (i+1) i) O)) .C (.P (S.length+1) 2)=J (bL (S.length+1) 1 3 (DO (v.aq.take i)))),g,E,ll,bz,bo,I,p];rw[ab oQ];simp[T,t]
end
end
def zt(k:Int)(a b:Q)(c:List B)(ps:List bJ)(d:dF a=dI c)(e:dF b=rW ps):
 cd (.A [.I Y k,a,b])=.A (bJ.mk k c ps).ao:=by
 rw[bJ.jI];show AV.A [_,dF a,dF b]=_;rw[d,e];rfl
def Cg(k:Int):cZ:=.M [.I Y k,.aw,.aw] [] O
def aee:∀(d:Nat)(v:bJ),v.Wf->v.bw d=G->d<1000->∀(S:Z)(j:Nat)(r:Rd)(u:B),S[j]? =J (fS j r)->rI r (v.bytes++u)->
 W ax X 236 [.P j 0,.I Y (d:Int)] S=J (.A v.ao,S.set j (fS j (r.go v.bytes.length))):=by
 intro d;induction d with
 |zero=>nofun
 |succ d ih=>
  intro v hv h hd S j r u hS hr;have a:=bJ.ia h;have hj:j<S.length:=(lQ.1 hS).1;have lb:=v.oI;rw[lb]at hr;have R1:=hr.go1;have hS1:∀b,(S++[b])[j]? =J (fS j r):=λb=>dH _ hS;have A:=Jd (hS1 (.M [.I Y 0,.aw,.aw] [] O)) hr;rw[ig _ hj]at A;have hk:((cq v.ak.toNat).toNat:Int)=v.ak:=by have:=a.ak;rw[rU];omega
  rw[hk]at A;have T:dt Y v.ak=v.ak:=by have:=a.ak;exact cG V
  have T1:(S.set j (fS j (r.go 1))).length=S.length:=bW;have sg:=λf b=>su hS f (.M [.I Y 0,.aw,.aw] [] O) b;have ss:=λf r'' b=>vy hS f r'' (.M [.I Y 0,.aw,.aw] [] O) b;have tkS:∀f z b,(iY S j f z b).take S.length=S.set j (fS j f):=λf z b=>by grind [iY]
  have d0:¬((d:Int)+1=0):=V;have hd1:dt Y (d:Int)=(d:Int):=cG V;have b0:dX .neq (.kN fW) G .c_ .c_=J (.B O):=rfl;have fk:∀k:Int,dj [.I Y 0,.aw,.aw] [(0,1,.I Y k)]=J [.I Y k,.aw,.aw]:=λ_=>rfl;have er:=λ{f:Rd}{u':B}(b:cZ)(h':rI f u')=>zX (sg f b) h';have P:∀k:Int,bd [] S.length (S.set j (fS j (r.go 1))++[.M [.I Y 0,.aw,.aw] [] O,.M [.I Y 0,.aw,.aw] [] O]) 3 (.P (S.length+1) 0) (.A [.I Y k,.aw,.aw])=J ([],iY S j (r.go 1) (.M [.I Y 0,.aw,.aw] [] O) (Cg k)):=λk=>by rw[Mx T1 rfl];rfl
  have E:∀(g:bV) f(m:F) bt,m.length=3->dv (m.map aW)=G->bd g S.length (iY S j f (.M [.I Y 0,.aw,.aw] [] O) (.M m bt O)) 3 (.P S.length 0) (.A (m.map aW))=J (g,iY S j f (.M (m.map aW) [] O) (.M m bt O)):=λg f m bt hc hp=>by simp_all[iY,Aw]
  have la:∀f z(m:F) bt,m.length=3->aX (iY S j f z (.M m bt O)) (.A 3) (.P (S.length+1) 0)=J (.A (m.map aW)):=λf z m bt hc=>by rw[nX];exact fQ m hc
  have lz:∀f(m:F) b,m.length=3->(m.map aW).map aW=m.map aW->aX (iY S j f (.M (m.map aW) [] O) b) (.A 3) (.P S.length 0)=J (.A (m.map aW)):=λf m b hc hs=>by simp_all[iY,lT0,fQ]
  have I:∀f(g:bV)(m:F) b(w:bJ),cd (.A (m.map aW))=.A w.ao->dr 236 g [.A (m.map aW)] S (iY S j f (.M (m.map aW) [] O) b)=J (.A w.ao,S.set j (fS j f)):=λf g m b w t=>by simp[uw,t,cI,tkS]
  have l0:∀f k,aX (iY S j f (.M [.I Y 0,.aw,.aw] [] O) (Cg k)) .C (.P (S.length+1) 0)=J (.I Y k):=λf k=>nX ..;have c:=er (Cg v.ak) R1;have q0:∀ws:List B,∀(i:Nat),aW (bL i 0 1 (sJ ws))=eU 1 (sJ ws):=λws i=>rQ ..;rw[j6 ayo];rcases a.ak with k|k|k|k|k|k
  ·have⟨h1,h2⟩:=a.k13 (.inl k)
   have ev:bJ.mk 1 [] []=v:=bJ.tM k h1 h2;have eb:v.bytes=[cq v.ak.toNat]:=by simp_all[bJ.gw]
   have t:=zt 1 .aw .aw [] [] rfl rfl;rw[ev]at t;have p:bd [] S.length (iY S j (r.go 1) (.M [.I Y 0,.aw,.aw] [] O) (Cg 1)) 3 (.P S.length 0) (.A [.I Y 1,.aw,.aw])=J ([],iY S j (r.go 1) (Cg 1) (Cg 1)):=E [] (r.go 1) [.I Y 1,.aw,.aw] [] rfl rfl;have q:aX (iY S j (r.go 1) (.M [.I Y 0,.aw,.aw] [] O) (Cg 1)) (.A 3) (.P (S.length+1) 0)=J (.A [.I Y 1,.aw,.aw]):=la (r.go 1) _ [.I Y 1,.aw,.aw] [] rfl;have e:aX (iY S j (r.go 1) (Cg 1) (Cg 1)) (.A 3) (.P S.length 0)=J (.A [.I Y 1,.aw,.aw]):=lz (r.go 1) [.I Y 1,.aw,.aw] (Cg 1) rfl rfl;have n:dr 236 [] [.A [.I Y 1,.aw,.aw]] S (iY S j (r.go 1) (Cg 1) (Cg 1))=J (.A v.ao,S.set j (fS j (r.go 1))):=I (r.go 1) [] [.I Y 1,.aw,.aw] (Cg 1) v t;rw[k]at A T c;rw[eb];simp at n;simp[d0,A,T,fk,P,c,b0,l0,q,p,e,n]
  ·have⟨h1,h2⟩:=a.k13 (.inr (.inl k))
   have ev:bJ.mk 2 [] []=v:=bJ.tM k h1 h2;have eb:v.bytes=[cq v.ak.toNat]:=by simp_all[bJ.gw]
   have t:=zt 2 .aw .aw [] [] rfl rfl;rw[ev]at t;have p:bd [] S.length (iY S j (r.go 1) (.M [.I Y 0,.aw,.aw] [] O) (Cg 2)) 3 (.P S.length 0) (.A [.I Y 2,.aw,.aw])=J ([],iY S j (r.go 1) (Cg 2) (Cg 2)):=E [] (r.go 1) [.I Y 2,.aw,.aw] [] rfl rfl;have q:aX (iY S j (r.go 1) (.M [.I Y 0,.aw,.aw] [] O) (Cg 2)) (.A 3) (.P (S.length+1) 0)=J (.A [.I Y 2,.aw,.aw]):=la (r.go 1) _ [.I Y 2,.aw,.aw] [] rfl;have e:aX (iY S j (r.go 1) (Cg 2) (Cg 2)) (.A 3) (.P S.length 0)=J (.A [.I Y 2,.aw,.aw]):=lz (r.go 1) [.I Y 2,.aw,.aw] (Cg 2) rfl rfl;have n:dr 236 [] [.A [.I Y 2,.aw,.aw]] S (iY S j (r.go 1) (Cg 2) (Cg 2))=J (.A v.ao,S.set j (fS j (r.go 1))):=I (r.go 1) [] [.I Y 2,.aw,.aw] (Cg 2) v t;rw[k]at A T c;rw[eb];simp at n;simp[d0,A,T,fk,P,c,b0,l0,q,p,e,n]
  ·have⟨h1,h2⟩:=a.k13 (.inr (.inr k))
   have ev:bJ.mk 3 [] []=v:=bJ.tM k h1 h2;have eb:v.bytes=[cq v.ak.toNat]:=by simp_all[bJ.gw]
   have t:=zt 3 .aw .aw [] [] rfl rfl;rw[ev]at t;have p:bd [] S.length (iY S j (r.go 1) (.M [.I Y 0,.aw,.aw] [] O) (Cg 3)) 3 (.P S.length 0) (.A [.I Y 3,.aw,.aw])=J ([],iY S j (r.go 1) (Cg 3) (Cg 3)):=E [] (r.go 1) [.I Y 3,.aw,.aw] [] rfl rfl;have q:aX (iY S j (r.go 1) (.M [.I Y 0,.aw,.aw] [] O) (Cg 3)) (.A 3) (.P (S.length+1) 0)=J (.A [.I Y 3,.aw,.aw]):=la (r.go 1) _ [.I Y 3,.aw,.aw] [] rfl;have e:aX (iY S j (r.go 1) (Cg 3) (Cg 3)) (.A 3) (.P S.length 0)=J (.A [.I Y 3,.aw,.aw]):=lz (r.go 1) [.I Y 3,.aw,.aw] (Cg 3) rfl rfl;have n:dr 236 [] [.A [.I Y 3,.aw,.aw]] S (iY S j (r.go 1) (Cg 3) (Cg 3))=J (.A v.ao,S.set j (fS j (r.go 1))):=I (r.go 1) [] [.I Y 3,.aw,.aw] (Cg 3) v t;rw[k]at A T c;rw[eb];simp at n;simp[d0,A,T,fk,P,c,b0,l0,q,p,e,n]
  ·have h4:=a.k4 k
   have ev:bJ.mk 4 v.aG []=v:=bJ.tM k rfl h4.2.2.2.2;have eb:v.bytes=[cq v.ak.toNat]++(cF v.aG.length++v.aG.flatMap aZ):=by simp_all
   have wl1:1<=v.aG.length:=by grind
   have s:rI (r.go 1) (cF v.aG.length++(v.aG.flatMap aZ++u)):=by simp_all
   have c2:=SE (sg (r.go 1) (Cg 4)) 1 wl1 h4.2.1 s;rw[ss]at c2;have R2:=s.go;have lp:=MM (S:=S) (j:=j) (.M [.I Y 0,.aw,.aw] [] O) v.aG h4.2.1 h4.2.2.2.1 h4.2.2.1 v.aG.length 0 r u [] V hS _ R2;have R3:=R2.go;have hvb:sb4 (S.length+1) v.aG=.M [.I Y 4,bL (S.length+1) 0 1 (sJ v.aG),.aw] [J v.aG.length] O:=by unfold sb4;simp_all
   have y:[AV.I Y 4,bL (S.length+1) 0 1 (sJ v.aG),.aw].map aW=[.I Y 4,eU 1 (sJ v.aG),.aw]:=by simp only[ND,TH,rQ];rfl
   have q1:=pJ (sz:=1) (B4 v.aG);have NH:dv ([AV.I Y 4,bL (S.length+1) 0 1 (sJ v.aG),.aw].map aW)=G:=by rw[y];simp[dv,br,q1.2]
   have Y6:([AV.I Y 4,bL (S.length+1) 0 1 (sJ v.aG),.aw].map aW).map aW=[AV.I Y 4,bL (S.length+1) 0 1 (sJ v.aG),.aw].map aW:=by simp_all
   have t:=zt 4 (eU 1 (sJ v.aG)) .aw v.aG [] (Lf _) rfl;rw[ev]at t;have n:=I (((r.go 1).go (cF v.aG.length).length).go (v.aG.flatMap aZ).length) [] [AV.I Y 4,bL (S.length+1) 0 1 (sJ v.aG),.aw] (sb4 (S.length+1) v.aG) v (by simp_all);have l:=er (sb4 (S.length+1) v.aG) R3;have p:=E [] (((r.go 1).go (cF v.aG.length).length).go (v.aG.flatMap aZ).length) _ [J v.aG.length] rfl NH;have q:=la (((r.go 1).go (cF v.aG.length).length).go (v.aG.flatMap aZ).length) (.M [.I Y 0,.aw,.aw] [] O) [.I Y 4,bL (S.length+1) 0 1 (sJ v.aG),.aw] [J v.aG.length] rfl;have e:=lz (((r.go 1).go (cF v.aG.length).length).go (v.aG.flatMap aZ).length) _ (sb4 (S.length+1) v.aG) rfl Y6;rw[<-hvb]at q p;simp only[y]at p q e n;have v00:sb4 (S.length+1) []=Cg 4:=rfl;rw[k]at A T c;rw[eb];simp[v00, -List.length_flatMap]at c2 lp l p q e n;simp[d0,A,T,fk,P,c,b0,l0,c2, -List.length_flatMap];rw[ab oP];simp[lp,l,b0,q,p,e,n, -List.length_flatMap]
   grind
  ·have h5:=a.k5 k
   have ev:bJ.mk 5 v.aG v.aq=v:=bJ.tM k rfl rfl;have eb:v.bytes=[cq v.ak.toNat]++(cF v.aG.length++bJ.eH v.aG v.aq):=by simp_all
   have s:rI (r.go 1) (cF v.aG.length++(bJ.eH v.aG v.aq++u)):=by simp_all
   have c2:=SE (sg (r.go 1) (Cg 5)) 0 V h5.2.1 s;rw[ss]at c2;have R2:=s.go;have⟨g,lp⟩:=MN (S:=S) (j:=j) (d:=d) (.M [.I Y 0,.aw,.aw] [] O) v h5.2.1 h5.2.2 h5.1 V (λx hx S r u h1 h2=>ih x (hv.all x hx) (a.all x hx) V S j r u h1 h2) v.aG.length 0 r u [] V hS _ R2;have R3:=R2.go;have hvb:sb5 (S.length+1) v.aG v.aq=.M [.I Y 5,bL (S.length+1) 0 1 (sJ v.aG),bL (S.length+1) 1 3 (DO v.aq)] (iE v.aG.length v.aq.length) O:=rfl;have y:[AV.I Y 5,bL (S.length+1) 0 1 (sJ v.aG),bL (S.length+1) 1 3 (DO v.aq)].map aW=[.I Y 5,eU 1 (sJ v.aG),eU 3 (DO v.aq)]:=by simp_all[rQ]
   have q1:=pJ (sz:=1) (B4 v.aG);have q2:=pJ (sz:=3) (GP v.aq);have NH:dv ([AV.I Y 5,bL (S.length+1) 0 1 (sJ v.aG),bL (S.length+1) 1 3 (DO v.aq)].map aW)=G:=by simp_all[dv]
   have Y6:([AV.I Y 5,bL (S.length+1) 0 1 (sJ v.aG),bL (S.length+1) 1 3 (DO v.aq)].map aW).map aW=[AV.I Y 5,bL (S.length+1) 0 1 (sJ v.aG),bL (S.length+1) 1 3 (DO v.aq)].map aW:=by simp_all
   have t:=zt 5 (eU 1 (sJ v.aG)) (eU 3 (DO v.aq)) v.aG v.aq (Lf _) (SD _);rw[ev]at t;have n:=I (((r.go 1).go (cF v.aG.length).length).go (bJ.eH v.aG v.aq).length) g [AV.I Y 5,bL (S.length+1) 0 1 (sJ v.aG),bL (S.length+1) 1 3 (DO v.aq)] (sb5 (S.length+1) v.aG v.aq) v (by simp_all);have l:=er (sb5 (S.length+1) v.aG v.aq) R3;have p:=E g (((r.go 1).go (cF v.aG.length).length).go (bJ.eH v.aG v.aq).length) _ (iE v.aG.length v.aq.length) rfl NH;have q:=la (((r.go 1).go (cF v.aG.length).length).go (bJ.eH v.aG v.aq).length) (.M [.I Y 0,.aw,.aw] [] O) [.I Y 5,bL (S.length+1) 0 1 (sJ v.aG),bL (S.length+1) 1 3 (DO v.aq)] (iE v.aG.length v.aq.length) rfl;have e:=lz (((r.go 1).go (cF v.aG.length).length).go (bJ.eH v.aG v.aq).length) _ (sb5 (S.length+1) v.aG v.aq) rfl Y6;rw[<-hvb]at q p;simp only[y]at p q e n;have v00:sb5 (S.length+1) [] []=Cg 5:=rfl;rw[k]at A T c;rw[eb];simp[v00]at c2 lp l p q e n;simp[d0,A,T,fk,P,c,b0,l0,c2];rw[ab oQ];simp[lp,l,b0,q,p,e,n]
   grind
  ·have⟨hw0,hp1⟩:=a.k6 k
   have⟨x,hx⟩:=ED.1 hp1;have ev:bJ.mk 6 [] [x]=v:=bJ.tM k hw0 hx;have eb:v.bytes=[cq v.ak.toNat]++x.bytes:=by simp_all[bJ.gw]
   have s:rI (r.go 1) (x.bytes++u):=by simp_all
   have c2:=ih x (hv.all x (by grind)) (a.all x (by grind)) V _ j (r.go 1) u (sg (r.go 1) (Cg 6)) s;rw[ss]at c2;have R2:=s.go;have hm:(iY S j ((r.go 1).go x.bytes.length) (.M [.I Y 0,.aw,.aw] [] O) (Cg 6))[S.length+1]? =J (.M [.I Y 6,.aw,bL (S.length+1) 0 3 []] [] O):=pW ..;have⟨v3,t3,S3,t4,p1,p2⟩:=arY (sz:=3) (es:=[]) (x:=x.ao) (o:=2) [] 0 hm (λ_=>rfl) (λh=>absurd rfl h) bW bW (GP [x]);rw[qP]at p2;have ra0:bL (S.length+1) 0 3 []=.aw:=rfl;rw[ra0]at p1;have hvb:cZ.M (aM [.I Y 6,.aw,.aw] 2 [bL (S.length+1) 0 3 ([]++[x.ao])]) ([]++[J 1]) O=.M [.I Y 6,.aw,bL (S.length+1) 0 3 (DO [x])] [J 1] O:=rfl;have hp2:∀nb,bd t3 nb S3 1 (.P (S.length+1) 2) v3=J (t4,iY S j ((r.go 1).go x.bytes.length) (.M [.I Y 0,.aw,.aw] [] O) (.M [.I Y 6,.aw,bL (S.length+1) 0 3 (DO [x])] [J 1] O)):=λnb=>by simp_all
   have y:[AV.I Y 6,.aw,bL (S.length+1) 0 3 (DO [x])].map aW=[.I Y 6,.aw,eU 3 (DO [x])]:=by rfl
   have q2:=pJ (sz:=3) (GP [x]);have NH:dv ([AV.I Y 6,.aw,bL (S.length+1) 0 3 (DO [x])].map aW)=G:=by rw[y];simp[dv,br,q2.2]
   have Y6:([AV.I Y 6,.aw,bL (S.length+1) 0 3 (DO [x])].map aW).map aW=[AV.I Y 6,.aw,bL (S.length+1) 0 3 (DO [x])].map aW:=by rfl
   have t:=zt 6 .aw (eU 3 (DO [x])) [] [x] rfl (SD _);rw[ev]at t;have n:=I ((r.go 1).go x.bytes.length) t4 [AV.I Y 6,.aw,bL (S.length+1) 0 3 (DO [x])] (.M [.I Y 6,.aw,bL (S.length+1) 0 3 (DO [x])] [J 1] O) v (by trivial);have l:=er (.M [.I Y 6,.aw,bL (S.length+1) 0 3 (DO [x])] [J 1] O) R2;have p:=E t4 ((r.go 1).go x.bytes.length) _ [J 1] rfl NH;have q:=la ((r.go 1).go x.bytes.length) (.M [.I Y 0,.aw,.aw] [] O) [.I Y 6,.aw,bL (S.length+1) 0 3 (DO [x])] [J 1] rfl;have e:=lz ((r.go 1).go x.bytes.length) _ (.M [.I Y 6,.aw,bL (S.length+1) 0 3 (DO [x])] [J 1] O) rfl Y6;simp only[y]at p q e n;have ld2:∀f,aX (iY S j f (.M [.I Y 0,.aw,.aw] [] O) (Cg 6)) .C (.P (S.length+1) 2)=J .aw:=λf=>nX ..;have bo:ff 3 [[.I Y 0,.aw,.aw]] [(0,.A x.ao)]=J [x.ao]:=by have:=(bJ.jh x).jg;simp[ff,aW,AV.cells,aU]
   have bz:ff 3 [[.I Y 0,.aw,.aw]] [(0,.A [.I Y 0,.aw,.aw])]=J [[.I Y 0,.aw,.aw]]:=rfl;rw[k]at A T c;rw[eb];generalize bL (S.length+1) 0 3 (DO [x])=row at*;simp at c2 l p q e n p1 hp2;simp[d0,hd1,A,T,fk,P,c,b0,l0,ld2,c2,fV,bo,bz,p1,hp2,l,q,p,e,n]
   grind
def SF{S:Z}{j:Nat}{r:Rd}{u:B}(v:bJ)(i:v.Wf)(h:v.bw 5=G)(d:S[j]? =J (fS j r))(f:rI r (v.bytes++u)):
 W ax X 183 [.P j 0] S=J (.A v.ao,S.set j (fS j (r.go v.bytes.length))):=by
 have e:=aee 5 v i h V (S++[.M [.I Y 0,.aw,.aw] [] O]) j r u (dH _ d) f;rw[ig _ ((lQ.1 d).1)]at e;have c:(S.set j (fS j (r.go v.bytes.length))).length=S.length:=bW;have m:=Aw c (bJ.jh v).br [.M [.I Y 0,.aw,.aw] [] O] 0 [] S.length 3;have l:aX (S.set j (fS j (r.go v.bytes.length))++[.M v.ao [] O]) (.A 3) (.P S.length 0)=J (.A v.ao):=by rw[lT0 c];simp
 have k:∀b a,(S.set j b++a).take S.length=S.set j b:=λb a=>by simp
 have g:aM [.I Y 0,.aw,.aw] 0 v.ao=v.ao:=dT bW;rw[jr axS];simp_all
section
def XL{S:Z}{j:Nat}{r:Rd}{s o u:B}(hS:S[j]? =J (fS j r))(d:fL s=G)(a:s≠o)(h:rI r (aZ s++u)):
 W ax X 180 [.P j 0,.S o] S=J (.S s,S.set j (fS j (r.go (aZ s).length))):=by
 have e:=ie d;have c:=nC s V (S.set j (fS j (r.go (aZ s).length)));rw[d]at c;simp[j6 axP,JL hS V h,c,a,(λb=>og bW:∀b,(S.set j b).take S.length=S.set j b),bU]
def Ml{S:Z}{j:Nat}{r:Rd}{u:B}(v:bu)(o:v.Wf)(h:v.bw 5=G)(hS:S[j]? =J (fS j r))(k:rI r (v.bytes++u))(g:FuncId)(n:nk.sN g=M)(a:uj g=O)
 (l:∀T,W ax X g [.A v.ao] T=J (.B G,T)):W ax X 185 [.P j 0,.fn g [] []] S=J (.A v.ao,S.set j (fS j (r.go v.bytes.length))):=by
 have i:=JM v o h (dH [.M ah [] O] hS) k;rw[ig _ ((lQ.1 hS).1)]at i;have c:(S.set j (fS j (r.go v.bytes.length))).length=S.length:=bW;have p:bd [] S.length (S.set j (fS j (r.go v.bytes.length))++[.M ah [] O,.M ah [] O]) 6 (.P (S.length+1) 0) (.A v.ao)=J ([],iY S j (r.go v.bytes.length) (.M ah [] O) (.M v.ao [] O)):=by simp[Mx c (bu.jh v).br,(dT bW:aM ah 0 v.ao=v.ao),iY]
 have e:bd [] S.length (iY S j (r.go v.bytes.length) (.M ah [] O) (.M v.ao [] O)) 6 (.P S.length 0) (.A v.ao)=J ([],iY S j (r.go v.bytes.length) (.M v.ao [] O) (.M v.ao [] O)):=by unfold iY;simp[Aw c (bu.jh v).br]
 have f:∀d z b,(iY S j d z b).take S.length=S.set j (fS j d):=λd z b=>by grind [iY]
 rw[j6 aoc];simp[i,p,zX (su hS (r.go v.bytes.length) (.M ah [] O) (.M v.ao [] O)) k.go,(rfl:dX .eql (.kN fW) G .c_ .c_=J (.B G)),(by rw[nX];simp:aX (iY S j (r.go v.bytes.length) (.M ah [] false) (.M v.ao [] false)) (.A 6) (.P (S.length+1) 0)=some (.A v.ao)),n,a,l,bU,e,(by unfold iY;rw[lT0 c];simp:aX (iY S j (r.go v.bytes.length) (.M v.ao [] false) (.M v.ao [] false)) (.A 6) (.P S.length 0)=some (.A v.ao)),f]
def Ge{S:Z}{j m:Nat}{r:Rd}{u:B}(v:bu)(o:v.Wf)(h:v.bw 5=G)(hS:S[j]? =J (fS j r))(l:rI r (v.bytes++u))(g:FuncId)(n:nk.sN g=M)(a:uj g=O)
 (k:W ax X g [.A v.ao,.P m 0] (iY S j (r.go v.bytes.length) (.M ah [] O) (.M v.ao [] O))=J (.B G,iY S j (r.go v.bytes.length) (.M ah [] O) (.M v.ao [] O))):
 W ax X 185 [.P j 0,.fn g [] [.P m 0]] S=J (.A v.ao,S.set j (fS j (r.go v.bytes.length))):=by
 have i:=JM v o h (dH [.M ah [] O] hS) l;rw[ig _ ((lQ.1 hS).1)]at i;have c:(S.set j (fS j (r.go v.bytes.length))).length=S.length:=bW;have p:bd [] S.length (S.set j (fS j (r.go v.bytes.length))++[.M ah [] O,.M ah [] O]) 6 (.P (S.length+1) 0) (.A v.ao)=J ([],iY S j (r.go v.bytes.length) (.M ah [] O) (.M v.ao [] O)):=by simp[Mx c (bu.jh v).br,(dT bW:aM ah 0 v.ao=v.ao),iY]
 have e:bd [] S.length (iY S j (r.go v.bytes.length) (.M ah [] O) (.M v.ao [] O)) 6 (.P S.length 0) (.A v.ao)=J ([],iY S j (r.go v.bytes.length) (.M v.ao [] O) (.M v.ao [] O)):=by unfold iY;simp[Aw c (bu.jh v).br]
 have f:∀d z b,(iY S j d z b).take S.length=S.set j (fS j d):=λd z b=>by grind [iY]
 rw[j6 aoc];simp at k;simp[i,p,zX (su hS (r.go v.bytes.length) (.M ah [] O) (.M v.ao [] O)) l.go,(rfl:dX .eql (.kN fW) G .c_ .c_=J (.B G)),(by rw[nX];simp:aX (iY S j (r.go v.bytes.length) (.M ah [] false) (.M v.ao [] false)) (.A 6) (.P (S.length+1) 0)=some (.A v.ao)),n,a,k,bU,e,(by unfold iY;rw[lT0 c];simp:aX (iY S j (r.go v.bytes.length) (.M v.ao [] false) (.M v.ao [] false)) (.A 6) (.P S.length 0)=some (.A v.ao)),f]
def lU(k:Int)(a b:B)(ts xs ys:F)(pr ir:Q):F:=[.I Y k,.S a,.S b]++(ts++(xs++(ys++[pr,ir])))
theorem pD{k:Int}{a b:B}{c xs ys:F}{pr ir:Q}(d:c.length=3)(e:xs.length=6)(f:ys.length=6):(lU k a b c xs ys pr ir).length=20:=by simp[lU,d,e,f]
def aoD{k:Int}{a b:B}{d xs ys:F}{pr ir:Q}(e:d.length=3)(f:d.map aW=d):dx (.A 3) (lU k a b d xs ys pr ir) 3=J (.A d):=
 lC (a:=[.I Y k,.S a,.S b]) (b:=d) (c:=xs++(ys++[pr,ir])) rfl rfl e f
def aAk{k:Int}{a b:B}{c xs ys:F}{pr ir:Q}(d:c.length=3)(e:xs.length=6)(f:ys.length=6):(lU k a b c xs ys pr ir)[18]? =J pr:=by simp_all[lU]
theorem mc{l a b c b':F}{off:Nat}(f:l=a++(b++c))(d:a.length=off)(e:b'.length=b.length):aM l off b'=a++(b'++c):=by grind [aM]
def arZ{k:Int}{a b:B}{e xs ys:F}{pr d ir:Q}(f:e.length=3)(g:xs.length=6)(h:ys.length=6):aM (lU k a b e xs ys pr ir) 18 [d]=lU k a b e xs ys d ir:=by exact(mc (l:=lU k a b e xs ys pr ir) (off:=18) (b':=[d]) (a:=[.I Y k,.S a,.S b]++(e++(xs++ys))) (b:=[pr]) (c:=[ir]) (by simp[lU]) (by simp_all) rfl).trans (by simp[lU])
def ar0{k:Int}{a b:B}{e xs ys:F}{pr ir d:Q}(f:e.length=3)(g:xs.length=6)(h:ys.length=6):aM (lU k a b e xs ys pr ir) 19 [d]=lU k a b e xs ys pr d:=by exact(mc (l:=lU k a b e xs ys pr ir) (off:=19) (b':=[d]) (a:=[.I Y k,.S a,.S b]++(e++(xs++(ys++[pr])))) (b:=[ir]) (c:=[]) (by simp[lU]) (by simp_all) rfl).trans (by simp[lU])
def ajl{k:Int}{a b:B}{e d xs ys:F}{pr ir:Q}(g:e.length=3)(f:d.length=3):aM (lU k a b e xs ys pr ir) 3 d=lU k a b d xs ys pr ir:=by exact(mc (l:=lU k a b e xs ys pr ir) (off:=3) (b':=d) (a:=[.I Y k,.S a,.S b]) (b:=e) (c:=xs++(ys++[pr,ir])) rfl rfl V).trans rfl
def ajm{k:Int}{a b:B}{e xs d ys:F}{pr ir:Q}(f:e.length=3)(h:xs.length=6)(g:d.length=6):aM (lU k a b e xs ys pr ir) 6 d=lU k a b e d ys pr ir:=by exact(mc (l:=lU k a b e xs ys pr ir) (off:=6) (b':=d) (a:=[.I Y k,.S a,.S b]++e) (b:=xs) (c:=ys++[pr,ir]) rfl (by simp[f]) V).trans rfl
def ar1{k:Int}{a b:B}{e xs ys d:F}{pr ir:Q}(g:e.length=3)(h:xs.length=6)(i:ys.length=6)(f:d.length=6):aM (lU k a b e xs ys pr ir) 12 d=lU k a b e xs d pr ir:=by exact(mc (l:=lU k a b e xs ys pr ir) (off:=12) (b':=d) (a:=[.I Y k,.S a,.S b]++(e++xs)) (b:=ys) (c:=[pr,ir]) (by simp[lU]) (by grind) V).trans (by simp[lU])
def JO(S:Z)(j m:Nat)(r:Rd)(b:cZ)(G:List cZ):Z:=(S.set j (fS j r)).set m b++G
section
variable{S:Z}{j m:Nat}{r:Rd}(hS:S[j]? =J (fS j r))(hm:m<S.length)(hjm:j≠m)
include hS hjm in
theorem Np(c:Rd)(b:cZ)(a:List cZ):(JO S j m c b a)[j]? =J (fS j c):=by
 refine dH a ?_
 grind
include hS hjm in
theorem U4(d c:Rd)(b:cZ)(a:List cZ):(JO S j m d b a).set j (fS j c)=JO S j m c b a:=by grind [JO,List.set_comm,List.set_set]
include hm in
theorem ajn(c:Rd)(b:cZ)(a:List cZ):(JO S j m c b a)[m]? =J b:=dH a (RM (by simp_all))
include hm in
theorem ajo(d:Rd)(b c:cZ)(a:List cZ):(JO S j m d b a).set m c=JO S j m d c a:=by grind [JO,List.set_set]
end
def amP(S:Z)(j m:Nat)(r:Rd)(b:cZ)(a c:List cZ):JO S j m r b a++c=JO S j m r b (a++c):=sC ..
def Li(l:List fG):jU:=l.map fG.ao
def acs(a:List fG)(x:fG):Li (a++[x])=Li a++[x.ao]:=by simp[Li]
@[simp]theorem acu(a:List fG):(Li a).length=a.length:=by simp[Li]
def SG(l:List fG):eS (Li l)=G:=kg.2 λx a=>by obtain⟨s,_,rfl⟩:=yE.1 a;exact df.br bW
def aef(a:List fG):dF (eU 12 (Li a))=qJ a:=rR 12 _
def U5(n:Nat):bV:=if n=0 then[]else[J n]
def Bj{T:Z}{m:Nat}{k:Int}{a b:B}{t:bJ}{xs ys:F}{pr ir:Q}{bt:bV}{q:Bool}(hm:T[m]? =J (.M (lU k a b t.ao xs ys pr ir) bt q))(y:bu)(e:y.Wf)(d:t.Wf)(h:rA y t=G):
 W ax X 181 [.A y.ao,.P m 0] T=J (.B G,T):=by
 have c:=Bb y t e d (T++[.M y.ao [] O]);rw[h]at c;have f:aX (T++[.M y.ao [] O]) (.A 3) (.P m 3)=J (.A t.ao):=by rw[bI (dH [.M y.ao [] O] hm)];exact aoD bW (bJ.jh t).jg
 simp[j6 axQ,f,c]
def ajp{S:Z}{j m:Nat}{r:Rd}{u:B}(l:bS)(hl:l.J2)(hq:l.type.ak<=4)(hbk:jY l.back=G)(hp8:l.bg.length<=8)(hpr:l.bg.all (vI l.type)=G){k:Int}{a b:B}{xs ys:F}{ir:Q}(hx:xs.length=6)(hy:ys.length=6)
 (hS:S[j]? =J (fS j r)) (hm:S[m]? =J (.M (lU k a b l.type.ao xs ys .aw ir) [] O)) (hjm:j≠m) (hr:rI r (l.back.bytes++(cF l.bg.length++(l.bg.flatMap nh++u)))):
 W ax X 186 [.P j 0,.P m 0,.fn 181 [] [.P m 0]] S=J (.cQ [],JO S j m (r.go (l.back.bytes.length+((cF l.bg.length).length+(l.bg.flatMap nh).length))) (.M (lU k a b l.type.ao xs l.back.ao (bL m 0 12 (Li l.bg)) ir) (U5 l.bg.length) O) []):=by
 have hj:j<S.length:=(lQ.1 hS).1;have hml:m<S.length:=(lQ.1 hm).1;have I:=hbk;unfold jY at I;simp only[mr]at I;have ht3:l.type.ao.length=3:=bW;have c1:=Ml l.back hl.back I.1 hS hr 237 rfl rfl (λT=>by rw[wM l.back hl.back,hbk]);have hm1:(S.set j (fS j (r.go l.back.bytes.length)))[m]? =J (.M (lU k a b l.type.ao xs ys .aw ir) [] O):=by simp_all
 have st1:bd [] S.length (S.set j (fS j (r.go l.back.bytes.length))) 6 (.P m 12) (.A l.back.ao)=J ([],JO S j m (r.go l.back.bytes.length) (.M (lU k a b l.type.ao xs l.back.ao (bL m 0 12 (Li [])) ir) (U5 0) O) []):=by rw[d_ (kT (bu.jh l.back)) hm1,if_pos ⟨by simp,by rw[pD ht3 hx hy];omega⟩];simp_all[ar1,JO,bL,Li,U5]
 have R1:=hr.go;have c2:=oq (Np hS hjm (r.go l.back.bytes.length) (.M (lU k a b l.type.ao xs l.back.ao (bL m 0 12 (Li [])) ir) (U5 0) O) []) (n:=l.bg.length) V R1;rw[U4 hS hjm]at c2;have R2:=R1.go;have gh:∀d i(A:Rd)(s:bV)(e:List cZ),i+d=l.bg.length->rI A ((l.bg.drop i).flatMap nh++u)->
  ∃w v,DC ax X (.L FU) ⟨[(0,.P j 0),(1,.P m 0),(2,.fn 181 [] [.P m 0]),(6,.I U (l.bg.length:Int)),(7,.I U (i:Int))],s,S.length⟩ (JO S j m A (.M (lU k a b l.type.ao xs l.back.ao (bL m 0 12 (Li (l.bg.take i))) ir) (U5 i) O) e)=
   J (.E 0,⟨[],w,S.length⟩,JO S j m (A.go ((l.bg.drop i).flatMap nh).length) (.M (lU k a b l.type.ao xs l.back.ao (bL m 0 12 (Li l.bg)) ir) (U5 l.bg.length) O) v):=by
  intro d;induction d with
  |zero=>
   intro i A s e hi z;have ei:i=l.bg.length:=V;have e3:l.bg.drop i=[]:=jX V;refine⟨s,e, ?_⟩;simp[aj,aN pR,e3,(og V:l.bg.take i=l.bg),ei,Rd.go]
  |succ d ih=>
   intro i A s e hi z;have h3:i<l.bg.length:=V;have⟨y,hy1,hy'⟩:=aT (l:=l.bg) (i:=i) V;have ym:=gR hy1;have hw:dt U ((i:Int)+1)=((i+1:Nat):Int):=by show((i:Int)+1)%2^64=_;omega
   have yp:=zF.1 hpr y ym;have yw:=hl.pair y ym;unfold vI at yp;simp only[mr]at yp;have yx:=yp.1;unfold jY at yx;simp only[mr]at yx;have yy:=qz yp.2;rw[bf hy1,Ds]at z⊢;unfold nh at z;rw[sC,sC]at z;have Q1:=z.go;have Q2:=Q1.go;have lP:(l.bg.take i).length=i:=by grind
   generalize hB:cZ.M (lU k a b l.type.ao xs l.back.ao (bL m 0 12 (Li (l.bg.take i))) ir) (U5 i) O=c at*;have ce:=zX (Np hS hjm A c e) z;have d1:=Ml y.x yw.1 yx.1 (Np hS hjm A c e) z 237 rfl rfl (λT=>by rw[wM y.x yw.1,yp.1]);rw[U4 hS hjm]at d1;have P:∀p E v,(JO S j m p E v).length=S.length+v.length:=λp E v=>by simp[JO]
   have ap:∀p E v f,JO S j m p E v++[f]=JO S j m p E (v++[f]):=λ_ _ _ _=>amP ..;have hsp:aM ah 0 y.x.ao=y.x.ao:=dT bW;have lx:∀p E,aX (JO S j m p E (e++[.M y.x.ao [] O])) (.A 6) (.P (S.length+e.length) 0)=J (.A y.x.ao):=λp E=>by simp[<-ap,<-P p E e,U6]
   have hB2:∀p v,(JO S j m p c v)[m]? =J (.M (lU k a b l.type.ao xs l.back.ao (bL m 0 12 (Li (l.bg.take i))) ir) (U5 i) O):=λp v=>by rw[ajn hml,hB]
   have l18:∀p v,aX (JO S j m p c v) .C (.P m 18)=J (bL m 0 12 (Li (l.bg.take i))):=λp v=>by rw[bI (hB2 p v),kR,aAk ht3 hx bW]
   have d2:=Ge (m:=m) y.y yw.2 yy.1 (Np hS hjm (A.go y.x.bytes.length) c (e++[.M y.x.ao [] O])) Q1 181 rfl rfl (by
    refine Bj (k:=k) (a:=a) (b:=b) (t:=l.type) (xs:=xs) (ys:=l.back.ao) (pr:=bL m 0 12 (Li (l.bg.take i))) (ir:=ir) (bt:=U5 i) (q:=O) ?_ y.y yw.2 hl.type yp.2
    grind [iY])
   rw[U4 hS hjm]at d2
   have⟨v1,t1,S1,t2,a1,a2⟩:=arY (sz:=12) (es:=Li (l.bg.take i)) (x:=y.ao) (o:=18) s 0 (hB2 ((A.go y.x.bytes.length).go y.y.bytes.length) (e++[.M y.x.ao [] O])) (λh=>by
    have:l.bg.take i=[]:=by simpa[Li]using h
    have:i=0:=by simp_all
    rw[this];rfl) (λh=>by
    grind [U5,acu]) (by simp;omega) (by rw[pD ht3 hx bW];omega) (by rw[<-acs];exact SG _)
   rw[ajo hml,arZ ht3 hx bW,<-acs]at a2;have eu:(if Li (l.bg.take i)=[]then U5 i++[J 1]else(U5 i).set 0 (J ((Li (l.bg.take i)).length+1)))=U5 (i+1):=by grind [acu,U5]
   rw[eu,<-(by rw[vG,hy1];rfl:l.bg.take (i+1)=l.bg.take i++[y])]at a2;have⟨w,v,n1⟩:=ih (i+1) ((A.go y.x.bytes.length).go y.y.bytes.length) t2 (e++[.M y.x.ao [] O]) V Q2;refine⟨w,v, ?_⟩;have es:(A.go y.x.bytes.length).go y.y.bytes.length=A.go (y.x.bytes.length+y.y.bytes.length):=bW;rw[(by simp[Rd.go,nh,Dh]:A.go (nh y++(l.bg.drop (i+1)).flatMap nh).length=(A.go (y.x.bytes.length+y.y.bytes.length)).go ((l.bg.drop (i+1)).flatMap nh).length)];have st:∀p,bd s S.length (JO S j m p c (e++[.M ah [] O])) 6 (.P (S.length+e.length) 0) (.A y.x.ao)=J (s,JO S j m p c (e++[.M y.x.ao [] O])):=λp=>by rw[<-ap,<-ap,<-P p c e,uH (kT (bu.jh y.x))];simp
   have pe:dj oN [(0,6,.A y.x.ao),(6,6,.A y.y.ao)]=J y.ao:=by simp_all[aM,fG.ao,dj]
   have bo:ff 12 [oN] [(0,.A y.ao)]=J [y.ao]:=by simp_all[ff]
   simp only[es]at a1 a2 n1;rw[aj,aN pR];simp only[es]at d2;have ld:=P;simp[-List.length_flatMap]at hw n1 bo pe;simp[h3,ce,(rfl:dX .eql (.kN fW) G .c_ .c_=J (.B G)),d1,ap,ld,st,g8,l18,lx,d2,pe,bo,a1,a2, -List.length_flatMap];rw[ab pR];simp[hw,n1, -List.length_flatMap]
 have⟨w,v,g⟩:=gh l.bg.length 0 _ [] [] V R2;simp only[List.take_zero,tQ]at g;have tk:∀p E,(JO S j m p E v).take S.length=JO S j m p E []:=λp E=>by grind [JO]
 rw[(by simp[Rd.go,Dh]:((r.go l.back.bytes.length).go (cF l.bg.length).length).go (l.bg.flatMap nh).length=r.go (l.back.bytes.length+((cF l.bg.length).length+(l.bg.flatMap nh).length)))]at g;rw[LQ axU];simp at c1 c2;simp[-List.length_flatMap]at g;simp[c1,g8,st1,c2,(eq_false V:((8:Int)<(l.bg.length:Int))=False), -List.length_flatMap];rw[ab pR];simp[g,tk,dr,aO,ck,aF, -List.length_flatMap]
end
@[simp high]def aB5(x:UInt64):bU .xor (aH x)=J (aH (~~~x)):=by
  show J (AV.I U (dt U ((gK 64 (18446744073709551615:Int)^^^gK 64 (x.toNat:Int)).toNat:Int)))=J (.I U (((~~~x).toNat:Nat):Int));have a:gK 64 (x.toNat:Int)=x.toBitVec:=by apply BitVec.eq_of_toNat_eq;rw[Yg,iX x.toNat_lt];rfl
  rw[(fU:gK 64 (18446744073709551615:Int)=BitVec.allOnes 64),(BitVec.allOnes_xor:(BitVec.allOnes 64^^^gK 64 (x.toNat:Int))= ~~~(gK 64 (x.toNat:Int))),a,G6,iX (BitVec.isLt _)];rfl
def XO(n:Nat)(h:n<72057594037927936):K .shl (.I U (n:Int)) (.I U 8)=J (.I U ((n*256:Nat):Int)):=by
 show(if(8:Int)<0 then M else J (AV.I U (dt U ((n:Int)*2^(min (8:Int).toNat 64)))))=_;have:(n:Int)*2^8=((n*256:Nat):Int):=by rfl
 rw[if_neg fU,(fU:min (8:Int).toNat 64=8),this,G6,iX V]
def acx(n:Nat)(y:UInt8)(h:n<72057594037927936):K .or (.I U ((n*256:Nat):Int)) (.I U (y.toNat:Int))=J (.I U ((n*256+y.toNat:Nat):Int)):=by
 have c:=y.toNat_lt;have a:n*256+y.toNat<2^64:=V;have b:n*256|||y.toNat=n*256+y.toNat:=by have:=amY n y;rwa [zO]at this
 show J (AV.I U (dt U ((gK 64 ((n*256:Nat):Int)|||gK 64 (y.toNat:Int)).toNat:Int)))=_;rw[TB,Yg,Yg,iX (RS (Nat.le_add_right _ _) a),iX (RS (Nat.le_add_left _ _) a),G6,b,iX a]
def Lp(r:h_)(b:B)(w:b.length<=8)(nb:Nat)(S:Z):∀d i n,i+d=b.length->n<256^i->
 DC ax X (.L AE) ⟨[(3,.I U (n:Nat)),(6,.sl r 1 (Hu b)),(7,.I Y (b.length:Int)),(8,.I Y (i:Nat))],[],nb⟩ S=
  J (.E 0,⟨[(3,.I U ((Yh n (b.drop i):Nat):Int))],[],nb⟩,S):=by
 intro d;induction d with
 |zero=>
  simp_all[aj,nj,Yh]
 |succ d u=>
  intro i n x m;have⟨y,t,g⟩:=aT (l:=b) (i:=i) V;have o:=aQ (i:=i) V;have z:=y.toNat_lt;have q:(256:Nat)^i<=256^7:=Au V V;have nb:=ur m q;have e:n*256+y.toNat<256^(i+1):=V;have h:=XO n nb;have f:=acx n y nb;have p:=u (i+1) (n*256+y.toNat) V e;rw[aj,aN nj,bf t,Yh];obtain⟨A,j⟩:∃A:Int,A=((n*256+y.toNat:Nat):Int):=⟨_,rfl⟩;obtain⟨c,k⟩:∃c:Int,c=((n*256:Nat):Int):=⟨_,rfl⟩;rw[<-j]at p f;rw[<-k]at h f;clear j k e m q nb;simp at p o;have s:∀a b,K .add (.I Y a) (.I Y b)=J (.I Y (dt Y (a+b))):=λ_ _=>rfl;have v:∀a b,K .lss (.I Y a) (.I Y b)=J (.B (b_ (a<b))):=λ_ _=>rfl;simp[(V:i<b.length),g,bn, -K, -nS,h,f,Z7 y,s,v,o];rw[ab nj];trivial
def Lq(r:h_)(b:B)(a:b.length<=8)(S:Z):W ax X 220 [.sl r 1 (Hu b)] S=J (.I U ((Yh 0 b:Nat):Int),S):=by have h:=Lp r b a S.length S b.length 0 0 V bW;rw[jr aya];simp at h;simp;rw[ab nj];simp[h]
def QV(w:List UInt64)(i:Nat):UInt64:=
 w.getD (i -16) 0+(jc (w.getD (i -15) 0) 1^^^jc (w.getD (i -15) 0) 8^^^cf (w.getD (i -15) 0) 7)+w.getD (i -7) 0+(jc (w.getD (i -2) 0) 19^^^jc (w.getD (i -2) 0) 61^^^cf (w.getD (i -2) 0) 6)
def xY(b:B)(i:Nat):UInt64:=UInt64.ofNat (Yh 0 ((b.take (8*i+8)).drop (8*i)))
def oc(b:B):Nat->List UInt64
 |0=>[]
 |i+1=>oc b i++[if i<16 then xY b i else QV (oc b i) i]
structure W8 where
 a:UInt64
 b:UInt64
 c:UInt64
 d:UInt64
 e:UInt64
 f:UInt64
 g:UInt64
 h:UInt64
def W8.t(v:W8)(k w:UInt64):UInt64:=v.h+(jc v.e 14^^^jc v.e 18^^^jc v.e 41)+(v.e&&&v.f^^^ ~~~v.e&&&v.g)+k+w
def W8.u(v:W8):UInt64:=(jc v.a 28^^^jc v.a 34^^^jc v.a 39)+(v.a&&&v.b^^^v.a&&&v.c^^^v.b&&&v.c)
def W8.round(v:W8)(k w:UInt64):W8:=⟨v.t k w+v.u,v.a,v.b,v.c,v.d+v.t k w,v.e,v.f,v.g⟩
def W8.rounds(v:W8)(ks ws:List UInt64):Nat->W8
 |0=>v
 |i+1=>(v.rounds ks ws i).round (ks.getD i 0) (ws.getD i 0)
def W8.add(s v:W8):W8:=⟨s.a+v.a,s.b+v.b,s.c+v.c,s.d+v.d,s.e+v.e,s.f+v.f,s.g+v.g,s.h+v.h⟩
def W8.rK(s:W8)(ks:List UInt64)(b:B):W8:=s.add (s.rounds ks (oc b 80) 80)
def pZ:W8:=⟨7640891576956012808,13503953896175478587,4354685564936845355,11912009170470909681,5840696475078001361,11170449401992604703,2270897969802886507,6620516959819538809⟩
def iB:List UInt64:=[4794697086780616226,8158064640168781261,13096744586834688815,16840607885511220156,4131703408338449720,6480981068601479193,10538285296894168987,12329834152419229976,15566598209576043074,1334009975649890238,2608012711638119052,6128411473006802146,8268148722764581231,9286055187155687089,11230858885718282805,13951009754708518548,16472876342353939154,17275323862435702243,1135362057144423861,2597628984639134821,3308224258029322869,5365058923640841347,6679025012923562964,8573033837759648693,10970295158949994411,12119686244451234320,12683024718118986047,13788192230050041572,14330467153632333762,15395433587784984357,489312712824947311,1452737877330783856,2861767655752347644,3322285676063803686,5560940570517711597,5996557281743188959,7280758554555802590,8532644243296465576,9350256976987008742,10552545826968843579,11727347734174303076,12113106623233404929,14000437183269869457,14369950271660146224,15101387698204529176,15463397548674623760,17586052441742319658,1182934255886127544,1847814050463011016,2177327727835720531,2830643537854262169,3796741975233480872,4115178125766777443,5681478168544905931,6601373596472566643,7507060721942968483,8399075790359081724,8693463985226723168,9568029438360202098,10144078919501101548,10430055236837252648,11840083180663258601,13761210420658862357,14299343276471374635,14566680578165727644,15097957966210449927,16922976911328602910,17689382322260857208,500013540394364858,748580250866718886,1242879168328830382,1977374033974150939,2944078676154940804,3659926193048069267,4368137639120453308,4836135668995329356,5532061633213252278,6448918945643986474,6902733635092675308,7801388544844847127]
def PU:Nat->W8->B->W8
 |0,v,_=>v
 |n+1,v,b=>PU n (v.rK iB b) (b.drop 128)
def W8.l(v:W8):List UInt64:=[v.a,v.b,v.c,v.d,v.e,v.f,v.g,v.h]
def W8.tu(v:W8):B:=v.l.flatMap λx=>D0 8 x.toNat
def dV(l:B):B:=(PU ((l++fR l.length).length/128) pZ (l++fR l.length)).tu
@[simp]def JR(b:B)(i:Nat):(oc b i).length=i:=by
  induction i with
  |zero=>rfl
  |succ i a=>simp[oc,a]
def Ac{l:List UInt64}{j:Nat}(h:j<l.length):l[j]? =J (l.getD j 0):=by simp_all
def QW(b:B)(i:Nat):F:=(oc b i).map aH++fK (80 -i) (aH 0)
def amZ(b:B){i:Nat}(h:i<=80):(QW b i).length=80:=by simp[QW];omega
def Ns(b:B){i j:Nat}(h:j<i):(QW b i)[j]? =J (aH ((oc b i).getD j 0)):=by simp_all[QW,Em]
def acA(b:B){i:Nat}(h:i<80)(x:UInt64)(d:x=if i<16 then xY b i else QV (oc b i) i):aM (QW b i) i [aH x]=QW b (i+1):=by have e:80 -i=(80 -(i+1))+1:=V;have:=mc (l:=QW b i) (off:=i) (b':=[aH x]) (a:=(oc b i).map aH) (b:=[aH 0]) (c:=fK (80 -(i+1)) (aH 0)) (by grind [QW]) bW rfl;rw[this,d];unfold QW;simp[oc]
def U8:∀(b:B)(n k:Nat),n<256^k->Yh n b<256^(k+b.length)
 |[],n,k,h=>by trivial
 |c::r,n,k,h=>by
  have a:=c.toNat_lt;have:=U8 r (n*256+c.toNat) (k+1) V
  grind [Yh]
def SJ(S:Z)(s z w:F):Z:=S++[.M s [] O,.M z [] O,.M w [] O]
def XV(S:Z)(s z w:F):(SJ S s z w)[S.length+2]? =J (.M w [] O):=cl S _ 2
def ajy(S:Z)(s z w w':F):(SJ S s z w).set (S.length+2) (.M w' [] O)=SJ S s z w':=zM S _ 2 _
def Nt{S:Z}{s z w:F}{j:Nat}{v:Q}(h:w[j]? =J v):aX (SJ S s z w) .C (.P (S.length+2) j)=J v:=by rw[bI (XV S s z w),kR,h]
def acB{S:Z}{s z w:F}{j:Nat}{x:UInt64}(h:j+1<=w.length)(ae:bV):bd ae S.length (SJ S s z w) 1 (.P (S.length+2) j) (aH x)=J (ae,SJ S s z (aM w j [aH x])):=by rw[d_ (Jf x).Kr (XV ..),ajy,if_pos ⟨rfl,h⟩];rfl
def Bl(n m i:Nat)(h:i<n)(k:IntKind):jF n 1 (.P m 0) (.I k (i:Int))=J (.P m i):=by simp_all
def XP(i c:Nat)(h:c<=i)(a:i<1000):K .sub (.I Y (i:Int)) (.I Y (c:Int))=J (.I Y ((i -c:Nat):Int)):=by
 show J (AV.I Y (dt Y ((i:Int) -(c:Int))))=_;rw[cG V]
 grind
def ajz(b:B)(hb:128<=b.length)(S:Z)(m:Nat)(s z:F):∀d i,i+d=80->
 DC ax X (.L uU) ⟨[(1,cV b),(2,.P m 0),(3,.P S.length 0),(6,.P (S.length+1) 0),(7,.P (S.length+2) 0),(18,.I Y (i:Nat))],[],S.length⟩ (SJ S s z (QW b i))=
  J (.E 0,⟨[(2,.P m 0),(3,.P S.length 0),(6,.P (S.length+1) 0),(7,.P (S.length+2) 0)],[],S.length⟩,SJ S s z (QW b 80)):=by
 have aI:∀a b,K .add (.I Y a) (.I Y b)=J (.I Y (dt Y (a+b))):=λ_ _=>rfl;have lI:∀a b,K .lss (.I Y a) (.I Y b)=J (.B (b_ (a<b))):=λ_ _=>rfl;intro d;induction d with
 |zero=>
  intro i hi;have e:i=80:=V;subst e;simp[aj,aN lF]
 |succ d ih=>
  intro i hi;have h3:i<80:=V;have k:(i:Int)<80:=V;have v:=aQ (i:=i) V;have E:=ih (i+1) V;have o:=Bl 80 (S.length+2) i h3 Y;have hlen:=amZ b (i:=i) V;by_cases h16:i<16
  ·have f:(i:Int)<16:=by omega
   have m1:K .mul (.I Y 8) (.I Y (i:Int))=J (.I Y ((8*i:Nat):Int)):=by show J (AV.I Y (dt Y (8*(i:Int))))=_;rw[cG V];congr 2
   have P:dt Y (((8*i:Nat):Int)+8)=((8*i+8:Nat):Int):=by rw[cG V];omega
   have ql:((b.take (8*i+8)).drop (8*i)).length=8:=by simp;omega
   have I:=K8 b (8*i) (8*i+8) V V;obtain⟨q,hq⟩:∃q,q=(b.take (8*i+8)).drop (8*i):=⟨_,rfl⟩;have wq:xY b i=UInt64.ofNat (Yh 0 q):=by rw[hq];rfl
   rw[<-hq]at I ql;have e1:cV q=.sl .N 1 (Hu q):=by cases q<;>rfl
   have T:=Lq .N q V (SJ S s z (QW b i));rw[<-e1]at T;have bl:=U8 q 0 0 bW;rw[ql]at bl;have cv:(AV.I U ((Yh 0 q:Nat):Int))=aH (xY b i):=by show AV.I U ((Yh 0 q:Nat):Int)=AV.I U (((xY b i).toNat:Nat):Int);simp_all[iX]
   rw[cv]at T;have g:=acB (S:=S) (s:=s) (z:=z) (w:=QW b i) (j:=i) (x:=xY b i) V [];rw[acA b h3 (xY b i) (by simp_all)]at g;obtain⟨A,hA⟩:∃A:Int,A=((8*i:Nat):Int):=⟨_,rfl⟩;obtain⟨c,hB⟩:∃c:Int,c=((8*i+8:Nat):Int):=⟨_,rfl⟩;rw[<-hA]at m1 P I;rw[<-hB]at P I;rw[aj,aN lF];simp at E v;simp[k,f, -K, -nS, -jF,aI,lI,m1,P,I,T,o,g];rw[ab lF];simp[v,E, -K]
  ·have f:¬(i:Int)<16:=by omega
   have p:K .sub (.I Y (i:Int)) (.I Y 15)=_:=XP i 15 V V;have s2:K .sub (.I Y (i:Int)) (.I Y 2)=_:=XP i 2 V V;have r:K .sub (.I Y (i:Int)) (.I Y 16)=_:=XP i 16 V V;have s7:K .sub (.I Y (i:Int)) (.I Y 7)=_:=XP i 7 V V;have t:=Bl 80 (S.length+2) (i -15) V Y;have x2:=Bl 80 (S.length+2) (i -2) V Y;have u:=Bl 80 (S.length+2) (i -16) V Y;have x7:=Bl 80 (S.length+2) (i -7) V Y;have l15:=Nt (S:=S) (s:=s) (z:=z) (Ns b (i:=i) (j:=i -15) V);have l2:=Nt (S:=S) (s:=s) (z:=z) (Ns b (i:=i) (j:=i -2) V);have l16:=Nt (S:=S) (s:=s) (z:=z) (Ns b (i:=i) (j:=i -16) V);have l7:=Nt (S:=S) (s:=s) (z:=z) (Ns b (i:=i) (j:=i -7) V);have g:=λx(h:True)=>acB (S:=S) (s:=s) (z:=z) (w:=QW b i) (j:=i) (x:=x) V [];have g:=g (QV (oc b i) i) trivial;rw[acA b h3 (QV (oc b i) i) (by grind)]at g;unfold QV at g;generalize hx:(oc b i).getD (i -15) 0=x at*;generalize hy:(oc b i).getD (i -2) 0=y at*;generalize hx6:(oc b i).getD (i -16) 0=xg at*;generalize hx7:(oc b i).getD (i -7) 0=xh at*;have t7:W ax X 221 [aH x,.I Y 1] (SJ S s z (QW b i))=_:=jJ x 1 V V _;have t18:W ax X 221 [aH x,.I Y 8] (SJ S s z (QW b i))=_:=jJ x 8 V V _;have t17:W ax X 221 [aH y,.I Y 19] (SJ S s z (QW b i))=_:=jJ y 19 V V _;have t19:W ax X 221 [aH y,.I Y 61] (SJ S s z (QW b i))=_:=jJ y 61 V V _;have r7:K .shr (aH x) (.I U 7)=J (aH (cf x 7)):=za x 7 V U;have r6:K .shr (aH y) (.I U 6)=J (aH (cf y 6)):=za y 6 V U;obtain⟨A15,l⟩:∃A:Int,A=((i -15:Nat):Int):=⟨_,rfl⟩;obtain⟨A2,hA2⟩:∃A:Int,A=((i -2:Nat):Int):=⟨_,rfl⟩;obtain⟨A16,n⟩:∃A:Int,A=((i -16:Nat):Int):=⟨_,rfl⟩;obtain⟨A7,hA7⟩:∃A:Int,A=((i -7:Nat):Int):=⟨_,rfl⟩;rw[<-l]at p t;rw[<-hA2]at s2 x2;rw[<-n]at r u;rw[<-hA7]at s7 x7;rw[aj,aN lF];simp at E v;simp[k,f, -K, -nS, -jF,aI,lI,p,s2,r,s7,t,x2,u,x7,l15,l2,l16,l7,t7,t18,t17,t19,r7,r6,o,g];rw[ab lF];simp[v,E, -K]
def W8.ao(v:W8):F:=[aH v.a,aH v.b,aH v.c,aH v.d,aH v.e,aH v.f,aH v.g,aH v.h]
@[simp]def W8.len(v:W8):v.ao.length=8:=rfl
@[simp]def W8.jh(v:W8):df v.ao:=by simp[W8.ao]
def Ig(S:Z)(s z w v:F):Z:=S++[.M s [] O,.M z [] O,.M w [] O,.M v [] O]
def ajA(S:Z)(s z w v:F):(Ig S s z w v)[S.length+2]? =J (.M w [] O):=cl S _ 2
def PX(S:Z)(s z w v:F):(Ig S s z w v)[S.length+3]? =J (.M v [] O):=cl S _ 3
def XW(S:Z)(s z w v a:F):(Ig S s z w v).set (S.length+3) (.M a [] O)=Ig S s z w a:=zM S _ 3 _
def PY(S:Z)(s z w v:F):(Ig S s z w v)[S.length]? =J (.M s [] O):=by have:=cl S [.M s [] O,.M z [] O,.M w [] O,.M v [] O] 0;trivial
def ajB(S:Z)(s a z w v:F):(Ig S s z w v).set S.length (.M a [] O)=Ig S a z w v:=by have:=zM S [.M s [] O,.M z [] O,.M w [] O,.M v [] O] 0 (.M a [] O);trivial
def ajC(S:Z)(s z a w v:F):(Ig S s z w v).set (S.length+1) (.M a [] O)=Ig S s a w v:=zM S _ 1 _
def XX(S:Z)(s z w v:F):(Ig S s z w v)[S.length+1]? =J (.M z [] O):=cl S _ 1
def ajD(S:Z)(s z w v:F):(Ig S s z w v).take S.length=S:=TC rfl
def ar8(cs:F)(off:Nat)(x:UInt64)(r:List (Nat × Nat × Q))(h:off+1<=cs.length):dj cs ((off,1,aH x)::r)=dj (aM cs off [aH x]) r:=by rw[dj,if_pos ⟨rfl,rfl,h⟩];rfl
def ar9(a b c d e f g h:UInt64):dj cO [(0,1,aH a),(1,1,aH b),(2,1,aH c),(3,1,aH d),(4,1,aH e),(5,1,aH f),(6,1,aH g),(7,1,aH h)]=J [aH a,aH b,aH c,aH d,aH e,aH f,aH g,aH h]:=by simp[ar8,aM];rfl
set_option maxHeartbeats 1000000 in
def ajE(S:Z)(m:Nat)(l h:List UInt64)(hk:l.length=80)(hws:h.length=80)(bt:bV)(q:Bool)(hm:S[m]? =J (.M (l.map aH) bt q))(s z:F)(v:W8):∀d i,i+d=80->
 DC ax X (.L uV) ⟨[(2,.P m 0),(3,.P S.length 0),(6,.P (S.length+1) 0),(7,.P (S.length+2) 0),(11,.P (S.length+3) 0),(72,.I Y (i:Nat))],[],S.length⟩ (Ig S s z (h.map aH) (v.rounds l h i).ao)=
  J (.E 2,⟨[(3,.P S.length 0),(6,.P (S.length+1) 0),(11,.P (S.length+3) 0)],[],S.length⟩,Ig S s z (h.map aH) (v.rounds l h 80).ao):=by
 have aI:∀a b,K .add (.I Y a) (.I Y b)=J (.I Y (dt Y (a+b))):=λ_ _=>rfl;have lI:∀a b,K .lss (.I Y a) (.I Y b)=J (.B (b_ (a<b))):=λ_ _=>rfl;intro d;induction d with
 |zero=>
  intro i hi;have e:i=80:=V;subst e;simp[aj,aN pA]
 |succ d ih=>
  intro i hi;have h3:i<80:=V;have E:(i:Int)<80:=V;have hw:=aQ (i:=i) V;have o:=ih (i+1) V;have er:v.rounds l h (i+1)=(v.rounds l h i).round (l.getD i 0) (h.getD i 0):=rfl;rw[er]at o;generalize v.rounds l h i=f,Ig S s z (h.map aH) (v.rounds l h 80).ao=c at*;generalize t:Ig S s z (h.map aH) f.ao=T at*;have I:=Bl 80 m i h3 Y;have P:=Bl 80 (S.length+2) i h3 Y;have lk:aX T .C (.P m i)=J (aH (l.getD i 0)):=by
   have:T[m]? =J (.M (l.map aH) bt q):=by rw[<-t];exact dH _ hm
   rw[bI this,kR,yT,Ac V];rfl
  have lw:aX T .C (.P (S.length+2) i)=J (aH (h.getD i 0)):=by
   have:T[S.length+2]? =J (.M (h.map aH) [] O):=by rw[<-t];exact ajA ..
   rw[bI this,kR,yT,Ac V];rfl
  generalize l.getD i 0=k,h.getD i 0=w at*;have n:T[S.length+3]? =J (.M f.ao [] O):=by rw[<-t];exact PX ..
  have lv0:aX T .C (.P (S.length+3) 0)=J (aH f.a):=by rw[bI n];rfl
  have lv1:aX T .C (.P (S.length+3) 1)=J (aH f.b):=by rw[bI n];rfl
  have lv2:aX T .C (.P (S.length+3) 2)=J (aH f.c):=by rw[bI n];rfl
  have lv3:aX T .C (.P (S.length+3) 3)=J (aH f.d):=by rw[bI n];rfl
  have lv4:aX T .C (.P (S.length+3) 4)=J (aH f.e):=by rw[bI n];rfl
  have lv5:aX T .C (.P (S.length+3) 5)=J (aH f.f):=by rw[bI n];rfl
  have lv6:aX T .C (.P (S.length+3) 6)=J (aH f.g):=by rw[bI n];rfl
  have lv7:aX T .C (.P (S.length+3) 7)=J (aH f.h):=by rw[bI n];rfl
  have g:∀j:Nat,j<8->jF 8 1 (.P (S.length+3) 0) (.I Y (j:Int))=J (.P (S.length+3) j):=λj hj=>Bl 8 (S.length+3) j hj Y;have x0:jF 8 1 (.P (S.length+3) 0) (.I Y 0)=J (.P (S.length+3) 0):=g 0 V;have x1:jF 8 1 (.P (S.length+3) 0) (.I Y 1)=J (.P (S.length+3) 1):=g 1 V;have x2:jF 8 1 (.P (S.length+3) 0) (.I Y 2)=J (.P (S.length+3) 2):=g 2 V;have x3:jF 8 1 (.P (S.length+3) 0) (.I Y 3)=J (.P (S.length+3) 3):=g 3 V;have x4:jF 8 1 (.P (S.length+3) 0) (.I Y 4)=J (.P (S.length+3) 4):=g 4 V;have x5:jF 8 1 (.P (S.length+3) 0) (.I Y 5)=J (.P (S.length+3) 5):=g 5 V;have x6:jF 8 1 (.P (S.length+3) 0) (.I Y 6)=J (.P (S.length+3) 6):=g 6 V;have x7:jF 8 1 (.P (S.length+3) 0) (.I Y 7)=J (.P (S.length+3) 7):=g 7 V;have e6:W ax X 221 [aH f.e,.I Y 14] T=_:=jJ f.e 14 V V T;have y:W ax X 221 [aH f.e,.I Y 18] T=_:=jJ f.e 18 V V T;have A:W ax X 221 [aH f.e,.I Y 41] T=_:=jJ f.e 41 V V T;have a2:W ax X 221 [aH f.a,.I Y 28] T=_:=jJ f.a 28 V V T;have u:W ax X 221 [aH f.a,.I Y 34] T=_:=jJ f.a 34 V V T;have x:W ax X 221 [aH f.a,.I Y 39] T=_:=jJ f.a 39 V V T;have p:∀r:W8,bd [] S.length T 8 (.P (S.length+3) 0) (.A r.ao)=J ([],Ig S s z (h.map aH) r.ao):=λr=>by rw[d_ (kT r.jh) n,if_pos ⟨rfl,by simp⟩,<-t,XW];rfl
  have fw:=ar9 (f.t k w+f.u) f.a f.b f.c (f.d+f.t k w) f.e f.f f.g;have p:=p (f.round k w);unfold W8.ao at p o;unfold W8.round at p o;unfold W8.t W8.u at p fw o;rw[aj,aN pA];simp at o hw;simp[E, -K, -jF,aI,lI,x0,x1,x2,x3,x4,x5,x6,x7,lv0,lv1,lv2,lv3,lv4,lv5,lv6,lv7,e6,y,A,a2,u,x,I,P,lk,lw,fw,p];rw[ab pA];simp[hw,o, -K]
def Vl(s v:List UInt64)(i:Nat):List UInt64:=(List.zipWith (·+·) s v).take i++s.drop i
theorem am0{s v:List UInt64}(h:v.length=s.length){i:Nat}(a:i<=s.length):(Vl s v i).length=s.length:=by simp[Vl,h];omega
def am1{s v:List UInt64}(h:v.length=s.length){i:Nat}(a:i<s.length):(Vl s v i)[i]? =J (s.getD i 0):=by grind [Vl]
def am2{s v:List UInt64}(h:v.length=s.length){i:Nat}(a:i<s.length):aM ((Vl s v i).map aH) i [aH (s.getD i 0+v.getD i 0)]=(Vl s v (i+1)).map aH:=by
 have b:((List.zipWith (·+·) s v).take i).length=i:=by grind
 have c:=bf (Ac a)
 grind [mc,Vl,List.take_add_one]
def W8.aoF(v:W8):v.ao=v.l.map aH:=rfl
def aAt(s v:W8):(Vl s.l v.l 8).map aH=(s.add v).ao:=rfl
def aAu(s v:W8):(Vl s.l v.l 0).map aH=s.ao:=rfl
def ajF(S:Z)(s v:List UInt64)(r:s.length=8)(t:v.length=8)(z w:F):∀d i,i+d=8->
 DC ax X (.L uW) ⟨[(3,.P S.length 0),(6,.P (S.length+1) 0),(11,.P (S.length+3) 0),(156,.I Y (i:Nat))],[],S.length⟩ (Ig S ((Vl s v i).map aH) z w (v.map aH))=
  J (.E 4,⟨[(3,.P S.length 0),(6,.P (S.length+1) 0)],[],S.length⟩,Ig S ((Vl s v 8).map aH) z w (v.map aH)):=by
 have j:∀a b,K .add (.I Y a) (.I Y b)=J (.I Y (dt Y (a+b))):=λ_ _=>rfl;have m:∀a b,K .lss (.I Y a) (.I Y b)=J (.B (b_ (a<b))):=λ_ _=>rfl;intro d;induction d with
 |zero=>
  simp_all[aj,pB]
 |succ d k=>
  intro i q;have g:=aQ (i:=i) V;have h:=k (i+1) V;have l:aX (Ig S ((Vl s v i).map aH) z w (v.map aH)) .C (.P S.length i)=J (aH (s.getD i 0)):=by rw[bI (PY ..),kR,yT,am1 V V];rfl
  have f:aX (Ig S ((Vl s v i).map aH) z w (v.map aH)) .C (.P (S.length+3) i)=J (aH (v.getD i 0)):=by rw[bI (PX ..),kR,yT,Ac V];rfl
  have n:bd [] S.length (Ig S ((Vl s v i).map aH) z w (v.map aH)) 1 (.P S.length i) (aH (s.getD i 0+v.getD i 0))=J ([],Ig S ((Vl s v (i+1)).map aH) z w (v.map aH)):=by rw[d_ (Jf _).Kr (PY ..),if_pos ⟨rfl,by grind [am0]⟩,ajB];rw[show(aH (s.getD i 0+v.getD i 0)).cells=[aH (s.getD i 0+v.getD i 0)]from rfl,am2 V V]
  generalize s.getD i 0=a,v.getD i 0=b,(Vl s v i).map aH=c,(Vl s v (i+1)).map aH=o,(Vl s v 8).map aH=p,v.map aH=e at*;rw[aj,aN pB];simp at h g;simp[(V:(i:Int)<8), -K, -jF,j,m,Bl 8 S.length i V Y,Bl 8 (S.length+3) i V Y,l,f,n];rw[ab pB];simp[g,h, -K]
def aLi:iD=fK 80 (aH 0):=rfl
def MO(s:W8)(b:B)(t:128<=b.length)(m:Nat)(e:List UInt64)(u:e.length=80)(S:Z)(bt:bV)(q:Bool)(v:S[m]? =J (.M (e.map aH) bt q)):
 W ax X 156 [.A s.ao,cV b,.P m 0] S=J (.A (s.rK e b).ao,S):=by
 have f:=ajz b t S m s.ao cO 80 0 V;have p:QW b 0=iD:=by rfl
 rw[p,(by unfold QW;simp:QW b 80=(oc b 80).map aH)]at f;have g:=ajE S m e (oc b 80) u bW bt q v s.ao cO s 80 0 V;have y:s.rounds e (oc b 80) 0=s:=rfl;rw[y]at g;have h:=ajF S s.l (s.rounds e (oc b 80) 80).l rfl rfl cO ((oc b 80).map aH) 8 0 V;rw[aAu,aAt,<-W8.aoF]at h;have r:s.add (s.rounds e (oc b 80) 80)=s.rK e b:=rfl;rw[r]at h;generalize s.rounds e (oc b 80) 80=c,s.rK e b=a,(oc b 80).map aH=d at*;have l:=s.jh;have i:=a.jh;have z:S++[cZ.M s.ao [] O,cZ.M cO [] O,cZ.M iD [] O]=SJ S s.ao cO iD:=rfl;have j:aX (SJ S s.ao cO d) (.A 8) (.P S.length 0)=J (.A s.ao):=by
  have:(SJ S s.ao cO d)[S.length]? =J (.M s.ao [] O):=by have:=cl S [.M s.ao [] O,.M cO [] O,.M d [] O] 0;assumption
  rw[bI this,fQ _ s.len,l.jg]
 have k:bd [] S.length (Ig S s.ao cO d cO) 8 (.P (S.length+3) 0) (.A s.ao)=J ([],Ig S s.ao cO d s.ao):=by rw[d_ (kT l) (PX ..),if_pos ⟨s.len,by decide⟩,XW,show(AV.A s.ao).cells=s.ao from rfl,dT bW]
 have w:∀c,aX (Ig S a.ao cO d c) (.A 8) (.P S.length 0)=J (.A a.ao):=λc=>by rw[bI (PY ..),fQ _ a.len,i.jg]
 have n:∀c,bd [] S.length (Ig S a.ao cO d c) 8 (.P (S.length+1) 0) (.A a.ao)=J ([],Ig S a.ao a.ao d c):=λc=>by rw[d_ (kT i) (XX ..),if_pos ⟨a.len,by decide⟩,ajC,show(AV.A a.ao).cells=a.ao from rfl,dT bW]
 have x:∀c,aX (Ig S a.ao a.ao d c) (.A 8) (.P (S.length+1) 0)=J (.A a.ao):=λc=>by rw[bI (XX ..),fQ _ a.len,i.jg]
 have E:∀c,dr 156 [] [.A a.ao] S (Ig S a.ao a.ao d c)=J (.A a.ao,S):=λc=>by
  have A:cd (.A a.ao)=.A a.ao:=by rfl
  simp_all[ajD]
 rw[LQ axA];generalize iD=o at*;simp at f g h;simp[z];rw[ab lF];simp[f,j,(by unfold SJ Ig;simp:SJ S s.ao cO d++[cZ.M cO [] false]=Ig S s.ao cO d cO),(by simp[SJ]:(SJ S s.ao cO d).length=S.length+3),k];rw[ab pA];simp[g];rw[ab pB];simp_all
def ajG:iB.length=80:=rfl
def SK(l:List UInt64):df (l.map aH):=by induction l<;>simp_all
def JT(S:Z):W ax X 154 [] S=J (.A pZ.ao,S):=by
 have a:dj cO [(0,1,.I U 7640891576956012808),(1,1,.I U 13503953896175478587),(2,1,.I U 4354685564936845355),(3,1,.I U 11912009170470909681),(4,1,.I U 5840696475078001361),(5,1,.I U 11170449401992604703),(6,1,.I U 2270897969802886507),(7,1,.I U 6620516959819538809)]=J pZ.ao:=by rfl
 have b:pZ.ao.length=8:=rfl;have d:cd (.A pZ.ao)=.A pZ.ao:=by rfl
 have e:bd [] S.length (S++[.M cO [] O]) 8 (.P S.length 0) (.A pZ.ao)=J ([],S++[.M pZ.ao [] O]):=by rw[uH (kT pZ.jh)];rfl
 have c:aX (S++[.M pZ.ao [] O]) (.A 8) (.P S.length 0)=J (.A pZ.ao):=by rw[j_];rfl
 rw[V7 axy];simp_all
def am3:dj iD [(0,1,.I U 4794697086780616226),(1,1,.I U 8158064640168781261),(2,1,.I U 13096744586834688815),(3,1,.I U 16840607885511220156),(4,1,.I U 4131703408338449720),(5,1,.I U 6480981068601479193),(6,1,.I U 10538285296894168987),(7,1,.I U 12329834152419229976),(8,1,.I U 15566598209576043074),(9,1,.I U 1334009975649890238),(10,1,.I U 2608012711638119052),(11,1,.I U 6128411473006802146),(12,1,.I U 8268148722764581231),(13,1,.I U 9286055187155687089),(14,1,.I U 11230858885718282805),(15,1,.I U 13951009754708518548),(16,1,.I U 16472876342353939154),(17,1,.I U 17275323862435702243),(18,1,.I U 1135362057144423861),(19,1,.I U 2597628984639134821),(20,1,.I U 3308224258029322869),(21,1,.I U 5365058923640841347),(22,1,.I U 6679025012923562964),(23,1,.I U 8573033837759648693),(24,1,.I U 10970295158949994411),(25,1,.I U 12119686244451234320),(26,1,.I U 12683024718118986047),(27,1,.I U 13788192230050041572),(28,1,.I U 14330467153632333762),(29,1,.I U 15395433587784984357),(30,1,.I U 489312712824947311),(31,1,.I U 1452737877330783856),(32,1,.I U 2861767655752347644),(33,1,.I U 3322285676063803686),(34,1,.I U 5560940570517711597),(35,1,.I U 5996557281743188959),(36,1,.I U 7280758554555802590),(37,1,.I U 8532644243296465576),(38,1,.I U 9350256976987008742),(39,1,.I U 10552545826968843579),(40,1,.I U 11727347734174303076),(41,1,.I U 12113106623233404929),(42,1,.I U 14000437183269869457),(43,1,.I U 14369950271660146224),(44,1,.I U 15101387698204529176),(45,1,.I U 15463397548674623760),(46,1,.I U 17586052441742319658),(47,1,.I U 1182934255886127544),(48,1,.I U 1847814050463011016),(49,1,.I U 2177327727835720531),(50,1,.I U 2830643537854262169),(51,1,.I U 3796741975233480872),(52,1,.I U 4115178125766777443),(53,1,.I U 5681478168544905931),(54,1,.I U 6601373596472566643),(55,1,.I U 7507060721942968483),(56,1,.I U 8399075790359081724),(57,1,.I U 8693463985226723168),(58,1,.I U 9568029438360202098),(59,1,.I U 10144078919501101548),(60,1,.I U 10430055236837252648),(61,1,.I U 11840083180663258601),(62,1,.I U 13761210420658862357),(63,1,.I U 14299343276471374635),(64,1,.I U 14566680578165727644),(65,1,.I U 15097957966210449927),(66,1,.I U 16922976911328602910),(67,1,.I U 17689382322260857208),(68,1,.I U 500013540394364858),(69,1,.I U 748580250866718886),(70,1,.I U 1242879168328830382),(71,1,.I U 1977374033974150939),(72,1,.I U 2944078676154940804),(73,1,.I U 3659926193048069267),(74,1,.I U 4368137639120453308),(75,1,.I U 4836135668995329356),(76,1,.I U 5532061633213252278),(77,1,.I U 6448918945643986474),(78,1,.I U 6902733635092675308),(79,1,.I U 7801388544844847127)]=J (iB.map aH):=by kernel_rfl
def Ih(S:Z):W ax X 155 [] S=J (.A (iB.map aH),S):=by
 have b:=am3;have a:=SK iB;have c:(iB.map aH).length=80:=rfl;have d:iD.length=80:=rfl;have f:cd (.A (iB.map aH))=.A (iB.map aH):=by rfl
 have g:bd [] S.length (S++[.M iD [] O]) 80 (.P S.length 0) (.A (iB.map aH))=J ([],S++[.M (iB.map aH) [] O]):=by simp_all
 have e:aX (S++[.M (iB.map aH) [] O]) (.A 80) (.P S.length 0)=J (.A (iB.map aH)):=by simp_all[fQ]
 rw[V7 axz];simp_all
theorem AS:∀k n,(D0 k n).length=k
 |0,_=>rfl
 |k+1,n=>by simp[D0,AS k]
def cv8(n:Nat):nS L (.I U (n:Int))=J (.I L (((cq n).toNat:Nat):Int)):=by rfl
theorem aaz(l A B:F)(off:Nat)(h:off+(A.length+B.length)<=l.length):aM (aM l (off+A.length) B) off A=aM l off (A++B):=by
 have a:=Cq l (off+A.length) B V;apply A0
 grind [wm]
def ar_(l:F)(off:Nat)(h:off<=l.length):aM l off []=l:=by simp[aM]
def asa{T:Z}{j:Nat}{b:cZ}(h:T[j]? =J b):T.set j b=T:=by
 apply A0
 grind
def aoG{j off m cap nb:Nat}{bt:bV}:∀(k n:Nat)(cs:F)(T:Z)(ae:bV),T[j]? =J (.M cs bt O)->off+m<=cs.length->k<=m->m<1000000->n<18446744073709551616->
 DC ax X (.L FQ) ⟨[(0,.cH j off m cap 1),(1,.I U (n:Int)),(4,.I Y ((k:Int) -1))],ae,nb⟩ T=
  J (.E 0,⟨[],ae,nb⟩,T.set j (.M (aM cs off (R (D0 k n))) bt O))
 |0,n,cs,T,ae,hT,hc,hk,hm,hn=>by simp_all[aM,R,D0,asa,aj,pO]
 |k+1,n,cs,T,ae,hT,hc,hk,hm,hn=>by
  have b:ob 1 (.cH j off m cap 1) (.I Y (k:Int))=J (.P j (off+k)):=by grind [ob]
  have d:bd ae nb T 1 (.P j (off+k)) (.I L (dt L (n:Int)))=J (ae,T.set j (.M (aM cs (off+k) [bn (cq n)]) bt O)):=by rw[d_ (yY L _) hT,if_pos ⟨rfl,by omega⟩];rfl
  have c:(n:Int).fdiv (2^min 8 IntKind.u64.bits)=(n:Int)/256:=Int.fdiv_eq_ediv_of_nonneg _ fU;have a:=aoG (nb:=nb) (cap:=cap) k (n/256) (aM cs (off+k) [bn (cq n)]) (T.set j (.M (aM cs (off+k) [bn (cq n)]) bt O)) ae (RM ((lQ.1 hT).1)) (by rw[Cq _ _ _ (by grind)];exact hc) V hm V;have e:aM (aM cs (off+k) [bn (cq n)]) off (R (D0 k (n/256)))=aM cs off (R (D0 (k+1) n)):=by
   have f:(R (D0 k (n/256))).length=k:=by simp[AS]
   grind [aaz,R,D0]
  rw[TF,e]at a;rw[(V:((k+1:Nat):Int) -1=k),aj,aN pO];simp at a;simp[b,d,c,(cG V:dt Y ((k:Int) -1)=(k:Int) -1)];rw[ab pO];simp[a]
def Vb{j off m cap:Nat}{bt:bV}{cs:F}{T:Z}(a:T[j]? =J (.M cs bt O))(b:off+m<=cs.length)(c:m<1000000)(n:Nat)(d:n<18446744073709551616):
 W ax X 157 [.cH j off m cap 1,.I U (n:Int)] T=J (.cQ [],T.set j (.M (aM cs off (R (D0 m n))) bt O)):=by
 simp[j6 axB,fV,(cG V:dt Y ((m:Int) -1)=(m:Int) -1)];rw[ab pO];simp[aoG (nb:=T.length) (cap:=cap) m n cs T [] a b (gL _) c d,(λx=>og bW:∀x,(T.set j x).take T.length=T.set j x),dr,aO,ck,aF]
def pk(l:List (Q × B)):Q:=.sl .N 1 (l.map λp=>[p.1])
def cj(l:List (Q × B)):B:=l.flatMap λp=>p.2
def HI(S:Z)(p:Q × B):Prop:=aW p.1=p.1/\∀G,∃z,bZ (S++G) p.1=J (z,cJ p.2)/\(cJ p.2≠[]->z=1)
def PZ(b:B)(T:Z):∃z,bZ T (cV b)=J (z,cJ b)/\(cJ b≠[]->z=1):=by
 cases b with
 |nil=>exact⟨1,rfl,λ_=>rfl⟩
 |cons a r=>exact⟨1,rfl,λ_=>rfl⟩
theorem L_(S:Z)(b:B):HI S (cV b,b):=⟨by simp,λa=>PZ b _⟩
def am4(S:Z)(l:List (Q × B))(q:∀p∈l,HI S p)(y:(cj l).length<=100000000)(j:l.length<1000)(c:cZ):∀n i(e:Q)(ae:bV),i+n=l.length->mQ e ae (cj (l.take i))->
 ∃d aV,mQ d aV (cj l)/\DC ax X (.L AN) ⟨[(2,.P S.length 0),(3,e),(11,pk l),(12,.I Y (l.length:Int)),(13,.I Y (i:Int))],ae,S.length⟩ (S++[c])=
  J (.E 0,⟨[(2,.P S.length 0),(3,d)],aV,S.length⟩,S++[c]):=by
 intro n;induction n with
 |zero=>
  simp_all[aj,nm]
 |succ n r=>
  intro i e ae z o;have h:cj (l.take i)++l[i].2=cj (l.take (i+1)):=by grind [cj,List.take_add_one]
  have m:(cj (l.take i)++l[i].2).length<=(cj l).length:=by grind [cj,List.take_append_drop]
  have⟨A,k⟩:=q l[i] (List.getElem_mem V);have⟨v,w,f,g⟩:=fE.QM o (xs:=cJ l[i].2) (x:=l[i].1) (S:=S++[c]) (by grind [yV]) (k [c]);have⟨d,aV,u,E⟩:=r (i+1) v w V (by rw[<-h];simpa[mQ,cJ]using g);refine⟨d,aV,u, ?_⟩;have s:ob 1 (pk l) (.I Y (i:Int))=J (.fe .N [l[i].1] 0):=by grind [ob,pk,ug]
  have t:∀T,aX T .C (.fe .N [l[i].1] 0)=J l[i].1:=λT=>by rfl
  generalize l[i].1=b,pk l=a at*;rw[aj,aN nm];simp[-K,du,eJ,(aQ V:dt Y ((i:Int)+1)=((i+1:Nat):Int)),(V:(i:Int)<(l.length:Int)),s,t,f];rw[ab nm];trivial
def acz(r:h_)(a:B)(h:128<=a.length):GV 1 (.sl r 1 (cJ a)) (J (.I Y 128)) M=J (.sl (ug r) 1 (cJ (a.drop 128))):=by
 have b:(List.take (cJ a).length (cJ a)).drop 128=cJ (a.drop 128):=by rw[Dk];simp[cJ]
 grind [GV,kQ,yV]
def am5(S:Z)(l:cZ):∀n(g:B)(r:h_)(v:W8)(ae:bV),g.length=128*n->(r=.N\/r=.X\/∃k,r=.fr k)->
 DC ax X (.L AO) ⟨[(2,.P S.length 0),(3,.sl r 1 (cJ g)),(6,.P (S.length+1) 0),(7,.P (S.length+2) 0)],ae,S.length⟩ (S++[l,.M v.ao [] O,.M (iB.map aH) [] O])=
  J (.E 2,⟨[(2,.P S.length 0),(6,.P (S.length+1) 0)],ae,S.length⟩,S++[l,.M (PU n v g).ao [] O,.M (iB.map aH) [] O]):=by
 have gI:∀a b,K .gtr (.I Y a) (.I Y b)=J (.B (b_ (a>b))):=λ_ _=>rfl;intro n;induction n with
 |zero=>
  intro g r v ae hM u;have e:=V_ V;subst e;have q:PU 0 v []=v:=rfl;rw[q,aj,aN nv];generalize iB.map aH=f;simp[fV,cJ]
 |succ n ih=>
  intro g r v ae hM u;have m:128<=g.length:=V;have hp:(0:Int)<(g.length:Int):=V;have t:0<g.length:=V;have P:=acz r g m;have w:ug r=.N:=by rcases u with rfl|rfl|⟨k,rfl⟩<;>rfl
  rw[w]at P;have I:=ih (g.drop 128) .N (v.rK iB g) ae (by grind) (.inl rfl);have q:PU (n+1) v g=PU n (v.rK iB g) (g.drop 128):=rfl;rw[q];have tn:g≠[]:=by grind
  have E:ej (.sl .N 1 (cJ g))=cV g:=by cases g<;>rfl
  have e2:ej (.sl .X 1 (cJ g))=cV g:=by cases g<;>rfl
  obtain⟨s,g1,g2⟩:∃s,(∀T,bH T (.sl r 1 (cJ g))=J s)/\ej s=cV g:=by
   rcases u with rfl|rfl|⟨k,rfl⟩;·exact⟨_,λ_=>rfl,E⟩
   ·exact⟨_,λ_=>rfl,e2⟩
   ·exact⟨_,λ_=>rfl,E⟩
  have lm:∀T,bK T (.sl r 1 (cJ g))=T:=λT=>by rfl
  have um:∀T p,bk T p (.sl r 1 (cJ g))=p:=λT p=>by rfl
  have cm:=MO v g m (S.length+2) iB ajG (S++[l,.M v.ao [] O,.M (iB.map aH) [] O]) [] O (cl S _ 2);have x:aX (S++[l,.M v.ao [] O,.M (iB.map aH) [] O]) (.A 8) (.P (S.length+1) 0)=J (.A v.ao):=by rw[bI (cl S _ 1)];rfl
  have z:bd ae S.length (S++[l,.M v.ao [] O,.M (iB.map aH) [] O]) 8 (.P (S.length+1) 0) (.A (v.rK iB g).ao)=J (ae,S++[l,.M (v.rK iB g).ao [] O,.M (iB.map aH) [] O]):=by rw[d_ (kT (W8.jh _)) (cl S _ 1),if_pos ⟨rfl,by simp⟩,show(AV.A (v.rK iB g).ao).cells=(v.rK iB g).ao from rfl,dT bW];simp
  have tka:∀c,aY ae (.A c)=(.A c,ae):=λ_=>rfl;have y:∀T i o,bK T (.P i o)=T:=λ_ _ _=>rfl;have A:∀T p i o,bk T p (.P i o)=p:=λ_ _ _ _=>rfl;generalize v.rK iB g=j,iB.map aH=f at*;generalize PU n j (g.drop 128)=h,cJ (g.drop 128)=d at*;rw[aj,aN nv];try simp at I
  simp[(by simp[fV]:fV (.sl r 1 (cJ g))=some (.I .i64 (g.length:Int))),gI,t, -K,x,g1,g2,lm,um,y,A,cm,z,P];rw[ab nv];simp[I]
def Ii(v:W8)(i:Nat):B:=(v.l.take i).flatMap λx=>D0 8 x.toNat
def Nr:∀l:List UInt64,(l.flatMap λx=>D0 8 x.toNat).length=8*l.length:=by intro l;induction l<;>grind [AS]
def ajH(v:W8)(i:Nat)(h:i<=8):(Ii v i).length=8*i:=by rw[Ii,Nr,List.length_take,show v.l.length=8 from rfl,RT h]
def W8.acC(v:W8):v.tu.length=64:=Nr v.l
def aep(v:W8)(i:Nat)(h:i<8):Ii v i++D0 8 (v.l.getD i 0).toNat=Ii v (i+1):=by unfold Ii;rw[vG,Ac (show i<v.l.length from h)];simp
def Mn(l a:F)(off:Nat)(h:off+a.length<=l.length):(aM l off a).length=l.length:=by unfold aM;grind
theorem XY(l a:F)(off k:Nat)(h:off+a.length<=l.length):(aM l off a)[k]? =if off<=k/\k<off+a.length then a[k -off]? else l[k]? :=by grind [aM,List.length_append]
def Va(l A B:F)(h:A.length+B.length<=l.length):aM (aM l 0 A) A.length B=aM l 0 (A++B):=by
 have a:=Mn l A 0 V;apply A0
 grind [XY]
def am6{S:Z}(g:W8)(a b c:cZ)(ae:bV):∀d i,i+d=8->
 DC ax X (.L AP) ⟨[(2,.P S.length 0),(8,.P (S.length+3) 0),(36,.A g.ao),(37,.I Y (i:Nat))],ae,S.length⟩ (S++[a,b,c,.M (aM bR 0 (R (Ii g i))) [] O])=
  J (.E 4,⟨[(2,.P S.length 0),(8,.P (S.length+3) 0)],ae,S.length⟩,S++[a,b,c,.M (R g.tu) [] O]):=by
 have q:bR.length=64:=rfl;intro d;induction d with
 |zero=>
  intro i v;have e:i=8:=V;subst e;have e:Ii g 8=g.tu:=rfl;simp_all[W8.acC,aj,ny]
 |succ d y=>
  intro i v;have u:(i:Int)<8:=V;have n:=aQ (i:=i) V;have w:=ajH g i V;have hs:(aM bR 0 (R (Ii g i))).length=64:=by rw[Mn _ _ _ (by rw[q];simp;omega)];exact q
  have E:N7 8 1 .C (.A g.ao) (.I Y (i:Int))=J (aH (g.l.getD i 0)):=by have:i<8:=V;have t:¬(i:Int)<0:=V;unfold N7;simp only;rw[if_neg t,LW,if_pos this,Av,W8.aoF];show(g.l.map aH)[i]? =_;rw[yT,Ac (show i<g.l.length from this)];rfl
  have x64:=jx (g.l.getD i 0);have k:=y (i+1) V;rw[<-aep g i V]at k;have s:=Va bR (R (Ii g i)) (R (D0 8 (g.l.getD i 0).toNat)) (by rw[q];simp[AS];omega);rw[show(R (Ii g i)).length=8*i by simp[w],show R (Ii g i)++R (D0 8 (g.l.getD i 0).toNat)=R (Ii g i++D0 8 (g.l.getD i 0).toNat)by simp[R]]at s;rw[<-s]at k;generalize g.l.getD i 0=x at*;have p:=Vb (T:=S++[a,b,c,.M (aM bR 0 (R (Ii g i))) [] O]) (j:=S.length+3) (off:=8*i) (m:=8) (cap:=64 -8*i) (cl S _ 3) V V x.toNat V;rw[zM S _ 3]at p;have p:W ax X 157 [.cH (S.length+3) (8*i) 8 (64 -8*i) 1,aH x] _=_:=p;obtain⟨A,hA⟩:∃A:Int,A=((8*i:Nat):Int):=⟨_,rfl⟩;obtain⟨f,hB⟩:∃f:Int,f=((8*i+8:Nat):Int):=⟨_,rfl⟩;have r:dt Y (A+8)=f:=by rw[cG V];omega
  have sl:qH 64 1 (.P (S.length+3) 0) (J (.I Y A)) (J (.I Y f))=J (.cH (S.length+3) (8*i) 8 (64 -8*i) 1):=by
   have I:¬64=8*i:=V;have e4:8*i+8 -8*i=8:=V;unfold qH;simp;rw[if_pos ⟨by omega,by omega⟩];simp only;rw[if_pos ⟨by omega,by omega⟩]
   grind [Int.toNat_natCast]
  simp at p;generalize aM bR 0 (R (Ii g i))=h at*;have ra:∀i o l c z,AW (.cH i o l c z)=J (.cH i o l c z):=λ_ _ _ _ _=>rfl;have P:∀i o l c z,ej (.cH i o l c z)=.cH i o l c z:=λ_ _ _ _ _=>rfl;have ri:AW (aH x)=J (aH x):=rfl;rw[aj,aN ny];simp at n k;simp[u,E,ra,ri,P, -nS,(by rw[cG V];omega:IntKind.wrap .i64 (8*(i:Int))=A),r,sl,p,dh,n, -N7];rw[ab ny];simp[k]
def DQ(l:List (Q × B))(S:Z)(hv:∀p∈l,HI S p)(hbs:l.length<1000)(hb:(cj l).length<=1000000):W ax X 71 [pk l] S=J (.A (R (dV (cj l))),S):=by
 have⟨o1,t1,a1,y⟩:=am4 S l hv V hbs (.M bR [] O) l.length 0 .aw [] V (.inl ⟨rfl,rfl⟩);have e0:((0:Nat):Int)=0:=rfl;rw[e0]at y;generalize cj l=b at*;have fl:(fR b.length).length<=300:=by simp[fR,AS];omega
 have fne:fR b.length≠[]:=by nofun
 have fp:∀T,HC [.I Y (b.length:Int),.I Y 128,.I Y 16] T=J (cV (fR b.length),T):=λT=>by
  have e:cV (fR b.length)=.sl .N 1 ((fR b.length).map λc=>[.I L c.toNat]):=by rfl
  grind [HC]
 have tkB:∀u,aY u (cV (fR b.length))=(cV (fR b.length),u):=λu=>by rfl
 have⟨o2,w,b1,b2⟩:=fE.QM a1 (xs:=cJ (fR b.length)) (x:=cV (fR b.length)) (S:=S++[.M bR [] O]) (by rw[yV,yV];omega) (PZ _ _);have z:mQ o2 w (b++fR b.length):=by simpa[mQ,cJ]using b2
 obtain⟨m,hN⟩:∃m,(b++fR b.length).length=128*m:=⟨(b++fR b.length).length/128,by grind [fR,AS]⟩;have aLj:b++fR b.length≠[]:=by simp[fR]
 have ed:dV b=(PU m pZ (b++fR b.length)).tu:=by grind [dV]
 obtain⟨r,eo,hr⟩:∃r,o2=.sl r 1 (cJ (b++fR b.length))/\(r=.N\/r=.X\/∃k,r=.fr k):=by rcases z with⟨h,_⟩|h|⟨k,h,_⟩;all_goals grind [tj]
 have A:=am5 S (.M bR [] O) m (b++fR b.length) r pZ w hN hr;rw[<-eo]at A;rw[ed];generalize PU m pZ (b++fR b.length)=n at*;have hL:=am6 (S:=S) n (.M bR [] O) (.M n.ao [] O) (.M (iB.map aH) [] O) w 8 0 rfl;rw[show aM bR 0 (R (Ii n 0))=bR from by rfl]at hL;have ho:=n.acC;have dl:df (R n.tu):=aL _;have v:(R n.tu).length=64:=by simp[ho]
 generalize R n.tu=s at*;have c3:=JT;have c4:=Ih;have hk1:cO.length=8:=rfl;have hk2:iD.length=80:=rfl;have hk3:bR.length=64:=rfl;have tka:∀t c,aY t (.A c)=(.A c,t):=λ_ _=>rfl;have st1:∀o,bd w S.length (S++[o,.M cO [] O,.M iD [] O]) 8 (.P (S.length+1) 0) (.A pZ.ao)=J (w,S++[o,.M pZ.ao [] O,.M iD [] O]):=λo=>by rw[d_ (kT (W8.jh _)) (cl S _ 1),if_pos ⟨rfl,by omega⟩,show(AV.A pZ.ao).cells=pZ.ao from rfl,dT (by rfl)];simp
 have st2:∀o q,bd w S.length (S++[o,q,.M iD [] O]) 80 (.P (S.length+2) 0) (.A (iB.map aH))=J (w,S++[o,q,.M (iB.map aH) [] O]):=λo q=>by rw[d_ (kT (SK _)) (cl S _ 2),if_pos ⟨rfl,by omega⟩,show(AV.A (iB.map aH)).cells=iB.map aH from rfl,dT (by rfl)];simp
 have Vk:∀o q d,aX (S++[o,.M n.ao [] O,q,d]) (.A 8) (.P (S.length+1) 0)=J (.A n.ao):=λo q d=>by rw[bI (cl S _ 1)];rfl
 have ld3:∀a b c,aX (S++[a,b,c,.M s [] O]) (.A 64) (.P (S.length+3) 0)=J (.A s):=λa b c=>by rw[bI (cl S _ 3)];exact(fQ _ v).trans (by rw[dl.jg])
 have ld0:∀l,aX (S++.M s [] O::l) (.A 64) (.P S.length 0)=J (.A s):=λl=>by rw[j_];exact(fQ _ v).trans (by rw[dl.jg])
 have hsp:aM bR 0 s=s:=dT V;have rs:∀u i,dr 71 u [.A s] S (S++i)=J (.A s,S):=λu i=>by simp_all
 have st:∀u l,bd u S.length (S++.M bR [] O::l) 64 (.P S.length 0) (.A s)=J (u,S++.M s [] O::l):=λu l=>by simp_all
 have dB:=Cw (fR b.length);have pf:nk.sN 153=J HC:=rfl;have lnb:fV (pk l)=J (.I Y (l.length:Int)):=by simp[fV,pk]
 generalize cV (fR b.length)=g,iB.map aH=j,P:bR=KZ,I:cO=KY,E:iD=KX,pZ.ao=H5,n.ao=VE,pk l=f at*;rw[jr aE4,P,I,E];simp[lnb];rw[ab nm];simp at y A hL;simp[y,(by rw[fE.len a1,yV]:fV o1=some (.I .i64 (b.length:Int))),pf,fp,tka,dB.Kr,b1,c3,c4,st1,st2];rw[ab nv];simp[A,Vk];rw[ab ny];simp[hL,ld3,st,ld0,rs]
section
class Fld (ch:Nat) [NeZero ch] where
 inv:Fin ch->Fin ch
 Ah:∀a:Fin ch,a≠0->a*inv a=1
 d:Fin ch
 i:Fin ch
 hi:i*i= -1
 hd:∀s:Fin ch,s*s≠d
 h2:(1+1:Fin ch)≠0
section
variable{ch:Nat}[NeZero ch][F:Fld ch]
def M9{a b:Fin ch}(h:a*b=0):a=0\/b=0:=by
 by_cases c:a=0;·omega
 ·have:=F.Ah a c
  grind
def afJ:(1:Fin ch)≠0:=λh=>F.h2 (by grind)
def afu{x1 y1 x2 y2:Fin ch}(l:y1*y1=1+x1*x1+F.d*(x1*x1)*(y1*y1))(m:y2*y2=1+x2*x2+F.d*(x2*x2)*(y2*y2))(t:Fin ch)(o:t=F.d*x1*x2*y1*y2)(h:t*t=1):False:=by
 have f:=F.hi
 have b:∀j:Fin ch,j*j= -1->x1*y1*(y2+j*x2)=0:=λj n=>by
  have e:(y1+t*j*x1)*(y1+t*j*x1)=F.d*((x1*y1*(y2+j*x2))*(x1*y1*(y2+j*x2))):=by grind
  by_cases c:x1*y1*(y2+j*x2)=0;·exact c
  ·exfalso
   have p:=F.Ah _ c;generalize x1*y1*(y2+j*x2)=w at*;refine F.hd ((y1+t*j*x1)*F.inv w) ?_;generalize F.inv w=v,y1+t*j*x1=s at*
   grind
 have a:x1*y1≠0:=λe=>afJ (ch:=ch) (by grind);have g:=(M9 (b F.i f)).resolve_left a;have i:=(M9 (b (-F.i) (by grind))).resolve_left a;have d:(1+1:Fin ch)*(F.i*x2)=0:=by grind
 have k:=(M9 d).resolve_left F.h2
 grind
structure EP(ch:Nat)[NeZero ch][F:Fld ch]where
 x:Fin ch
 y:Fin ch
 on:y*y=1+x*x+F.d*(x*x)*(y*y)
def EP.ext{p q:EP ch}(a:p.x=q.x)(b:p.y=q.y):p=q:=by cases p;simp_all
def tt(p q:EP ch):Fin ch:=F.d*p.x*q.x*p.y*q.y
def den(p q:EP ch):1+tt p q≠0/\1 -tt p q≠0:=by
 have h:=afu p.on q.on (tt p q) rfl
 grind
def ap5{u v A B a b d:Fin ch}(c:u*A=1)(e:v*B=1)(h:b*b*(u*u)=u*v*(u*v)+a*a*(v*v)+d*(a*a)*(b*b)):(b*B)*(b*B)=1+(a*A)*(a*A)+d*((a*A)*(a*A))*((b*B)*(b*B)):=by grind
def closed{d x1 y1 x2 y2 t:Fin ch}(a:y1*y1=1+x1*x1+d*(x1*x1)*(y1*y1))(b:y2*y2=1+x2*x2+d*(x2*x2)*(y2*y2))(c:t=d*x1*x2*y1*y2):
 (y1*y2+x1*x2)*(y1*y2+x1*x2)*((1+t)*(1+t))=(1+t)*(1 -t)*((1+t)*(1 -t))+(x1*y2+x2*y1)*(x1*y2+x2*y1)*((1 -t)*(1 -t))+d*((x1*y2+x2*y1)*(x1*y2+x2*y1))*((y1*y2+x1*x2)*(y1*y2+x1*x2)):=by
 grind
def EP.add(p q:EP ch):EP ch where
 x:=(p.x*q.y+q.x*p.y)*F.inv (1+tt p q)
 y:=(p.y*q.y+p.x*q.x)*F.inv (1 -tt p q)
 on:=ap5 (F.Ah _ (den p q).1) (F.Ah _ (den p q).2) (closed p.on q.on rfl)
theorem EP.add_comm(p q:EP ch):p.add q=q.add p:=by
 have e:tt p q=tt q p:=by
  unfold tt
  grind
 apply EP.ext
 ·show(p.x*q.y+q.x*p.y)*F.inv (1+tt p q)=(q.x*p.y+p.x*q.y)*F.inv (1+tt q p)
  grind
 ·show(p.y*q.y+p.x*q.x)*F.inv (1 -tt p q)=(q.y*p.y+q.x*p.x)*F.inv (1 -tt q p)
  grind
end
end
section
section
variable{ch:Nat}[NeZero ch][F:Fld ch]
def akU(d x1 y1 x2 y2 a b:Fin ch)(c:y1*y1=1+x1*x1+d*(x1*x1)*(y1*y1))(e:y2*y2=1+x2*x2+d*(x2*x2)*(y2*y2))(f:b*b=1+a*a+d*(a*a)*(b*b)):
 ((x1*y2+x2*y1)*(1 -d*x1*x2*y1*y2)*b+a*(y1*y2+x1*x2)*(1+d*x1*x2*y1*y2))*((1+d*x2*a*y2*b)*(1 -d*x2*a*y2*b)+d*x1*y1*(x2*b+a*y2)*(y2*b+x2*a))=
 (x1*(y2*b+x2*a)*(1+d*x2*a*y2*b)+(x2*b+a*y2)*(1 -d*x2*a*y2*b)*y1)*((1+d*x1*x2*y1*y2)*(1 -d*x1*x2*y1*y2)+d*(x1*y2+x2*y1)*(y1*y2+x1*x2)*a*b):=by
 grind
def akV(d x1 y1 x2 y2 a b:Fin ch)(c:y1*y1=1+x1*x1+d*(x1*x1)*(y1*y1))(e:y2*y2=1+x2*x2+d*(x2*x2)*(y2*y2))(f:b*b=1+a*a+d*(a*a)*(b*b)):
 ((y1*y2+x1*x2)*(1+d*x1*x2*y1*y2)*b+a*(x1*y2+x2*y1)*(1 -d*x1*x2*y1*y2))*((1+d*x2*a*y2*b)*(1 -d*x2*a*y2*b) -d*x1*y1*(x2*b+a*y2)*(y2*b+x2*a))=
 (y1*(y2*b+x2*a)*(1+d*x2*a*y2*b)+x1*(x2*b+a*y2)*(1 -d*x2*a*y2*b))*((1+d*x1*x2*y1*y2)*(1 -d*x1*x2*y1*y2) -d*(x1*y2+x2*y1)*(y1*y2+x1*x2)*a*b):=by
 grind
def abe{a A f c b B g d:Fin ch}(h:a*A*c=f)(i:b*B*d=g)(e:f*d=g*c)(z1:c≠0)(z2:d≠0):a*A=b*B:=by
 have j:=F.Ah _ z1;have k:=F.Ah _ z2
 grind
theorem IW{a b:Fin ch}(c:a≠0)(d:b≠0):a*b≠0:=λh=>(M9 h).elim c d
def anz{x1 y1 x2 y2 a b d A B C:Fin ch}(c:(1+d*x1*x2*y1*y2)*A=1)(e:(1 -d*x1*x2*y1*y2)*B=1)(f:(1+d*((x1*y2+x2*y1)*A)*a*((y1*y2+x1*x2)*B)*b)*C=1):
 (((x1*y2+x2*y1)*A)*b+a*((y1*y2+x1*x2)*B))*C*((1+d*x1*x2*y1*y2)*(1 -d*x1*x2*y1*y2)+d*(x1*y2+x2*y1)*(y1*y2+x1*x2)*a*b)=(x1*y2+x2*y1)*(1 -d*x1*x2*y1*y2)*b+a*(y1*y2+x1*x2)*(1+d*x1*x2*y1*y2):=by
 grind
def anA{x1 y1 x2 y2 a b d A B C:Fin ch}(c:(1+d*x1*x2*y1*y2)*A=1)(e:(1 -d*x1*x2*y1*y2)*B=1)(f:(1 -d*((x1*y2+x2*y1)*A)*a*((y1*y2+x1*x2)*B)*b)*C=1):
 (((y1*y2+x1*x2)*B)*b+((x1*y2+x2*y1)*A)*a)*C*((1+d*x1*x2*y1*y2)*(1 -d*x1*x2*y1*y2) -d*(x1*y2+x2*y1)*(y1*y2+x1*x2)*a*b)=(y1*y2+x1*x2)*(1+d*x1*x2*y1*y2)*b+a*(x1*y2+x2*y1)*(1 -d*x1*x2*y1*y2):=by
 grind
def anB{x1 y1 x2 y2 a b d A B U:Fin ch}(c:(1+d*x1*x2*y1*y2)*A=1)(e:(1 -d*x1*x2*y1*y2)*B=1)(f:1+d*((x1*y2+x2*y1)*A)*a*((y1*y2+x1*x2)*B)*b≠0):
 (1+d*x1*x2*y1*y2)*(1 -d*x1*x2*y1*y2)+d*(x1*y2+x2*y1)*(y1*y2+x1*x2)*a*b≠0:=by
 grind
def anD{x1 y1 x2 y2 a b d A B U:Fin ch}(c:(1+d*x1*x2*y1*y2)*A=1)(e:(1 -d*x1*x2*y1*y2)*B=1)(f:1 -d*((x1*y2+x2*y1)*A)*a*((y1*y2+x1*x2)*B)*b≠0):
 (1+d*x1*x2*y1*y2)*(1 -d*x1*x2*y1*y2) -d*(x1*y2+x2*y1)*(y1*y2+x1*x2)*a*b≠0:=by
 grind
def EP.add_assoc(p q r:EP ch):(p.add q).add r=p.add (q.add r):=by
 have⟨i,k⟩:=den p q;have⟨j,l⟩:=den q r;have⟨e,g⟩:=den (p.add q) r;have⟨f,h⟩:=den (q.add r) p;have a:=F.Ah _ i;have b:=F.Ah _ k;have c:=F.Ah _ j;have d:=F.Ah _ l;have m:=F.Ah _ e;have n:=F.Ah _ g;have o:=F.Ah _ f;have s:=F.Ah _ h;rw[EP.add_comm p (q.add r)];have t:=akU F.d p.x p.y q.x q.y r.x r.y p.on q.on r.on;have u:=akV F.d p.x p.y q.x q.y r.x r.y p.on q.on r.on;apply EP.ext
 ·refine abe (anz a b m) (anz c d o) ?_ (anB (U:=0) a b e) (anB (U:=0) c d f)
  grind
 ·refine abe (anA a b n) (anA c d s) ?_ (anD (U:=0) a b g) (anD (U:=0) c d h)
  clear a b c d m n o s i k j l e g f h t
  grind
def EP.zero:EP ch:=⟨0,1,by grind⟩
def EP.neg(p:EP ch):EP ch:=⟨-p.x,p.y,by have:=p.on;grind⟩
def akW(p:EP ch):tt EP.zero p=0:=by
 show F.d*0*p.x*1*p.y=0
 grind
def aea:F.inv (1:Fin ch)=1:=by
 have:=F.Ah (1:Fin ch) afJ
 grind
theorem EP.zero_add(p:EP ch):EP.zero.add p=p:=by
 have a:(1:Fin ch)+tt EP.zero p=1:=by rw[akW];grind
 apply EP.ext
 ·show(0*p.y+p.x*1)*F.inv (1+tt EP.zero p)=p.x
  rw[a,aea]
  grind
 ·show(1*p.y+0*p.x)*F.inv (1 -tt EP.zero p)=p.y
  rw[(by grind:(1:Fin ch) -tt EP.zero p=1),aea]
  grind
def EP.Na:Nat->EP ch->EP ch
 |0,_=>EP.zero
 |n+1,p=>(EP.Na n p).add p
def EP.IX(p:EP ch)(m:Nat):∀n,EP.Na (m+n) p=(EP.Na m p).add (EP.Na n p)
 |0=>by grind [EP.Na,EP.add_comm,EP.zero_add]
 |n+1=>by show(EP.Na (m+n) p).add p=(EP.Na m p).add ((EP.Na n p).add p);rw[EP.IX p m n,EP.add_assoc]
theorem EP.abf(p:EP ch):EP.Na 1 p=p:=EP.zero_add p
def EP.abg(p:EP ch)(m:Nat):∀n,EP.Na (n*m) p=EP.Na n (EP.Na m p)
 |0=>by rw[NX];rfl
 |n+1=>by rw[Ou,EP.IX,EP.abg p m n];rfl
end
end
instance:NeZero pP:=⟨by decide⟩
abbrev Zp:=Fin pP
def fi(n:Nat):Zp:=⟨n %pP,jf _ (by decide)⟩
theorem Du{a b:Nat}:fi a=fi b↔a %pP=b %pP:=by grind [fi]
def TR(a b:Nat):fi (a+b)=fi a+fi b:=Fin.ext (Oy ..)
theorem rS(a b:Nat):fi (a*b)=fi a*fi b:=Fin.ext (EL ..)
theorem A8(a:Nat):fi (a %pP)=fi a:=Du.2 (Nat.mod_mod ..)
theorem afQ(a:Zp):fi a.val=a:=Fin.ext (iX a.isLt)
theorem yW:fi 0=0:=Fin.ext fU
theorem A9:fi 1=1:=Fin.ext fU
def aJO:fi pP=0:=yW▸Du.2 rfl
theorem OF(a b:Nat):fi (mM a b)=fi a*fi b:=by unfold mM;rw[A8,rS]
theorem abh(a b:Nat):fi (mA a b)=fi a+fi b:=by unfold mA;rw[A8,TR]
theorem OG{a b:Nat}(c:b<pP):fi (mS a b)=fi a -fi b:=by grind [fi,pP,mS]
def avd{a:Nat}(h:a<pP)(b:a≠0):fi a≠0:=by grind [yW,Du,iX]
def Wy:fi nT*fi nT= -1:=by
 have h:fi (nT*nT)=fi (pP -1):=Du.2 (by simp_all[abi]);have a:fi (pP -1)+fi 1=0:=by rfl
 rw[A9]at a
 grind [rS]
def ave:wJ^((pP -1)/2)%pP=pP -1:=by rw[<-L4 fU,IY];kernel_rfl
def ap9(s:Zp):s*s≠fi wJ:=by
 rw[<-afQ s,<-rS];intro e;have h:=Du.1 e;have d:=s.isLt;generalize s.val=n at*;have b:¬pP∣n:=by grind [pP,Nat.mod_eq_zero_of_dvd,IY]
 have c:=TS ap_ b;have a:pP -1=2*((pP -1)/2):=fU;rw[a,uB,Nat.pow_two,EJ,h,<-EJ,ave]at c;omega
instance:Fld pP where
 inv a:=fi (oJ a.val)
 Ah a h:=by
  have h0:a.val≠0:=λe=>h (Fin.ext e);have hi:=acV a.isLt h0;have:fi (a.val*oJ a.val)=fi 1:=Du.2 (by rw[hi];decide)
  grind [rS,afQ,A9]
 d:=fi wJ
 i:=fi nT
 hi:=Wy
 hd:=ap9
 h2:=by trivial
structure P3.rep(P:P3)(e:EP pP):Prop where
 z:fi P.z≠0
 x:fi P.x=e.x*fi P.z
 y:fi P.y=e.y*fi P.z
def akX{x1 y1 z1 x2 y2 z2 d t A B:Zp}(e:t=d*x1*x2*y1*y2)(a:(1+t)*A=1)(b:(1 -t)*B=1)(h:z1≠0)(i:z2≠0)(j:1+t≠0)(k:1 -t≠0):
 let c:=z1*z2
 let f:=c*c+d*(x1*z1*(x2*z2)*(y1*z1*(y2*z2)))
 let g:=c*c -d*(x1*z1*(x2*z2)*(y1*z1*(y2*z2)))
 f*g≠0/\(x1*z1*(y2*z2)+y1*z1*(x2*z2))*c*g=(x1*y2+x2*y1)*A*(f*g)/\(y1*z1*(y2*z2)+x1*z1*(x2*z2))*c*f=(y1*y2+x1*x2)*B*(f*g):=by
 grind [IW]
def TO{P Q:P3}{p q:EP pP}(l:P.rep p)(m:Q.rep q):(P.add Q wJ).rep (p.add q):=by
 have⟨j,b,c⟩:=l;have⟨k,e,f⟩:=m;have⟨g,h⟩:=den p q;have a:=akX (x1:=p.x) (y1:=p.y) (z1:=fi P.z) (x2:=q.x) (y2:=q.y) (z2:=fi Q.z) (d:=fi wJ) (t:=tt p q) rfl (Fld.Ah _ g) (Fld.Ah _ h) j k g h;simp only at a;have⟨r,n,o⟩:=a;have i:fi (mS (mM (mM P.z Q.z) (mM P.z Q.z)) (mM wJ (mM (mM P.x Q.x) (mM P.y Q.y))))=fi (mM (mM P.z Q.z) (mM P.z Q.z)) -fi (mM wJ (mM (mM P.x Q.x) (mM P.y Q.y))):=OG (jf _ fU);refine⟨?_, ?_, ?_⟩;·grind [P3.add,OF,abh]
 ·unfold P3.add
  simp only[OF,abh,i,b,c,e,f];exact n
 ·unfold P3.add
  simp only[OF,abh,i,b,c,e,f];exact o
def afR:j7.rep EP.zero:=by refine⟨?_, ?_, ?_⟩;all_goals trivial
def TT(b:B):∀(n i:Nat)(c a:P3)(x o:EP pP),c.rep x->a.rep o->(P3.mul b n i c a).rep (o.add (EP.Na (dN b/2^i %2^n) x))
 |0,i,c,a,x,o,hX,hO=>by rw[(V:dN b/2^i %2^0=0)];show a.rep (o.add EP.zero);rw[EP.add_comm,EP.zero_add];exact hO
 |n+1,i,c,a,x,o,hX,hO=>by
  rw[P3.mul,abj];have d:=TO hX hX;have f:x.add x=EP.Na 2 x:=by grind [EP.Na,EP.abf]
  rw[f]at d;have e:dN b/2^i %2^(n+1)=dN b/2^i %2+(dN b/2^(i+1)%2^n)*2:=by grind [Nat.mod_mul,sF]
  rw[e,EP.IX,EP.abg,<-EP.add_assoc];have h:dN b/2^i %2=0\/dN b/2^i %2=1:=V;rcases h with h|h
  ·rw[h]
   have g:o.add (EP.Na 0 x)=o:=by show o.add EP.zero=o;rw[EP.add_comm,EP.zero_add]
   rw[g];exact TT b n (i+1) _ _ _ _ d hO
  ·rw[h,EP.abf]
   exact TT b n (i+1) _ _ _ _ d (TO hO hX)
def Kp(b:B)(d:b.length=32){a:P3}{x:EP pP}(c:a.rep x):(P3.mul b 256 0 a j7).rep (EP.Na (dN b) x):=by
 have h:=TT b 256 0 a j7 x EP.zero c afR
 grind [zQ,EP.zero_add]
def EP.bytes(e:EP pP):B:=if e.x.val %2=1 then(jw 32 e.y.val).set 31 (cq (((jw 32 e.y.val).getD 31 0).toNat+128))else jw 32 e.y.val
def TU{a:Nat}{x:Zp}(h:a<pP)(e:fi a=x):a=x.val:=by rw[<-e];exact(iX h).symm
def RY{P:P3}{e:EP pP}(h:P.rep e)(c:P.z<pP):P.bytes=e.bytes:=by
 have⟨a,d,f⟩:=h;have g:fi P.z*fi (oJ P.z)=1:=by rw[<-rS,<-A9];exact Du.2 (by rw[acV c (λb=>a (by rw[b,yW]))];decide)
 have i:mM P.x (oJ P.z)=e.x.val:=TU (jf _ fU) (by grind [OF]);have j:mM P.y (oJ P.z)=e.y.val:=TU (jf _ fU) (by grind [OF]);unfold P3.bytes EP.bytes
 grind
def alx(l c:F)(E c2 c7:Q)(y yy u yd v w nw n d1:Fl)(p PA PB:Pt)(i m ok zw:Bool)(S:Z)(g:l.length=32)(e:df l)(hl2:c.length=32)(f:df c)
 (j:dx (.A 32) c 0=J (.A c)) (h:∀a,aX (S++[.M l [] O,a]) .C (.P S.length 31)=J E) (s:K .shr E (.I U 7)=J c7) (d:K .eql c7 (.I L 1)=J (.B i))
 (q:K .and E (.I L 127)=J c2) (A:∀a,bd [] S.length (S++[.M l [] O,a]) 1 (.P S.length 31) c2=J ([],S++[.M c [] O,a]))
 (r:∀S,W ax X 103 [.A c] S=J (.B m,S)) (z:∀S,W ax X 75 [] S=J (p.ao,S)) (s1:∀S,W ax X 104 [.I bM 1] S=J (n.ao,S))
 (o:∀S,W ax X 73 [.A c] S=J (y.ao,S)) (I:∀S,W ax X 79 [y.ao,y.ao] S=J (yy.ao,S)) (P:∀S,W ax X 106 [yy.ao,n.ao] S=J (u.ao,S))
 (od:∀S,W ax X 107 [] S=J (d1.ao,S)) (T:∀S,W ax X 79 [yy.ao,d1.ao] S=J (yd.ao,S)) (m4:∀S,W ax X 108 [yd.ao,n.ao] S=J (v.ao,S))
 (rt:∀S,W ax X 105 [u.ao,v.ao] S=J (.cQ [w.ao,.B ok],S)) (hz:∀S,W ax X 109 [w.ao] S=J (.B zw,S)) (ng:∀S,W ax X 110 [w.ao] S=J (nw.ao,S))
 (aA:∀S,W ax X 72 [nw.ao,y.ao] S=J (PA.ao,S)) (aB:∀S,W ax X 72 [w.ao,y.ao] S=J (PB.ao,S)):
 W ax X 47 [.A l] S=J (if m=G then(if ok=G then(if i=G then(if zw=G then .cQ [p.ao,.B O]else .cQ [PA.ao,.B G])else .cQ [PB.ao,.B G])else .cQ [p.ao,.B O])else .cQ [p.ao,.B O],S):=by
 have cc1:(AV.A l).cells=l:=rfl;have cc2:(AV.A c).cells=c:=rfl;have k:∀(x:Pt)(b:Bool),aF (.cQ [x.ao,.B b])=G:=λ_ _=>rfl;have tk:∀(t:bV)(x:Fl)(b:Bool),aY t (.cQ [x.ao,.B b])=(.cQ [x.ao,.B b],t):=λ_ _ _=>rfl;rw[jr aEc];cases m with
 |false=>simp-implicitDefEqProofs [g,e,f,j,h,s,d,q,A,r,z,k,bU, -K, -AV.cells, -aU]
 |true=>
  cases ok with
  |false=>cases i<;>simp-implicitDefEqProofs [g,e,f,j,h,s,d,q,A,r,z,s1,o,I,P,od,T,m4,rt,k,tk,bU,bB, -K, -AV.cells, -aU]
  |true=>
   cases i with
   |false=>simp-implicitDefEqProofs [g,e,f,j,h,s,d,q,A,r,z,s1,o,I,P,od,T,m4,rt,ng,aB,k,tk,bU,bB, -K, -AV.cells, -aU]
   |true=>cases zw<;>simp-implicitDefEqProofs [g,e,f,j,h,s,d,q,A,r,z,s1,o,I,P,od,T,m4,rt,hz,ng,aA,k,tk,bU,bB, -K, -AV.cells, -aU]
def agD(c:UInt8):K .and (bn c) (.I L 127)=J (bn (cq (c.toNat %128))):=by show J (AV.I L (dt L ((gK 8 (c.toNat:Int)&&&gK 8 ((127:Nat):Int)).toNat:Int)))=_;rw[Wu,Yg,Yg,iX c.toNat_lt,show(127:Nat)%2^8=2^7 -1 from rfl,On,afW,bn,rU]
def ajW(c:UInt8):K .eql (bn (cq (c.toNat/2^7))) (.I L 1)=J (.B (b_ (128<=c.toNat))):=by
 have a:=c.toNat_lt;have e:(cq (c.toNat/2^7)).toNat=c.toNat/128:=by simp_all
 show J (AV.B (((cq (c.toNat/2^7)).toNat:Int)==1))=_
 grind [decide_eq_false]
def awG{x y:Fl}(a:x.n.ib)(b:y.n.ib):(x.add y).p=mA x.p y.p/\(x.add y).n.ib:=by grind [Dv,Fl.p,mA,Nat.add_mod]
def awH{x y:Fl}(a:x.n.ib)(b:y.n.ib):(x.sub y).p=mS x.p y.p/\(x.sub y).n.ib:=Ht a b
theorem EY:Fl.one.p=1/\Fl.one.n.ib:=⟨by rfl,agE.2⟩
structure Pt.is(q:Pt)(p:P3):Prop where
 x:q.x.p=p.x
 y:q.y.p=p.y
 z:q.z.p=p.z
 t:q.t.p=q.x.p*q.y.p %pP
 gx:q.x.n.ib
 gy:q.y.n.ib
 gz:q.z.n.ib
 gt:q.t.n.ib
def OI:Fl.nil.p=0/\Fl.nil.n.ib:=⟨rfl,uC Sl.2⟩
theorem aly:Pt.none.is j7:=⟨OI.1,EY.1,EY.1,by rfl,OI.2,EY.2,EY.2,OI.2⟩
theorem afK{x y:Fl}(a:x.n.ib)(b:y.n.ib):(Pt.aff x y).is ⟨x.p,y.p,1⟩:=by have⟨c,d⟩:=BP a b;exact⟨rfl,rfl,EY.1,c,a,b,EY.2,d⟩
def adM(b:B)(d:b.length=32):∃q:Pt,(∀S,W ax X 47 [.A (R b)] S=J (.cQ [q.ao,.B (pK b).2],S))/\q.is (pK b).1:=by
 have f:(nB b).length=32:=by simp[nB,d]
 have⟨y,h,_⟩:=awE b d;have⟨o,g⟩:=BP h h;have⟨p,j⟩:=awH g EY.2;have⟨r,k⟩:=BP g Zm.2;have⟨s,l⟩:=awG k EY.2;have⟨w,m,n,i⟩:=alz _ _ j l;have⟨t,v⟩:=abL m;have e:rV (((Fl.of (nB b)).mul (Fl.of (nB b))).sub Fl.one).p ((((Fl.of (nB b)).mul (Fl.of (nB b))).mul Fl.d1).add Fl.one).p=ye b:=by
  have x:Fl.d1.p=wJ:=Zm.1
  grind [EY,ye,mM]
 rw[e]at i n
 have a:=λS=>alx (R b) (R (nB b)) (bn (b.getD 31 0)) (bn (cq ((b.getD 31 0).toNat %128))) (bn (cq ((b.getD 31 0).toNat/2^7)))
  (Fl.of (nB b)) ((Fl.of (nB b)).mul (Fl.of (nB b))) (((Fl.of (nB b)).mul (Fl.of (nB b))).sub Fl.one) (((Fl.of (nB b)).mul (Fl.of (nB b))).mul Fl.d1) ((((Fl.of (nB b)).mul (Fl.of (nB b))).mul Fl.d1).add Fl.one) w (Fl.nil.sub w) Fl.one Fl.d1
  Pt.none (Pt.aff (Fl.nil.sub w) (Fl.of (nB b))) (Pt.aff w (Fl.of (nB b))) (b_ (128<=(b.getD 31 0).toNat)) (b_ (dN (nB b)<pP)) (ye b).2 (b_ (w.p=0)) S
  (by simp[d]) (aL _) (by simp[f]) (aL _) (bG (by simp[f]) (aL _)) (λc=>Vk (kK S _) V) (akZ (b.getD 31 0) 7 V U) (ajW _) (agD _)
  (λc=>by grind [st8,nB])
  (Xd b d) TV Jh (adv (nB b) f) (uD _ _) (abG _ _) agw (uD _ _) (abF _ _) i (abM w) (Kn w) (OA _ _) (OA _ _)
 have u:pK b=if dN (nB b)<pP then
  (if(ye b).2=G/\¬(128<=(b.getD 31 0).toNat/\(ye b).1=0)then(⟨if 128<=(b.getD 31 0).toNat then mS 0 (ye b).1 else(ye b).1,dN (nB b)%pP,1⟩,G)else(j7,O))
  else(j7,O):=rfl
 grind [mS,aly,afK]
section
section
variable{ch:Nat}[NeZero ch][F:Fld ch]
def afS{x1 y1 z1 x2 y2 z2 d t A B:Fin ch}(n:t=d*x1*x2*y1*y2)(c:(1+t)*A=1)(i:(1 -t)*B=1)(a:z1≠0)(b:z2≠0)(p:1+t≠0)(q:1 -t≠0)(e f g h:Fin ch)
 (j:e=(y1*z1+x1*z1)*(y2*z2+x2*z2) -(y1*z1 -x1*z1)*(y2*z2 -x2*z2)) (m:h=(y1*z1+x1*z1)*(y2*z2+x2*z2)+(y1*z1 -x1*z1)*(y2*z2 -x2*z2))
 (k:f=(z1+z1)*z2 -x1*y1*z1*(d+d)*(x2*y2*z2)) (l:g=(z1+z1)*z2+x1*y1*z1*(d+d)*(x2*y2*z2)):
 f*g≠0/\e*f=(x1*y2+x2*y1)*A*(f*g)/\g*h=(y1*y2+x1*x2)*B*(f*g)/\e*h=(x1*y2+x2*y1)*A*((y1*y2+x1*x2)*B)*(f*g):=by
 have o:=IW F.h2 (IW a b);rw[(by grind:e=(1+1)*(z1*z2)*(x1*y2+x2*y1)),(by grind:h=(1+1)*(z1*z2)*(y1*y2+x1*x2)),(by grind:f=(1+1)*(z1*z2)*(1 -t)),(by grind:g=(1+1)*(z1*z2)*(1+t))]
 grind [IW]
def afT{x y z d t A B:Fin ch}(l:y*y=1+x*x+d*(x*x)*(y*y))(m:t=d*x*x*y*y)(a:(1+t)*A=1)(b:(1 -t)*B=1)(n:z≠0)(o:1+t≠0)(p:1 -t≠0)(e f g h:Fin ch)
 (c:e=h -(x*z+y*z)*(x*z+y*z)) (k:h=x*z*(x*z)+y*z*(y*z)) (j:g=x*z*(x*z) -y*z*(y*z)) (i:f=z*z+z*z+g):
 f*g≠0/\e*f=(x*y+x*y)*A*(f*g)/\g*h=(y*y+x*x)*B*(f*g)/\e*h=(x*y+x*y)*A*((y*y+x*x)*B)*(f*g):=by
 grind [IW]
end
def fx(x:Fl):Zp:=fi x.n.v
theorem mO{x y:Fl}(a:x.n.ib)(b:y.n.ib):fx (x.mul y)=fx x*fx y:=by unfold fx;rw[<-rS];exact Du.2 (uE a b).1
def wo{x y:Fl}(a:x.n.ib)(b:y.n.ib):fx (x.add y)=fx x+fx y:=by unfold fx;rw[<-TR];exact Du.2 (Dv a b).1
def Ct{x y:Fl}(a:x.n.ib)(b:y.n.ib):fx (x.sub y)=fx x -fx y:=by grind [Ht,fx,A8,OG,jf]
structure Pt.rep(q:Pt)(e:EP pP):Prop where
 gx:q.x.n.ib
 gy:q.y.n.ib
 gz:q.z.n.ib
 gt:q.t.n.ib
 z:fx q.z≠0
 x:fx q.x=e.x*fx q.z
 y:fx q.y=e.y*fx q.z
 t:fx q.t=e.x*e.y*fx q.z
def afU:fx Fl.d2=fi wJ+fi wJ/\Fl.d2.n.ib:=by
 refine⟨?_,(Dv Zm.2 Zm.2).2⟩;have a:fx Fl.d1=fi wJ:=by unfold fx;rw[<-Zm.1,A8]
 show fx (Fl.d1.add Fl.d1)=_;rw[wo Zm.2 Zm.2,a]
def OD{P Q:Pt}{p q:EP pP}(a:P.rep p)(b:Q.rep q):(P.add Q).rep (p.add q):=by
 have⟨y,z⟩:=den p q;have r:=Ht a.gy a.gx;have s:=Ht b.gy b.gx;have c:=uE r.2 s.2;have u:=Dv a.gy a.gx;have v:=Dv b.gy b.gx;have e:=uE u.2 v.2;have w:=uE a.gt afU.2;have f:=uE w.2 b.gt;have z1:=Dv a.gz a.gz;have z2:=uE z1.2 b.gz;have i:=Ht e.2 c.2;have j:=Ht z2.2 f.2;have k:=Dv z2.2 f.2;have l:=Dv e.2 c.2;have⟨x,m,n,o⟩:=afS (x1:=p.x) (y1:=p.y) (z1:=fx P.z) (x2:=q.x) (y2:=q.y) (z2:=fx Q.z) (d:=fi wJ) (t:=tt p q) rfl (Fld.Ah _ y) (Fld.Ah _ z) a.z b.z y z _ _ _ _ rfl rfl rfl rfl;have A:fx (((P.y.add P.x).mul (Q.y.add Q.x)).sub ((P.y.sub P.x).mul (Q.y.sub Q.x)))=(p.y*fx P.z+p.x*fx P.z)*(q.y*fx Q.z+q.x*fx Q.z) -(p.y*fx P.z -p.x*fx P.z)*(q.y*fx Q.z -q.x*fx Q.z):=by rw[Ct e.2 c.2,mO u.2 v.2,mO r.2 s.2,wo a.gy a.gx,wo b.gy b.gx,Ct a.gy a.gx,Ct b.gy b.gx,a.x,a.y,b.x,b.y]
 have E:fx (((P.y.add P.x).mul (Q.y.add Q.x)).add ((P.y.sub P.x).mul (Q.y.sub Q.x)))=(p.y*fx P.z+p.x*fx P.z)*(q.y*fx Q.z+q.x*fx Q.z)+(p.y*fx P.z -p.x*fx P.z)*(q.y*fx Q.z -q.x*fx Q.z):=by rw[wo e.2 c.2,mO u.2 v.2,mO r.2 s.2,wo a.gy a.gx,wo b.gy b.gx,Ct a.gy a.gx,Ct b.gy b.gx,a.x,a.y,b.x,b.y]
 have g:fx (((P.z.add P.z).mul Q.z).sub ((P.t.mul Fl.d2).mul Q.t))=(fx P.z+fx P.z)*fx Q.z -p.x*p.y*fx P.z*(fi wJ+fi wJ)*(q.x*q.y*fx Q.z):=by rw[Ct z2.2 f.2,mO z1.2 b.gz,mO w.2 b.gt,mO a.gt afU.2,wo a.gz a.gz,a.t,b.t,afU.1]
 have h:fx (((P.z.add P.z).mul Q.z).add ((P.t.mul Fl.d2).mul Q.t))=(fx P.z+fx P.z)*fx Q.z+p.x*p.y*fx P.z*(fi wJ+fi wJ)*(q.x*q.y*fx Q.z):=by rw[wo z2.2 f.2,mO z1.2 b.gz,mO w.2 b.gt,mO a.gt afU.2,wo a.gz a.gz,a.t,b.t,afU.1]
 rw[<-A,<-g,<-h]at m;rw[<-E,<-g,<-h]at n;rw[<-A,<-E,<-g,<-h]at o;rw[<-g,<-h]at x;rw[<-mO j.2 k.2]at x m n o;rw[<-mO i.2 j.2]at m;rw[<-mO k.2 l.2]at n;rw[<-mO i.2 l.2]at o;exact⟨(uE i.2 j.2).2,(uE k.2 l.2).2,(uE j.2 k.2).2,(uE i.2 l.2).2,x,m,n,o⟩
def IZ{P:Pt}{p:EP pP}(i:P.rep p):P.Qb.rep (p.add p):=by
 have⟨n,o⟩:=den p p;have a:=uE i.gx i.gx;have b:=uE i.gy i.gy;have c:=uE i.gz i.gz;have h:=Dv a.2 b.2;have s:=Dv i.gx i.gy;have r:=uE s.2 s.2;have e:=Ht h.2 r.2;have g:=Ht a.2 b.2;have m:=Dv c.2 c.2;have f:=Dv m.2 g.2;have A:fx ((P.x.mul P.x).add (P.y.mul P.y))=p.x*fx P.z*(p.x*fx P.z)+p.y*fx P.z*(p.y*fx P.z):=by rw[wo a.2 b.2,mO i.gx i.gx,mO i.gy i.gy,i.x,i.y]
 have w:fx ((P.x.mul P.x).sub (P.y.mul P.y))=p.x*fx P.z*(p.x*fx P.z) -p.y*fx P.z*(p.y*fx P.z):=by rw[Ct a.2 b.2,mO i.gx i.gx,mO i.gy i.gy,i.x,i.y]
 have u:fx (((P.x.mul P.x).add (P.y.mul P.y)).sub ((P.x.add P.y).mul (P.x.add P.y)))=fx ((P.x.mul P.x).add (P.y.mul P.y)) -(p.x*fx P.z+p.y*fx P.z)*(p.x*fx P.z+p.y*fx P.z):=by rw[Ct h.2 r.2,mO s.2 s.2,wo i.gx i.gy,i.x,i.y]
 have v:fx (((P.z.mul P.z).add (P.z.mul P.z)).add ((P.x.mul P.x).sub (P.y.mul P.y)))=fx P.z*fx P.z+fx P.z*fx P.z+fx ((P.x.mul P.x).sub (P.y.mul P.y)):=by rw[wo m.2 g.2,wo c.2 c.2,mO i.gz i.gz]
 have⟨q,j,k,l⟩:=afT (x:=p.x) (y:=p.y) (z:=fx P.z) (d:=fi wJ) (t:=tt p p) p.on rfl (Fld.Ah _ n) (Fld.Ah _ o) i.z n o _ _ _ _ u A w v;rw[<-mO f.2 g.2]at q j k l;rw[<-mO e.2 f.2]at j;rw[<-mO g.2 h.2]at k;rw[<-mO e.2 h.2]at l;have E:p.x*p.y+p.x*p.y=p.x*p.y+p.x*p.y:=rfl;exact⟨(uE e.2 f.2).2,(uE g.2 h.2).2,(uE f.2 g.2).2,(uE e.2 h.2).2,q,j,k,l⟩
end
def kS(l:List Pt):F:=l.flatMap Pt.cs
theorem rT:∀l:List Pt,(kS l).length=20*l.length
 |[]=>rfl
 |p::r=>by have:=rT r;unfold kS at this⊢;rw[Ds,zN,this,aqa,Dt];omega
def Cu(l:List Pt)(k:Nat)(h:k<l.length):kS l=kS (l.take k)++(l[k].cs++kS (l.drop (k+1))):=by grind [List.take_append_drop,List.drop_eq_getElem_cons,kS]
def adx(p:Pt):p.cs.map aW=p.cs:=rfl
def ady(l:List Pt)(k:Nat)(h:k<l.length):dx (.A 20) (kS l) (k*20)=J l[k].ao:=by refine lC (Cu l k h) ?_ rfl (adx _);rw[rT,List.length_take];omega
def xd{A B C B':F}{off:Nat}(a:A.length=off)(b:B'.length=B.length):aM (A++(B++C)) off B'=A++(B'++C):=by grind [aM]
def OH(l:List Pt)(k:Nat)(h:k<l.length)(q:Pt):aM (kS l) (k*20) q.cs=kS (l.set k q):=by
 rw[Cu l k h,Cu (l.set k q) k (by grind),xd (B:=l[k].cs) (B':=q.cs) (by grind [rT]) rfl]
 grind [List.take_set_of_le,List.drop_set_of_lt]
def Pt.Qs(P:Pt):Nat->Pt
 |0=>Pt.none
 |n+1=>(P.Qs n).add P
def Wz:Pt.none.rep EP.zero:=by
 have b:fx Fl.one=1:=by rfl
 have a:fx Fl.nil=0:=by rfl
 refine⟨OI.2,EY.2,EY.2,OI.2, ?_, ?_, ?_, ?_⟩;all_goals trivial
def abk{P:Pt}{p:EP pP}(h:P.rep p):∀n,(P.Qs n).rep (EP.Na n p)
 |0=>Wz
 |n+1=>OD (abk h n) h
def E5(b:B)(i:Nat):Nat:=(b.getD (i/2) 0).toNat/2^(4*(i %2))%16
def akY(b:B)(i:Nat):E5 b i=dN b/16^i %16:=by
 unfold E5;rw[<-BH];have c:16^i=256^(i/2)*16^(i %2):=by
  rw[show(256:Nat)=16^2 from rfl,<-uB,<-rz]
  grind
 rw[c,<-sF];generalize dN b/256^(i/2)=a;have h:i %2=0\/i %2=1:=V;rcases h with h|h<;>rw[h]<;>simp<;>omega
def itr{α:Type}(f:Nat->α->α):Nat->α->α
 |0,o=>o
 |i+1,o=>itr f i (f i o)
def OJ{α:Type}(f:Nat->α->α)(i:Nat)(o:α):itr f (i+1) o=itr f i (f i o):=rfl
def Pt.wst(P:Pt)(b:B)(i:Nat)(o:Pt):Pt:=(o.Qb.Qb.Qb.Qb).add (P.Qs (E5 b i))
def Pt.Im(P:Pt)(b:B)(n:Nat)(o:Pt):Pt:=itr (P.wst b) n o
def abl{P:Pt}{p:EP pP}(h:P.rep p)(b:B):∀n k o,o.rep (EP.Na k p)->(P.Im b n o).rep (EP.Na (k*16^n+dN b %16^n) p)
 |0,k,o,ho=>by have e:k*16^0+dN b %16^0=k:=V;rw[e];exact ho
 |n+1,k,o,ho=>by
  have d:∀m,(EP.Na m p).add (EP.Na m p)=EP.Na (m+m) p:=λm=>(EP.IX p m m).symm;have f:=IZ ho;rw[d]at f;have g:=IZ f;rw[d]at g;have i:=IZ g;rw[d]at i;have j:=IZ i;rw[d]at j;have s:=OD j (abk h (E5 b n));rw[<-EP.IX]at s;have r:=abl h b n _ _ s;have l:P.Im b (n+1) o=P.Im b n ((o.Qb.Qb.Qb.Qb).add (P.Qs (E5 b n))):=OJ (P.wst b) n o;rw[l];clear l;have e:(k+k+(k+k)+(k+k+(k+k))+(k+k+(k+k)+(k+k+(k+k)))+E5 b n)*16^n+dN b %16^n=k*16^(n+1)+dN b %16^(n+1):=by
   rw[akY,pg,Hr,<-w9,Zf];generalize dN b/16^n %16=a;generalize dN b %16^n=E;generalize 16^n=c;have:(k+k+(k+k)+(k+k+(k+k))+(k+k+(k+k)+(k+k+(k+k)))+a)*c=k*16*c+c*a:=by rw[show k+k+(k+k)+(k+k+(k+k))+(k+k+(k+k)+(k+k+(k+k)))+a=k*16+a by omega,IF,uA a]
   omega
  rw[e]at r;exact r
def Ko{P:Pt}{p:EP pP}(h:P.rep p)(b:B)(a:b.length=32):(P.Im b 64 Pt.none).rep (EP.Na (dN b) p):=by
 have r:=abl h b 64 0 Pt.none Wz
 grind [zQ]
noncomputable abbrev Kq(l:List Pt):cZ:=.M (kS l) [] O
def ixP{i k:Nat}(h:k<16)(j:IntKind):jF 16 20 (.P i 0) (.I j (k:Int))=J (.P i (k*20)):=by simp_all
def ldP{S:Z}{i k:Nat}{l:List Pt}{bt:bV}{q:Bool}(a:S[i]? =J (.M (kS l) bt q))(h:k<l.length):aX S (.A 20) (.P i (k*20))=J l[k].ao:=by rw[bI a,ady l k h]
def avg{S:Z}{i k:Nat}{l:List Pt}(a:S[i]? =J (.M (kS l) [] O))(h:k<l.length)(q:Pt)(ae:bV)(nb:Nat):bd ae nb S 20 (.P i (k*20)) q.ao=J (ae,S.set i (.M (kS (l.set k q)) [] O)):=by rw[d_ (afV q) a,if_pos ⟨rfl,by rw[rT];omega⟩,WA,OH _ _ h]
def ptZ:Pt:=⟨Fl.nil,Fl.nil,Fl.nil,Fl.nil⟩
def pY(P:Pt)(i:Nat):List Pt:=(List.range i).map P.Qs++fK (16 -i) ptZ
theorem I0(P:Pt)(i:Nat)(h:i<=16):(pY P i).length=16:=by simp[pY];omega
def WB(P:Pt)(i j:Nat)(h:j<i)(a:i<=16)(b:j<(pY P i).length):(pY P i)[j]=P.Qs j:=by grind [pY]
def WC(P:Pt)(i:Nat)(h:i<16):(pY P i).set i (P.Qs i)=pY P (i+1):=by unfold pY;rw[show 16 -i=(16 -(i+1))+1 by omega,Rl,aa8 _ _ bW,Oq,List.length_range,Nat.sub_self,RR,List.range_succ,List.map_append,sC];rfl
def avh(S:Z)(P:Pt)(d:cZ):∀n i:Nat,i+n=16->1<=i->DC ax X (.L sx) ⟨[(1,.P S.length 0),(2,.P (S.length+1) 0),(3,.P (S.length+2) 0),(4,.I Y (i:Int))],[],S.length⟩ (S++[.M P.cs [] O,d,Kq (pY P i)])=
 J (.E 0,⟨[(2,.P (S.length+1) 0),(3,.P (S.length+2) 0)],[],S.length⟩,S++[.M P.cs [] O,d,Kq (pY P 16)]):=by
 intro n;induction n with
 |zero=>
  simp_all[aj,iH]
 |succ n m=>
  intro i r q;have c:i<16:=V;have h:=m (i+1) V V;obtain⟨j,g⟩:∃j,i=j+1:=⟨i -1,by omega⟩;have k:dt Y ((i:Int) -1)=(j:Int):=by rw[cG V];omega
  have l:=ixP (i:=S.length+2) (show j<16 by omega) Y;have s:=I0 P i V;have o:∀a b,aX (S++[a,b,Kq (pY P i)]) (.A 20) (.P (S.length+2) (j*20))=J (P.Qs j).ao:=λa b=>by rw[ldP (cl S _ 2) V,WB P i j V V]
  have e:=λS=>Zj (P.Qs j) P S;have f:(P.Qs j).add P=P.Qs i:=by rw[g];rfl
  rw[f]at e;have p:bd [] S.length (S++[.M P.cs [] O,d,Kq (pY P i)]) 20 (.P (S.length+2) (i*20)) (P.Qs i).ao=J ([],S++[.M P.cs [] O,d,Kq (pY P (i+1))]):=by rw[avg (cl S _ 2) V,WC P i c];simp
  generalize P.Qs j=x,P.Qs i=w,pY P i=t,pY P (i+1)=u,pY P 16=v at*;clear f g;rw[aj,aN iH];simp-implicitDefEqProofs [-K, -jF,du,oY,eJ,(V:(i:Int)<16),k,ixP (i:=S.length+2) c Y,l,o,e,p, -AV.cells, -aU];rw[ab iH];simp at h;simp-implicitDefEqProofs [-K,(aQ V:dt Y ((i:Int)+1)=((i+1:Nat):Int)),h]
def WD(l:List Pt):df (kS l):=by
 intro x b;simp only[kS,List.mem_flatMap]at b;have⟨p,_,a⟩:=b;simp only[Pt.cs,NO]at a;rcases a with h|h|h|h;·exact yX p.x x h
 ·exact yX p.y x h
 ·exact yX p.z x h
 ·exact yX p.t x h
set_option maxRecDepth 20000 in
theorem I4:nJ=kS (fK 16 ptZ):=by rfl
theorem abm(P:Pt):(fK 16 ptZ).set 0 Pt.none=pY P 1:=WC P 0 V
def WE(P:Pt)(S:Z):W ax X 74 [P.ao] S=J (.A (kS (pY P 16)),S):=by
 have a:=avh S P (.M nJ [] O) 15 1 rfl (gL _);have z:=TV;have r:=ixP (i:=S.length+2) (show 0<16 by omega) Y;have n:∀b c,bd [] S.length (S++[b,c,.M nJ [] O]) 20 (.P (S.length+2) 0) Pt.none.ao=J ([],S++[b,c,Kq (pY P 1)]):=λb c=>by have h:=avg (l:=fK 16 ptZ) (k:=0) (cl S [b,c,Kq (fK 16 ptZ)] 2) bW Pt.none [] S.length;rw[I4];rw[NX]at h;rw[h,abm P];simp
 have o:(kS (pY P 16)).length=320:=by grind [rT,I0]
 have p:nJ.length=320:=by grind [I4,rT]
 have g:=WD (pY P 16);have j:∀b c,aX (S++[b,c,Kq (pY P 16)]) (.A 320) (.P (S.length+2) 0)=J (.A (kS (pY P 16))):=λb c=>by simp_all[bG]
 have f:∀b c,bd [] S.length (S++[b,.M nJ [] O,c]) 320 (.P (S.length+1) 0) (.A (kS (pY P 16)))=J ([],S++[b,.M (kS (pY P 16)) [] O,c]):=λb c=>by simp_all
 have e:∀b c,aX (S++[b,.M (kS (pY P 16)) [] O,c]) (.A 320) (.P (S.length+1) 0)=J (.A (kS (pY P 16))):=λb c=>by simp_all[bG]
 have d:jF 16 20 (.P (S.length+2) 0) (.I Y 0)=J (.P (S.length+2) 0):=by rfl
 have q:=g.agg.br;have m:aM nJ 0 Pt.none.cs=kS (pY P 1):=by
  have:=OH (fK 16 ptZ) 0 bW Pt.none
  grind [abm,I4]
 generalize kS (pY P 16)=E,Pt.none=t,pY P 1=s at*;rw[jr aC6];simp-implicitDefEqProofs [-jF,z,d,n, -AV.cells, -aU];rw[ab iH];simp at a;simp-implicitDefEqProofs [a,j,f,e,g, -AV.cells, -aU]
def avi(c:UInt8):K .and (bn c) (.I L 15)=J (.I L ((c.toNat %16:Nat):Int)):=by show J (AV.I L (dt L ((gK 8 (c.toNat:Int)&&&gK 8 ((15:Nat):Int)).toNat:Int)))=_;rw[Wu,Yg,Yg,iX c.toNat_lt,show(15:Nat)%2^8=2^4 -1 from rfl,On,afW,iX V]
noncomputable abbrev Zn(p:Pt):cZ:=.M p.cs [] O
def Pt.dbs(n:Nat)(o:Pt):Pt:=itr (λ_ p=>Pt.Qb p) n o
def afX(o:Pt):Pt.dbs 0 o=o:=rfl
def afY(n:Nat)(o:Pt):Pt.dbs (n+1) o=Pt.dbs n o.Qb:=OJ (λ_ p=>Pt.Qb p) n o
def afZ(o:Pt):Pt.dbs 4 o=o.Qb.Qb.Qb.Qb:=by rfl
def ldO{S:Z}{i:Nat}{p:Pt}{bt:bV}{q:Bool}(a:S[i]? =J (.M p.cs bt q)):aX S (.A 20) (.P i 0)=J p.ao:=by rw[bI a];rfl
def stO{S:Z}{i:Nat}{cs:F}(a:S[i]? =J (.M cs [] O))(b:cs.length=20)(q:Pt)(ae:bV)(nb:Nat):bd ae nb S 20 (.P i 0) q.ao=J (ae,S.set i (Zn q)):=by rw[d_ (afV q) a,if_pos ⟨rfl,by omega⟩,WA,dT (by rw[b];rfl)]
def avl(S:Z)(b:Q)(b0 c b2 f:cZ):∀(n j:Nat)(o:Pt),j+n=4->DC ax X (.L yG) ⟨[(3,.P (S.length+1) 0),(4,.P (S.length+2) 0),(5,.P (S.length+3) 0),(6,.P (S.length+4) 0),(7,b),(15,.I Y (j:Int))],[],S.length⟩ (S++[b0,c,b2,f,Zn o])=
 J (.E 2,⟨[(3,.P (S.length+1) 0),(4,.P (S.length+2) 0),(5,.P (S.length+3) 0),(6,.P (S.length+4) 0),(7,b)],[],S.length⟩,S++[b0,c,b2,f,Zn (Pt.dbs n o)]):=by
 intro n;induction n with
 |zero=>
  intro j o h;have e:j=4:=V;subst e;simp[aj,aN jG,afX]
 |succ n g=>
  intro j o h;have k:=g (j+1) o.Qb V;have d:=avm o;have i:bd [] S.length (S++[b0,c,b2,f,Zn o]) 20 (.P (S.length+4) 0) o.Qb.ao=J ([],S++[b0,c,b2,f,Zn o.Qb]):=by rw[stO (cl S _ 4) rfl];simp
  rw[aj,aN jG,afY];generalize Pt.dbs n o.Qb=a,o.Qb=l at*;simp-implicitDefEqProofs [-K,du,(V:(j:Int)<4),(ldO (cl S _ 4):aX (S++[b0,c,b2,f,Zn o]) (.A 20) (.P (S.length+4) 0)=J o.ao),d,i,eJ,(aQ V:dt Y ((j:Int)+1)=((j+1:Nat):Int)), -AV.cells, -aU];rw[ab jG];trivial
def avn(S:Z)(P:Pt)(b:B)(hb:b.length=32)(b0 b2:cZ):∀(n:Nat)(o:Pt),n<=64->DC ax X (.L yH) ⟨[(3,.P (S.length+1) 0),(4,.P (S.length+2) 0),(5,.P (S.length+3) 0),(6,.P (S.length+4) 0),(7,.I Y ((n:Int) -1))],[],S.length⟩ (S++[b0,.M (R b) [] O,b2,Kq (pY P 16),Zn o])=
 J (.E 0,⟨[(4,.P (S.length+2) 0),(6,.P (S.length+4) 0)],[],S.length⟩,S++[b0,.M (R b) [] O,b2,Kq (pY P 16),Zn (P.Im b n o)]):=by
 intro n;induction n with
 |zero=>
  intro o h;simp[aj,aN lX,show P.Im b 0 o=o from rfl]
 |succ n ih=>
  intro o h;have v:((n+1:Nat):Int) -1=(n:Int):=V;rw[v];have t:(n:Int)≥0:=V;have E:dt Y ((n:Int) -1)=(n:Int) -1:=cG V;have s:E5 b n<16:=jf _ V;have q:K .quo (.I Y (n:Int)) (.I Y 2)=_:=TW n 2 V V;have r:K .rem (.I Y (n:Int)) (.I Y 2)=_:=WG n 2 V;have m:K .mul (.I Y 4) (.I Y ((n %2:Nat):Int))=J (.I Y ((4*(n %2):Nat):Int)):=by show J (AV.I Y (dt Y (4*((n %2:Nat):Int))))=_;rw[cG V];rfl
  have I:=GY (i:=S.length+1) (show n/2<32 by omega) Y;have l1:∀g j l f,aX (S++[g,.M (R b) [] O,j,l,f]) .C (.P (S.length+1) (n/2))=J (bn (b.getD (n/2) 0)):=λg j l f=>Vk (cl S _ 1) V;have sh:=akZ (b.getD (n/2) 0) (4*(n %2)) V Y;have u:=avi (cq ((b.getD (n/2) 0).toNat/2^(4*(n %2))));have w:(cq ((b.getD (n/2) 0).toNat/2^(4*(n %2)))).toNat %16=E5 b n:=by have hc:(b.getD (n/2) 0).toNat<256:=(b.getD (n/2) 0).toNat_lt;have A:(b.getD (n/2) 0).toNat/2^(4*(n %2))<=(b.getD (n/2) 0).toNat:=LY _ _;rw[rU,iX (show(b.getD (n/2) 0).toNat/2^(4*(n %2))<2^8 by omega)];rfl
  rw[w]at u;have ix:=ixP (i:=S.length+3) s L;have lt:∀g j l f,aX (S++[g,j,l,Kq (pY P 16),f]) (.A 20) (.P (S.length+3) (E5 b n*20))=J (P.Qs (E5 b n)).ao:=λg j l f=>by have hl:=I0 P 16 V;rw[ldP (cl S _ 3) V,WB P 16 _ s V]
  have x:P.Im b (n+1) o=P.Im b n ((Pt.dbs 4 o).add (P.Qs (E5 b n))):=by rw[afZ];exact OJ (P.wst b) n o
  rw[x];have y:=ih ((Pt.dbs 4 o).add (P.Qs (E5 b n))) V;have c:=avl S (.I Y (n:Int)) b0 (.M (R b) [] O) b2 (Kq (pY P 16)) 4 0 o rfl;have z:=Zj (Pt.dbs 4 o) (P.Qs (E5 b n));have st:∀p q g j l f,bd [] S.length (S++[g,j,l,f,Zn p]) 20 (.P (S.length+4) 0) (Pt.ao q)=J ([],S++[g,j,l,f,Zn q]):=λp q g j l f=>by rw[stO (cl S _ 4) rfl];simp
  clear w x v;generalize P.Im b n ((Pt.dbs 4 o).add (P.Qs (E5 b n)))=e at*;generalize(Pt.dbs 4 o).add (P.Qs (E5 b n))=pa at*;generalize Pt.dbs 4 o=pd at*;generalize P.Qs (E5 b n)=pt at*;generalize E5 b n=dg at*;generalize bn (cq ((b.getD (n/2) 0).toNat/2^(4*(n %2))))=c2 at*;generalize bn (b.getD (n/2) 0)=c1 at*;generalize((4*(n %2):Nat):Int)=K3 at*;generalize((n %2:Nat):Int)=K2 at*;generalize n/2=k at*;generalize R b=a at*;generalize pY P 16=T at*;generalize hN:(n:Int)=d at*;rw[aj,aN lX];simp-implicitDefEqProofs [-K, -jF,wu,t, -AV.cells, -aU];rw[ab jG];try simp at c
  simp-implicitDefEqProofs [-K, -jF,c,q,r,m,I,l1,sh,u,ix,lt,z,(λp g j l f=>ldO (cl S _ 4):∀p g j l f,aX (S++[g,j,l,f,Zn p]) (.A 20) (.P (S.length+4) 0)=J p.ao),st,oY,E, -AV.cells, -aU];rw[ab lX];try simp at y
  simp-implicitDefEqProofs [-K,y]
def Ax(P:Pt)(b:B)(o:b.length=32)(S:Z):W ax X 27 [P.ao,.A (R b)] S=J ((P.Im b 64 Pt.none).ao,S):=by
 have c:=avn S P b o (.M P.cs [] O) (.M eQ [] O) 64 Pt.none (gL _);have z:=TV;have s:=WE P;have r:(R b).length=32:=by simp[o]
 have q:df (R b):=aL _;have v:(AV.A (R b)).cells=R b:=rfl;have w:(kS (pY P 16)).length=320:=by grind [rT,I0]
 have x:nJ.length=320:=by grind [I4,rT]
 have i:eQ.length=20:=rfl;have l:=WD (pY P 16);have m:∀f g h,bd [] S.length (S++[f,g,h,.M nJ [] O]) 320 (.P (S.length+3) 0) (.A (kS (pY P 16)))=J ([],S++[f,g,h,Kq (pY P 16)]):=λf g h=>by simp_all
 have j:∀f g h e,bd [] S.length (S++[f,g,h,e,.M eQ [] O]) 20 (.P (S.length+4) 0) Pt.none.ao=J ([],S++[f,g,h,e,Zn Pt.none]):=λf g h e=>by rw[stO (cl S _ 4) i];simp
 have k:∀p f g h e,bd [] S.length (S++[f,g,.M eQ [] O,h,e]) 20 (.P (S.length+2) 0) (Pt.ao p)=J ([],S++[f,g,Zn p,h,e]):=λp f g h e=>by rw[stO (cl S _ 2) i];simp
 generalize P.Im b 64 Pt.none=d,Pt.none=y,R b=a,pY P 16=T at*;have n:=l.agg;have u:∀t,aY t (.A (kS T))=(.A (kS T),t):=λt=>n.take t;simp at j k c;rw[j6 aC7];simp-implicitDefEqProofs [r,q,z,s,m,j,n, -AV.cells, -aU];rw[ab lX];try simp at c
 simp-implicitDefEqProofs [c,(λp f g h e=>ldO (cl S _ 4):∀p f g h e,aX (S++[f,g,h,e,Zn p]) (.A 20) (.P (S.length+4) 0)=J p.ao),k,(λp f g h e=>ldO (cl S _ 2):∀p f g h e,aX (S++[f,g,Zn p,h,e]) (.A 20) (.P (S.length+2) 0)=J p.ao), -AV.cells, -aU]
def bX:Nat:=15112221349535400772501151409588531511454012693041857206046113283949847762202
def bY:Nat:=46316835694926478169428394003475163141307993866256225615783033603165251855960
def aC8:oJ 5=11579208923731619542357098500868790785326998466564056403945758400791312963990:=by rw[E6,<-L4 fU];kernel_rfl
def aqb:mM 4 (oJ 5)=bY:=by rw[aC8];decide
def aqc{u v k a:Nat}(h:(u*v^7)^((pP -5)/8)%pP=k)(b:u*v^3*k %pP=a):TX u v=a:=by unfold TX;rw[<-zR,h,b]
def ak0:TX 37053468555941182535542715202780130513046395093004980492626426882532201484767 35320460721920060721965471946471712506633951349663716574434581141966314745466=42783823269122696939284341094755422415180979639778424813682678720006717057747:=by
 have h:(37053468555941182535542715202780130513046395093004980492626426882532201484767*35320460721920060721965471946471712506633951349663716574434581141966314745466^7)^((pP -5)/8)%pP=2861453323427594548699152106119760322257416108237569298356087714518206905866:=by rw[<-L4 fU];kernel_rfl
 exact aqc h fU
def ak1:xe 42783823269122696939284341094755422415180979639778424813682678720006717057747=bX:=by rfl
def adz:rV 37053468555941182535542715202780130513046395093004980492626426882532201484767 35320460721920060721965471946471712506633951349663716574434581141966314745466=(bX,G):=by rw[H3 fU fU fU,ak0,if_pos fU,ak1]
def IV:tI=⟨bX,bY,1⟩:=by
 have a:dN (nB (jw 32 bY))=bY:=by rfl
 have b:mS (mM bY bY) 1=37053468555941182535542715202780130513046395093004980492626426882532201484767:=fU;have c:mA (mM wJ (mM bY bY)) 1=35320460721920060721965471946471712506633951349663716574434581141966314745466:=by rw[IY];decide
 simp_all[bY,pP,jw,ye,adz,tI,aqb,pK]
def ak2:fi bY*fi bY=1+fi bX*fi bX+fi wJ*(fi bX*fi bX)*(fi bY*fi bY):=by rw[<-A9,IY,<-rS,<-rS,<-rS,<-rS,<-TR,<-TR];rfl
def bE:EP pP:=⟨fi bX,fi bY,ak2⟩
def af2:fi 1≠0:=avd fU fU
def OB:tI.rep bE:=by rw[IV];refine⟨af2, ?_, ?_⟩;all_goals rfl
def afM{q:Pt}{P:P3}{e:EP pP}(h:q.is P)(i:P.rep e)(b:P.z=1):q.rep e:=by
 have⟨l,c,d⟩:=i;have a:∀x:Fl,fx x=fi x.p:=λx=>(A8 _).symm;rw[b,A9]at c d;have k:fx q.z=1:=by rw[a,h.z,b,A9]
 have f:fx q.x=e.x:=by rw[a,h.x,c];grind
 have g:fx q.y=e.y:=by rw[a,h.y,d];grind
 have j:fx q.t=e.x*e.y:=by rw[a,h.t,A8,rS,<-a,<-a,f,g]
 refine⟨h.gx,h.gy,h.gz,h.gt, ?_, ?_, ?_, ?_⟩;all_goals grind
def WH{r:Nat}(a:r<pP):fi (xe r)*fi (xe r)=fi r*fi r:=by
 unfold xe;by_cases h:r %2=1
 ·rw[if_pos h,show(0+pP -r)%pP=mS 0 r from rfl,OG a,yW]
  grind
 simp_all
def af3{u v:Nat}(b:u<pP)(e:v<pP)(h:(rV u v).2=G):fi v*(fi (rV u v).1*fi (rV u v).1)=fi u:=by
 by_cases c:v=0;·grind [rV]
 rw[H3 b e c]at h⊢;have f:TX u v<pP:=jf _ fU;generalize TX u v=r at*;by_cases a:v*(r*r)%pP=u
 ·rw[if_pos a]
  show fi v*(fi (xe r)*fi (xe r))=fi u;rw[WH f,<-rS,<-rS]
  grind [Du,iX]
 ·rw[if_neg a]at h⊢
  by_cases d:v*(r*r)%pP=(pP -u)%pP
  ·rw[if_pos d]
   dsimp only;rw[WH (jf _ fU),A8,rS];have i:=Wy;have g:fi v*(fi r*fi r)= -fi u:=by rw[<-rS,<-rS];have:fi (v*(r*r))=fi (mS 0 u):=Du.2 (by grind [mS,Nat.mod_mod]);rw[this,OG b,yW];rfl
   grind
  simp_all
def abd{b:B}(h:(pK b).2=G):∃e:EP pP,(pK b).1.rep e/\(pK b).1.z=1/\(pK b).1.ok:=by
 unfold pK at h⊢;by_cases j:dN (nB b)<pP
 ·rw[if_pos j]at h⊢
  by_cases f:(ye b).2=G/\¬(128<=(b.getD 31 0).toNat/\(ye b).1=0)
  ·rw[if_pos f]
   have k:mS (mM (dN (nB b)%pP) (dN (nB b)%pP)) 1<pP:=jf _ fU;have l:mA (mM wJ (mM (dN (nB b)%pP) (dN (nB b)%pP))) 1<pP:=jf _ fU;have g:=af3 k l f.1;rw[show rV (mS (mM (dN (nB b)%pP) (dN (nB b)%pP)) 1) (mA (mM wJ (mM (dN (nB b)%pP) (dN (nB b)%pP))) 1)=ye b from rfl]at g;have o:(ye b).1<pP:=WI _ _;rw[OG fU,abh,OF,OF,A9]at g;have p:dN (nB b)%pP<pP:=jf _ fU;generalize(ye b).1=c,dN (nB b)%pP=d at*;have n:∀x:Zp,x*x=fi c*fi c->fi d*fi d=1+x*x+fi wJ*(x*x)*(fi d*fi d):=λx q=>by grind
   have i:fi (if 128<=(b.getD 31 0).toNat then mS 0 c else c)*fi (if 128<=(b.getD 31 0).toNat then mS 0 c else c)=fi c*fi c:=by
    split
    ·rw[OG o,yW]
     grind
    ·rfl
   have m:(if 128<=(b.getD 31 0).toNat then mS 0 c else c)<pP:=by
    split;·exact jf _ fU
    omega
   generalize(if 128<=(b.getD 31 0).toNat then mS 0 c else c)=a at*;refine⟨⟨fi a,fi d,n _ i⟩,⟨af2, ?_, ?_⟩,rfl,m,p,show(1:Nat)<pP by decide⟩
   ·show fi a=fi a*fi 1
    rw[A9];grind
   ·show fi d=fi d*fi 1
    rw[A9];grind
  grind
 simp_all
def P3.neg(P:P3):P3:=⟨mS 0 P.x,P.y,P.z⟩
def akT{P:P3}{e:EP pP}(h:P.rep e)(d:P.x<pP):P.neg.rep e.neg:=by
 have⟨a,b,c⟩:=h;refine⟨a, ?_,c⟩;show fi (mS 0 P.x)= -e.x*fi P.z
 grind [OG,yW]
def Pt.neg(q:Pt):Pt:=⟨Fl.nil.sub q.x,q.y,q.z,Fl.nil.sub q.t⟩
def af4{x:Fl}(h:x.n.ib):fx (Fl.nil.sub x)= -fx x/\(Fl.nil.sub x).n.ib:=by refine⟨?_,(Ht OI.2 h).2⟩;rw[Ct OI.2 h,show fx Fl.nil=fi 0 from rfl,yW];rfl
def anE(e:EP pP):e.neg.x= -e.x:=rfl
def avo(e:EP pP):e.neg.y=e.y:=rfl
def ak3{a x z:Zp}(h:a=x*z): -a= -x*z:=by grind
def af5{a x y z:Zp}(h:a=x*y*z): -a= -x*y*z:=by grind
def afP{q:Pt}{e:EP pP}(h:q.rep e):q.neg.rep e.neg:=by have⟨l,m,n,k⟩:=q;have⟨g,i,j,f,z,x,y,t⟩:=h;have⟨a,b⟩:=af4 g;have⟨c,d⟩:=af4 f;exact⟨b,i,j,d,z,by rw[anE];exact a.trans (ak3 x),by trivial,by rw[anE,avo];exact c.trans (af5 t)⟩
def aqd{c:UInt8}(h:c.toNat<128):c|||128=cq (c.toNat+128):=by
 apply TD.1;rw[UInt8.toNat_or,rU,iX V,Ox];have:=Nat.two_pow_add_eq_or_of_lt (i:=7) (b:=c.toNat) V 1
 grind
def Pt.bytes(q:Pt):B:=
 if(q.x.mul q.z.inv).p %2=1 then(jw 32 (q.y.mul q.z.inv).p).set 31 ((jw 32 (q.y.mul q.z.inv).p).getD 31 0|||128)else jw 32 (q.y.mul q.z.inv).p
def OE{q:Pt}{e:EP pP}(h:q.rep e):q.bytes=e.bytes:=by
 have⟨n,o,j,m,z,x,y,t⟩:=h;have⟨r,s⟩:=avp j;have u:fx q.z*fx q.z.inv=1:=by
  have f:fx q.z.inv=fi (oJ q.z.p):=by grind [E6,Fl.p,Nat.pow_mod,A8,fx]
  have b:fx q.z=fi q.z.p:=(A8 _).symm;rw[f,b,<-rS,<-A9];exact Du.2 (by rw[acV (ak4 _) (λd=>z (by rw[b,d,yW]))];decide)
 have a:∀(w:Fl)(v:Zp),fx w=v->w.p=v.val:=λw v l=>TU (ak4 w) ((A8 _).trans l);have g:(q.x.mul q.z.inv).p=e.x.val:=a _ _ (by grind [mO]);have i:(q.y.mul q.z.inv).p=e.y.val:=a _ _ (by grind [mO]);unfold Pt.bytes EP.bytes;rw[g,i,aqd];have k:=BH (jw 32 e.y.val) 31;have c:=e.y.isLt;rw[(by rw[I5,iX (ur c fU)]:dN (jw 32 e.y.val)=e.y.val)]at k;have p:e.y.val/256^31<128:=(Dq (EI V)).2 (ur c fU);omega
def bxB:B:=[26,213,37,143,96,45,86,201,178,167,37,149,96,199,44,105,92,220,214,253,49,226,164,192,254,83,110,205,211,54,105,33]
def byB:B:=88::fK 31 102
def Pt.base:Pt:=Pt.aff (Fl.of bxB) (Fl.of byB)
def TL(S:Z):W ax X 26 [] S=J (Pt.base.ao,S):=by have c:=λS=>adv bxB rfl S;have d:=λS=>adv byB rfl S;have h:=λS=>OA (Fl.of bxB) (Fl.of byB) S;have f:R bxB=[.I L 26,.I L 213,.I L 37,.I L 143,.I L 96,.I L 45,.I L 86,.I L 201,.I L 178,.I L 167,.I L 37,.I L 149,.I L 96,.I L 199,.I L 44,.I L 105,.I L 92,.I L 220,.I L 214,.I L 253,.I L 49,.I L 226,.I L 164,.I L 192,.I L 254,.I L 83,.I L 110,.I L 205,.I L 211,.I L 54,.I L 105,.I L 33]:=rfl;have g:R byB=[.I L 88,.I L 102,.I L 102,.I L 102,.I L 102,.I L 102,.I L 102,.I L 102,.I L 102,.I L 102,.I L 102,.I L 102,.I L 102,.I L 102,.I L 102,.I L 102,.I L 102,.I L 102,.I L 102,.I L 102,.I L 102,.I L 102,.I L 102,.I L 102,.I L 102,.I L 102,.I L 102,.I L 102,.I L 102,.I L 102,.I L 102,.I L 102]:=rfl;rw[f]at c;rw[g]at d;have e:∀k n,AV.cells (.I k n)=[.I k n]:=λ_ _=>rfl;have j:∀k n,aU (.I k n)=G:=λ_ _=>rfl;rw[V7 aC0];unfold Pt.base;generalize Fl.of bxB=a,Fl.of byB=b at*;generalize Pt.aff a b=P at*;have i:=TM P;simp at i;simp-implicitDefEqProofs [c,d,h,dj,aM, -K, -AV.cells, -aU,e]
def RW:Pt.base.rep bE:=by have h:=afK (uC (afL bxB rfl).2) (uC (afL byB rfl).2);rw[(by rfl:(Fl.of bxB).p=bX),(by rfl:(Fl.of byB).p=bY),<-IV]at h;exact afM h OB (by rw[IV])
def ap8(p:Pt)(S:Z):W ax X 50 [p.ao] S=J (p.neg.ao,S):=by have d:=λS=>Kn p.x S;have e:=λS=>Kn p.t S;have c:=TN (Fl.nil.sub p.x) p.y p.z (Fl.nil.sub p.t);rw[show(⟨Fl.nil.sub p.x,p.y,p.z,Fl.nil.sub p.t⟩:Pt)=p.neg from rfl]at c;have f:=TM p.neg;simp at c f;rw[jr aC1];generalize p.neg=a,Fl.nil.sub p.x=b,Fl.nil.sub p.t=T at*;simp-implicitDefEqProofs [d,e,c, -AV.cells, -aU, -K]
def OC(q:Pt)(S:Z):W ax X 28 [q.ao] S=J (.A (R q.bytes),S):=by
 have u:=λS=>avc q.z S;have r:=λS=>uD q.y q.z.inv S;have s:=λS=>uD q.x q.z.inv S;have e:=λS=>abb (q.y.mul q.z.inv) S;rw[abc]at e;rw[show(q.y.mul q.z.inv).n.v %pP=(q.y.mul q.z.inv).p from rfl]at e;have l:=λS=>Zi (q.x.mul q.z.inv) S;rw[show(q.x.mul q.z.inv).n.v %pP=(q.x.mul q.z.inv).p from rfl]at l;have p:q.bytes=if(q.x.mul q.z.inv).p %2=1 then(jw 32 (q.y.mul q.z.inv).p).set 31 ((jw 32 (q.y.mul q.z.inv).p).getD 31 0|||128)else jw 32 (q.y.mul q.z.inv).p:=rfl
 have t:(jw 32 (q.y.mul q.z.inv).p).length=32:=tg _ _;generalize jw 32 (q.y.mul q.z.inv).p=d at*;generalize(q.x.mul q.z.inv).p=x at*;generalize q.y.mul q.z.inv=b at*;generalize q.x.mul q.z.inv=a at*;generalize q.z.inv=I at*;have g:(R d).length=32:=by simp[t]
 have f:df (R d):=aL _;have m:dx (.A 32) (R d) 0=J (.A (R d)):=bG g f;have k:∀a b c,aX (S++[a,b,c,.M (R d) [] O]) .C (.P (S.length+3) 31)=J (bn (d.getD 31 0)):=λa b c=>Vk (cl S _ 3) V;have w:K .or (bn (d.getD 31 0)) (.I L 128)=J (bn (d.getD 31 0|||128)):=afN (d.getD 31 0) 128;have E:∀a b c,bd [] S.length (S++[a,b,c,.M (R d) [] O]) 1 (.P (S.length+3) 31) (bn (d.getD 31 0|||128))=J ([],S++[a,b,c,.M (R (d.set 31 (d.getD 31 0|||128))) [] O]):=λa b c=>by rw[st8 (cl S _ 3) V];simp
 have i:(R (d.set 31 (d.getD 31 0|||128))).length=32:=by simp[t]
 have h:df (R (d.set 31 (d.getD 31 0|||128))):=aL _;rw[p];clear p;generalize d.set 31 (d.getD 31 0|||128)=v,d.getD 31 0|||128=T,d.getD 31 0=P,A:R d=n at*;have y:(AV.A n).cells=n:=rfl;rw[jr aC2];by_cases j:x %2=1
 ·rw[if_pos j]
  generalize R v=o at*;have z:(AV.A o).cells=o:=rfl;simp-implicitDefEqProofs [u,r,s,e,l,j,g,f,k,w,E,i,h,bG i h, -K, -AV.cells, -aU]
 ·rw[if_neg j,A]
  simp-implicitDefEqProofs [u,r,s,e,l,j,g,f,m, -K, -AV.cells, -aU]
def akS(n m:B)(k:n.length=32)(j:m.length=32)(p:Pt)(S:Z):W ax X 49 [.A (R n),p.ao,.A (R m)] S=J (((p.Im n 64 Pt.none).add (Pt.base.Im m 64 Pt.none)).ao,S):=by
 have r:=λS=>Ax p n k S;have s:=λS=>Ax Pt.base m j S;have b:=TL;have l:=λS=>Zj (p.Im n 64 Pt.none) (Pt.base.Im m 64 Pt.none) S;have f:(R n).length=32:=by simp[k]
 have d:df (R n):=aL _;have g:(R m).length=32:=by simp[j]
 have e:df (R m):=aL _;generalize(p.Im n 64 Pt.none).add (Pt.base.Im m 64 Pt.none)=c,p.Im n 64 Pt.none=t,Pt.base.Im m 64 Pt.none=u,Pt.base=a,R n=h,R m=i at*;have o:(AV.A h).cells=h:=rfl;have q:(AV.A i).cells=i:=rfl;rw[LQ aC3];simp-implicitDefEqProofs [r,s,b,l,f,d,bG f d,g,e,bG g e, -K, -AV.cells, -aU]
def adw(p:P3)(g:p.ok)(S:Z):W ax X 60 [p.ao] S=J (p.neg.ao,S):=by have⟨f,l,m⟩:=g;have⟨x,k,j,d⟩:=afO (a:=0) (b:=p.x) fU f;have e:=Wx x p.y p.z fM rfl;rw[(by unfold P3.neg mS;grind:p.neg=⟨x,p.y,p.z⟩)];rw[jr aC4];have⟨o,h,i⟩:=p;generalize n:(⟨x,h,i⟩:P3)=r at*;have c:AV.A r.cs=r.ao:=rfl;simp-implicitDefEqProofs [<-qI,RX,d,e,c, -AV.cells, -aU]
def HY(gh k s:B):P3:=(P3.mul s 256 0 tI j7).add (P3.mul k 256 0 (pK gh).1.neg j7) wJ
def Zk{b k s:B}(h:(pK b).2=G){q:Pt}(f:q.is (pK b).1)(c:k.length=32)(d:s.length=32):
 ((q.neg.Im k 64 Pt.none).add (Pt.base.Im s 64 Pt.none)).bytes=(HY b k s).bytes:=by
 have⟨e,r,i,g⟩:=abd h;have a:=OD (Ko (afP (afM f r i)) k c) (Ko RW s d);rw[OE a,show HY b k s=(P3.mul s 256 0 tI j7).add (P3.mul k 256 0 (pK b).1.neg j7) wJ from rfl,RY (TO (Kp s d OB) (Kp k c (akT r g.1))) (P3.HZ _ _ _).2.2,EP.add_comm]
def sE(n:B):B:=(P3.mul n 256 0 tI j7).bytes
def TP:tI.ok:=by rw[IV];trivial
def P3.TQ(b:B):∀(n i:Nat)(x o:P3),x.ok->o.ok->(P3.mul b n i x o).ok
 |0,_,_,_,_,ho=>ho
 |n+1,i,x,o,hx,ho=>by
  rw[P3.mul];refine P3.TQ b n (i+1) _ _ (P3.HZ _ _ _) ?_;split;·exact P3.HZ _ _ _
  ·exact ho
def RZ{n:B}(a:n.length=32):(Pt.base.Im n 64 Pt.none).bytes=sE n:=by rw[OE (Ko RW n a),show sE n=(P3.mul n 256 0 tI j7).bytes from rfl,RY (Kp n a OB) (P3.TQ n 256 0 _ _ TP M_).2.2]
def GC(n:B):(sE n).length=32:=by unfold sE P3.bytes;split<;>simp
def ba.bytes(e:ba):B:=e.eC++e.gW
def ba.zq{e:ba}(A:e.Ok):e.bytes.length=e.eC.length+64:=by simp[ba.bytes,A.gW]
theorem ba.ic(e:ba):e.bytes≠[]:=by nofun
def uK(e:ba)(k:e.Wf)(S:Z):W ax X 11 [.A e.ao] S=J (wx e.cM e.bytes,S):=by
 have A:=k.toOk;have c:=Qv e k (S++[.M e.ao [] O]);have p:Aj 1=.kN 71 (.I Y 1):=rfl;have r:Aj 3=.kN 71 (.I Y 3):=rfl;rw[jr aDi];rcases(show e.cM=O\/e.cM=G by simp)with hs|hs
 ·rw[hs]at c⊢
  simp[A,c,bU,wx,p,cI,w5,cd,bq,aF,br]
 rw[hs]at c⊢;have⟨a,u,f,d⟩:=Cy e k hs (S++[.M e.ao [] O]);have q:=ba.zq A;have i:∀b,aY [] (.cQ [.sl .gA 1 (cJ a),.B b])=(.cQ [.sl (.fr 0) 1 (cJ a),.B b],[J a.length]):=λb=>by have:=agc a (.B b) (λ_=>rfl);exact this
 by_cases l:e.eC.length+64<=4096
 ·have n:=d l
  have j:=decide_eq_true l;rw[j,n]at f;rw[n]at i;have s:bZ (S++[.M e.ao [] O]) (.cH S.length 96 64 64 1)=J (1,cJ e.gW):=zo (x:=e.gW) (bt:=[]) (b:=O) bW (ba.s96 A) A.gW (by simp[A]);have v:e.gW≠[]:=by intro h;have:=A.gW;simp_all
  have m:eD 1 [J e.eC.length] (S++[.M e.ao [] O]) (.sl (.fr 0) 1 (cJ e.eC)) (.cH S.length 96 64 64 1)=J (.sl (.fr 0) 1 (cJ e.bytes),[J e.bytes.length],S++[.M e.ao [] O]):=by
   have t:¬(2^30<e.eC.length+e.gW.length):=by rw[A.gW];omega
   simp_all[eD,ba.bytes]
  have g:=zP [J e.bytes.length] 0 1 (cJ e.bytes) bW;have o:dr 11 [J e.bytes.length] [.sl (.fr 0) 1 (cJ e.bytes),.c_] S (S++[.M e.ao [] O])=J (.cQ [.sl .gA 1 (cJ e.bytes),.c_],S):=by grind [cd,bq,w5,cI,aF,fP,br]
  rw[GG rfl e.ic,tO];simp at i m o;simp[A,c,bU,f,i,qH,m,o]
 ·have j:=decide_eq_false l
  rw[j]at f;rw[GG rfl e.ic,ifP];simp[A,c,bU,f,i,cI,w5,cd,bq,aF,br]
def Qw(e:ba)(d:e.Wf)(S:Z):W ax X 16 [.A e.ao] S=J (.B (e.cM&&b_ (e.bytes.length<=4096)),S):=by
 have A:=d.toOk;have b:=uK e d (S++[.M e.ao [] O]);have a:=GF e.cM e.bytes e.ic;have g:Aj 1=.kN 71 (.I Y 1):=rfl;have h:Aj 3=.kN 71 (.I Y 3):=rfl;have c:∀n,dX .eql (.kN fW) G (.kN 71 (.I Y n)) .c_=J (.B O):=λ_=>rfl;rw[jr aDj];rcases(show e.cM=O\/e.cM=G by simp)with hs|hs
 ·rw[hs]at b a⊢
  rw[if_neg bW,g]at a;simp[A,b,a,c]
 rw[hs]at b a⊢;rw[if_pos rfl]at a;by_cases f:e.bytes.length<=4096
 ·rw[tO]at a
  simp[A,b,a,(rfl:dX .eql (.kN fW) G .c_ .c_=J (.B G)),f]
 ·rw[ifP,h]at a
  simp[A,b,a,c,f]
def zh(S:Z)(j:Nat)(r:Rd)(z:cZ)(c:F)(bt:bV)(u:cZ):Z:=S.set j (fS j r)++[z,.M c bt O,u]
def JP(S:Z)(j:Nat)(r:Rd)(z:cZ)(c:F)(bt:bV)(u:cZ):iY S j r z (.M c bt O)++[u]=zh S j r z c bt u:=sC ..
def PH(S:Z)(j:Nat)(r:Rd)(z b:cZ):(iY S j r z b).length=S.length+2:=by simp[iY]
def zi{S:Z}{j:Nat}{r:Rd}(b:S[j]? =J (fS j r))(a:Rd)(z:cZ)(c:F)(bt:bV)(u:cZ):(zh S j a z c bt u)[j]? =J (fS j a):=ajg b a _
theorem wQ{S:Z}{j:Nat}{r:Rd}(d:S[j]? =J (fS j r))(b a:Rd)(z:cZ)(c:F)(bt:bV)(u:cZ):(zh S j b z c bt u).set j (fS j a)=zh S j a z c bt u:=by grind [zh,List.set_set]
theorem B5(S:Z)(j:Nat)(r:Rd)(z:cZ)(c:F)(bt:bV)(u:cZ):(zh S j r z c bt u)[S.length+1]? =J (.M c bt O):=gT (tC S j r) _ 1
theorem PI(S:Z)(j:Nat)(r:Rd)(z:cZ)(c a:F)(bt bt':bV)(u:cZ):(zh S j r z c bt u).set (S.length+1) (.M a bt' O)=zh S j r z a bt' u:=sT (tC S j r) _ 1 _
def ajq(S:Z)(j:Nat)(r:Rd)(z:cZ)(c:F)(bt:bV)(u:cZ):(zh S j r z c bt u)[S.length+2]? =J u:=gT (tC S j r) _ 2
def ajr(S:Z)(j:Nat)(r:Rd)(z:cZ)(c:F)(bt:bV)(u:cZ):(zh S j r z c bt u)[S.length]? =J z:=gT0 (tC S j r) _
theorem aas(S:Z)(j:Nat)(r:Rd)(z:cZ)(c:F)(bt:bV)(u:cZ)(a:Sh)(off:Nat):aX (zh S j r z c bt u) a (.P (S.length+1) off)=dx a c off:=bI (B5 S j r z c bt u) a off
def Nq(S:Z)(j:Nat)(r:Rd)(z:cZ)(c:F)(bt:bV)(cs:F)(a:Sh)(off:Nat):aX (zh S j r z c bt (.M cs [] O)) a (.P (S.length+2) off)=dx a cs off:=bI (ajq ..) a off
theorem amQ(S:Z)(j:Nat)(r:Rd)(cs:F)(c:F)(bt:bV)(u:cZ)(a:Sh)(off:Nat):aX (zh S j r (.M cs [] O) c bt u) a (.P S.length off)=dx a cs off:=bI (ajr ..) a off
def ajs(S:Z)(j:Nat)(r:Rd)(z:cZ)(c:F)(bt:bV)(u:cZ):(zh S j r z c bt u).take S.length=S.set j (fS j r):=by grind [zh]
def amR(S:Z)(j:Nat)(r b:Rd)(z:cZ)(c a:F)(bt bt':bV)(u:cZ){d:Rd}(e:S[j]? =J (fS j d)):JO (zh S j r z c bt u) j (S.length+1) b (.M a bt' O) []=zh S j b z a bt' u:=by grind [JO,wQ,PI]
def Lj{S:Z}{j:Nat}{r:Rd}{z:cZ}{c a:F}{bt:bV}{u:cZ}{v:Q}(f:w_ v)(off n:Nat)(d:v.cells.length=n)(e:off+n<=c.length)(b:aM c off v.cells=a)(ae:bV):
 bd ae S.length (zh S j r z c bt u) n (.P (S.length+1) off) v=J (ae,zh S j r z a bt u):=by
 grind [d_,B5,PI]
def PJ{S:Z}{j:Nat}{r:Rd}{cs c C:F}{bt:bV}{u:cZ}(d:dv C=G)(a:cs.length=20)(b:C.length=20)(ae:bV):
 bd ae S.length (zh S j r (.M cs [] O) c bt u) 20 (.P S.length 0) (.A C)=J (ae,zh S j r (.M C [] O) c bt u):=by
 grind [zh,Aw,dT]
def B6{k:Int}{a b:B}{c xs ys:F}{pr ir:Q}(d:dv c=G)(e:dv xs=G)(f:dv ys=G)(g:br pr=G)(h:br ir=G):dv (lU k a b c xs ys pr ir)=G:=by rw[zS]at*;intro x hx;unfold lU at hx;simp only[NO,Oe,List.not_mem_nil,or_false]at hx;rcases hx with(rfl|rfl|rfl)|hx|hx|hx|rfl|rfl;all_goals simp_all
theorem SH{k:Int}{a b:B}{c xs ys:F}{pr ir:Q}(d:c.map aW=c)(e:xs.map aW=xs)(f:ys.map aW=ys):(lU k a b c xs ys pr ir).map aW=lU k a b c xs ys (aW pr) (aW ir):=by simp_all[lU]
def B7{l:bS}{k:Int}{a b:B}{c xs ys:F}{pr ir:Q}(m:k=l.ak)(i:a=l.a)(j:b=l.b)(d:c.map dF=l.type.ao)(e:xs.map dF=l.base.ao)(f:ys.map dF=l.back.ao)(g:dF pr=qJ l.bg)(h:dF ir=uG l.bT):
 cd (.A (lU k a b c xs ys pr ir))=.A l.ao:=by
 subst m i j;show AV.A ((lU l.ak l.a l.b c xs ys pr ir).map dF)=_;unfold lU;simp only[List.map_append,ND,TH,d,e,f,g,h];rw[bS.jI];rfl
abbrev wR:F:=[.I Y 0,.aw,.aw]
def atr:wR.map dF=(bJ.mk 0 [] []).ao:=by rfl
def ar2{k:Int}(b:1<=k)(c:k<=10):(vE k=G/\tL k=O/\wA k=O/\x8 k=O)\/(vE k=O/\tL k=G/\wA k=O/\x8 k=O)\/(vE k=O/\tL k=O/\wA k=O/\x8 k=O)\/(vE k=O/\tL k=O/\wA k=O/\x8 k=G)\/(vE k=O/\tL k=G/\wA k=G/\x8 k=O):=by have a:k=1\/k=2\/k=3\/k=4\/k=5\/k=6\/k=7\/k=8\/k=9\/k=10:=V;rcases a with k|k|k|k|k|k|k|k|k|k<;>subst k<;>decide
def amS:∀(d:Nat)(l:bS),l.Wf->l.bw d=G->d<1000->∀(S:Z)(j:Nat)(r:Rd)(u:B),S[j]? =J (fS j r)->rI r (l.bytes++u)->
 W ax X 100 [.P j 0,.I Y (d:Int)] S=J (.A l.ao,S.set j (fS j (r.go l.bytes.length))):=by
 intro d;induction d with
 |zero=>nofun
 |succ d ih=>
  intro l hl h hd S j r u w hr;have f:=bS.ia h;have I:=hl.one;have hj:j<S.length:=(lQ.1 w).1;have lb:=l.Aa;have k1:=f.k1;have k10:=f.k10;have hR1:rI (r.go 1) (aZ l.a++((if vE l.ak=G then aZ l.b else[])++((if tL l.ak=G then l.type.bytes++l.base.bytes else[])++((if wA l.ak=G then l.back.bytes++(cF l.bg.length++l.bg.flatMap nh)else[])++(bS.gw l.bT++u))))):=by have:=hr;rw[lb,Hm]at this;simpa only[sC]using this.go1
  have hr0:=hr;rw[lb,Hm]at hr0;have hS1:∀b,(S++[b])[j]? =J (fS j r):=λb=>dH _ w;have c1:=Jd (hS1 (.M aE [] O)) hr0;rw[ig _ hj]at c1;have hk:((cq l.ak.toNat).toNat:Int)=l.ak:=by rw[rU];omega
  rw[hk]at c1;have wk:dt Y l.ak=l.ak:=cG V;have d0:¬((d:Int)+1=0):=V;have hd1:dt Y (d:Int)=(d:Int):=cG V;have T1:(S.set j (fS j (r.go 1))).length=S.length:=bW;have fk:dj aE [(0,1,.I Y l.ak)]=J (lU l.ak [] [] wR ah ah .aw .aw):=rfl;have st0:bd [] S.length (S.set j (fS j (r.go 1))++[.M aE [] O,.M aE [] O]) 20 (.P (S.length+1) 0) (.A (lU l.ak [] [] wR ah ah .aw .aw))=J ([],iY S j (r.go 1) (.M aE [] O) (.M (lU l.ak [] [] wR ah ah .aw .aw) [] O)):=by rw[Mx T1 rfl];rfl
  have lk:∀n,aX (iY S j n (.M aE [] O) (.M (lU l.ak [] [] wR ah ah .aw .aw) [] O)) .C (.P (S.length+1) 0)=J (.I Y l.ak):=λn=>nX ..;have cu:=xv l.ak;have hok:Ba l.ak=G:=by simp[Ba,k1,k10]
  rw[hok]at cu;have stu:∀n c b t y i,bd [] S.length (zh S j n (.M aE [] O) c [] (.M [.B O,.B O,.B O,.B O] [] O)) 4 (.P (S.length+2) 0) (.A [.B b,.B t,.B y,.B i])=J ([],zh S j n (.M aE [] O) c [] (.M [.B b,.B t,.B y,.B i] [] O)):=λn c b t y i=>by unfold zh;rw[Mx (tC S j n) rfl];rfl
  have b0:dX .neq (.kN fW) G .c_ .c_=J (.B O):=rfl;have b1:dX .eql (.kN fW) G .c_ .c_=J (.B G):=rfl;have lu0:∀n z c bt b t y i,aX (zh S j n z c bt (.M [.B b,.B t,.B y,.B i] [] O)) .C (.P (S.length+2) 0)=J (.B b):=λ_ _ _ _ _ _ _ _=>Nq ..;have lu1:∀n z c bt b t y i,aX (zh S j n z c bt (.M [.B b,.B t,.B y,.B i] [] O)) .C (.P (S.length+2) 1)=J (.B t):=λ_ _ _ _ _ _ _ _=>Nq ..;have lu2:∀n z c bt b t y i,aX (zh S j n z c bt (.M [.B b,.B t,.B y,.B i] [] O)) .C (.P (S.length+2) 2)=J (.B y):=λ_ _ _ _ _ _ _ _=>Nq ..;have lu3:∀n z c bt b t y i,aX (zh S j n z c bt (.M [.B b,.B t,.B y,.B i] [] O)) .C (.P (S.length+2) 3)=J (.B i):=λ_ _ _ _ _ _ _ _=>Nq ..;have er:=λ{n:Rd}{u':B}(z:cZ)(c:F)(bt)(b:cZ)(h':rI n u')=>zX (zi w n z c bt b) h';have ne0:l.a≠[]:=by have:=ie f.a;intro e;have h2:=f.a;rw[e]at h2;trivial
  have c2:=λg=>XL (o:=[]) (zi w (r.go 1) (.M aE [] O) (lU l.ak [] [] wR ah ah .aw .aw) [] g) f.a ne0 hR1;simp only[wQ w]at c2;have s2:∀n g,bd [] S.length (zh S j n (.M aE [] O) (lU l.ak [] [] wR ah ah .aw .aw) [] g) 1 (.P (S.length+1) 1) (.S l.a)=J ([],zh S j n (.M aE [] O) (lU l.ak l.a [] wR ah ah .aw .aw) [] g):=λn g=>Lj (TZ l.a) 1 1 rfl (by rw[pD rfl rfl rfl];omega) rfl [];have R2:=hR1.go;have lA:∀n z a b(ts xs ys:F) pr ir bt g,ts.length=3->xs.length=6->ys.length=6->ts.map aW=ts->xs.map aW=xs->ys.map aW=ys->aX (zh S j n z (lU l.ak a b ts xs ys pr ir) bt g) (.A 20) (.P (S.length+1) 0)=J (.A (lU l.ak a b ts xs ys (aW pr) (aW ir))):=λn z a b ts xs ys pr ir bt g h1 h2 h3 g1 g2 g3=>by grind [aas,fQ,pD,SH]
  have lZ:∀n a b(ts xs ys:F) pr ir c bt g,ts.length=3->xs.length=6->ys.length=6->ts.map aW=ts->xs.map aW=xs->ys.map aW=ys->aW pr=pr->aW ir=ir->aX (zh S j n (.M (lU l.ak a b ts xs ys pr ir) [] O) c bt g) (.A 20) (.P S.length 0)=J (.A (lU l.ak a b ts xs ys pr ir)):=λn a b ts xs ys pr ir c bt g h1 h2 h3 g1 g2 g3 g4 g5=>by grind [amQ,fQ,pD,SH]
  have res:∀n s C c bt g,cd (.A C)=.A l.ao->dr 100 s [.A C] S (zh S j n (.M C [] O) c bt g)=J (.A l.ao,S.set j (fS j n)):=λn s C c bt g hC=>by simp[uw,hC,cI,ajs]
  have tS:=(bJ.jh l.type).jg;have tP:=(bJ.jh l.type).br;have tN:=(bJ.jh l.type).wv;have xS:=(bu.jh l.base).jg;have xP:=(bu.jh l.base).br;have xN:=(bu.jh l.base).wv;have yS:=(bu.jh l.back).jg;have yP:=(bu.jh l.back).br;have yN:=(bu.jh l.back).wv;have z3:wR.map aW=wR:=rfl;have z3P:dv wR=G:=rfl;have tr:∀b t y i o,aY [] (.cQ [.A (sI b t y i),.B o])=(.cQ [.A (sI b t y i),.B o],[]):=λ_ _ _ _ _=>rfl;have sn:aW .aw=.aw:=rfl;have i0:l.bT=[]->bS.gw l.bT=[]:=λh=>by rw[h];rfl
  rcases ar2 k1 k10 with⟨E,P,T,hi⟩|⟨E,P,T,hi⟩|⟨E,P,T,hi⟩|⟨E,P,T,hi⟩|⟨E,P,T,hi⟩
  ·
    have e1:=f.b1 E;have e2:=f.t0 P;have e3:=f.y0 T;have e4:=f.i0 hi;rw[E,P,T,hi]at cu;simp only[E,P,T,i0 e4,if_true,Bq,if_false,Ar]at R2 lb;have c3:=λg=>XL (o:=l.a) (zi w ((r.go 1).go (aZ l.a).length) (.M aE [] O) (lU l.ak l.a [] wR ah ah .aw .aw) [] g) e1.1 e1.2 R2;simp only[wQ w]at c3;have R3:=R2.go;have l1:∀n g,aX (zh S j n (.M aE [] O) (lU l.ak l.a [] wR ah ah .aw .aw) [] g) .C (.P (S.length+1) 1)=J (.S l.a):=λ_ _=>aas ..;have s3:∀n g,bd [] S.length (zh S j n (.M aE [] O) (lU l.ak l.a [] wR ah ah .aw .aw) [] g) 1 (.P (S.length+1) 2) (.S l.b)=J ([],zh S j n (.M aE [] O) (lU l.ak l.a l.b wR ah ah .aw .aw) [] g):=λn g=>Lj (TZ l.b) 2 1 rfl (by rw[pD rfl rfl rfl];omega) rfl [];have hC:cd (.A (lU l.ak l.a l.b wR ah ah .aw .aw))=.A l.ao:=B7 rfl rfl rfl (by rw[e2.1];rfl) (by rw[e2.2];rfl) (by rw[e3.1];rfl) (by rw[e3.2];rfl) (by rw[e4];rfl);have p:=λn z g=>lA n z l.a l.b wR ah ah .aw .aw [] g rfl rfl rfl rfl rfl rfl;have lZ':=λn c g=>lZ n l.a l.b wR ah ah .aw .aw c [] g rfl rfl rfl rfl rfl rfl rfl rfl;have sZ':=λn c g=>PJ (S:=S) (j:=j) (r:=n) (cs:=aE) (c:=c) (bt:=[]) (u:=g) (C:=lU l.ak l.a l.b wR ah ah .aw .aw) (B6 rfl rfl rfl rfl rfl) rfl (pD rfl rfl rfl) [];have A:=λg=>er (.M aE [] O) (lU l.ak [] [] wR ah ah .aw .aw) [] g hR1;have v:=λg=>er (.M aE [] O) (lU l.ak l.a l.b wR ah ah .aw .aw) [] g R3;have rr:=λn s c g=>res n s _ c [] g hC;simp only[sn]at p;rw[j6 Xn];rw[lb];generalize hc0:lU l.ak [] [] wR ah ah .aw .aw=C0,hc1:lU l.ak l.a [] wR ah ah .aw .aw=C1,hc2:lU l.ak l.a l.b wR ah ah .aw .aw=C2 at*;simp at c2 c3 v p;simp[d0,c1,wk,fk,st0,lk,cu,tr,bU,PH,JP,stu,A,b0,c2,s2,lu0,lu1,lu2,lu3,l1,c3,s3,ot,v,p,sZ',lZ',rr]
    grind
  ·
    have e1:=f.b0 E;have e2:=f.t1 P;have e3:=f.y0 T;have e4:=f.i0 hi;have fr:=qz e2;rw[E,P,T,hi]at cu;simp only[E,P,T,i0 e4,if_true,Bq,if_false,Ar,sC]at R2 lb;have c3:=λg=>SF l.type I.type fr.2 (zi w ((r.go 1).go (aZ l.a).length) (.M aE [] O) (lU l.ak l.a [] wR ah ah .aw .aw) [] g) R2;simp only[wQ w]at c3;have R3:=R2.go;have s3:∀n g,bd [] S.length (zh S j n (.M aE [] O) (lU l.ak l.a [] wR ah ah .aw .aw) [] g) 3 (.P (S.length+1) 3) (.A l.type.ao)=J ([],zh S j n (.M aE [] O) (lU l.ak l.a [] l.type.ao ah ah .aw .aw) [] g):=λn g=>Lj (kT (bJ.jh l.type)) 3 3 bW (by rw[pD rfl rfl rfl];omega) (ajl rfl bW) [];have R4:=R3.go
    have c4:=λg=>Ge (m:=S.length+1) l.base I.base fr.1 (zi w (((r.go 1).go (aZ l.a).length).go l.type.bytes.length) (.M aE [] O) (lU l.ak l.a [] l.type.ao ah ah .aw .aw) [] g) R3 181 rfl rfl (by
     refine Bj (k:=l.ak) (a:=l.a) (b:=[]) (t:=l.type) (xs:=ah) (ys:=ah) (pr:=.aw) (ir:=.aw) (bt:=[]) (q:=O) ?_ l.base I.base I.type e2;unfold iY
     grind [wQ,B5])
    simp only[wQ w]at c4;have s4:∀n g,bd [] S.length (zh S j n (.M aE [] O) (lU l.ak l.a [] l.type.ao ah ah .aw .aw) [] g) 6 (.P (S.length+1) 6) (.A l.base.ao)=J ([],zh S j n (.M aE [] O) (lU l.ak l.a [] l.type.ao l.base.ao ah .aw .aw) [] g):=λn g=>Lj (kT (bu.jh l.base)) 6 6 bW (by rw[pD bW rfl rfl];omega) (ajm bW rfl bW) [];have hC:cd (.A (lU l.ak l.a [] l.type.ao l.base.ao ah .aw .aw))=.A l.ao:=B7 rfl rfl e1.symm tN xN (by rw[e3.1];rfl) (by rw[e3.2];rfl) (by rw[e4];rfl);have p:=λn z g=>lA n z l.a [] l.type.ao l.base.ao ah .aw .aw [] g bW bW rfl tS xS rfl;have lZ':=λn c g=>lZ n l.a [] l.type.ao l.base.ao ah .aw .aw c [] g bW bW rfl tS xS rfl rfl rfl;have sZ':=λn c g=>PJ (S:=S) (j:=j) (r:=n) (cs:=aE) (c:=c) (bt:=[]) (u:=g) (C:=lU l.ak l.a [] l.type.ao l.base.ao ah .aw .aw) (B6 tP xP rfl rfl rfl) rfl (pD bW bW rfl) [];have A:=λg=>er (.M aE [] O) (lU l.ak [] [] wR ah ah .aw .aw) [] g hR1;have v:=λg=>er (.M aE [] O) (lU l.ak l.a [] l.type.ao l.base.ao ah .aw .aw) [] g R4;have rr:=λn s c g=>res n s _ c [] g hC;simp only[sn]at p;rw[j6 Xn];rw[lb];generalize hc0:lU l.ak [] [] wR ah ah .aw .aw=C0,hc1:lU l.ak l.a [] wR ah ah .aw .aw=C1,hc2:lU l.ak l.a [] l.type.ao ah ah .aw .aw=C2,hc3:lU l.ak l.a [] l.type.ao l.base.ao ah .aw .aw=C3 at*;simp at c2 c3 c4 v p;simp[d0,c1,wk,fk,st0,lk,cu,tr,bU,PH,JP,stu,A,b0,c2,s2,lu0,lu1,lu2,lu3,c3,s3,c4,s4,ot,v,p,sZ',lZ',rr]
    grind
  ·
    have e1:=f.b0 E;have e2:=f.t0 P;have e3:=f.y0 T;have e4:=f.i0 hi;rw[E,P,T,hi]at cu;simp only[E,P,T,i0 e4,Bq,if_false,Ar]at R2 lb;have hC:cd (.A (lU l.ak l.a [] wR ah ah .aw .aw))=.A l.ao:=B7 rfl rfl e1.symm (by rw[e2.1];rfl) (by rw[e2.2];rfl) (by rw[e3.1];rfl) (by rw[e3.2];rfl) (by rw[e4];rfl);have p:=λn z g=>lA n z l.a [] wR ah ah .aw .aw [] g rfl rfl rfl rfl rfl rfl;have lZ':=λn c g=>lZ n l.a [] wR ah ah .aw .aw c [] g rfl rfl rfl rfl rfl rfl rfl rfl;have sZ':=λn c g=>PJ (S:=S) (j:=j) (r:=n) (cs:=aE) (c:=c) (bt:=[]) (u:=g) (C:=lU l.ak l.a [] wR ah ah .aw .aw) (B6 rfl rfl rfl rfl rfl) rfl (pD rfl rfl rfl) [];have A:=λg=>er (.M aE [] O) (lU l.ak [] [] wR ah ah .aw .aw) [] g hR1;have v:=λg=>er (.M aE [] O) (lU l.ak l.a [] wR ah ah .aw .aw) [] g R2;have rr:=λn s c g=>res n s _ c [] g hC;simp only[sn]at p;rw[j6 Xn];rw[lb];generalize hc0:lU l.ak [] [] wR ah ah .aw .aw=C0,hc1:lU l.ak l.a [] wR ah ah .aw .aw=C1 at*;simp at c2 v p;simp[d0,c1,wk,fk,st0,lk,cu,tr,bU,PH,JP,stu,A,b0,c2,s2,lu0,lu1,lu2,lu3,ot,v,p,sZ',lZ',rr]
    grind
  ·
    have e1:=f.b0 E;have e2:=f.t0 P;have e3:=f.y0 T;have e4:=f.i1 hi;obtain⟨x,ex⟩:∃x,l.bT=[x]:=ED.1 e4;have eb:bS.gw l.bT=x.bytes:=by rw[ex];simp[bS.gw]
    rw[E,P,T,hi]at cu;simp only[E,P,T,eb,Bq,if_false,Ar]at R2 lb;have c3:=λg=>ih x (hl.all x (by grind)) (f.all x (by grind)) V _ j ((r.go 1).go (aZ l.a).length) u (zi w ((r.go 1).go (aZ l.a).length) (.M aE [] O) (lU l.ak l.a [] wR ah ah .aw .aw) [] g) R2;simp only[wQ w]at c3;have R3:=R2.go;have bo:ff 20 [aE] [(0,.A x.ao)]=J [x.ao]:=by have:=(bS.jh x).jg;simp[ff,aW,AV.cells,aU]
    have px:br (.sl .X 20 [x.ao])=G:=by simp[br,eS,(bS.jh x).br]
    have s3:∀n g,bd [] S.length (zh S j n (.M aE [] O) (lU l.ak l.a [] wR ah ah .aw .aw) [] g) 1 (.P (S.length+1) 19) (.sl .X 20 [x.ao])=J ([],zh S j n (.M aE [] O) (lU l.ak l.a [] wR ah ah .aw (.sl .X 20 [x.ao])) [] g):=λn g=>by unfold bd;simp only[B5];rw[if_pos ⟨rfl,rfl,by rw[pD rfl rfl rfl];omega,.inl V⟩];show J ([],(zh ..).set _ (.M (aM _ 19 [_]) [] O))=_;rw[PI,ar0 rfl rfl rfl];rfl
    have hC:cd (.A (lU l.ak l.a [] wR ah ah .aw (.sl .X 20 [x.ao])))=.A l.ao:=B7 rfl rfl e1.symm (by rw[e2.1];rfl) (by rw[e2.2];rfl) (by rw[e3.1];rfl) (by rw[e3.2];rfl) (by rw[ex];rfl);have p:=λn z g=>lA n z l.a [] wR ah ah .aw (.sl .X 20 [x.ao]) [] g rfl rfl rfl rfl rfl rfl;have lZ':=λn c g=>lZ n l.a [] wR ah ah .aw (.sl .X 20 [x.ao]) c [] g rfl rfl rfl rfl rfl rfl rfl rfl;have sZ':=λn c g=>PJ (S:=S) (j:=j) (r:=n) (cs:=aE) (c:=c) (bt:=[]) (u:=g) (C:=lU l.ak l.a [] wR ah ah .aw (.sl .X 20 [x.ao])) (B6 rfl rfl rfl rfl px) rfl (pD rfl rfl rfl) [];have A:=λg=>er (.M aE [] O) (lU l.ak [] [] wR ah ah .aw .aw) [] g hR1;have v:=λg=>er (.M aE [] O) (lU l.ak l.a [] wR ah ah .aw (.sl .X 20 [x.ao])) [] g R3;have rr:=λn s c g=>res n s _ c [] g hC;have st9:aW (.sl .X 20 [x.ao])=.sl .X 20 [x.ao]:=rfl;simp only[st9]at p;simp only[sn]at p;rw[j6 Xn];rw[lb];generalize hc0:lU l.ak [] [] wR ah ah .aw .aw=C0,hc1:lU l.ak l.a [] wR ah ah .aw .aw=C1,hc2:lU l.ak l.a [] wR ah ah .aw (.sl .X 20 [x.ao])=C2 at*;simp at c2 c3 v p bo;simp[d0,hd1,c1,wk,fk,st0,lk,cu,tr,bU,PH,JP,stu,A,b0,c2,s2,lu0,lu1,lu2,lu3,c3,s3,bo,ot,v,p,sZ',lZ',rr]
    grind
  ·
    have e1:=f.b0 E;have e2:=f.t1 P;have e3:=f.y1 T;have e4:=f.i0 hi;have fr:=qz e2;have tk1:=O1 e2;rw[E,P,T,hi]at cu;simp only[E,P,T,i0 e4,if_true,Bq,if_false,Ar,sC]at R2 lb;have c3:=λg=>SF l.type I.type fr.2 (zi w ((r.go 1).go (aZ l.a).length) (.M aE [] O) (lU l.ak l.a [] wR ah ah .aw .aw) [] g) R2;simp only[wQ w]at c3;have R3:=R2.go;have s3:∀n g,bd [] S.length (zh S j n (.M aE [] O) (lU l.ak l.a [] wR ah ah .aw .aw) [] g) 3 (.P (S.length+1) 3) (.A l.type.ao)=J ([],zh S j n (.M aE [] O) (lU l.ak l.a [] l.type.ao ah ah .aw .aw) [] g):=λn g=>Lj (kT (bJ.jh l.type)) 3 3 bW (by rw[pD rfl rfl rfl];omega) (ajl rfl bW) [];have R4:=R3.go;have ert:=λg=>er (.M aE [] O) (lU l.ak l.a [] l.type.ao ah ah .aw .aw) [] g R3;have l3:∀n g,aX (zh S j n (.M aE [] O) (lU l.ak l.a [] l.type.ao ah ah .aw .aw) [] g) (.A 3) (.P (S.length+1) 3)=J (.A l.type.ao):=λn g=>by rw[aas];exact aoD bW tS
    have csc:=Dy l.type;have hsc:(b_ (1<=l.type.ak)&&b_ (l.type.ak<=4))=G:=by grind
    rw[hsc]at csc;have c4:=λg=>Ge (m:=S.length+1) l.base I.base fr.1 (zi w (((r.go 1).go (aZ l.a).length).go l.type.bytes.length) (.M aE [] O) (lU l.ak l.a [] l.type.ao ah ah .aw .aw) [] g) R3 181 rfl rfl (by refine Bj (k:=l.ak) (a:=l.a) (b:=[]) (t:=l.type) (xs:=ah) (ys:=ah) (pr:=.aw) (ir:=.aw) (bt:=[]) (q:=O) ?_ l.base I.base I.type e2;unfold iY;refine dH _ ?_;rw[wQ w];exact B5 ..)
    simp only[wQ w]at c4;have s4:∀n g,bd [] S.length (zh S j n (.M aE [] O) (lU l.ak l.a [] l.type.ao ah ah .aw .aw) [] g) 6 (.P (S.length+1) 6) (.A l.base.ao)=J ([],zh S j n (.M aE [] O) (lU l.ak l.a [] l.type.ao l.base.ao ah .aw .aw) [] g):=λn g=>Lj (kT (bu.jh l.base)) 6 6 bW (by rw[pD bW rfl rfl];omega) (ajm bW rfl bW) [];have jm:j≠S.length+1:=V;have c5:=λg=>ajp l I e3.1 e3.2.1 e3.2.2.1 e3.2.2.2 (k:=l.ak) (a:=l.a) (b:=[]) (xs:=l.base.ao) (ys:=ah) (ir:=.aw) bW rfl (zi w ((((r.go 1).go (aZ l.a).length).go l.type.bytes.length).go l.base.bytes.length) (.M aE [] O) (lU l.ak l.a [] l.type.ao l.base.ao ah .aw .aw) [] g) (B5 ..) jm R4;simp only[amR S j _ _ _ _ _ _ _ _ w]at c5;have R5:rI (((((r.go 1).go (aZ l.a).length).go l.type.bytes.length).go l.base.bytes.length).go (l.back.bytes.length+((cF l.bg.length).length+(l.bg.flatMap nh).length))) u:=by
     have:=R4.go.go.go
     grind [Rd.go]
    generalize Qx:bL (S.length+1) 0 12 (Li l.bg)=row at*;have hrs:aW row=eU 12 (Li l.bg):=by rw[<-Qx];exact rQ ..
    have q1:=pJ (sz:=12) (SG l.bg);have hC:cd (.A (lU l.ak l.a [] l.type.ao l.base.ao l.back.ao (eU 12 (Li l.bg)) .aw))=.A l.ao:=B7 rfl rfl e1.symm tN xN yN (aef _) (by rw[e4];rfl);have p:=λn z g=>lA n z l.a [] l.type.ao l.base.ao l.back.ao row .aw (U5 l.bg.length) g bW bW bW tS xS yS;have lZ':=λn c g=>lZ n l.a [] l.type.ao l.base.ao l.back.ao (eU 12 (Li l.bg)) .aw c (U5 l.bg.length) g bW bW bW tS xS yS q1.1 rfl;have sZ':=λn c g=>PJ (S:=S) (j:=j) (r:=n) (cs:=aE) (c:=c) (bt:=U5 l.bg.length) (u:=g) (C:=lU l.ak l.a [] l.type.ao l.base.ao l.back.ao (eU 12 (Li l.bg)) .aw) (B6 tP xP yP q1.2 rfl) rfl (pD bW bW bW) [];have A:=λg=>er (.M aE [] O) (lU l.ak [] [] wR ah ah .aw .aw) [] g hR1;have v:=λg=>er (.M aE [] O) (lU l.ak l.a [] l.type.ao l.base.ao l.back.ao row .aw) (U5 l.bg.length) g R5;have rr:=λn s c g=>res n s _ c (U5 l.bg.length) g hC;simp only[sn,hrs]at p;rw[j6 Xn];rw[lb];generalize hc0:lU l.ak [] [] wR ah ah .aw .aw=C0,hc1:lU l.ak l.a [] wR ah ah .aw .aw=C1,hc2:lU l.ak l.a [] l.type.ao ah ah .aw .aw=C2,hc3:lU l.ak l.a [] l.type.ao l.base.ao ah .aw .aw=C3,hc4:lU l.ak l.a [] l.type.ao l.base.ao l.back.ao row .aw=C4,hc5:lU l.ak l.a [] l.type.ao l.base.ao l.back.ao (eU 12 (Li l.bg)) .aw=C5 at*;simp at c2 c3 ert c4 p;simp[-List.length_flatMap]at c5 v;simp[d0,c1,wk,fk,st0,lk,cu,tr,dh,bU,PH,JP,stu,A,b0,b1,c2,s2,lu0,lu1,lu2,lu3,c3,s3,ert,l3,csc,c4,s4,c5,ot,v,p,sZ',lZ',rr, -List.length_flatMap]
    grind
def WW{S:Z}{j:Nat}{r:Rd}{u:B}(v:bS)(i:v.Wf)(h:v.bw 5=G)(d:S[j]? =J (fS j r))(f:rI r (v.bytes++u)):
 W ax X 43 [.P j 0] S=J (.A v.ao,S.set j (fS j (r.go v.bytes.length))):=by
 have e:=amS 5 v i h V (S++[.M aE [] O]) j r u (dH _ d) f;rw[ig _ ((lQ.1 d).1)]at e;have c:(S.set j (fS j (r.go v.bytes.length))).length=S.length:=bW;have m:=Aw c (bS.jh v).br [.M aE [] O] 0 [] S.length 20;have l:aX (S.set j (fS j (r.go v.bytes.length))++[.M v.ao [] O]) (.A 20) (.P S.length 0)=J (.A v.ao):=by rw[lT0 c];simp
 have k:∀b a,(S.set j b++a).take S.length=S.set j b:=λb a=>by simp
 have g:aM aE 0 v.ao=v.ao:=dT bW;rw[jr aEO];simp_all
theorem Fu(s:B):(cJ s).flatten=R s:=by
 induction s with
 |nil=>rfl
 |cons a r b=>show _::(cJ r).flatten=_;rw[b];rfl
def T8{s:B}(h:s≠[]):eU 1 (cJ s)=.sl .N 1 (cJ s):=by grind [eU,tj]
def Nb{S:Z}{j:Nat}{r:Rd}{s u:B}(c:s.length=32)(i:S[j]? =J (fS j r))(k:rI r (s++u)):
 W ax X 40 [.P j 0] S=J (.A (R s),S.set j (fS j (r.go 32))):=by
 have e:=ZB (dH [.M aP [] O,.M aP [] O] i) 32 c V k;rw[ig _ ((lQ.1 i).1),c,T8 (by grind)]at e;have d:(S.set j (fS j (r.go 32))).length=S.length:=bW;have p:((cJ s).take 32).flatten=R s:=by simp_all[og,Fu]
 have h:uv S.length (S.set j (fS j (r.go 32))++[.M aP [] O,.M aP [] O]) 1 (.cH (S.length+1) 0 32 32 1) (.sl .N 1 (cJ s))=J (.I Y 32,S.set j (fS j (r.go 32))++[.M aP [] O,.M (R s) [] O]):=by simp_all[uv,bZ,AU]
 have l:aX (S.set j (fS j (r.go 32))++[.M aP [] O,.M (R s) [] O]) (.A 32) (.P (S.length+1) 0)=J (.A (R s)):=by simp[lT d,c]
 have g:=Aw d (aL s).br [.M aP [] O,.M (R s) [] O] 0 [] S.length 32;have f:aX (S.set j (fS j (r.go 32))++[.M (R s) [] O,.M (R s) [] O]) (.A 32) (.P S.length 0)=J (.A (R s)):=by simp[lT0 d,c]
 have n:∀b a,(S.set j b++a).take S.length=S.set j b:=λb a=>by simp
 have o:aY [] (.sl .N 1 (cJ s))=(.sl .N 1 (cJ s),[]):=rfl;have m:∀a,dr 40 [] [.A (R s)] S (S.set j (fS j (r.go 32))++a)=J (.A (R s),S.set j (fS j (r.go 32))):=λa=>by simp
 simp only[RP,RR]at g;rw[if_pos ⟨by simp[c],by decide⟩,(dT (by simp[c]):aM aP 0 (R s)=R s)]at g;rw[jr aDk];simp at e h;simp[e,qH,o,h,l,g,f,m]
def Sc:∀(l:List B)(i:Nat),BL l=G->BL (l.take i)=G
 |[],i,_=>by grind
 |[a],i,_=>by cases i<;>simp[BL]
 |a::b::r,0,_=>by rfl
 |a::b::r,1,_=>by rfl
 |a::b::r,i+2,h=>by simp only[BL,mr]at h;have:=Sc (b::r) (i+1) h.2;simp at this⊢;simp only[BL,h.1,Rk];exact this
def wH(l:List B):jU:=l.map R
def agd(l:List B):nK l=mo 32 (wH l):=rfl
@[simp]def aBy(l:List B):(wH l).length=l.length:=by simp[wH]
def Kt(l:List B):eS (wH l)=G:=kg.2 λx a=>by obtain⟨s,_,rfl⟩:=yE.1 a;exact df.br (aL s)
def ZC{S:Z}{j:Nat}{r:Rd}{u:B}(l:List B)(hl:∀p∈l,p.length=32)(h4:l.length<=4)(A:BL l=G)(z:S[j]? =J (fS j r))(hr:rI r (cF l.length++(l.flatten++u))):
 W ax X 41 [.P j 0] S=J (ZD 32 (wH l),S.set j (fS j (r.go ((cF l.length).length+l.flatten.length)))):=by
 have I:∀d i(k:Rd)(g:Q)(e:bV),i+d=l.length->rI k ((l.drop i).flatten++u)->Jb 32 g e (wH (l.take i))->
  ∃c a,Jb 32 c a (wH l)/\DC ax X (.L Ay) ⟨[(0,.P j 0),(3,.I U (l.length:Int)),(4,g),(5,.I U (i:Int))],e,S.length⟩ (S.set j (fS j k))=
   J (.E 0,⟨[(4,c)],a,S.length⟩,S.set j (fS j (k.go (l.drop i).flatten.length))):=by
  intro d;induction d with
  |zero=>
   intro i k g e hi f q;rw[(og V:l.take i=l)]at q;refine⟨g,e,q, ?_⟩;simp[aj,aN ni,(jX V:l.drop i=[]),(V:¬i<l.length),Rd.go]
  |succ d ih=>
   intro i k g e hi f q;have⟨y,E,hy'⟩:=aT (l:=l) (i:=i) V;have hw:dt U ((i:Int)+1)=((i+1:Nat):Int):=by show((i:Int)+1)%2^64=_;omega
   have m:=hl y (gR E);rw[bf E,Rm]at f⊢;rw[sC]at f;have v:=Nb m (Ku z k) f;rw[TF]at v;have Rn:=f.go;rw[m]at Rn;have tP:l.take (i+1)=l.take i++[y]:=by rw[vG,E];rfl
   have⟨o,t2,a1,a2⟩:=q.app (R y) (by simp;omega) (S.set j (fS j (k.go 32)));have a3:Jb 32 o t2 (wH (l.take (i+1))):=by rw[tP];simpa[wH]using a2
   have ne:wH (l.take (i+1))≠[]:=by rw[tP];simp[wH]
   have w:o=.sl (.fr 0) 32 (wH (l.take (i+1))):=by rcases a3 with⟨h,_⟩|⟨_,h,_⟩;all_goals trivial
   have gn:ej (.sl .N 32 (wH (l.take (i+1))))=nK (l.take (i+1)):=by rw[agd];cases h:wH (l.take (i+1))<;>rfl
   have c3:=Fg (l.take (i+1)) (λp hp=>hl p (List.mem_of_mem_take hp)) (by grind) (S.set j (fS j (k.go 32)));rw[Sc l _ A]at c3;have⟨c,a,n1,P⟩:=ih (i+1) (k.go 32) o t2 V Rn a3;refine⟨c,a,n1, ?_⟩;have bo:ff 32 [aP] [(0,.A (R y))]=J [R y]:=by simp_all[ff]
   rw[aj,aN ni];simp only[zN,m]at P⊢;simp[-List.length_flatten]at P hw v bo;simp[(V:i<l.length),zX (Ku z k) f,(rfl:dX .eql (.kN fW) G .c_ .c_=J (.B G)),v,bo,a1,(λT=>by rw[w];rfl:∀T,bH T o=J (.sl .N 32 (wH (l.take (i+1))))),gn,(λT=>by rw[w];rfl:∀T,bK T o=T),(λT s=>by rw[w];rfl:∀T s,bk T s o=s),de,ct,c3,bU, -List.length_flatten];rw[ab ni];simp[hw,P, -List.length_flatten]
 have⟨c,a,g1,x⟩:=I l.length 0 _ .aw [] V hr.go (Jb.nil 32);have⟨t,f1,f2,f3,f4⟩:=g1.res (Kt l);rw[jr aDl];simp only[tQ]at x;simp[-List.length_flatten]at x;simp[oq z (n:=l.length) V hr,(eq_false V:((4:Int)<(l.length:Int))=False), -List.length_flatten];rw[ab ni];simp[x,f1,f2,f3,f4,(λb=>og bW:∀b,(S.set j b).take S.length=S.set j b), -List.length_flatten]
def Da{S:Z}{l:List cZ}{k off n c:Nat}{b:B}{bt:bV}{q:Bool}(h:l[k]? =J (.M (R b) bt q))(a:off+n<=b.length):bZ (S++l) (.cH (S.length+k) off n c 1)=J (1,cJ ((b.drop off).take n)):=by grind [zo,R,sub,List.map_take,List.map_drop]
def AT(b:B)(u:b.length=64)(s:Bool)(S:Z):W ax X 46 [.A (R b),.B s] S=J (.A (R (if s=G then b.drop 32 else b.take 32)),S):=by
 have h:(R b).length=64:=by simp[u]
 have g:df (R b):=aL _;have v:(AV.A (R b)).cells=R b:=rfl;have r:aP.length=32:=rfl
 have i:∀off c:Nat,off+32<=64->uv S.length (S++[.M (R b) [] O,.M aP [] O,.M aP [] O]) 1 (.cH (S.length+2) 0 32 32 1) (.cH S.length off 32 c 1)=J (.I Y 32,S++[.M (R b) [] O,.M aP [] O,.M (R ((b.drop off).take 32)) [] O]):=λoff c x=>by
  have m:=Da (S:=S) (l:=[.M (R b) [] O,.M aP [] O,.M aP [] O]) (k:=0) (off:=off) (n:=32) (c:=c) (b:=b) rfl V;have q:((b.drop off).take 32).length=32:=by simp;omega
  unfold uv;rw[Ov]at m;rw[m];simp only[AU];rw[tO,gT (S:=S) rfl];simp only[Wt,RP];have w:((cJ ((b.drop off).take 32)).take 32).flatten=R ((b.drop off).take 32):=by grind [yV,Fu]
  simp_all
 have o:=λc=>i 0 c V;have p:=λc=>i 32 c V;rw[(bW:(b.drop 0).take 32=b.take 32)]at o;rw[(by grind [og]:(b.drop 32).take 32=b.drop 32)]at p;rw[j6 aER];cases s with
 |false=>
  rw[if_neg bW];have e:df (R (b.take 32)):=aL _;have f:(R (b.take 32)).length=32:=by simp;omega
  have j:=bG f e;generalize R (b.take 32)=a at*;generalize R b=E at*;have t:(AV.A a).cells=a:=rfl;generalize aP=d at*;simp-implicitDefEqProofs [h,g,r,qH,o,e,f,j, -AV.cells, -aU]
 |true=>
  rw[if_pos rfl];have e:df (R (b.drop 32)):=aL _;have f:(R (b.drop 32)).length=32:=by simp;omega
  generalize R (b.drop 32)=a at*;generalize R b=E at*;have t:(AV.A a).cells=a:=rfl;generalize aP=d at*;simp-implicitDefEqProofs [h,g,r,qH,p,e,f,bG f e, -AV.cells, -aU]
def ajI(c:UInt8):K .andNot (bn c) (.I L 7)=J (bn (cq (c.toNat/8*8))):=by
 have h:∀n:Nat,n<256->(gK 8 (n:Int)&&& ~~~gK 8 7).toNat=n/8*8:=by decide+kernel
 show J (AV.I L (dt L ((gK 8 (c.toNat:Int)&&& ~~~gK 8 7).toNat:Int)))=_;rw[h c.toNat c.toNat_lt,bn,rU,afW]
def ajJ(c:UInt8):K .or (bn (cq (c.toNat %128))) (.I L 64)=J (bn (cq (c.toNat %64+64))):=by
 have h:∀n:Nat,n<256->n %128|||64=n %64+64:=by decide+kernel
 have e:=h c.toNat c.toNat_lt;have:=afN (cq (c.toNat %128)) 64
 grind [bn,UInt8.toNat_or,rU]
def clp(h:B):B:=(h.set 0 (cq ((h.getD 0 0).toNat/8*8))).set 31 (cq ((h.getD 31 0).toNat %64+64))
def iK(s:B):B:=clp ((dV s).take 32)
def oT(s:B):B:=(dV s).drop 32
def Gl(b:B):(dV b).length=64:=by unfold dV W8.tu;rw[Nr];rfl
def GQ(s:B):(iK s).length=32:=by simp_all[Gl,iK,clp]
def SM(s:B):(oT s).length=32:=by have:=Gl s;simp[oT];omega
def HI.more{S:Z}{p:Q × B}(h:HI S p)(b:List cZ):HI (S++b) p:=⟨h.1,λa=>by rw[sC];exact h.2 _⟩
def aaA{S:Z}{l:List cZ}{k n c:Nat}{b:B}{bt:bV}{q:Bool}(h:l[k]? =J (.M (R b) bt q))(d:b.length=n):HI (S++l) (.cH (S.length+k) 0 n c 1,b):=by
 refine⟨rfl,λa=>⟨1, ?_,λ_=>rfl⟩⟩;have e:=(lQ.1 h).1;have:=Da (S:=S) (l:=l++a) (k:=k) (off:=0) (n:=n) (c:=c) (b:=b) (bt:=bt) (q:=q) (by grind) V
 grind
def JU(s:B)(hs:s.length=32)(S:Z):W ax X 25 [.A (R s)] S=J (.cQ [.A (R (iK s)),.A (R (oT s))],S):=by
 have i:=Gl s;have hl1:(R s).length=32:=by simp[hs]
 have hd1:df (R s):=aL _;have hz:aP.length=32:=rfl;have hz2:bR.length=64:=rfl;have z:=DQ [(.cH S.length 0 32 32 1,s)] (S++[.M (R s) [] O,.M aP [] O,.M aP [] O]) (λp hp=>by rw[Zd.1 hp];have:=aaA (S:=S) (l:=[.M (R s) [] O,.M aP [] O,.M aP [] O]) (k:=0) (n:=32) (c:=32) (b:=s) rfl hs;omega) bW (by simp[cj];omega);rw[show cj [(AV.cH S.length 0 32 32 1,s)]=s from by simp[cj]]at z;rw[show pk [(AV.cH S.length 0 32 32 1,s)]=.sl .N 1 [[.cH S.length 0 32 32 1]]from rfl]at z;have hf:=λT=>AT (dV s) i O T;have ht:=λT=>AT (dV s) i G T;rw[if_neg bW]at hf;rw[if_pos rfl]at ht;have l32:((dV s).take 32).length=32:=by simp[i]
 have a7:=ajI (((dV s).take 32).getD 0 0);have a8:=agD (((dV s).take 32).getD 31 0);have a9:=ajJ (((dV s).take 32).getD 31 0);have bo:ff 1 (fK 1 [AV.aw]) [(0,.cH S.length 0 32 32 1)]=J [[.cH S.length 0 32 32 1]]:=rfl;have ed:oT s=(dV s).drop 32:=rfl;have en:iK s=(((dV s).take 32).set 0 (cq ((((dV s).take 32).getD 0 0).toNat/8*8))).set 31 (cq ((((dV s).take 32).getD 31 0).toNat %64+64)):=rfl;rw[ed,en];clear ed en;have u:∀f g h e,aX (S++[f,g,h,e,.M (R ((dV s).take 32)) [] O]) .C (.P (S.length+4) 0)=J (bn (((dV s).take 32).getD 0 0)):=λf g h e=>Vk (cl S _ 4) V;have v:∀f g h e c,bd [] S.length (S++[f,g,h,e,.M (R ((dV s).take 32)) [] O]) 1 (.P (S.length+4) 0) (bn c)=J ([],S++[f,g,h,e,.M (R (((dV s).take 32).set 0 c)) [] O]):=λf g h e c=>by rw[st8 (cl S _ 4) V];simp
 have q:∀f g h e c,aX (S++[f,g,h,e,.M (R (((dV s).take 32).set 0 c)) [] O]) .C (.P (S.length+4) 31)=J (bn (((dV s).take 32).getD 31 0)):=λf g h e c=>by rw[Vk (cl S _ 4) (by simp[i]),Bv,RK V,<-Bv]
 have r:∀f g h e c d,bd [] S.length (S++[f,g,h,e,.M (R (((dV s).take 32).set 0 c)) [] O]) 1 (.P (S.length+4) 31) (bn d)=J ([],S++[f,g,h,e,.M (R ((((dV s).take 32).set 0 c).set 31 d)) [] O]):=λf g h e c d=>by rw[st8 (cl S _ 4) (by simp[i])];simp
 have i0:jF 32 1 (.P (S.length+4) 0) (.I Y 0)=J (.P (S.length+4) 0):=QA (k:=0) V;have i31:jF 32 1 (.P (S.length+4) 0) (.I Y 31)=J (.P (S.length+4) 31):=QA (k:=31) V;have P:∀T,bH T (.sl .X 1 [[.cH S.length 0 32 32 1]])=J (.sl .X 1 [[.cH S.length 0 32 32 1]]):=λ_=>rfl;have lkX:∀T,bK T (.sl .X 1 [[.cH S.length 0 32 32 1]])=T:=λ_=>rfl;have ulX:∀T T',bk T T' (.sl .X 1 [[.cH S.length 0 32 32 1]])=T':=λ_ _=>rfl;have noX:ej (.sl .X 1 [[.cH S.length 0 32 32 1]])=.sl .N 1 [[.cH S.length 0 32 32 1]]:=rfl;have hH:(R (dV s)).length=64:=by simp[i]
 have y:df (R (dV s)):=aL _;have hHp:=bG hH y;have hF:(R ((dV s).take 32)).length=32:=by simp[i]
 have hFd:df (R ((dV s).take 32)):=aL _;have hG:(R ((dV s).drop 32)).length=32:=by simp[i]
 have m:df (R ((dV s).drop 32)):=aL _;have hGp:=bG hG m;generalize cq ((((dV s).take 32).getD 0 0).toNat/8*8)=t,cq ((((dV s).take 32).getD 31 0).toNat %64+64)=j,cq ((((dV s).take 32).getD 31 0).toNat %128)=I at*;have hN:(R ((((dV s).take 32).set 0 t).set 31 j)).length=32:=by simp[i]
 have o:df (R ((((dV s).take 32).set 0 t).set 31 j)):=aL _;have hNp:=bG hN o;have u:=u;have v:=λf g h e=>v f g h e t;have q:=λf g h e=>q f g h e t;have r:=λf g h e=>r f g h e t j;generalize((dV s).take 32).getD 0 0=c0,((dV s).take 32).getD 31 0=A,R ((((dV s).take 32).set 0 t).set 31 j)=x,R (((dV s).take 32).set 0 t)=EM,R ((dV s).take 32)=EF,R ((dV s).drop 32)=w,R (dV s)=EH,R s=E,bn t=cd0,bn j=aLs,bn I=aLt at*;generalize bn c0=cc0,bn A=aLu at*;have c1:(AV.A E).cells=E:=rfl;have c2:(AV.A EH).cells=EH:=rfl;have c3:(AV.A EF).cells=EF:=rfl;have c4:(AV.A w).cells=w:=rfl;have c5:(AV.A x).cells=x:=rfl;have rs:∀a,dr 25 [] [.A x,.A w] S (S++a)=J (.cQ [.A x,.A w],S):=λa=>by have n1:cd (.A x)=.A x:=o.agg.cd;have n2:cd (.A w)=.A w:=m.agg.cd;have g1:=o.agg.I6;have g2:=m.agg.I6;have p1:=o.br;have p2:=m.br;simp_all[aF]
 try simp at bo
 rw[jr aEC];generalize hZ:aP=h,hY:bR=g at*;try simp at z
 simp-implicitDefEqProofs [hl1,hd1,hz,hz2,qH,bo,P,lkX,ulX,noX,de,ct,z,hf,ht,hH,y,hHp,hF,hFd,hG,m,hGp,hN,o,hNp,i0,i31,u,a7,v,q,a8,a9,r,rs, -K, -jF, -AV.cells, -aU]
def iI(d:Nat):Q:=.I Y (d:Int)
def rJ(l:List Nat):jU:=l.map λd=>[iI d]
def eI(l:List Nat):F:=l.map iI
@[simp]def aBT(l:List Nat):(rJ l).length=l.length:=Oq ..
@[simp]def aio(l:List Nat):(eI l).length=l.length:=Oq ..
def aip(l:List Nat)(i:Nat):(eI l)[i]? =l[i]?.map iI:=yT ..
def aro(l:List Nat)(i d:Nat):(eI l).set i (iI d)=eI (l.set i d):=(TG ..).symm
def CT(d:Nat):w_ (iI d):=(uF Y _).Kr
theorem K7(l:List Nat):eS (rJ l)=G:=kg.2 λx a=>by obtain⟨d,_,rfl⟩:=yE.1 a;rfl
def aac(es:jU):mo 1 es=.sl .N 1 es:=by cases es<;>rfl
def gat(l:List Nat)(i:Int):Nat:=if i<0 then 0 else l.getD i.toNat 0
def Pg(r:h_)(l:List Nat)(i:Int)(S:Z):W ax X 201 [.sl r 1 (rJ l),.I Y i] S=J (iI (gat l i),S):=by
 have j:fV (.sl r 1 (rJ l))=J (.I Y (l.length:Int)):=by simp[fV]
 have g:∀a b,K .geq (.I Y a) (.I Y b)=J (.B (b_ (a≥b))):=λ_ _=>rfl;unfold gat;rw[j6 ax1];by_cases h:i<0
 ·rw[if_pos h]
  generalize rJ l=c at*;simp[-K,du,h];rfl
 ·rw[if_neg h]
  by_cases d:(l.length:Int)<=i
  ·have e:l.getD i.toNat 0=0:=by simp_all
   rw[e];have f:=d;generalize rJ l=c at*;simp[-K,du,g,h,j,d];rfl
  ·have f:=d
   have m:ob 1 (.sl r 1 (rJ l)) (.I Y i)=J (.fe (ug r) [iI (l.getD i.toNat 0)] 0):=by grind [rJ,ob]
   have k:=CT (l.getD i.toNat 0);generalize iI (l.getD i.toNat 0)=v,rJ l=c at*;simp[-K,du,g,h,j,d,m,(λ_=>rfl:∀T,aX T .C (.fe (ug r) [iI (l.getD i.toNat 0)] 0)=J (iI (l.getD i.toNat 0))),k]
def qD:List Nat:=[237,211,245,92,26,99,18,88,214,156,247,162,222,249,222,20,0,0,0,0,0,0,0,0,0,0,0,0,0,0,0,16]
def azX:vB 256 qD=qN:=fU
def abX:Dg 256 qD:=by unfold Dg;decide
def aFu:qD.length=32:=rfl
def Jx(S:Z):W ax X 128 [] S=J (.sl .X 1 (rJ qD),S):=by
 have b:ff 1 (fK 32 [.I Y 0]) [(0,.I Y 237),(1,.I Y 211),(2,.I Y 245),(3,.I Y 92),(4,.I Y 26),(5,.I Y 99),(6,.I Y 18),(7,.I Y 88),(8,.I Y 214),(9,.I Y 156),(10,.I Y 247),(11,.I Y 162),(12,.I Y 222),(13,.I Y 249),(14,.I Y 222),(15,.I Y 20),(16,.I Y 0),(17,.I Y 0),(18,.I Y 0),(19,.I Y 0),(20,.I Y 0),(21,.I Y 0),(22,.I Y 0),(23,.I Y 0),(24,.I Y 0),(25,.I Y 0),(26,.I Y 0),(27,.I Y 0),(28,.I Y 0),(29,.I Y 0),(30,.I Y 0),(31,.I Y 16)]=J (rJ qD):=by rfl
 have c:=K7 qD;generalize rJ qD=a at*;rw[V7 azD];simp_all[bq,aF,br]
def dgB(b:B):List Nat:=b.map UInt8.toNat
def aiq(b:B):Dg 256 (dgB b):=λd a=>by obtain⟨c,_,rfl⟩:=yE.1 a;exact c.toNat_lt
def air:∀b:B,vB 256 (dgB b)=dN b
 |[]=>rfl
 |c::r=>by show c.toNat+256*vB 256 (dgB r)=_;rw[air r,dN]
@[simp]theorem al2(b:B):(dgB b).length=b.length:=Oq ..
def aFv(c:UInt8):nS Y (bn c)=J (iI c.toNat):=by have h:=c.toNat_lt;show J (AV.I Y (dt Y (c.toNat:Int)))=_;rw[cG V];rfl
def azY(h:h_)(b:B)(z:b.length<1000)(S:Z):∀n i(f:Q)(ae:bV),i+n=b.length->fE 1 f ae (rJ (dgB (b.take i)))->
 ∃d aV,fE 1 d aV (rJ (dgB b))/\DC ax X (.L t_) ⟨[(0,.sl h 1 (cJ b)),(3,f),(4,.I Y (i:Int))],ae,S.length⟩ S=
  J (.E 0,⟨[(3,d)],aV,S.length⟩,S):=by
 have l:fV (.sl h 1 (cJ b))=J (.I Y (b.length:Int)):=by simp[fV]
 intro n;induction n with
 |zero=>
  intro i f ae s g;have e:i=b.length:=V;subst e;rw[Dk]at g;refine⟨f,ae,g, ?_⟩;rw[aj,aN jv];generalize cJ b=a at*;simp[-K,du,l]
 |succ n t=>
  intro i f ae s g;have j:i<b.length:=V;have u:=ixB h b i j;have q:=aFv (b.getD i 0);have p:ff 1 [[AV.I Y 0]] [(0,iI (b.getD i 0).toNat)]=J [[iI (b.getD i 0).toNat]]:=rfl;have r:rJ (dgB (b.take i))++[[iI (b.getD i 0).toNat]]=rJ (dgB (b.take (i+1))):=by grind [rJ,dgB,List.take_add_one]
  have⟨x,y,o,k⟩:=fE.app g (xs:=[[iI (b.getD i 0).toNat]]) bW (by simp;omega) .X S;rw[r]at k;have⟨d,aV,w,m⟩:=t (i+1) x y V k;refine⟨d,aV,w, ?_⟩;generalize iI (b.getD i 0).toNat=v,b.getD i 0=c,cJ b=a at*;rw[aj,aN jv];simp[-K, -nS,du,eJ,(V:(i:Int)<(b.length:Int)),l,u,(λ_ _=>rfl:∀T c,aX T .C (.fe (ug h) [bn c] 0)=J (bn c)),q,p,o];rw[ab jv];try simp at m
  simp[-K,(aQ V:dt Y ((i:Int)+1)=((i+1:Nat):Int)),m]
def Jy(d:h_)(b:B)(e:b.length<1000)(S:Z):∃r,Pj 1 r (rJ (dgB b))/\W ax X 127 [.sl d 1 (cJ b)] S=J (r,S):=by have⟨o,t,c,h⟩:=azY d b e S b.length 0 .aw [] V (.inl ⟨rfl,rfl⟩);have⟨q,k,i,f,j⟩:=c.res (K7 _);refine⟨q,f, ?_⟩;have g:=c.nt;rw[jr azC];generalize cJ b=a at*;simp[-K];rw[ab jv];simp_all
def CU(r:h_):Prop:=r=.N\/∃i,r=.je i
def CU.ga{r:h_}(h:CU r)(T:Z)(es:jU):bH T (.sl r 1 es)=J (.sl r 1 es):=by rcases h with rfl|⟨i,rfl⟩<;>rfl
def CU.lk{r:h_}(h:CU r)(T:Z)(es:jU):bK T (.sl r 1 es)=T:=by rfl
def CU.ul{r:h_}(h:CU r)(T a:Z)(es:jU):bk T a (.sl r 1 es)=a:=by rfl
def CU.no{r:h_}(h:CU r)(es:jU):ej (.sl r 1 es)=.sl r 1 es:=by
 rcases h with rfl|⟨i,rfl⟩;·cases es<;>rfl
 ·rfl
def arp(a b:Nat):K .neq (iI a) (iI b)=J (.B (b_ (a≠b))):=by show J (AV.B ((a:Int) !=(b:Int)))=_;simp
def arq(a b:Nat):K .lss (iI a) (iI b)=J (.B (b_ (a<b))):=by show J (AV.B (b_ ((a:Int)<(b:Int))))=_;simp
def aae{b:List Nat}(c:Dg 256 b)(i a:Nat):gat b ((i:Int) -(a:Int))=vB 256 b*256^a/256^i %256:=by
 unfold gat;by_cases h:(i:Int) -(a:Int)<0
 ·rw[if_pos h]
  have e:a=i+(1+(a -i -1)):=V;rw[e,rz,<-w9,Zf,Nat.mul_div_cancel _ (EI V),rz,Nat.pow_one,<-w9,Zf,Nat.mul_mod_left]
 ·rw[if_neg h]
  have e:i=a+(i -a):=V
  grind [CP,sF,Nat.mul_div_cancel]
def abY{a:List Nat}(b:Dg 256 a)(i:Nat):gat a (i:Int)=vB 256 a/256^i %256:=by have:=aae b i 0;simp_all
def aaf(r s:h_)(g:CU r)(i:CU s)(a b:List Nat)(ha:Dg 256 a)(hb:Dg 256 b)(f:Nat)(hup:f<1000)(S:Z):∀n:Nat,n<10000->vB 256 a/256^n=vB 256 b*256^f/256^n->
 ∃q,DC ax X (.L rj) ⟨[(0,.sl r 1 (rJ a)),(1,.sl s 1 (rJ b)),(2,.I Y (f:Int)),(8,.I Y ((n:Int) -1))],[],S.length⟩ S=
  if vB 256 a=vB 256 b*256^f then J (.E 0,⟨[],[],S.length⟩,S)else J (.R,⟨[(6,.B (b_ (vB 256 a<vB 256 b*256^f)))],[],q⟩,S):=by
 have gI:∀a b,K .geq (.I Y a) (.I Y b)=J (.B (b_ (a≥b))):=λ_ _=>rfl;have d:=Pg;intro n;induction n with
 |zero=>
  simp_all[aj,eO]
 |succ n ih=>
  intro hn he;rw[(V:((n+1:Nat):Int) -1=(n:Int))];have k:(n:Int)≥0:=V;have sb:K .sub (.I Y (n:Int)) (.I Y (f:Int))=J (.I Y ((n:Int) -(f:Int))):=by show J (AV.I Y (dt Y ((n:Int) -(f:Int))))=_;rw[cG V]
  have m:=λS=>d r a (n:Int) S;have o:=λS=>d s b ((n:Int) -(f:Int)) S;rw[abY ha]at m;rw[aae hb]at o;have l:=arp (vB 256 a/256^n %256) (vB 256 b*256^f/256^n %256);have q2:=arq (vB 256 a/256^n %256) (vB 256 b*256^f/256^n %256);have T:=CT (vB 256 a/256^n %256);have d2:=CT (vB 256 b*256^f/256^n %256);have t:=g.ga;have u:=g.lk;have v:=g.ul;have w:=g.no;have z:=i.ga;have E:=i.lk;have I:=i.ul;have P:=i.no;by_cases j:vB 256 a/256^n %256=vB 256 b*256^f/256^n %256
  ·have⟨q,hi⟩:=ih V (arb he j)
   refine⟨q, ?_⟩;rw[decide_eq_false (λh=>h j)]at l;generalize(if vB 256 a=vB 256 b*256^f then J (Out.E 0,(⟨[],[],S.length⟩:bQ),S)else J (.R,⟨[(6,.B (b_ (vB 256 a<vB 256 b*256^f)))],[],q⟩,S))=e,iI (vB 256 a/256^n %256)=x,iI (vB 256 b*256^f/256^n %256)=y,rJ a=A,rJ b=c at*;rw[aj,aN eO];simp-implicitDefEqProofs [-K,gI,k,t,u,v,w,z,E,I,P,de,ct,m,o,sb,T,d2,l,oY];rw[ab eO];simp-implicitDefEqProofs [-K,(cG V:dt Y ((n:Int) -1)=(n:Int) -1),hi]
  ·have p:=arc he j
   refine⟨S.length, ?_⟩;rw[if_neg (λh=>j (by rw[h]))];rw[decide_eq_true (show vB 256 a/256^n %256≠vB 256 b*256^f/256^n %256 from j)]at l;rw[p]at q2;generalize b_ (vB 256 a<vB 256 b*256^f)=qb,iI (vB 256 a/256^n %256)=x,iI (vB 256 b*256^f/256^n %256)=y,rJ a=A,rJ b=c at*;rw[aj,aN eO];simp-implicitDefEqProofs [-K,gI,k,t,u,v,w,z,E,I,P,de,ct,m,o,sb,T,d2,l,q2]
def H7(k l:h_)(u:CU k)(v:CU l)(a b:List Nat)(y:Dg 256 a)(z:Dg 256 b)(la:a.length<1000)(lb:b.length<1000)(e:Nat)(w:e<1000)(S:Z):
 W ax X 126 [.sl k 1 (rJ a),.sl l 1 (rJ b),.I Y (e:Int)] S=J (.B (b_ (vB 256 a<vB 256 b*256^e)),S):=by
 have vb:=Jr z;have f:fV (.sl k 1 (rJ a))=J (.I Y (a.length:Int)):=by simp[fV]
 have g:fV (.sl l 1 (rJ b))=J (.I Y (b.length:Int)):=by simp[fV]
 have o:K .add (.I Y (b.length:Int)) (.I Y (e:Int))=J (.I Y ((b.length+e:Nat):Int)):=by show J (AV.I Y (dt Y ((b.length:Int)+(e:Int))))=_;rw[cG V];rfl
 have i:K .gtr (.I Y ((b.length+e:Nat):Int)) (.I Y (a.length:Int))=J (.B (b_ (b.length+e>a.length))):=by
  show J (AV.B (b_ (((b.length+e:Nat):Int)>(a.length:Int))))=_;congr 2
  grind
 have x:vB 256 b*256^e<256^(b.length+e):=by simp_all[rz,EI]
 have p:∀n,a.length<=n->b.length+e<=n->vB 256 a/256^n=vB 256 b*256^e/256^n:=λn r s=>by rw[Hq (ur (Jr y) (Au V r)),Hq (ur x (Au V s))]
 rw[LQ azB];have h:∀n:Nat,n<10000->a.length<=n->b.length+e<=n->∃q,DC ax X (.L rj) ⟨[(0,.sl k 1 (rJ a)),(1,.sl l 1 (rJ b)),(2,.I Y (e:Int)),(8,.I Y ((n:Int) -1))],[],S.length⟩ S=
  if vB 256 a=vB 256 b*256^e then J (.E 0,⟨[],[],S.length⟩,S)else J (.R,⟨[(6,.B (b_ (vB 256 a<vB 256 b*256^e)))],[],q⟩,S):=λn I r s=>
  aaf k l u v a b y z e w S n I (p n r s)
 by_cases E:b.length+e>a.length
 ·have⟨q,t⟩:=h (b.length+e) V V V
  rw[decide_eq_true E]at i;have m:dt Y (((b.length+e:Nat):Int) -1)=((b.length+e:Nat):Int) -1:=cG V;by_cases j:vB 256 a=vB 256 b*256^e
  ·rw[if_pos j]at t
   have P:b_ (vB 256 a<vB 256 b*256^e)=O:=decide_eq_false V;rw[P];generalize((b.length+e:Nat):Int)=d,rJ a=A,rJ b=c at*;simp-implicitDefEqProofs [-K,f,g,o,i,oY,m];rw[ab eO];simp-implicitDefEqProofs [-K,t]
  ·rw[if_neg j]at t
   generalize b_ (vB 256 a<vB 256 b*256^e)=T,((b.length+e:Nat):Int)=d,rJ a=A,rJ b=c at*;simp-implicitDefEqProofs [-K,f,g,o,i,oY,m];rw[ab eO];simp-implicitDefEqProofs [-K,t]
 ·have⟨q,t⟩:=h a.length V V V
  rw[decide_eq_false E]at i;have m:dt Y ((a.length:Int) -1)=(a.length:Int) -1:=cG V;by_cases j:vB 256 a=vB 256 b*256^e
  ·rw[if_pos j]at t
   rw[(decide_eq_false V:b_ (vB 256 a<vB 256 b*256^e)=O)];generalize((b.length+e:Nat):Int)=d,rJ a=A,rJ b=c at*;simp-implicitDefEqProofs [-K,f,g,o,i,oY,m];rw[ab eO];simp-implicitDefEqProofs [-K,t]
  ·rw[if_neg j]at t
   generalize b_ (vB 256 a<vB 256 b*256^e)=T,((b.length+e:Nat):Int)=d,rJ a=A,rJ b=c at*;simp-implicitDefEqProofs [-K,f,g,o,i,oY,m];rw[ab eO];simp-implicitDefEqProofs [-K,t]
def aBU{es:jU}(h:es≠[]):ej (.sl .X 1 es)=.sl .N 1 es:=by cases es<;>rfl
def UA:ej (.sl .X 1 (rJ qD))=.sl .N 1 (rJ qD):=rfl
def ixO{i k n:Nat}(h:k<n):ob 1 (.jV i 0 n 1) (.I Y (k:Int))=J (.P i k):=by grind [ob]
def ldI{S:Z}{i k d:Nat}{l:List Nat}{bt:bV}{q:Bool}(a:S[i]? =J (.M (eI l) bt q))(h:l[k]? =J d):aX S .C (.P i k)=J (iI d):=by rw[bI a,kR,aip,h];rfl
def stI{S:Z}{i k:Nat}{l:List Nat}(a:S[i]? =J (.M (eI l) [] O))(h:k<l.length)(d:Nat)(ae:bV)(nb:Nat):bd ae nb S 1 (.P i k) (iI d)=J (ae,S.set i (.M (eI (l.set k d)) [] O)):=by rw[d_ (CT d) a,if_pos ⟨rfl,by rw[aio];omega⟩,show(iI d).cells=[iI d]from rfl,zZ _ _ _ (by rwa [aio]),aro]
def ars(a b:Nat)(c:a<1000)(d:b<1000):K .sub (iI a) (iI b)=J (.I Y ((a:Int) -(b:Int))):=by show J (AV.I Y (dt Y ((a:Int) -(b:Int))))=_;rw[cG V]
def Xr(a b u:Nat):Nat:=if a<b+u then a+256 -b -u else a -b -u
def dfU(a b u:Nat):Nat:=if a<b+u then 1 else 0
def al3{a b u:Nat}(c:a<256)(d:b<256)(e:u<=1):Xr a b u+b+u=a+256*dfU a b u/\Xr a b u<256/\dfU a b u<=1:=by
 unfold Xr dfU
 grind
def adW(n m:Nat)(hn:n<1000)(hup:m<1000)(f g:Nat)(hY:g=vB 256 qD*256^m)(S:Z):∀k i(l:List Nat)(u:Nat),i+k=n->Dg 256 l->l.length=n->u<=1->vB 256 l+g %256^i=f+u*256^i->
 ∃l' u',Dg 256 l'/\l'.length=n/\u'<=1/\vB 256 l'+g %256^n=f+u'*256^n/\
  DC ax X (.L vY) ⟨[(3,.jV S.length 0 n 1),(4,.I Y (m:Int)),(5,.I Y (u:Int)),(6,.I Y (i:Int))],[],S.length⟩ (S++[.M (eI l) [] O])=
   J (.E 4,⟨[(3,.jV S.length 0 n 1),(4,.I Y (m:Int))],[],S.length⟩,S++[.M (eI l') [] O]):=by
 have v:fV (.jV S.length 0 n 1)=J (.I Y (n:Int)):=rfl;intro k;induction k with
 |zero=>
  intro i l u hi hl q hu hv;have e:i=n:=V;subst e;refine⟨l,u,hl,q,hu,hv, ?_⟩;rw[aj,aN eN];generalize eI l=E;simp[-K,du,v]
 |succ k ih=>
  intro i l u hi hl q hu hv;have Ec:(i:Int)<(n:Int):=V;have hin:i<n:=V;have hw:dt Y ((i:Int)+1)=((i+1:Nat):Int):=aQ V;have ix:=ixO (i:=S.length) hin;have gk:l[i]? =J (l.getD i 0):=by simp_all
  have ld:aX (S++[.M (eI l) [] O]) .C (.P S.length i)=J (iI (l.getD i 0)):=ldI (kK S _) gk;have al:=Js hl V i;have st:=λd=>stI (k:=i) (kK S [.M (eI l) [] O]) V d [] S.length;have x:∀d,(S++[cZ.M (eI l) [] O]).set S.length (.M (eI (l.set i d)) [] O)=S++[.M (eI (l.set i d)) [] O]:=λd=>by simp
  simp only[x]at st;have sb:K .sub (.I Y (i:Int)) (.I Y (m:Int))=J (.I Y ((i:Int) -(m:Int))):=by show J (AV.I Y (dt Y ((i:Int) -(m:Int))))=_;rw[cG V]
  have I:=Jx;have fa:=λS=>Pg .N qD ((i:Int) -(m:Int)) S;rw[aae abX,<-hY]at fa;have bl:g/256^i %256<256:=jf _ V;have⟨e1,e2,e3⟩:=al3 al bl hu;have hs:=O9 (B:=256) l i (Xr (l.getD i 0) (g/256^i %256) u) V;have hp:256^(i+1)=256^i*256:=pg ..;have hm:g %256^(i+1)=g %256^i+256^i*(g/256^i %256):=by rw[hp,Hr]
  have r:vB 256 (l.set i (Xr (l.getD i 0) (g/256^i %256) u))+g %256^(i+1)=f+dfU (l.getD i 0) (g/256^i %256) u*256^(i+1):=by grind
  have⟨l',u',r1,r2,r3,r4,P⟩:=ih (i+1) (l.set i (Xr (l.getD i 0) (g/256^i %256) u)) (dfU (l.getD i 0) (g/256^i %256) u) V (Uv hl e2) (by simp[q]) e3 r;refine⟨l',u',r1,r2,r3,r4, ?_⟩;have h:=ars (l.getD i 0) (g/256^i %256) V V;have j:K .sub (.I Y (((l.getD i 0:Nat):Int) -((g/256^i %256:Nat):Int))) (.I Y (u:Int))=J (.I Y (((l.getD i 0:Nat):Int) -((g/256^i %256:Nat):Int) -(u:Int))):=by show J (AV.I Y (dt Y (((l.getD i 0:Nat):Int) -((g/256^i %256:Nat):Int) -(u:Int))))=_;rw[cG V]
  have dA:=CT (l.getD i 0);have dB:=CT (g/256^i %256);have nq:=UA;by_cases hd:l.getD i 0<g/256^i %256+u
  ·have p:((l.getD i 0:Nat):Int) -((g/256^i %256:Nat):Int) -(u:Int)<0:=V
   have hD:Xr (l.getD i 0) (g/256^i %256) u=l.getD i 0+256 -g/256^i %256 -u:=if_pos hd;have hU:dfU (l.getD i 0) (g/256^i %256) u=1:=if_pos hd;have ad:K .add (.I Y (((l.getD i 0:Nat):Int) -((g/256^i %256:Nat):Int) -(u:Int))) (.I Y 256)=J (iI (Xr (l.getD i 0) (g/256^i %256) u)):=by
    show J (AV.I Y (dt Y (((l.getD i 0:Nat):Int) -((g/256^i %256:Nat):Int) -(u:Int)+256)))=_
    grind [cG,iI]
   rw[hU]at P;have sd:=st (Xr (l.getD i 0) (g/256^i %256) u);have dD:=CT (Xr (l.getD i 0) (g/256^i %256) u);clear st x r hs hm e1 e2 e3 hD hU I;have I:=Jx;generalize iI (Xr (l.getD i 0) (g/256^i %256) u)=z,eI (l.set i (Xr (l.getD i 0) (g/256^i %256) u))=E1,((l.getD i 0:Nat):Int) -((g/256^i %256:Nat):Int) -(u:Int)=w,((l.getD i 0:Nat):Int) -((g/256^i %256:Nat):Int)=w0,iI (l.getD i 0)=a,iI (g/256^i %256)=b,eI l=E0,eI l'=E2,rJ qD=c,(u:Int)=ui at*;have y:∀t,aY t (.sl .X 1 c)=(.sl .X 1 c,t):=λ_=>rfl;have o:∀T,bH T (.sl .X 1 c)=J (.sl .X 1 c):=λ_=>rfl;have s:∀T,bK T (.sl .X 1 c)=T:=λ_=>rfl;have A:∀T T',bk T T' (.sl .X 1 c)=T':=λ_ _=>rfl;rw[aj,aN eN];simp-implicitDefEqProofs [-K,du,Ec,v,ix,ld,I,y,o,s,A,de,ct,nq,fa,sb,h,j,dB,p,ad,sd,eJ];rw[ab eN];try simp at P
   simp-implicitDefEqProofs [-K,hw,P]
  ·have p:¬((l.getD i 0:Nat):Int) -((g/256^i %256:Nat):Int) -(u:Int)<0:=V
   have hD:Xr (l.getD i 0) (g/256^i %256) u=l.getD i 0 -g/256^i %256 -u:=if_neg hd;have hU:dfU (l.getD i 0) (g/256^i %256) u=0:=if_neg hd;have ew:AV.I Y (((l.getD i 0:Nat):Int) -((g/256^i %256:Nat):Int) -(u:Int))=iI (Xr (l.getD i 0) (g/256^i %256) u):=by
    rw[hD];unfold iI
    grind
   rw[hU]at P;have sd:=st (Xr (l.getD i 0) (g/256^i %256) u);rw[<-ew]at sd;have dD:=CT (Xr (l.getD i 0) (g/256^i %256) u);rw[<-ew]at dD;clear st x r hs hm e1 e2 e3 hD hU ew I;have I:=Jx;generalize eI (l.set i (Xr (l.getD i 0) (g/256^i %256) u))=E1,((l.getD i 0:Nat):Int) -((g/256^i %256:Nat):Int) -(u:Int)=w,((l.getD i 0:Nat):Int) -((g/256^i %256:Nat):Int)=w0,iI (l.getD i 0)=a,iI (g/256^i %256)=b,eI l=E0,eI l'=E2,rJ qD=c,(u:Int)=ui at*;have y:∀t,aY t (.sl .X 1 c)=(.sl .X 1 c,t):=λ_=>rfl;have o:∀T,bH T (.sl .X 1 c)=J (.sl .X 1 c):=λ_=>rfl;have s:∀T,bK T (.sl .X 1 c)=T:=λ_=>rfl;have A:∀T T',bk T T' (.sl .X 1 c)=T':=λ_ _=>rfl;rw[aj,aN eN];simp-implicitDefEqProofs [-K,du,Ec,v,ix,ld,I,y,o,s,A,de,ct,nq,fa,sb,h,j,dB,p,sd,eJ];rw[ab eN];try simp at P
   simp-implicitDefEqProofs [-K,hw,P]
def ais{l:List Nat}(i:Nat)(h:i<l.length):sub (eI l) i 1=[iI (l.getD i 0)]:=by
 unfold sub;apply A0;intro j;rw[Wc,YW,aip,Bv]
 grind
def abZ{T:Z}{i k:Nat}{l:List Nat}{bt:bV}{q:Bool}(h:T[i]? =J (.M (eI l) bt q))(b:l.length=k):bZ T (.jV i 0 k 1)=J (1,rJ l):=by
 simp only[bZ,h];rw[if_pos ⟨by simp[b],by omega⟩];congr 2;apply A0;intro j;unfold rJ;rw[yT,yT];by_cases a:j<k
 ·rw[List.getElem?_range a,Ej V]
  simp only[S7];rw[LF,Av,ais j V,Bv,Ej V];rfl
 simp_all
def aow(T:Z)(nb d:Nat):∀l:List Nat,(rJ l).mapM (λx:F=>x.mapM (GU T nb (d+1)))=J (rJ l)
 |[]=>rfl
 |a::r=>by have h:=aow T nb d r;have e:GU T nb (d+1) (iI a)=J (iI a):=rfl;unfold rJ at*;simp[ND,EA,h,e]
def aru{T:Z}{nb i k:Nat}{l:List Nat}{bt:bV}{q:Bool}(h:T[i]? =J (.M (eI l) bt q))(a:l.length=k)(e:nb<=i):Qe T nb (.jV i 0 k 1)=J (.sl .N 1 (rJ l)):=by
 have c:=abZ h a;have d:=aow T nb 10 l;have b:Qe T nb (.jV i 0 k 1)=GU T nb (11+1) (.jV i 0 k 1):=rfl
 grind [GU,br]
def aFw(S:Z)(l:List Nat)(n:Nat)(h:l.length=n):bH (S++[.M (eI l) [] O]) (.jV S.length 0 n 1)=J (.sl (.je S.length) 1 (rJ l)):=by
 have:=abZ (T:=S++[.M (eI l) [] O]) (kK S _) h;show Option.map _ (bZ _ _)=_
 grind
def aFx(S:Z)(E:F)(n:Nat):bK (S++[.M E [] O]) (.jV S.length 0 n 1)=S++[.M E [] G]:=by simp[bK,oe]
def aFy(S:Z)(E:F)(n:Nat):bk (S++[.M E [] O]) (S++[.M E [] G]) (.jV S.length 0 n 1)=S++[.M E [] O]:=by simp[bk,oe]
def adX(n f:Nat)(hn:n<1000)(j:f<1000)(c:Nat)(v:c=vB 256 qD*256^f)(S:Z):∀(B:Nat)(l:List Nat),vB 256 l<B->Dg 256 l->l.length=n->
 ∃l',Dg 256 l'/\l'.length=n/\vB 256 l'=vB 256 l %c/\
  DC ax X (.L vZ) ⟨[(3,.jV S.length 0 n 1),(4,.I Y (f:Int))],[],S.length⟩ (S++[.M (eI l) [] O])=
   J (.E 2,⟨[(3,.jV S.length 0 n 1),(4,.I Y (f:Int))],[],S.length⟩,S++[.M (eI l') [] O]):=by
 have hq:0<vB 256 qD:=by trivial
 have hY0:0<c:=by simp_all[EI]
 intro B;induction B with
 |zero=>omega
 |succ B ih=>
  intro l hB q e;have s:=Jx;have fl:=λS=>H7 (.je S.length) .N (.inr ⟨_,rfl⟩) (.inl rfl) l qD q abX V fU f j S;have d:∀i T,W ax X 126 [.sl (.je i) 1 (rJ l),.sl .N 1 (rJ qD),.I Y (f:Int)] T=J (.B (b_ (vB 256 l<vB 256 qD*256^f)),T):=λi T=>H7 (.je i) .N (.inr ⟨_,rfl⟩) (.inl rfl) l qD q abX V fU f j T;rw[<-v]at d;clear fl;have u:=aFw S l n e;have x:=aFx S (eI l) n;have P:=aFy S (eI l) n;have y:=UA;by_cases h:vB 256 l<c
  ·refine⟨l,q,e,(iX h).symm, ?_⟩
   rw[decide_eq_true h]at d;generalize rJ l=a,eI l=E0,rJ qD=b at*;have m:∀t,aY t (.sl .X 1 b)=(.sl .X 1 b,t):=λ_=>rfl;have g:∀T,bH T (.sl .X 1 b)=J (.sl .X 1 b):=λ_=>rfl;have k:∀T,bK T (.sl .X 1 b)=T:=λ_=>rfl;have o:∀T p,bk T p (.sl .X 1 b)=p:=λ_ _=>rfl;rw[aj,aN kD];simp-implicitDefEqProofs [-K,s,m,g,k,o,u,x,P,de,ct,si,y,d,bU]
  ·have r:c<=vB 256 l:=V
   have⟨w,u1,z,A,r3,E,I⟩:=adW n f hn j (vB 256 l) c v S n 0 l 0 V q e V V;have v0:=Jr q;have v1:=Jr z;rw[e]at v0;rw[A]at v1;rw[iX (show c<256^n by omega)]at E;have hu:u1=0:=by grind
   rw[hu,NX,Ov]at E;have⟨l',t1,t2,t3,t4⟩:=ih w V z A;refine⟨l',t1,t2, ?_, ?_⟩
   ·rw[t3,Nat.mod_eq_sub_mod r]
    congr 1;omega
   rw[decide_eq_false h]at d;generalize rJ l=a,eI l=E0,eI w=E1,eI l'=E2,rJ qD=b at*;have m:∀t,aY t (.sl .X 1 b)=(.sl .X 1 b,t):=λ_=>rfl;have g:∀T,bH T (.sl .X 1 b)=J (.sl .X 1 b):=λ_=>rfl;have k:∀T,bK T (.sl .X 1 b)=T:=λ_=>rfl;have o:∀T p,bk T p (.sl .X 1 b)=p:=λ_ _=>rfl;rw[aj,aN kD];simp-implicitDefEqProofs [-K,s,m,g,k,o,u,x,P,de,ct,si,y,d,bU];rw[ab eN];try simp at I
   simp-implicitDefEqProofs [-K,I];omega
def adY(n:Nat)(y:n<999)(c:Nat)(S:Z):∀(k:Nat)(l:List Nat),k<=n+1->Dg 256 l->l.length=n->vB 256 l=c %(vB 256 qD*256^k)->
 ∃l',Dg 256 l'/\l'.length=n/\vB 256 l'=c %vB 256 qD/\
  DC ax X (.L v8) ⟨[(3,.jV S.length 0 n 1),(4,.I Y ((k:Int) -1))],[],S.length⟩ (S++[.M (eI l) [] O])=
   J (.E 0,⟨[(3,.jV S.length 0 n 1)],[],S.length⟩,S++[.M (eI l') [] O]):=by
 have i:∀a b,K .geq (.I Y a) (.I Y b)=J (.B (b_ (a≥b))):=λ_ _=>rfl;intro k;induction k with
 |zero=>
  intro l j f d e;rw[Ot,Av]at e;refine⟨l,f,d,e, ?_⟩;simp_all[aj,kE]
 |succ k m=>
  intro l j f d e;rw[(V:((k+1:Nat):Int) -1=(k:Int))];have z:dt Y ((k:Int) -1)=(k:Int) -1:=cG V;have⟨g,r,s,t,u⟩:=adX n k V V _ rfl S (vB 256 l+1) l V f d;have h:vB 256 g=c %(vB 256 qD*256^k):=by rw[t,e];exact Ze _ ⟨256,by grind⟩
  have⟨l',o,p,q,A⟩:=m g V r s h;refine⟨l',o,p,q, ?_⟩;generalize eI l=v,eI g=w,eI l'=x at*;rw[aj,aN kE];simp-implicitDefEqProofs [-K,i,(V:(k:Int)≥0)];rw[ab kD];simp-implicitDefEqProofs [-K,u,oY];rw[ab kE];simp_all
def ait(l:List Nat):(rJ l).flatten=eI l:=by
 induction l with
 |nil=>rfl
 |cons a r b=>show _::(rJ r).flatten=_;rw[b];rfl
def aag(r:h_)(a:List Nat)(g:Dg 256 a)(d:a≠[])(m:a.length<999)(S:Z):∃l',Dg 256 l'/\l'.length=a.length/\vB 256 l'=vB 256 a %qN/\
 W ax X 203 [.sl r 1 (rJ a)] S=J (.sl .N 1 (rJ l'),S):=by
 have b:vB 256 a<vB 256 qD*256^(a.length+1):=by refine ur (Jr g) (uu (Au V (Nat.le_succ _)) ?_);exact Nat.le_mul_of_pos_left _ (by trivial)
 have⟨l',n,i,j,k⟩:=adY a.length m (vB 256 a) S (a.length+1) a (gL _) g rfl (iX b).symm;rw[azX]at j;refine⟨l',n,i,j, ?_⟩;rw[(V:((a.length+1:Nat):Int) -1=(a.length:Int))]at k;have c:¬a.length=0:=λh=>d (List.length_eq_zero_iff.1 h);have l:Bw 1 S (.sl .X 1 []) (.sl r 1 (rJ a))=J (.jV S.length 0 a.length 1,S++[.M (eI a) [] O]):=by simp only[Bw,bZ,SQ];rw[if_neg (by simp[c]),if_neg (by simp;omega),ait];simp
 have f:ff 1 (fK 0 [AV.I Y 0]) []=J []:=rfl;have e:fV (.jV S.length 0 a.length 1)=J (.I Y (a.length:Int)):=rfl;have o:dr 203 [] [.jV S.length 0 a.length 1] S (S++[.M (eI l') [] O])=J (.sl .N 1 (rJ l'),S):=by
  have s:=aru (T:=S++[.M (eI l') [] O]) (nb:=S.length) (kK S _) i (gL _)
  grind [K7,uw,cI,cd,bq,aF,br,Te,ae9,kJ,zx,lt]
 rw[jr ax3];generalize rJ a=A,eI a=p,eI l'=q at*;try simp at f
 simp-implicitDefEqProofs [-K,f,l,e];rw[ab kE];simp-implicitDefEqProofs [-K,k,o]
def Xs(r:h_)(d:CU r)(l:List Nat)(k:Dg 256 l)(S:Z)(b0:cZ):∀n i:Nat,i+n=32->DC ax X (.L u7) ⟨[(0,.sl r 1 (rJ l)),(2,.P S.length 0),(3,.P (S.length+1) 0),(4,.I Y (i:Int))],[],S.length⟩ (S++[b0,.M (R (zb i (vB 256 l))) [] O])=
 J (.E 0,⟨[(2,.P S.length 0),(3,.P (S.length+1) 0)],[],S.length⟩,S++[b0,.M (R (jw 32 (vB 256 l))) [] O]):=by
 intro n;induction n with
 |zero=>
  simp_all[aj,jO,K6]
 |succ n m=>
  intro i t;have b:i<32:=V;have g:=m (i+1) V;have f:=λT=>Pg r l (i:Int) T;rw[abY k]at f;have h:nS L (iI (vB 256 l/256^i %256))=J (bn (cq (vB 256 l/256^i))):=by
   have:vB 256 l/256^i %256<256:=jf _ V;show J (AV.I L (dt L ((vB 256 l/256^i %256:Nat):Int)))=_;have e:dt L ((vB 256 l/256^i %256:Nat):Int)=((vB 256 l/256^i %256:Nat):Int):=by show((vB 256 l/256^i %256:Nat):Int)%256=_;omega
   rw[e,bn,rU]
  have o:bd [] S.length (S++[b0,.M (R (zb i (vB 256 l))) [] O]) 1 (.P (S.length+1) i) (bn (cq (vB 256 l/256^i)))=J ([],S++[b0,.M (R (zb (i+1) (vB 256 l))) [] O]):=by rw[st8 (cl S _ 1) (by rw[Pc _ _ V];exact b),Pd _ _ b];simp
  have j:=CT (vB 256 l/256^i %256);generalize R (zb i (vB 256 l))=p,R (zb (i+1) (vB 256 l))=q,R (jw 32 (vB 256 l))=s,bn (cq (vB 256 l/256^i))=c,iI (vB 256 l/256^i %256)=w,rJ l=a at*;rw[aj,aN jO];simp-implicitDefEqProofs [-K, -nS, -jF,du,eJ,(V:(i:Int)<32),d.ga,d.lk,d.ul,d.no,de,ct,f,j,h,GY (i:=S.length+1) b Y,o];rw[ab jO];try simp at g
  simp-implicitDefEqProofs [-K,(aQ V:dt Y ((i:Int)+1)=((i+1:Nat):Int)),g]
def Xt(r:h_)(e:CU r)(l:List Nat)(d:Dg 256 l)(S:Z):W ax X 202 [.sl r 1 (rJ l)] S=J (.A (R (jw 32 (vB 256 l))),S):=by have z:R (fK 32 0)=aP:=rfl;have h:=Xs r e l d S (.M (R (fK 32 0)) [] O) 32 0 rfl;rw[(by rfl:zb 0 (vB 256 l)=List.replicate 32 0),z]at h;have c:(R (jw 32 (vB 256 l))).length=32:=bW;have g:=bG c (aL _);have f:df (R (jw 32 (vB 256 l))):=aL _;generalize R (jw 32 (vB 256 l))=b,rJ l=a at*;simp[jr ax2, -AV.cells, -aU];rw[ab jO];simp_all
def UB(b:B)(u:b.length=64)(S:Z):W ax X 129 [.A (R b)] S=J (.A (R (jw 32 (dN b %qN))),S):=by
 have r:(R b).length=64:=by simp[u]
 have p:df (R b):=aL _;have z:∀d,bH (S++.M (R b) [] O::d) (.cH S.length 0 64 64 1)=J (.sl (.je S.length) 1 (cJ b)):=λd=>Jw (l:=.M (R b) [] O::d) (k:=0) rfl u;have I:∀d,bK (S++.M (R b) [] O::d) (.cH S.length 0 64 64 1)=S++.M (R b) [] G::d:=λd=>HE (l:=.M (R b) [] O::d) (k:=0) rfl;have ul:∀d j,bk (S++.M (R b) [] O::d) (S++.M (R b) [] G::j) (.cH S.length 0 64 64 1)=S++.M (R b) [] O::j:=λd j=>HF (l:=.M (R b) [] O::d) (l':=.M (R b) [] G::j) (k:=0) rfl rfl;have c1:(AV.A (R b)).cells=R b:=rfl;have A:aP.length=32:=rfl;have⟨q,q1,x⟩:=Jy (.je S.length) b V (S++[.M (R b) [] G,.M aP [] O]);have⟨o,t,v,m⟩:=q1.take [];have o3:=fE.I6 m;have w:=fE.ej m;have o5:=fE.lock m;have o6:=fE.yf m;rw[aac]at w;have n:dgB b≠[]:=by grind [al2]
 have⟨l',r1,r2,r3,y⟩:=aag .N (dgB b) (aiq b) n (by simp;omega) (S++[.M (R b) [] O,.M aP [] O]);have g:=λT=>Xt .N (.inl rfl) l' r1 T;rw[r3,air]at g;have P:ej (.sl .N 1 (rJ l'))=.sl .N 1 (rJ l'):=CU.no (.inl rfl) _;have h:df (R (jw 32 (dN b %qN))):=aL _;have i:(R (jw 32 (dN b %qN))).length=32:=bW;have s:=bG i h;generalize R (jw 32 (dN b %qN))=f,rJ l'=e,rJ (dgB b)=c,R b=E,cJ b=a at*;have c2:(AV.A f).cells=f:=rfl;rw[jr azE];try simp at v
 try simp at x
 try simp at y
 simp-implicitDefEqProofs [r,p,qH,z,I,ul,de,ct,si,Z8,Z9,Z_,aaa,x,v,o3,w,o5,o6,y,P,g,h,i,s,A, -AV.cells, -aU]
def Xu(b:B)(u:b.length=32)(S:Z):W ax X 54 [.A (R b)] S=J (.B (b_ (dN b<qN)),S):=by
 have j:(R b).length=32:=by simp[u]
 have i:df (R b):=aL _;have A:∀d,bH (S++.M (R b) [] O::d) (.cH S.length 0 32 32 1)=J (.sl (.je S.length) 1 (cJ b)):=λd=>Jw (l:=.M (R b) [] O::d) (k:=0) rfl u;have I:∀d,bK (S++.M (R b) [] O::d) (.cH S.length 0 32 32 1)=S++.M (R b) [] G::d:=λd=>HE (l:=.M (R b) [] O::d) (k:=0) rfl;have ul:∀d f,bk (S++.M (R b) [] O::d) (S++.M (R b) [] G::f) (.cH S.length 0 32 32 1)=S++.M (R b) [] O::f:=λd f=>HF (l:=.M (R b) [] O::d) (l':=.M (R b) [] G::f) (k:=0) rfl rfl;have c1:(AV.A (R b)).cells=R b:=rfl;have⟨q,q1,x⟩:=Jy (.je S.length) b V (S++[.M (R b) [] G]);have⟨o,t,v,g⟩:=q1.take [];have o3:=fE.I6 g;have w:=fE.ej g;have o5:=fE.lock g;have o6:=fE.yf g;rw[aac]at w;have z:=Jx;have P:=UA;have s:=λT=>H7 .N .N (.inl rfl) (.inl rfl) (dgB b) qD (aiq b) abX (by simp;omega) fU 0 V T;rw[azX,air,Ot,Av,show((0:Nat):Int)=0 from rfl]at s;generalize b_ (dN b<qN)=y,rJ (dgB b)=c,R b=E,cJ b=a,rJ qD=e at*;have n:∀t,aY t (.sl .X 1 e)=(.sl .X 1 e,t):=λ_=>rfl;have h:∀T,bH T (.sl .X 1 e)=J (.sl .X 1 e):=λ_=>rfl;have m:∀T,bK T (.sl .X 1 e)=T:=λ_=>rfl;have p:∀T r,bk T r (.sl .X 1 e)=r:=λ_ _=>rfl;rw[jr aEU];try simp at v
 try simp at x
 simp-implicitDefEqProofs [j,i,qH,A,I,ul,de,ct,si,x,v,o3,w,o5,o6,z,P,n,h,m,p,s, -AV.cells, -aU]
def aoH(t:bV)(x y:B):aY t (.cQ [.A (R x),.A (R y)])=(.cQ [.A (R x),.A (R y)],t):=by rfl
def Hy(s:B)(q:s.length=32)(S:Z):W ax X 12 [.A (R s)] S=J (.A (R (sE (iK s))),S):=by
 have w:=λS=>JU s q S;have x:=λt=>aoH t (iK s) (oT s);have r:=TL;have u:=λS=>Ax Pt.base (iK s) (GQ s) S;have p:=λS=>OC (Pt.base.Im (iK s) 64 Pt.none) S;rw[RZ (GQ s)]at p;have h:(R s).length=32:=by simp[q]
 have e:df (R s):=aL _;have i:(R (iK s)).length=32:=by simp[GQ]
 have f:df (R (iK s)):=aL _;have m:=bG i f;have l:(R (oT s)).length=32:=by simp[SM]
 have k:df (R (oT s)):=aL _;have j:(R (sE (iK s))).length=32:=by simp[GC]
 have g:df (R (sE (iK s))):=aL _;have v:aP.length=32:=rfl;generalize R (sE (iK s))=b,Pt.base.Im (iK s) 64 Pt.none=c,Pt.base=a,R (iK s)=n,R (oT s)=o,R s=E at*;have y:(AV.A E).cells=E:=rfl;have z:(AV.A n).cells=n:=rfl;have A:(AV.A o).cells=o:=rfl;have I:(AV.A b).cells=b:=rfl;rw[jr aEy];generalize P:aP=d at*;simp-implicitDefEqProofs [w,x,bB,r,u,p,h,e,bG h e,i,f,m,l,k,j,g,bG j g,v, -K, -AV.cells, -aU]
def kM(m:B):B:=jw 32 (dN (dV m)%qN)
def GR(m:B):(kM m).length=32:=tg _ _
def ajK(l:List (Q × B)):AV.sl .N 1 (l.map λp=>[p.1])=pk l:=rfl
def Gm(m n:h_)(u:CU m)(v:CU n)(a b:B)(l:List (Q × B))(S:Z)(hv:∀p∈l,HI S p)(hl:l.length<900)(t:a.length+b.length+(cj l).length<=1000000):
 W ax X 35 [.sl m 1 (cJ a),.sl n 1 (cJ b),pk l] S=J (.A (R (kM (a++(b++cj l)))),S):=by
 have o:∀r,CU r->∀x,aW (.sl r 1 (cJ x))=.sl r 1 (cJ x):=λr h x=>by rcases h with rfl|⟨i,rfl⟩<;>rfl
 have bo:ff 1 (fK 2 [AV.aw]) [(0,.sl m 1 (cJ a)),(1,.sl n 1 (cJ b))]=J [[.sl m 1 (cJ a)],[.sl n 1 (cJ b)]]:=by rcases u with rfl|⟨i,rfl⟩<;>rcases v with rfl|⟨j,rfl⟩<;>rfl
 have z:fE 1 (.sl .X 1 [[.sl m 1 (cJ a)],[.sl n 1 (cJ b)]]) [] [[.sl m 1 (cJ a)],[.sl n 1 (cJ b)]]:=.inr (.inl rfl);have⟨o2,t2,I,w⟩:=fE.QM z (xs:=l.map λp=>[p.1]) (x:=pk l) (S:=S++[.M aP [] O]) (by grind) ⟨1,rfl,λ_=>rfl⟩;have P:=fE.ej w;rw[aac,show[[AV.sl m 1 (cJ a)],[.sl n 1 (cJ b)]]++(l.map λp=>[p.1])=((.sl m 1 (cJ a),a)::(.sl n 1 (cJ b),b)::l).map (λp=>[p.1])from rfl,ajK]at P
 have E:=DQ ((.sl m 1 (cJ a),a)::(.sl n 1 (cJ b),b)::l) (S++[.M aP [] O]) (λp hp=>by
  rcases Oe.1 hp with h|h;·rw[h];exact⟨o m u a,λd=>⟨1,rfl,λ_=>rfl⟩⟩
  ·rcases Oe.1 h with h|h
   ·rw[h];exact⟨o n v b,λd=>⟨1,rfl,λ_=>rfl⟩⟩
   ·exact(hv p h).more _) (by grind) (by simp[cj]at t⊢;omega)
 rw[show cj ((AV.sl m 1 (cJ a),a)::(.sl n 1 (cJ b),b)::l)=a++(b++cj l)from by rfl]at E;have rd:=λT=>Pe (dV (a++(b++cj l))) (Gl _) T;rw[show jw 32 (dN (dV (a++(b++cj l)))%qN)=kM (a++(b++cj l))from rfl]at rd;have y:df (R (dV (a++(b++cj l)))):=aL _;have s:(R (kM (a++(b++cj l)))).length=32:=by rfl
 have q:df (R (kM (a++(b++cj l)))):=aL _;have hz:aP.length=32:=rfl;generalize R (kM (a++(b++cj l)))=g,R (dV (a++(b++cj l)))=e,pk ((AV.sl m 1 (cJ a),a)::(.sl n 1 (cJ b),b)::l)=RE,pk l=f,AV.sl m 1 (cJ a)=A,AV.sl n 1 (cJ b)=c at*;have c4:(AV.A g).cells=g:=rfl;try simp at bo
 rw[LQ aEI];generalize hZ:aP=k at*;try simp at E
 try simp at I
 simp-implicitDefEqProofs [bo,I,fE.I6 w,P,fE.lock w,fE.yf w,de,ct,E,rd,y,s,q,bG s q,hz, -K, -AV.cells, -aU]
def aaB:[AV.I L 0,.I L 0,.I L 0,.I L 0,.I L 0,.I L 0,.I L 0,.I L 0,.I L 0,.I L 0,.I L 0,.I L 0,.I L 0,.I L 0,.I L 0,.I L 0,.I L 0,.I L 0,.I L 0,.I L 0,.I L 0,.I L 0,.I L 0,.I L 0,.I L 0,.I L 0,.I L 0,.I L 0,.I L 0,.I L 0,.I L 0,.I L 0]=aP:=rfl
def ZG(gh gW m:B):Bool:=(pK gh).2&&(b_ (dN (gW.drop 32)<qN)&&b_ ((HY gh (kM (gW.take 32++(gh++m))) (gW.drop 32)).bytes=gW.take 32))
def XZ(a k s:B):(HY a k s).bytes.length=32:=by unfold P3.bytes;split<;>simp
def X0(l:List (Q × B)):ej (pk l)=pk l:=CU.no (.inl rfl) _
def X1(T:Z)(l:List (Q × B)):bH T (pk l)=J (pk l):=rfl
def X2(T:Z)(l:List (Q × B)):bK T (pk l)=T:=rfl
def X3(T a:Z)(l:List (Q × B)):bk T a (pk l)=a:=rfl
def asb(t:bV)(q:Pt)(b:Bool):aY t (.cQ [q.ao,.B b])=(.cQ [q.ao,.B b],t):=by rfl
def Qy(m j:B)(hk:m.length=32)(hs:j.length=64)(l:List (Q × B))(S:Z)(hv:∀p∈l,HI S p)(hl:l.length<900)(hlen:(cj l).length<=900000):
 W ax X 17 [.A (R m),.A (R j),pk l] S=J (.B (ZG m j (cj l)),S):=by
 have hf:=λT=>AT j hs O T;have ht:=λT=>AT j hs G T;rw[if_neg bW]at hf;rw[if_pos rfl]at ht;have⟨q,dq,hq⟩:=adM m hk;have tq:=λt=>asb t q (pK m).2;have lf:(j.take 32).length=32:=by simp[hs]
 have ls:(j.drop 32).length=32:=by simp[hs]
 have fb:=λT=>QK (j.drop 32) ls T;have y:(R m).length=32:=by simp[hk]
 have u:df (R m):=aL _;have ZH:=bG y u;have z:(R j).length=64:=by simp[hs]
 have v:df (R j):=aL _;have pk2:=bG z v;have E:(R (j.take 32)).length=32:=by simp[hs]
 have w:df (R (j.take 32)):=aL _;have pk3:=bG E w;have I:(R (j.drop 32)).length=32:=by simp[hs]
 have x:df (R (j.drop 32)):=aL _;have aAw:=bG I x;have hz:aP.length=32:=rfl;have hz2:eQ.length=20:=rfl;have P:∀g h i f,bd [] S.length (S++[g,h,i,f,.M eQ [] O]) 20 (.P (S.length+4) 0) q.ao=J ([],S++[g,h,i,f,.M q.cs [] O]):=λg h i f=>by rw[stO (cl S _ 4) hz2];simp
 have ldq:∀g h i f e,aX (S++[g,h,i,f,.M q.cs [] O,e]) (.A 20) (.P (S.length+4) 0)=J q.ao:=λg h i f e=>ldO (cl S _ 4);simp only[eQ]at P;unfold ZG;rw[LQ aEA];simp only[aaB];cases hok:(pK m).2 with
 |false=>
  rw[hok]at dq tq;generalize R (j.take 32)=EF,R (j.drop 32)=EG,R m=EK,R j=ES,pk l=d at*;have c1:(AV.A EK).cells=EK:=rfl;have c2:(AV.A ES).cells=ES:=rfl;have c3:(AV.A EF).cells=EF:=rfl;have c4:(AV.A EG).cells=EG:=rfl;generalize aP=i at*;simp-implicitDefEqProofs [y,u,ZH,z,v,pk2,E,w,I,x,hz,hf,ht,dq,tq,bB,P,bU, -K, -AV.cells, -aU]
 |true=>
  rw[hok]at dq tq;by_cases hb:dN (j.drop 32)<qN
  ·rw[decide_eq_true hb]at fb⊢
   have lm:(j.take 32++(m++cj l)).length=32+32+(cj l).length:=by grind
   have gaF:∀g h A a b,bH (S++[g,h,.M (R (j.take 32)) [] O,A,a,b]) (.cH (S.length+2) 0 32 32 1)=J (.sl (.je (S.length+2)) 1 (cJ (j.take 32))):=λg h A a b=>Jw (l:=[g,h,.M (R (j.take 32)) [] O,A,a,b]) (k:=2) rfl lf;have gaK:∀h A a b c,bH (S++[.M (R m) [] O,h,A,a,b,c]) (.cH S.length 0 32 32 1)=J (.sl (.je S.length) 1 (cJ m)):=λh A a b c=>Jw (l:=[.M (R m) [] O,h,A,a,b,c]) (k:=0) rfl hk;have lkF:∀g h A a b,bK (S++[g,h,.M (R (j.take 32)) [] O,A,a,b]) (.cH (S.length+2) 0 32 32 1)=S++[g,h,.M (R (j.take 32)) [] G,A,a,b]:=λg h A a b=>HE (l:=[g,h,.M (R (j.take 32)) [] O,A,a,b]) (k:=2) rfl;have lkK:∀h A a b c,bK (S++[.M (R m) [] O,h,A,a,b,c]) (.cH S.length 0 32 32 1)=S++[.M (R m) [] G,h,A,a,b,c]:=λh A a b c=>HE (l:=[.M (R m) [] O,h,A,a,b,c]) (k:=0) rfl;have ulF:∀g h A a b X' s n o r,bk (S++[g,h,.M (R (j.take 32)) [] O,A,a,b]) (S++[X',s,.M (R (j.take 32)) [] G,n,o,r]) (.cH (S.length+2) 0 32 32 1)=S++[X',s,.M (R (j.take 32)) [] O,n,o,r]:=λg h A a b X' s n o r=>HF (l:=[g,h,.M (R (j.take 32)) [] O,A,a,b]) (l':=[X',s,.M (R (j.take 32)) [] G,n,o,r]) (k:=2) rfl rfl;have ulK:∀h A a b c s n o r D',bk (S++[.M (R m) [] O,h,A,a,b,c]) (S++[.M (R m) [] G,s,n,o,r,D']) (.cH S.length 0 32 32 1)=S++[.M (R m) [] O,s,n,o,r,D']:=λh A a b c s n o r D'=>HF (l:=[.M (R m) [] O,h,A,a,b,c]) (l':=[.M (R m) [] G,s,n,o,r,D']) (k:=0) rfl rfl;have ha:=Gm (.je (S.length+2)) (.je S.length) (.inr ⟨_,rfl⟩) (.inr ⟨_,rfl⟩) (j.take 32) m l (S++[.M (R m) [] G,.M (R j) [] O,.M (R (j.take 32)) [] G,.M (R (j.drop 32)) [] O,.M q.cs [] O,.M aP [] O]) (λp hp=>(hv p hp).more _) hl V;have hkl:=GR (j.take 32++(m++cj l));have fn:=λT=>ap8 q T;have fB:=λT=>akS (kM (j.take 32++(m++cj l))) (j.drop 32) hkl ls q.neg T;have fy:=λT=>OC ((q.neg.Im (kM (j.take 32++(m++cj l))) 64 Pt.none).add (Pt.base.Im (j.drop 32) 64 Pt.none)) T;rw[Zk hok hq hkl ls]at fy;have eq:=alw (HY m (kM (j.take 32++(m++cj l))) (j.drop 32)).bytes (j.take 32) (XZ _ _ _) lf O;have hl5:(R (kM (j.take 32++(m++cj l)))).length=32:=by rfl
   have hd5:df (R (kM (j.take 32++(m++cj l)))):=aL _;have pk5:=bG hl5 hd5;have hd6:df (R (HY m (kM (j.take 32++(m++cj l))) (j.drop 32)).bytes):=aL _;have rn:=X0 l;have rg:=λT=>X1 T l;have rl:=λT=>X2 T l;have ru:=λT T'=>X3 T T' l;generalize b_ ((HY m (kM (j.take 32++(m++cj l))) (j.drop 32)).bytes=j.take 32)=ans,R (HY m (kM (j.take 32++(m++cj l))) (j.drop 32)).bytes=EV,(q.neg.Im (kM (j.take 32++(m++cj l))) 64 Pt.none).add (Pt.base.Im (j.drop 32) 64 Pt.none)=PB,R (kM (j.take 32++(m++cj l)))=EH,q.neg=qn,cJ (j.take 32)=BF,cJ m=BK,R (j.take 32)=EF,R (j.drop 32)=EG,R m=EK,R j=ES,pk l=d at*;have c1:(AV.A EK).cells=EK:=rfl;have c2:(AV.A ES).cells=ES:=rfl;have c3:(AV.A EF).cells=EF:=rfl;have c4:(AV.A EG).cells=EG:=rfl;have c5:(AV.A EH).cells=EH:=rfl;generalize aP=i at*;try simp at ha
   simp-implicitDefEqProofs [y,u,ZH,z,v,pk2,E,w,pk3,I,x,aAw,hz,hf,ht,dq,tq,bB,P,bU,fb,qH,gaF,gaK,lkF,lkK,ulF,ulK,si,rn,rg,rl,ru,de,ct,ha,hl5,hd5,pk5,ldq,fn,fB,fy,eq,hd6, -K, -AV.cells, -aU]
  ·rw[decide_eq_false hb]at fb⊢
   generalize R (j.take 32)=EF,R (j.drop 32)=EG,R m=EK,R j=ES,pk l=d at*;have c1:(AV.A EK).cells=EK:=rfl;have c2:(AV.A ES).cells=ES:=rfl;have c3:(AV.A EF).cells=EF:=rfl;have c4:(AV.A EG).cells=EG:=rfl;generalize aP=i at*;simp-implicitDefEqProofs [y,u,ZH,z,v,pk2,E,w,I,x,aAw,hz,hf,ht,dq,tq,bB,P,bU,fb, -K, -AV.cells, -aU]
def ow(l:List UInt64):jU:=l.map λx=>[aH x]
def po:F:=[.I Y 64,.sl .N 1 (ow pZ.l),.sl .N 1 (ow iB),.I Y 28,.I Y 34,.I Y 39,.I Y 14,.I Y 18,.I Y 41,.I Y 1,.I Y 8,.I Y 7,.I Y 19,.I Y 61,.I Y 6,.I Y 16,aH 18446744073709551615]
def PW(l:List UInt64):∀c∈ow l,df c:=by intro c a;obtain⟨x,_,rfl⟩:=yE.1 a;simp
def Ln(l:List UInt64):eS (ow l)=G:=kg.2 λx a=>(PW l x a).br
def acy(x:UInt64):x&&&18446744073709551615=x:=by apply UInt64.toBitVec_inj.1;rw[UInt64.toBitVec_and];exact BitVec.and_allOnes
def aFU(x:UInt64):(18446744073709551615:UInt64)^^^x= ~~~x:=by rfl
def wT:df po:=by
 have a:yg (.sl .N 1 (ow pZ.l)):=by have:=kU 1 (PW pZ.l);exact this
 have b:yg (.sl .N 1 (ow iB)):=by have:=kU 1 (PW iB);exact this
 simp_all[po]
def JS:po.length=17:=rfl
def xZ(x:UInt64)(n:Nat)(p:1<=n)(q:n<64)(S:Z):W ax X 280 [.A po,aH x,.I Y (n:Int)] S=J (aH (jc x n),S):=by
 have g:=wT;have i:aX (S++[.M po [] O]) .C (.P S.length 0)=J (.I Y 64):=by rw[j_];rfl
 have d:aX (S++[.M po [] O]) .C (.P S.length 16)=J (aH 18446744073709551615):=by rw[j_];rfl
 have e:=za x n V Y;have f:=Nf x (64 -n) V Y;have l:K .sub (.I Y 64) (.I Y (n:Int))=J (.I Y ((64 -n:Nat):Int)):=by
  show J (AV.I Y (dt Y (64 -(n:Int))))=_;rw[cG V]
  grind
 have k:cf x n|||AA x (64 -n)=jc x n:=UInt64.or_comm _ _;have j:=acy (jc x n);have h:=JS;rw[LQ ay6];generalize r:((64 -n:Nat):Int)=a,s:po=b,jc x n=c,cf x n=m,AA x (64 -n)=o at*;simp[-K,g,h,e,f,l,i,d,k,j]
def Mm(x:UInt64)(a b c:Nat)(e:1<=a)(j:a<64)(f:1<=b)(k:b<64)(s:c<64)(S:Z):W ax X 265 [.A po,aH x,.A [.I Y (a:Int),.I Y (b:Int),.I Y (c:Int)]] S=J (aH (jc x a^^^jc x b^^^cf x c),S):=by
 have l:=wT;have m:=JS;have n:aX (S++[.M po [] O,.M [.I Y (a:Int),.I Y (b:Int),.I Y (c:Int)] [] O]) (.A 17) (.P S.length 0)=J (.A po):=by rw[j_];rfl
 have h:=λS=>xZ x a e j S;have i:=λS=>xZ x b f k S;have g:=za x c V Y;rw[LQ ayR];generalize r:po=d,jc x a=o,jc x b=p,cf x c=q at*;simp[-K,l,m,n,h,i,g]
def SI(x:UInt64)(a b c:Nat)(e:1<=a)(k:a<64)(f:1<=b)(l:b<64)(g:1<=c)(m:c<64)(S:Z):W ax X 266 [.A po,aH x,.A [.I Y (a:Int),.I Y (b:Int),.I Y (c:Int)]] S=J (aH (jc x a^^^jc x b^^^jc x c),S):=by
 have n:=wT;have o:=JS;have p:aX (S++[.M po [] O,.M [.I Y (a:Int),.I Y (b:Int),.I Y (c:Int)] [] O]) (.A 17) (.P S.length 0)=J (.A po):=by rw[j_];rfl
 have h:=λS=>xZ x a e k S;have i:=λS=>xZ x b f l S;have j:=λS=>xZ x c g m S;rw[LQ ayS];generalize t:po=d,jc x a=q,jc x b=r,jc x c=s at*;simp[-K,n,o,p,h,i,j]
@[simp]def aB3(l:List UInt64):(ow l).length=l.length:=by simp[ow]
theorem acv(a:List UInt64)(x:UInt64):ow (a++[x])=ow a++[[aH x]]:=by simp[ow]
def acw{l:List UInt64}{i:Nat}(h:i<l.length):(ow l)[i]? =J [aH (l.getD i 0)]:=by grind [ow]
def Ab{a:Q}{ae:bV}{l:List UInt64}(h:fE 1 a ae (ow l))(i:Nat)(b:i<l.length)(k:IntKind):ob 1 a (.I k (i:Int))=J (.fe .N [aH (l.getD i 0)] 0):=by rw[fE.ix h k i (by simp_all),acw b];rfl
def aB4(T:Z)(x:UInt64):aX T .C (.fe .N [aH x] 0)=J (aH x):=rfl
def PT(S:Z):let T:=S++[cZ.M po [] O]
 aX T .C (.P S.length 0)=J (.I Y 64)/\aX T .C (.P S.length 2)=J (.sl .N 1 (ow iB))/\aX T .C (.P S.length 16)=J (aH 18446744073709551615)/\
 aX T (.A 3) (.P S.length 3)=J (.A [.I Y 28,.I Y 34,.I Y 39])/\aX T (.A 3) (.P S.length 6)=J (.A [.I Y 14,.I Y 18,.I Y 41])/\
 aX T (.A 3) (.P S.length 9)=J (.A [.I Y 1,.I Y 8,.I Y 7])/\aX T (.A 3) (.P S.length 12)=J (.A [.I Y 19,.I Y 61,.I Y 6])/\
 aX T (.A 17) (.P S.length 0)=J (.A po):=by
 refine⟨?_, ?_, ?_, ?_, ?_, ?_, ?_, ?_⟩;·rw[j_];rfl
 ·rw[j_];rfl
 ·rw[j_];rfl
 ·rw[j_];rfl
 ·rw[j_];rfl
 ·rw[j_];rfl
 ·rw[j_];rfl
 ·rw[j_]
  rfl
def aJ(a b:Int):K .add (.I Y a) (.I Y b)=J (.I Y (dt Y (a+b))):=rfl
def lJ(a b:Int):K .lss (.I Y a) (.I Y b)=J (.B (b_ (a<b))):=rfl
def aat(m:B)(i:Nat)(hi:8*i+8<=m.length)(hi2:i<16)(rh h:Q)(ae:bV)(S:Z):∀d j n,j+d=8->n<256^j->
 DC ax X (.L nD) ⟨[(1,rh),(2,cV m),(3,.P S.length 0),(7,h),(8,.I Y (i:Nat)),(9,.I U (n:Nat)),(10,.I Y (j:Nat))],ae,S.length⟩ (S++[.M po [] O])=
  J (.E 2,⟨[(1,rh),(2,cV m),(3,.P S.length 0),(7,h),(8,.I Y (i:Nat)),(9,.I U ((Yh n ((m.take (8*i+8)).drop (8*i+j)):Nat):Int))],ae,S.length⟩,S++[.M po [] O]):=by
 obtain⟨l0, -, -, -, -, -, -, -⟩:=PT S;have q8:K .quo (.I Y 64) (.I Y 8)=J (.I Y 8):=rfl;generalize hT:S++[cZ.M po [] O]=T at*;intro d;induction d with
 |zero=>
  intro j n hj r;have e:j=8:=V;subst e;have h3:(m.take (8*i+8)).drop (8*i+8)=[]:=jX (by grind);simp[aj,aN jC,h3, -K,l0,q8,lJ,Yh]
 |succ d ih=>
  intro j n hj r;have hw:=aQ (i:=j) V;have⟨y,hy,hy'⟩:=aT (l:=m) (i:=8*i+j) V;have s:(m.take (8*i+8))[8*i+j]? =J y:=by grind
  have p4:(256:Nat)^j<=256^7:=Au V V;have t:=ur r p4;have yl:=y.toNat_lt;have g:n*256+y.toNat<256^(j+1):=V;have v:=XO n t;have q:=acx n y t;have m1:K .mul (.I Y (i:Int)) (.I Y 64)=J (.I Y ((64*i:Nat):Int)):=by
   show J (AV.I Y (dt Y ((i:Int)*64)))=_;rw[cG V]
   grind
  have u:K .quo (.I Y ((64*i:Nat):Int)) (.I Y 8)=J (.I Y ((8*i:Nat):Int)):=by show(if(8:Int)=0 then M else J (AV.I Y (dt Y (((64*i:Nat):Int).tdiv 8))))=_;rw[tO,Ws V,cG V];congr 2;omega
  have p:dt Y (((8*i:Nat):Int)+(j:Int))=((8*i+j:Nat):Int):=by rw[cG V];omega
  have k:=zU m Y (8*i+j);rw[hy]at k;have o:=ih (j+1) (n*256+y.toNat) V g;rw[aj,aN jC,bf s,Yh];rw[show 8*i+(j+1)=8*i+j+1 from rfl]at o;obtain⟨A,w⟩:∃A:Int,A=((n*256+y.toNat:Nat):Int):=⟨_,rfl⟩;obtain⟨a,x⟩:∃a:Int,a=((n*256:Nat):Int):=⟨_,rfl⟩;obtain⟨b,z⟩:∃b:Int,b=((64*i:Nat):Int):=⟨_,rfl⟩;obtain⟨c,I⟩:∃c:Int,c=((8*i:Nat):Int):=⟨_,rfl⟩;obtain⟨E,P⟩:∃E:Int,E=((8*i+j:Nat):Int):=⟨_,rfl⟩;rw[<-w]at o q;rw[<-x]at v q;rw[<-z]at m1 u;rw[<-I]at u p;rw[<-P]at p k;generalize Yh (n*256+y.toNat) (List.drop (8*i+j+1) (List.take (8*i+8) m))=f at*;clear w x z I P g r p4 t;simp at o hw;simp at k;simp[(V:(j:Int)<8), -K, -nS, -zU,l0,q8,lJ,aJ,v,q,Z7 y,m1,u,p,k,bn];rw[ab jC];simp[hw,o, -K]
def amW(a w2 b c:UInt64):(jc w2 19^^^jc w2 61^^^cf w2 6)+c+(jc a 1^^^jc a 8^^^cf a 7)+b=
 b+(jc a 1^^^jc a 8^^^cf a 7)+c+(jc w2 19^^^jc w2 61^^^cf w2 6):=by
 ac_rfl
def aej(m:B)(hm:128<=m.length)(rh:Q)(S:Z):∀d i(f:Q)(ae:bV),i+d=80->fE 1 f ae (ow (oc m i))->
 ∃c aV,fE 1 c aV (ow (oc m 80))/\DC ax X (.L nE) ⟨[(1,rh),(2,cV m),(3,.P S.length 0),(7,f),(8,.I Y (i:Nat))],ae,S.length⟩ (S++[.M po [] O])=
  J (.E 0,⟨[(1,rh),(3,.P S.length 0),(7,c)],aV,S.length⟩,S++[.M po [] O]):=by
 have⟨l0,l2,l16,l3,l6,l9,l12,lA⟩:=PT S;have lk:fV (.sl .N 1 (ow iB))=J (.I Y 80):=rfl;intro d;induction d with
 |zero=>
  intro i f ae hi k;have e:i=80:=V;subst e;refine⟨f,ae,k, ?_⟩;rw[aj,aN ft];generalize S++[cZ.M po [] O]=T,AV.sl .N 1 (ow iB)=KK at*;simp[-K,l2,lk,lJ]
 |succ d ih=>
  intro i f ae hi k;have h3:(i:Int)<80:=V;have z:=aQ (i:=i) V;have bo:∀x,ff 1 [[AV.I U 0]] [(0,aH x)]=J [[aH x]]:=λ_=>rfl;have es:oc m (i+1)=oc m i++[if i<16 then xY m i else QV (oc m i) i]:=rfl
  have ap:∀x:UInt64,x=(if i<16 then xY m i else QV (oc m i) i)->∃l n,eD 1 ae (S++[.M po [] O]) f (.sl .X 1 [[aH x]])=J (l,n,S++[.M po [] O])/\fE 1 l n (ow (oc m (i+1))):=λx hx=>by
   have⟨l,n,o,y⟩:=fE.app k (xs:=[[aH x]]) bW (by simp;omega) .X (S++[.M po [] O])
   grind [acv]
  by_cases I:i<16
  ·have h:(i:Int)<16:=V
   have g:=aat m i V I rh f ae S 8 0 0 V bW;have bl:=U8 ((m.take (8*i+8)).drop (8*i)) 0 0 bW;have ql:((m.take (8*i+8)).drop (8*i)).length=8:=by grind
   rw[ql]at bl;have ew:AV.I U ((Yh 0 ((m.take (8*i+8)).drop (8*i)):Nat):Int)=aH (xY m i):=by
    show _=AV.I U (((xY m i).toNat:Nat):Int)
    grind [xY,UInt64.toNat_ofNat']
   rw[show 8*i+0=8*i from rfl,ew]at g;have⟨l,n,o,y⟩:=ap (xY m i) (by simp_all);have⟨c,aV,n1,t⟩:=ih (i+1) l n V y;refine⟨c,aV,n1, ?_⟩;rw[aj,aN ft];generalize S++[cZ.M po [] O]=T,AV.sl .N 1 (ow iB)=KK,xY m i=b at*;simp at g t z;simp[h3,h, -K,l2,lk,lJ];rw[ab jC];simp[g,bo,o, -K,aJ];rw[ab ft];simp[z,t, -K]
  ·have h:¬(i:Int)<16:=V
   have r:=Ab k (i -15) (by rw[JR];omega) Y;have i2:=Ab k (i -2) (by rw[JR];omega) Y;have s:=Ab k (i -16) (by rw[JR];omega) Y;have i7:=Ab k (i -7) (by rw[JR];omega) Y;have u:K .sub (.I Y (i:Int)) (.I Y 15)=_:=XP i 15 V V;have s2:K .sub (.I Y (i:Int)) (.I Y 2)=_:=XP i 2 V V;have v:K .sub (.I Y (i:Int)) (.I Y 16)=_:=XP i 16 V V;have s7:K .sub (.I Y (i:Int)) (.I Y 7)=_:=XP i 7 V V;have⟨l,n,o,y⟩:=ap (QV (oc m i) i) (by grind);have⟨c,aV,n1,t⟩:=ih (i+1) l n V y;refine⟨c,aV,n1, ?_⟩;have j:=bo (QV (oc m i) i);unfold QV at o j;rw[<-amW]at o j;generalize(oc m i).getD (i -15) 0=w,(oc m i).getD (i -2) 0=x2,(oc m i).getD (i -16) 0=x16,(oc m i).getD (i -7) 0=x7 at*;have c2:∀T,W ax X 265 [.A po,aH x2,.A [.I Y 19,.I Y 61,.I Y 6]] T=_:=λT=>Mm x2 19 61 6 V V V V V T;have E:∀T,W ax X 265 [.A po,aH w,.A [.I Y 1,.I Y 8,.I Y 7]] T=_:=λT=>Mm w 1 8 7 V V V V V T;obtain⟨A15,p⟩:∃A:Int,A=((i -15:Nat):Int):=⟨_,rfl⟩;obtain⟨A2,P⟩:∃A:Int,A=((i -2:Nat):Int):=⟨_,rfl⟩;obtain⟨A16,q⟩:∃A:Int,A=((i -16:Nat):Int):=⟨_,rfl⟩;obtain⟨A7,hA7⟩:∃A:Int,A=((i -7:Nat):Int):=⟨_,rfl⟩;rw[<-p]at u r;rw[<-P]at s2 i2;rw[<-q]at v s;rw[<-hA7]at s7 i7;have kd:=wT;rw[aj,aN ft];generalize hT:S++[cZ.M po [] O]=T at*;generalize AV.sl .N 1 (ow iB)=KK,po=a at*;simp at t z;simp[h3,h, -K,l2,lk,lJ,aJ,lA,l12,l9,l16,u,s2,v,s7,r,i2,s,i7,(λ_=>rfl:∀x:UInt64,aX T .C (.fe .N [aH x] 0)=J (aH x)),kd,c2,E,acy,j,o];rw[ab ft];simp[z,t, -K]
def ajw(l:List UInt64)(i:Nat)(h:i<l.length):ob 1 (.sl .N 1 (ow l)) (.I Y (i:Int))=J (.fe .N [aH (l.getD i 0)] 0):=by unfold ob;simp only[if_true,LW];rw[tO,acw h];rfl
def aFT(a b c d e f g h:UInt64):ff 1 (fK 8 [AV.I U 0]) [(0,aH a),(1,aH b),(2,aH c),(3,aH d),(4,aH e),(5,aH f),(6,aH g),(7,aH h)]=J [[aH a],[aH b],[aH c],[aH d],[aH e],[aH f],[aH g],[aH h]]:=by rfl
def U9(j:List UInt64)(hws:j.length=80)(I m:Q)(v:W8)(S:Z)(ae:bV)(hw:fE 1 m ae (ow j)):∀d i(f:Q),i+d=80->fE 1 f ae (ow (v.rounds iB j i).l)->
 ∃g,(f=.sl .X 1 (ow (v.rounds iB j i).l)\/0<d->g=.sl .X 1 (ow (v.rounds iB j 80).l))/\DC ax X (.L nF) ⟨[(1,I),(3,.P S.length 0),(7,m),(11,f),(12,.I Y (i:Nat))],ae,S.length⟩ (S++[.M po [] O])=
  J (.E 4,⟨[(1,I),(3,.P S.length 0),(11,g)],ae,S.length⟩,S++[.M po [] O]):=by
 have⟨l0,y,t,l3,l6,l9,l12,lA⟩:=PT S;have z:fV (.sl .N 1 (ow iB))=J (.I Y 80):=rfl;intro d;induction d with
 |zero=>
  intro i f hi l;have e:i=80:=V;subst e;refine⟨f,λh=>h.resolve_right V, ?_⟩;rw[aj,aN jD];generalize S++[cZ.M po [] O]=T,AV.sl .N 1 (ow iB)=P at*;simp[-K,y,z,lJ]
 |succ d p=>
  intro i f hi l;have h3:(i:Int)<80:=V;have n:=aQ (i:=i) V;have er:v.rounds iB j (i+1)=(v.rounds iB j i).round (iB.getD i 0) (j.getD i 0):=rfl;have r:=ajw iB i (by rw[show iB.length=80 from rfl];omega);have s:=Ab hw i V Y;have p:=p (i+1);rw[er]at p;generalize v.rounds iB j i=c,iB.getD i 0=k,j.getD i 0=w at*;have v0:ob 1 f (.I Y 0)=J (.fe .N [aH c.a] 0):=Ab l 0 (show 0<8 by omega) Y;have v1:ob 1 f (.I Y 1)=J (.fe .N [aH c.b] 0):=Ab l 1 (show 1<8 by omega) Y;have v2:ob 1 f (.I Y 2)=J (.fe .N [aH c.c] 0):=Ab l 2 (show 2<8 by omega) Y;have v3:ob 1 f (.I Y 3)=J (.fe .N [aH c.d] 0):=Ab l 3 (show 3<8 by omega) Y;have v4:ob 1 f (.I Y 4)=J (.fe .N [aH c.e] 0):=Ab l 4 (show 4<8 by omega) Y;have v5:ob 1 f (.I Y 5)=J (.fe .N [aH c.f] 0):=Ab l 5 (show 5<8 by omega) Y;have v6:ob 1 f (.I Y 6)=J (.fe .N [aH c.g] 0):=Ab l 6 (show 6<8 by omega) Y;have v7:ob 1 f (.I Y 7)=J (.fe .N [aH c.h] 0):=Ab l 7 (show 7<8 by omega) Y;have q:fE 1 (.sl .X 1 (ow (c.round k w).l)) ae (ow (c.round k w).l):=.inr (.inl rfl);have⟨g,A,E⟩:=p _ V q;refine⟨g,λ_=>A (.inl rfl), ?_⟩;clear A;have o:=aFT (c.t k w+c.u) c.a c.b c.c (c.d+c.t k w) c.e c.f c.g;have eR:ow (c.round k w).l=[[aH (c.t k w+c.u)],[aH c.a],[aH c.b],[aH c.c],[aH (c.d+c.t k w)],[aH c.e],[aH c.f],[aH c.g]]:=rfl;rw[<-eR]at o;have c4:∀T,W ax X 266 [.A po,aH c.e,.A [.I Y 14,.I Y 18,.I Y 41]] T=_:=λT=>SI c.e 14 18 41 V V V V V V T;have c0:∀T,W ax X 266 [.A po,aH c.a,.A [.I Y 28,.I Y 34,.I Y 39]] T=_:=λT=>SI c.a 28 34 39 V V V V V V T;unfold W8.t W8.u at o;have kd:=wT;generalize ow (c.round k w).l=a at*;rw[aj,aN jD];generalize hT:S++[cZ.M po [] O]=T at*;have u:∀x:UInt64,aX T .C (.fe .N [aH x] 0)=J (aH x):=λ_=>rfl;generalize AV.sl .N 1 (ow iB)=P,po=b at*;simp at E n;simp at o;simp[h3, -K,y,z,lJ,aJ,lA,l6,l3,t,v0,v1,v2,v3,v4,v5,v6,v7,r,s,u,kd,c4,c0,acy,aFU,o];rw[ab jD];simp[n,E, -K]
def aem(s v:List UInt64)(P:s.length=8)(hv:v.length=8)(S:Z):∀d i(b:Q)(ae:bV),i+d=8->fE 1 b ae (ow ((List.zipWith (·+·) s v).take i))->
 ∃a aV,fE 1 a aV (ow (List.zipWith (·+·) s v))/\DC ax X (.L nG) ⟨[(1,.sl .N 1 (ow s)),(3,.P S.length 0),(11,.sl .X 1 (ow v)),(15,b),(16,.I Y (i:Nat))],ae,S.length⟩ (S++[.M po [] O])=
  J (.E 6,⟨[(15,a)],aV,S.length⟩,S++[.M po [] O]):=by
 have⟨l0,l2,k,l3,l6,l9,t,lA⟩:=PT S;have zl:(List.zipWith (·+·) s v).length=8:=by grind
 intro d;induction d with
 |zero=>
  intro i b ae q f;have e:i=8:=V;subst e;rw[og V]at f;refine⟨b,ae,f, ?_⟩;simp[aj,aN jE]
 |succ d g=>
  intro i b ae q f;have p:(i:Int)<8:=V;have c:=aQ (i:=i) V;have h:=ajw s i V;have j:=Ab (ae:=ae) (.inr (.inl rfl):fE 1 (.sl .X 1 (ow v)) ae (ow v)) i V Y;have r:(List.zipWith (·+·) s v)[i]? =J (s.getD i 0+v.getD i 0):=by grind
  have g:=g (i+1);rw[(by rw[vG,r];rfl:(List.zipWith (·+·) s v).take (i+1)=(List.zipWith (·+·) s v).take i++[s.getD i 0+v.getD i 0]),acv]at g;generalize s.getD i 0=x,v.getD i 0=y at*;have⟨w,z,m,n⟩:=fE.app f (xs:=[[aH (x+y)]]) bW (by simp;omega) .X (S++[.M po [] O]);have⟨a,aV,u,l⟩:=g w z V n;refine⟨a,aV,u, ?_⟩;have o:ff 1 [[AV.I U 0]] [(0,aH (x+y))]=J [[aH (x+y)]]:=rfl;rw[aj,aN jE];generalize I:S++[cZ.M po [] O]=T at*;generalize AV.sl .N 1 (ow s)=A,AV.sl .X 1 (ow v)=E at*;simp at l c;simp[p, -K,lJ,aJ,k,h,j,(λ_=>rfl:∀x:UInt64,aX T .C (.fe .N [aH x] 0)=J (aH x)),acy,o,m];rw[ab jE];simp[c,l, -K]
def XR(v:W8)(m:B)(q:128<=m.length)(S:Z):∃r,Pj 1 r (ow (v.rK iB m).l)/\aF r=G/\W ax X 243 [.A po,.sl .N 1 (ow v.l),cV m] S=J (r,S):=by
 have s:=wT;have u:=JS;have⟨w,b,n,f⟩:=aej m q (.sl .N 1 (ow v.l)) S 80 0 .aw [] V (.inl ⟨rfl,rfl⟩);have g:eD 1 b (S++[.M po [] O]) (.sl .X 1 []) (.sl .N 1 (ow v.l))=J (.sl (.fr b.length) 1 (ow v.l),b++[J 8],S++[.M po [] O]):=rfl;have o:fE 1 (.sl (.fr b.length) 1 (ow v.l)) (b++[J 8]) (ow (v.rounds iB (oc m 80) 0).l):=.inr (.inr ⟨b.length,rfl,by simp;rfl⟩);have⟨v2,h,d⟩:=U9 (oc m 80) bW (.sl .N 1 (ow v.l)) w v S (b++[J 8]) (n.more _) 80 0 _ V o;rw[h (.inr V)]at d;have⟨E,I,c,l⟩:=aem v.l (v.rounds iB (oc m 80) 80).l rfl rfl S 8 0 .aw (b++[J 8]) V (.inl ⟨rfl,rfl⟩);rw[(rfl:List.zipWith (·+·) v.l (v.rounds iB (oc m 80) 80).l=(v.rK iB m).l)]at c;have⟨r,t,i,j,k⟩:=c.res (Ln _);rw[fE.nr c]at i;have A:=fE.nt c;have z:=fE.nr c;refine⟨r,j,k, ?_⟩;have e:ff 1 (fK 0 [AV.I U 0]) []=J []:=rfl;rw[LQ ayt];generalize p:S++[cZ.M po [] O]=T at*;have P:T.take S.length=S:=by grind
 generalize po=a,ow v.l=y,ow (v.rounds iB (oc m 80) 80).l=x at*;simp at f d l e;simp[u,s,p];rw[ab ft];simp[f,e,g];rw[ab jD];simp[d];rw[ab jE];simp_all
def aek(b c:B)(h:128<=b.length){i:Nat}(a:i<16):xY (b++c) i=xY b i:=by grind [xY]
def XQ(b c:B)(h:128<=b.length):∀n,oc (b++c) n=oc b n
 |0=>rfl
 |n+1=>by
  rw[oc,oc,XQ b c h n];by_cases a:n<16;·rw[if_pos a,if_pos a,aek b c h a]
  ·rw[if_neg a,if_neg a]
theorem ajv(v:W8)(a:List UInt64)(b c:B)(h:128<=b.length):v.rK a (b++c)=v.rK a b:=by unfold W8.rK;rw[XQ b c h]
def ael(v:W8)(a:List UInt64)(b:B)(h:128<=b.length):v.rK a (b.take 128)=v.rK a b:=by grind [ajv,List.take_append_drop]
theorem aau(n:Nat):(fR n).length=17+(239 -n %128)%128:=by grind [fR,AS]
def Lo:∀k n,D0 (k+1) n=cq (n/256^k)::D0 k n
 |0,n=>by simp[D0]
 |k+1,n=>by rw[show D0 (k+1+1) n=D0 (k+1) (n/256)++[cq n]from rfl,Lo k (n/256),Hm,sF,show 256*256^k=256^(k+1)by rw[pg,uA]];rfl
def aAr(k:Nat)(h:k<100):dt Y (((k:Nat):Int) -1)=(k:Int) -1:=cG V
def aAs(n:Nat):nS L (.I U (n:Int))=J (.I L (((cq n).toNat:Nat):Int)):=by rfl
def aoE(a k:Nat)(h:k<8):K .shr (.I U (a:Int)) (.I Y ((8*k:Nat):Int))=J (.I U ((a/256^k:Nat):Int)):=by
 show(if((8*k:Nat):Int)<0 then M else J (AV.I U ((a:Int).fdiv (2^(min ((8*k:Nat):Int).toNat 64)))))=_;have e:(256:Nat)^k=2^(8*k):=by rw[uB]
 grind
def aav(b:B)(w:b.length<1000000000)(S:Z):∀d k(e:Q)(ae:bV),k+d=(239 -b.length %128)%128->mQ e ae (b++128::fK k 0)->
 ∃c aV,mQ c aV (b++128::fK ((239 -b.length %128)%128) 0)/\DC ax X (.L xC) ⟨[(1,cV b),(2,.P S.length 0),(5,e),(6,.I Y 128)],ae,S.length⟩ (S++[.M po [] O])=
  J (.E 0,⟨[(1,cV b),(2,.P S.length 0),(5,c),(6,.I Y 128)],aV,S.length⟩,S++[.M po [] O]):=by
 have g:aX (S++[.M po [] O]) .C (.P S.length 15)=J (.I Y 16):=by rw[j_];rfl
 intro d;induction d with
 |zero=>
  intro k e ae q f;have p:k=(239 -b.length %128)%128:=V;have h:=fE.len f;have o:(cJ (b++128::fK k 0)).length=b.length+1+k:=by simp;omega
  rw[o]at h;have i:(((b.length+1+k:Nat):Int)+16).tmod 128=0:=by grind
  have j:dt Y (((b.length+1+k:Nat):Int)+16)=((b.length+1+k:Nat):Int)+16:=cG V;rw[<-p];refine⟨e,ae,f, ?_⟩;rw[aj,aN k8];generalize((b.length+1+k:Nat):Int)=a at*;simp[h,g,j,i]
 |succ d r=>
  intro k e ae q f;have h:=fE.len f;rw[(by simp;omega:(cJ (b++128::List.replicate k 0)).length=b.length+1+k)]at h;have i:¬(((b.length+1+k:Nat):Int)+16).tmod 128=0:=by grind
  have j:dt Y (((b.length+1+k:Nat):Int)+16)=((b.length+1+k:Nat):Int)+16:=cG V;have⟨t,u,l,m⟩:=f.one 0 (by grind) (S++[.M po [] O]);rw[(by grind [List.replicate_succ']:b++128::List.replicate k 0++[0]=b++128::List.replicate (k+1) (0:UInt8))]at m;have⟨c,aV,s,n⟩:=r (k+1) t u V m;refine⟨c,aV,s, ?_⟩;have v:(((0:UInt8).toNat:Nat):Int)=0:=rfl;rw[v]at l;rw[aj,aN k8];generalize((b.length+1+k:Nat):Int)=a,S++[cZ.M po [] O]=T at*;try simp at n
  simp[h,g,j,i,l];rw[ab k8];simp[n]
def aaw(d:Nat)(S:Z):∀k(s:B)(f:Q)(ae:bV),k<=8->s.length+k<1000000000->mQ f ae s->
 ∃e aV,mQ e aV (s++D0 k d)/\DC ax X (.L r8) ⟨[(2,.P S.length 0),(5,f),(6,.I Y 128),(7,.I U (d:Int)),(8,.I Y ((k:Int) -1))],ae,S.length⟩ (S++[.M po [] O])=
  J (.E 2,⟨[(2,.P S.length 0),(5,e),(6,.I Y 128)],aV,S.length⟩,S++[.M po [] O]):=by
 intro k;induction k with
 |zero=>
  intro s f ae m n g;refine⟨f,ae,by rw[D0,EE];exact g, ?_⟩;simp[aj,aN g_]
 |succ k o=>
  intro s f ae m n g;rw[(V:(((k+1:Nat):Int) -1)=(k:Int))];have⟨r,w,h,i⟩:=g.one (cq (d/256^k)) V (S++[.M po [] O]);have⟨e,aV,x,q⟩:=o (s++[cq (d/256^k)]) r w V (by grind) i;refine⟨e,aV,by rw[Lo];simp_all, ?_⟩;have p:K .mul (.I Y 8) (.I Y (k:Int))=J (.I Y ((8*k:Nat):Int)):=by show J (AV.I Y (dt Y (8*(k:Int))))=_;rw[cG V];congr 2
  have v:=aoE d k V;have j:=aAs (d/256^k);have l:∀a b,K .geq (.I Y a) (.I Y b)=J (.B (b_ (a≥b))):=λ_ _=>rfl;have t:K .sub (.I Y (k:Int)) (.I Y 1)=J (.I Y ((k:Int) -1)):=by show J (AV.I Y (dt Y ((k:Int) -1)))=_;rw[aAr k V]
  generalize cq (d/256^k)=u,((8*k:Nat):Int)=A,((d/256^k:Nat):Int)=c at*;rw[aj,aN g_];generalize S++[cZ.M po [] O]=T at*;try simp at q
  simp[(V:(0:Int)<=(k:Int)),(V:¬(8:Int)<=(k:Int)), -K, -nS,l,p,v,j,h,t];rw[ab g_];trivial
def XS(c:Nat)(S:Z):∀j(s:B)(e:Q)(ae:bV),j<=8->s.length+8+j<1000000000->mQ e ae s->
 ∃d aV,mQ d aV (s++(fK j 0++D0 8 c))/\DC ax X (.L r8) ⟨[(2,.P S.length 0),(5,e),(6,.I Y 128),(7,.I U (c:Int)),(8,.I Y ((j:Int)+7))],ae,S.length⟩ (S++[.M po [] O])=
  J (.E 2,⟨[(2,.P S.length 0),(5,d),(6,.I Y 128)],aV,S.length⟩,S++[.M po [] O]):=by
 intro j;induction j with
 |zero=>
  intro s e ae m n f;exact aaw c S 8 s e ae V V f
 |succ j o=>
  intro s e ae m n f;rw[(V:(((j+1:Nat):Int)+7)=(j:Int)+8)];have k:(0:Int)<=(j:Int)+8:=V;have l:(8:Int)<=(j:Int)+8:=V;have⟨q,t,g,h⟩:=f.one 0 V (S++[.M po [] O]);have⟨d,aV,x,p⟩:=o (s++[0]) q t V (by grind) h;refine⟨d,aV,by grind, ?_⟩;have i:∀a b,K .geq (.I Y a) (.I Y b)=J (.B (b_ (a≥b))):=λ_ _=>rfl;have r:K .sub (.I Y ((j:Int)+8)) (.I Y 1)=J (.I Y ((j:Int)+7)):=by
   show J (AV.I Y (dt Y ((j:Int)+8 -1)))=_;rw[cG V]
   grind
  have u:(((0:UInt8).toNat:Nat):Int)=0:=rfl;rw[u]at g;generalize(j:Int)+7=v,(j:Int)+8=w at*;rw[aj,aN g_];generalize S++[cZ.M po [] O]=T at*;try simp at p
  simp[k,l, -K, -nS,i,g,r];rw[ab g_];trivial
def HL(h:Q)(v:W8):Prop:=h=.sl .N 1 (ow v.l)\/∃ae,fE 1 h ae (ow v.l)
def aFV(v:W8):ow v.l≠[]:=by nofun
def HL.I6{h:Q}{v:W8}(a:HL h v)(T:Z):bH T h=J (.sl .N 1 (ow v.l))\/bH T h=J (.sl .X 1 (ow v.l)):=by
 rcases a with rfl|⟨t,a⟩;·exact .inl rfl
 ·rcases a with⟨b,_⟩|rfl|⟨k,rfl,_⟩
  ·trivial
  ·exact .inr rfl
  ·exact .inl rfl
theorem ajx(v:W8):ej (.sl .N 1 (ow v.l))=.sl .N 1 (ow v.l)/\ej (.sl .X 1 (ow v.l))=.sl .N 1 (ow v.l):=⟨rfl,rfl⟩
def HL.lock{h:Q}{v:W8}(a:HL h v)(T:Z):bK T h=T:=by
 rcases a with rfl|⟨t,a⟩;·rfl
 ·exact fE.lock a T
def HL.yf{h:Q}{v:W8}(a:HL h v)(T b:Z):bk T b h=b:=by
 rcases a with rfl|⟨t,a⟩;·rfl
 ·exact fE.yf a T b
def HL.ix{h:Q}{v:W8}(a:HL h v)(i:Nat)(b:i<8):ob 1 h (.I Y (i:Int))=J (.fe .N [aH (v.l.getD i 0)] 0):=by
 rcases a with rfl|⟨t,a⟩;·exact ajw v.l i b
 ·exact Ab a i b Y
def amX(r:h_)(a:B)(h:128<=a.length):∃q,GV 1 (.sl r 1 (cJ a)) M (J (.I Y 128))=J (.sl q 1 (cJ (a.take 128)))/\(q=r\/q=ug r):=by
 have b:(List.take 128 (cJ a)).drop 0=cJ (a.take 128):=by simp[cJ]
 grind [GV,kQ,yV]
def U_(S:Z):∀n(d:B)(r:h_)(h:Q)(v:W8)(ae:bV),d.length=128*n->(r=.N\/r=.X\/∃k,r=.fr k)->HL h v->
 ∃j aV,HL j (PU n v d)/\DC ax X (.L xD) ⟨[(2,.P S.length 0),(5,.sl r 1 (cJ d)),(6,.I Y 128),(9,h)],ae,S.length⟩ (S++[.M po [] O])=
  J (.E 4,⟨[(2,.P S.length 0),(9,j)],aV,S.length⟩,S++[.M po [] O]):=by
 have⟨l0,l2,l16,l3,l6,l9,l12,lA⟩:=PT S;have gJ:∀a b,K .gtr (.I Y a) (.I Y b)=J (.B (b_ (a>b))):=λ_ _=>rfl;intro n;induction n with
 |zero=>
  intro d r h v ae hM x i;have e:=V_ V;subst e;refine⟨h,ae,i, ?_⟩;simp[aj,aN k9,fV,cJ]
 |succ n ih=>
  intro d r h v ae hM x i;have f:128<=d.length:=V;have hp:(0:Int)<(d.length:Int):=V;have s:0<d.length:=V;have⟨q,s1,hq⟩:=amX r d f;have y:=acz r d f;have t:ug r=.N:=by rcases x with rfl|rfl|⟨k,rfl⟩<;>rfl
  have g:q=.N\/q=.X\/∃k,q=.fr k:=by grind
  have⟨o,u,b2,z⟩:=XR v (d.take 128) (by simp_all) (S++[.M po [] O]);rw[ael v iB d f]at u;have⟨o2,t2,A,E⟩:=u.take ae;have⟨j,aV,n1,n2⟩:=ih (d.drop 128) .N o2 (v.rK iB d) (ae++t2) (by grind) (.inl rfl) (.inr ⟨_,E⟩);refine⟨j,aV,n1, ?_⟩;have tn:d.take 128≠[]:=by grind [List.length_nil]
  have gq:∀T,(bH T (.sl q 1 (cJ (d.take 128)))).map ej=J (cV (d.take 128)):=λT=>by
   have w:ej (.sl .N 1 (cJ (d.take 128)))=cV (d.take 128):=by cases hh:d.take 128<;>rfl
   rcases g with rfl|rfl|⟨k,rfl⟩;·exact congrArg J w
   ·exact congrArg J (by cases hh:d.take 128<;>rfl)
   ·exact congrArg J w
  obtain⟨p,g1,g2⟩:∃p,(∀T,bH T (.sl q 1 (cJ (d.take 128)))=J p)/\ej p=cV (d.take 128):=by rcases g with rfl|rfl|⟨k,rfl⟩;all_goals simp_all[bH]
  have lm:∀T,bK T (.sl q 1 (cJ (d.take 128)))=T:=λT=>by rfl
  have um:∀T l,bk T l (.sl q 1 (cJ (d.take 128)))=l:=λT l=>by rfl
  obtain⟨m,I,P⟩:∃m,bH (S++[.M po [] O]) h=J m/\ej m=.sl .N 1 (ow v.l):=by rcases i.I6 (S++[.M po [] O])with e|e;all_goals grind [ajx]
  have lh:=i.lock;have uh:=i.yf;have kd:=wT;rw[t]at y;rw[aj,aN k9];generalize AV.sl q 1 (cJ (d.take 128))=MQ,AV.sl .N 1 (ow v.l)=DV,hT:S++[cZ.M po [] O]=T,po=c at*;try simp at n2
  simp[(by simp[fV]:fV (.sl r 1 (cJ d))=some (.I .i64 (d.length:Int))),s, -K,gJ,lA,s1,y,kd,g1,g2,lm,um,I,P,lh,uh,de,ct,z,A];rw[ab k9];trivial
def gJ(a b:Int):K .geq (.I Y a) (.I Y b)=J (.B (b_ (a≥b))):=rfl
def aax(S:Z)(h:Q)(v:W8)(c:HL h v)(i:Nat)(p:i<8):∀k(s:B)(e:Q)(ae:bV),k<=8->s.length+k<1000->mQ e ae s->
 ∃d aV,mQ d aV (s++D0 k (v.l.getD i 0).toNat)/\DC ax X (.L xE) ⟨[(2,.P S.length 0),(9,h),(10,e),(11,.I Y (i:Nat)),(12,.I Y (8*(k:Int) -8))],ae,S.length⟩ (S++[.M po [] O])=
  J (.E 8,⟨[(2,.P S.length 0),(9,h),(10,d),(11,.I Y (i:Nat))],aV,S.length⟩,S++[.M po [] O]):=by
 have w:=c.ix i p;generalize v.l.getD i 0=x at*;have f:aH x=.I U ((x.toNat:Nat):Int):=rfl;intro k;induction k with
 |zero=>
  intro s e ae q r g;refine⟨e,ae,by rw[D0,EE];exact g, ?_⟩;simp[aj,aN jj]
 |succ k t=>
  intro s e ae q r g;rw[(V:8*((k+1:Nat):Int) -8=((8*k:Nat):Int))];have o:(0:Int)<=((8*k:Nat):Int):=V;have⟨z,I,l,m⟩:=g.one (cq (x.toNat/256^k)) V (S++[.M po [] O]);have⟨d,aV,P,y⟩:=t (s++[cq (x.toNat/256^k)]) z I V (by grind) m;refine⟨d,aV,by rw[Lo];simp_all, ?_⟩;have j:=aoE x.toNat k V;rw[<-f]at j;have n:=aAs (x.toNat/256^k);have E:K .sub (.I Y ((8*k:Nat):Int)) (.I Y 8)=J (.I Y (8*(k:Int) -8)):=by show J (AV.I Y (dt Y (((8*k:Nat):Int) -8)))=_;rw[cG V];congr 2
  generalize cq (x.toNat/256^k)=u,((8*k:Nat):Int)=A,8*(k:Int) -8=b,((x.toNat/256^k:Nat):Int)=a at*;rw[aj,aN jj];generalize S++[cZ.M po [] O]=T at*;unfold aH at*;try simp at y
  simp[o, -K, -nS,gJ,w,(rfl:aX T .C (.fe .N [aH x] 0)=J (aH x)),j,n,l,E];rw[ab jj];trivial
def aen(S:Z)(h:Q)(v:W8)(a:HL h v):∀d i(c:Q)(ae:bV),i+d=8->mQ c ae ((v.l.take i).flatMap λx=>D0 8 x.toNat)->
 ∃b aV,mQ b aV v.tu/\DC ax X (.L xF) ⟨[(2,.P S.length 0),(9,h),(10,c),(11,.I Y (i:Nat))],ae,S.length⟩ (S++[.M po [] O])=
  J (.E 6,⟨[(10,b)],aV,S.length⟩,S++[.M po [] O]):=by
 have⟨p,A,r,E,I,P,q,lA⟩:=PT S;have z:∀l:List UInt64,(l.flatMap λx=>D0 8 x.toNat).length=8*l.length:=by intro l;induction l<;>grind [AS]
 intro d;induction d with
 |zero=>
  intro i c ae n g;have e:i=8:=V;subst e;refine⟨c,ae,g, ?_⟩;simp_all[aj,k_]
 |succ d o=>
  intro i c ae n g;have f:=aQ (i:=i) V;have u:K .sub (.I Y 64) (.I Y 8)=J (.I Y 56):=rfl;have⟨t,w,j,k⟩:=aax S h v a i V 8 _ c ae V (by grind) g;have y:(v.l.take i).flatMap (λx=>D0 8 x.toNat)++D0 8 (v.l.getD i 0).toNat=(v.l.take (i+1)).flatMap λx=>D0 8 x.toNat:=by rw[vG,Ac (show i<v.l.length from by show i<8;omega)];simp
  rw[y]at j;have⟨b,aV,s,m⟩:=o (i+1) t w V j;refine⟨b,aV,s, ?_⟩;rw[(V:8*((8:Nat):Int) -8=56)]at k;rw[aj,aN k_];generalize S++[cZ.M po [] O]=T at*;simp at m f;simp[(V:(i:Int)<8), -K,lJ,p,u];rw[ab jj];simp[k, -K,aJ];rw[ab k_];simp[f,m, -K]
def aeo(b:B)(hb:b.length<100000000)(S:Z):∃r,G5 r (dV b)/\W ax X 204 [.A po,cV b] S=J (r,S):=by
 have kd:=wT;have kl:=JS;have⟨l0,l2,l16,l3,l6,l9,l12,lA⟩:=PT S;have l1:aX (S++[.M po [] O]) .C (.P S.length 1)=J (.sl .N 1 (ow pZ.l)):=by rw[j_];rfl
 have i:aX (S++[.M po [] O]) .C (.P S.length 15)=J (.I Y 16):=by rw[j_];rfl
 have g:mQ (.sl .X 1 []) [] []:=.inr (.inl rfl);obtain⟨z,P⟩:∃z,bZ (S++[.M po [] O]) (cV b)=J (z,cJ b)/\(cJ b≠[]->z=1):=by
  cases b with
  |nil=>exact⟨1,rfl,λ_=>rfl⟩
  |cons a r=>exact⟨1,rfl,λ_=>rfl⟩
 have⟨o1,t1,p,a2⟩:=fE.QM g (xs:=cJ b) (x:=cV b) (S:=S++[.M po [] O]) (by simp[cJ];omega) ⟨z,P⟩;have f:mQ o1 t1 b:=by trivial
 have⟨o2,t2,j,s⟩:=f.one 128 V (S++[.M po [] O]);have⟨o3,t3,u,v⟩:=aav b V S ((239 -b.length %128)%128) 0 o2 t2 V s;have⟨o4,t4,m,n⟩:=XS (8*b.length) S 8 _ o3 t3 V (by grind) u;have E:b++128::fK ((239 -b.length %128)%128) 0++(fK 8 0++D0 8 (8*b.length))=b++fR b.length:=by simp[fR]
 rw[E]at m;obtain⟨d,hN⟩:∃d,(b++fR b.length).length=128*d:=⟨(b++fR b.length).length/128,by grind [aau]⟩;have ed:dV b=(PU d pZ (b++fR b.length)).tu:=by grind [dV]
 have hne:b++fR b.length≠[]:=by grind
 obtain⟨r,I,hr⟩:∃r,o4=.sl r 1 (cJ (b++fR b.length))/\(r=.N\/r=.X\/∃k,r=.fr k):=by rcases m with⟨h,_⟩|h|⟨k,h,_⟩;all_goals grind [tj]
 have⟨h5,t5,y,o⟩:=U_ S d (b++fR b.length) r (.sl .N 1 (ow pZ.l)) pZ t4 hN hr (.inl rfl);rw[<-I]at o;have⟨o6,t6,f1,f2⟩:=aen S h5 _ y 8 0 .aw t5 V (.inl ⟨rfl,rfl⟩);have⟨q,t,q1,q2,q3,q4,q5⟩:=f1.fin;refine⟨q,by simp_all, ?_⟩;have l:ff 1 (fK 0 [AV.I L 0]) []=J []:=rfl;have e:(((128:UInt8).toNat:Nat):Int)=128:=rfl;rw[e]at j;have w8:dt U (b.length:Int)=(b.length:Int):=by show(b.length:Int)%2^64=_;omega
 have m8:K .mul (.I U (b.length:Int)) (.I U 8)=J (.I U ((8*b.length:Nat):Int)):=by
  show J (AV.I U (dt U ((b.length:Int)*8)))=_;have:dt U ((b.length:Int)*8)=((8*b.length:Nat):Int):=by show((b.length:Int)*8)%2^64=_;omega
  rw[this]
 have m2:K .mul (.I Y 2) (.I Y 64)=J (.I Y 128):=rfl;have s1:K .sub (.I Y 16) (.I Y 1)=J (.I Y 15):=rfl;have A:((8:Nat):Int)+7=15:=V;rw[A]at n;have w:((0:Nat):Int)=0:=rfl;rw[w]at f2;rw[j6 ax4];generalize((8*b.length:Nat):Int)=L8,hT:S++[cZ.M po [] O]=T at*;have tk:T.take S.length=S:=by grind
 generalize AV.sl .N 1 (ow pZ.l)=H0,po=c at*;simp at l;simp[kl,kd,hT,l,p,j,l0,m2, -K];rw[ab k8];simp[v,w8,m8,i,s1, -K];rw[ab g_];simp[n,l1, -K];rw[ab k9];simp[o, -K];rw[ab k_];simp_all
def ar5:ff 1 (fK 8 [AV.I U 0]) [(0,.I U 7640891576956012808),(1,.I U 13503953896175478587),(2,.I U 4354685564936845355),(3,.I U 11912009170470909681),(4,.I U 5840696475078001361),(5,.I U 11170449401992604703),(6,.I U 2270897969802886507),(7,.I U 6620516959819538809)]=J (ow pZ.l):=by rfl
def ar6:ff 1 (fK 80 [AV.I U 0]) [(0,.I U 4794697086780616226),(1,.I U 8158064640168781261),(2,.I U 13096744586834688815),(3,.I U 16840607885511220156),(4,.I U 4131703408338449720),(5,.I U 6480981068601479193),(6,.I U 10538285296894168987),(7,.I U 12329834152419229976),(8,.I U 15566598209576043074),(9,.I U 1334009975649890238),(10,.I U 2608012711638119052),(11,.I U 6128411473006802146),(12,.I U 8268148722764581231),(13,.I U 9286055187155687089),(14,.I U 11230858885718282805),(15,.I U 13951009754708518548),(16,.I U 16472876342353939154),(17,.I U 17275323862435702243),(18,.I U 1135362057144423861),(19,.I U 2597628984639134821),(20,.I U 3308224258029322869),(21,.I U 5365058923640841347),(22,.I U 6679025012923562964),(23,.I U 8573033837759648693),(24,.I U 10970295158949994411),(25,.I U 12119686244451234320),(26,.I U 12683024718118986047),(27,.I U 13788192230050041572),(28,.I U 14330467153632333762),(29,.I U 15395433587784984357),(30,.I U 489312712824947311),(31,.I U 1452737877330783856),(32,.I U 2861767655752347644),(33,.I U 3322285676063803686),(34,.I U 5560940570517711597),(35,.I U 5996557281743188959),(36,.I U 7280758554555802590),(37,.I U 8532644243296465576),(38,.I U 9350256976987008742),(39,.I U 10552545826968843579),(40,.I U 11727347734174303076),(41,.I U 12113106623233404929),(42,.I U 14000437183269869457),(43,.I U 14369950271660146224),(44,.I U 15101387698204529176),(45,.I U 15463397548674623760),(46,.I U 17586052441742319658),(47,.I U 1182934255886127544),(48,.I U 1847814050463011016),(49,.I U 2177327727835720531),(50,.I U 2830643537854262169),(51,.I U 3796741975233480872),(52,.I U 4115178125766777443),(53,.I U 5681478168544905931),(54,.I U 6601373596472566643),(55,.I U 7507060721942968483),(56,.I U 8399075790359081724),(57,.I U 8693463985226723168),(58,.I U 9568029438360202098),(59,.I U 10144078919501101548),(60,.I U 10430055236837252648),(61,.I U 11840083180663258601),(62,.I U 13761210420658862357),(63,.I U 14299343276471374635),(64,.I U 14566680578165727644),(65,.I U 15097957966210449927),(66,.I U 16922976911328602910),(67,.I U 17689382322260857208),(68,.I U 500013540394364858),(69,.I U 748580250866718886),(70,.I U 1242879168328830382),(71,.I U 1977374033974150939),(72,.I U 2944078676154940804),(73,.I U 3659926193048069267),(74,.I U 4368137639120453308),(75,.I U 4836135668995329356),(76,.I U 5532061633213252278),(77,.I U 6448918945643986474),(78,.I U 6902733635092675308),(79,.I U 7801388544844847127)]=J (ow iB):=by kernel_rfl
def kdH(a b:jU):F:=[.I Y 64,.sl .X 1 a,.sl .X 1 b,.I Y 28,.I Y 34,.I Y 39,.I Y 14,.I Y 18,.I Y 41,.I Y 1,.I Y 8,.I Y 7,.I Y 19,.I Y 61,.I Y 6,.I Y 16,.I U 18446744073709551615]
def ar7(a b:jU):dj FW [(0,1,.I Y 64),(1,1,.sl .X 1 a),(2,1,.sl .X 1 b),(3,3,.A [.I Y 28,.I Y 34,.I Y 39]),(6,3,.A [.I Y 14,.I Y 18,.I Y 41]),(9,3,.A [.I Y 1,.I Y 8,.I Y 7]),(12,3,.A [.I Y 19,.I Y 61,.I Y 6]),(15,1,.I Y 16),(16,1,.I U 18446744073709551615)]=J (kdH a b):=by simp[dj,aM,aW,kdH]
def XT(S:Z):W ax X 205 [] S=J (.A po,S):=by
 have f:=ar5;have h:=ar6;have g:=ar7 (ow pZ.l) (ow iB);have k:(kdH (ow pZ.l) (ow iB)).length=17:=rfl;have p:(kdH (ow pZ.l) (ow iB)).map aW=kdH (ow pZ.l) (ow iB):=rfl;have q:=Ln pZ.l;have r:=Ln iB;have l:dv (kdH (ow pZ.l) (ow iB))=G:=by rfl
 have n:cd (.A (kdH (ow pZ.l) (ow iB)))=.A po:=rfl;have e:=Aw (S:=S) (T:=S) rfl l [.M FW [] O] 0 [] S.length 17;simp only[RP,RR]at e;rw[if_pos ⟨k,by decide⟩,dT (by rfl)]at e;have m:aX (S++[.M (kdH (ow pZ.l) (ow iB)) [] O]) (.A 17) (.P S.length 0)=J (.A (kdH (ow pZ.l) (ow iB))):=by simp_all[fQ]
 have j:=wT;have o:dr 205 [] [.A (kdH (ow pZ.l) (ow iB))] S (S++[.M (kdH (ow pZ.l) (ow iB)) [] O])=J (.A po,S):=by simp[uw,n,cI,j]
 have i:∀a b c,dj [.I Y 0,.I Y 0,.I Y 0] [(0,1,.I Y a),(1,1,.I Y b),(2,1,.I Y c)]=J [.I Y a,.I Y b,.I Y c]:=λ_ _ _=>rfl;rw[V7 ax5];generalize ow pZ.l=A,ow iB=d at*;generalize kdH A d=E at*;simp at f h g;simp[f,h,i,g,e,m,o]
def aay(b:B):(dV b).length=64:=by unfold dV W8.tu;rw[Nr];rfl
def XU(b:B)(q:b.length<100000000)(S:Z):W ax X 130 [cV b] S=J (.A (R (dV b)),S):=by
 have j:=aay b;have u:bR.length=64:=rfl;have⟨r,p,i⟩:=aeo b q (S++[.M bR [] O,.M bR [] O]);have⟨o,t,k,l⟩:=p.1.take [];have⟨z,A,n⟩:=fE.elems l (S++[.M bR [] O,.M bR [] O]);have g:=XT (S++[.M bR [] O,.M bR [] O]);generalize dV b=s at*;have y:=n (by grind [tj]);subst y;have v:=wT;have E:((cJ s).take 64).flatten=R s:=by simp_all[og,Fu]
 have h:uv S.length (S++[.M bR [] O,.M bR [] O]) 1 (.cH (S.length+1) 0 64 64 1) o=J (.I Y 64,S++[.M bR [] O,.M (R s) [] O]):=by simp_all[uv,AU]
 have m:=aL s;have w:aX (S++[.M bR [] O,.M (R s) [] O]) (.A 64) (.P (S.length+1) 0)=J (.A (R s)):=by simp_all
 have e:=λd=>Aw (S:=S) rfl m.br [.M bR [] O,.M (R s) [] O] 0 d S.length 64;have f:aX (S++[.M (R s) [] O,.M (R s) [] O]) (.A 64) (.P S.length 0)=J (.A (R s)):=by simp_all
 have x:∀d a,dr 130 d [.A (R s)] S (S++a)=J (.A (R s),S):=λd a=>by simp
 simp only[RP,RR]at e;simp only[(dT (by simp[j,u]):aM bR 0 (R s)=R s)]at e;have e:=λd=>(e d).trans (if_pos ⟨by simp[j],by decide⟩);rw[jr azF];generalize po=c at*;try simp at i
 try simp at h
 try simp at g
 simp[g,v,i,k,qH,h,w,e,f,x]
def aaD(b:B)(k:b.length<100000000)(S:Z):W ax X 55 [cV b] S=J (.A (R (kM b)),S):=by
 have m:=λT=>XU b k T;have i:=λT=>UB (dV b) (Gl b) T;rw[show jw 32 (dN (dV b)%qN)=kM b from rfl]at i;have j:=Cw b;have h:df (R (dV b)):=aL _;have g:(R (kM b)).length=32:=by rfl
 have f:df (R (kM b)):=aL _;have l:aP.length=32:=rfl;generalize R (kM b)=d,R (dV b)=c,cV b=a at*;have n:(AV.A d).cells=d:=rfl;rw[jr aEV];generalize o:aP=e at*;simp-implicitDefEqProofs [m,j.Kr,i,h,g,f,bG g f,l, -K, -AV.cells, -aU]
def Vm(x:B)(i:Nat):B:=x.take i++fK (32 -i) 0
theorem acF(x:B)(i:Nat)(a:32<=x.length)(h:i<=32):(Vm x i).length=32:=by simp[Vm];omega
def X4(x:B):Vm x 32=x.take 32:=by simp[Vm]
def acG(x:B)(i:Nat)(b:32<=x.length)(h:i<32):(Vm x i).set i (x.getD i 0)=Vm x (i+1):=by
 unfold Vm;have a:(x.take i).length=i:=by grind
 rw[vG,Ej V,show 32 -i=(32 -(i+1))+1 by omega,Rl,aa8 _ _ V,a,Nat.sub_self,RR,sC,Bv,Ej V];rfl
def aaE(h:B)(hs:h.length=64)(c:Q)(b0:cZ)(S:Z):∀n i:Nat,i+n=32->
 DC ax X (.L tW) ⟨[(2,c),(3,.P S.length 0),(4,.P (S.length+1) 0),(7,.P (S.length+2) 0),(8,.P (S.length+3) 0),(9,.I Y (i:Int))],[],S.length⟩ (S++[b0,.M (R h) [] O,.M (R (Vm h i)) [] O,.M (R (Vm (h.drop 32) i)) [] O])=
  J (.E 0,⟨[(2,c),(3,.P S.length 0),(7,.P (S.length+2) 0),(8,.P (S.length+3) 0)],[],S.length⟩,S++[b0,.M (R h) [] O,.M (R (h.take 32)) [] O,.M (R (h.drop 32)) [] O]):=by
 intro n;induction n with
 |zero=>
  intro i q;have e:i=32:=V;subst e;simp[aj,aN fI,X4,X4,show(h.drop 32).take 32=h.drop 32 from og (by grind)]
 |succ n t=>
  intro i q;have k:i<32:=V;have o:=t (i+1) V;have p:K .add (.I Y 32) (.I Y (i:Int))=J (.I Y ((32+i:Nat):Int)):=arl 32 i V;have l:=QA (n:=64) (i:=S.length+1) (show i<64 by omega);have m:=QA (n:=64) (i:=S.length+1) (show 32+i<64 by omega);have r:=QA (n:=32) (i:=S.length+2) k;have s:=QA (n:=32) (i:=S.length+3) k;have u:∀d f g,aX (S++[d,.M (R h) [] O,f,g]) .C (.P (S.length+1) i)=J (bn (h.getD i 0)):=λd f g=>Vk (cl S _ 1) V;have v:∀d f g,aX (S++[d,.M (R h) [] O,f,g]) .C (.P (S.length+1) (32+i))=J (bn ((h.drop 32).getD i 0)):=λd f g=>by rw[Vk (cl S _ 1) V];simp
  have w:∀d f g,bd [] S.length (S++[d,f,.M (R (Vm h i)) [] O,g]) 1 (.P (S.length+2) i) (bn (h.getD i 0))=J ([],S++[d,f,.M (R (Vm h (i+1))) [] O,g]):=λd f g=>by rw[st8 (cl S _ 2) (by grind [acF]),acG _ _ V k];simp
  have x:∀d f g,bd [] S.length (S++[d,f,g,.M (R (Vm (h.drop 32) i)) [] O]) 1 (.P (S.length+3) i) (bn ((h.drop 32).getD i 0))=J ([],S++[d,f,g,.M (R (Vm (h.drop 32) (i+1))) [] O]):=λd f g=>by rw[st8 (cl S _ 3) (by grind [acF]),acG _ _ (by grind) k];simp
  generalize R (Vm h i)=y,R (Vm h (i+1))=z,R (Vm (h.drop 32) i)=A,R (Vm (h.drop 32) (i+1))=I,R (h.take 32)=a,R (h.drop 32)=b,R h=E,bn (h.getD i 0)=P,bn ((h.drop 32).getD i 0)=T,((32+i:Nat):Int)=j,32+i=jn at*;rw[aj,aN fI];simp-implicitDefEqProofs [-K, -jF,du,(V:(i:Int)<32),p,l,m,r,s,u,v,w,x,eJ];rw[ab fI];try simp at o
  simp-implicitDefEqProofs [-K,(aQ V:dt Y ((i:Int)+1)=((i+1:Nat):Int)),o]
def SN{S:Z}{l:List cZ}{k n:Nat}{b:B}{bt:bV}{q:Bool}(h:l[k]? =J (.M (R b) bt q))(a:b.length=n):bZ (S++l) (.cH (S.length+k) 0 n n 1)=J (1,cJ b):=by
 have:=Da (S:=S) (off:=0) (n:=n) (c:=n) h V
 grind
def Uc(j i m:B)(hk:j.length=32)(r:i.length=64)(hm:m.length<=1000000)(S:Z):W ax X 19 [.A (R j),.A (R i),cV m] S=J (.B (ZG j i m),S):=by
 have lf:(i.take 32).length=32:=by simp[r]
 have ls:(i.drop 32).length=32:=by simp[r]
 have d:=aaE i r (cV m) (.M (R j) [] O) S 32 0 rfl;have z0:∀x:B,R (Vm x 0)=aP:=λx=>by rfl
 rw[z0,z0]at d;have dc:=λT=>JI j hk T;have tq:=λt=>ai3 t (pK j).1 (pK j).2;have fb:=λT=>Xu (i.drop 32) ls T;have q:(R j).length=32:=by simp[hk]
 have n:df (R j):=aL _;have ZH:=bG q n;have z:(R i).length=64:=by simp[r]
 have w:df (R i):=aL _;have hl3:(R (i.take 32)).length=32:=by simp[r]
 have hd3:df (R (i.take 32)):=aL _;have pk3:=bG hl3 hd3;have hl4:(R (i.drop 32)).length=32:=by simp[r]
 have y:df (R (i.drop 32)):=aL _;have v:=bG hl4 y;have hz:aP.length=32:=rfl;have P:fM.length=24:=rfl;have sp:aM fM 0 (pK j).1.cs=(pK j).1.cs:=dT bW;have dm:=Cw m;unfold ZG;rw[LQ aEB];try simp only[aaB]
 cases I:(pK j).2 with
 |false=>
  rw[I]at dc tq;generalize(pK j).1=p,R (i.take 32)=EF,R (i.drop 32)=EG,R j=s,R i=u,cV m=f at*;have c1:(AV.A s).cells=s:=rfl;have c2:(AV.A u).cells=u:=rfl;generalize aP=h,fM=g at*;simp-implicitDefEqProofs [q,n,z,w, -K, -AV.cells, -aU];rw[ab fI];try simp at d
  simp-implicitDefEqProofs [d,ZH,P,dc,tq,bB,sp,bU,n, -K, -AV.cells, -aU]
 |true=>
  rw[I]at dc tq;have⟨e,_,_,ok⟩:=abd I;by_cases hb:dN (i.drop 32)<qN
  ·rw[decide_eq_true hb]at fb⊢
   have hex:mQ (.sl .X 1 []) [] []:=.inr (.inl rfl);have e1:∀A a b c,bZ (S++[A,a,.M (R (i.take 32)) [] O,b,c,.M aP [] O]) (.cH (S.length+2) 0 32 32 1)=J (1,cJ (i.take 32)):=λA a b c=>SN (l:=[A,a,.M (R (i.take 32)) [] O,b,c,.M aP [] O]) (k:=2) rfl lf;have e2:∀A a b c E,bZ (S++[.M (R j) [] O,A,a,b,c,E]) (.cH S.length 0 32 32 1)=J (1,cJ j):=λA a b c E=>SN (l:=[.M (R j) [] O,A,a,b,c,E]) (k:=0) rfl hk;have⟨o1,t1,a1,a2⟩:=fE.QM hex (xs:=cJ (i.take 32)) (x:=.cH (S.length+2) 0 32 32 1) (S:=S++[.M (R j) [] O,.M (R i) [] O,.M (R (i.take 32)) [] O,.M (R (i.drop 32)) [] O,.M (pK j).1.cs [] O,.M aP [] O]) (by simp[r]) ⟨1,e1 _ _ _ _,λ_=>rfl⟩;have a2':mQ o1 t1 (i.take 32):=by trivial
   have⟨o2,t2,b1,b2⟩:=fE.QM a2' (xs:=cJ j) (x:=.cH S.length 0 32 32 1) (S:=S++[.M (R j) [] O,.M (R i) [] O,.M (R (i.take 32)) [] O,.M (R (i.drop 32)) [] O,.M (pK j).1.cs [] O,.M aP [] O]) (by simp[r,hk]) ⟨1,e2 _ _ _ _ _,λ_=>rfl⟩;have b2':mQ o2 t2 (i.take 32++j):=by simpa[mQ,cJ]using b2
   have⟨o3,t3,d1,d2⟩:=fE.QM b2' (xs:=cJ m) (x:=cV m) (S:=S++[.M (R j) [] O,.M (R i) [] O,.M (R (i.take 32)) [] O,.M (R (i.drop 32)) [] O,.M (pK j).1.cs [] O,.M aP [] O]) (by simp[r,hk];omega) (PZ m _);have o:mQ o3 t3 (i.take 32++(j++m)):=by grind [mQ,cJ]
   have g1:=fE.I6 o;have g2:ej (aW o3)=cV (i.take 32++(j++m)):=fE.ej o;have g3:=fE.lock o;have g4:=fE.yf o;have ha:=λT=>aaD (i.take 32++(j++m)) (by grind) T;have hkl:=GR (i.take 32++(j++m));have fB:=aaq;have fD:=UU;have m1:=λT=>Sz tI TP (i.drop 32) ls T;have fn:=λT=>adw (pK j).1 ok T;have nok:(pK j).1.neg.ok:=⟨jf _ fU,ok.2.1,ok.2.2⟩;have m2:=λT=>Sz (pK j).1.neg nok (kM (i.take 32++(j++m))) hkl T;have fA:=λT=>Lb (P3.mul (i.drop 32) 256 0 tI j7) (P3.mul (kM (i.take 32++(j++m))) 256 0 (pK j).1.neg j7) wJ (P3.TQ _ _ _ _ _ TP M_) (P3.TQ _ _ _ _ _ nok M_) UW T;rw[show(P3.mul (i.drop 32) 256 0 tI j7).add (P3.mul (kM (i.take 32++(j++m))) 256 0 (pK j).1.neg j7) wJ=HY j (kM (i.take 32++(j++m))) (i.drop 32)from rfl]at fA;have fy:=λT=>XF (HY j (kM (i.take 32++(j++m))) (i.drop 32)) (P3.HZ _ _ _) T;have eq:=alw (HY j (kM (i.take 32++(j++m))) (i.drop 32)).bytes (i.take 32) (XZ _ _ _) lf O;have hl5:(R (kM (i.take 32++(j++m)))).length=32:=by rfl
   have hd5:df (R (kM (i.take 32++(j++m)))):=aL _;have pk5:=bG hl5 hd5;clear a2 b2 d2 e1 e2 hex a2' b2' o hkl nok ok;generalize b_ ((HY j (kM (i.take 32++(j++m))) (i.drop 32)).bytes=i.take 32)=ans,R (HY j (kM (i.take 32++(j++m))) (i.drop 32)).bytes=EV,HY j (kM (i.take 32++(j++m))) (i.drop 32)=PV,P3.mul (kM (i.take 32++(j++m))) 256 0 (pK j).1.neg j7=PB,P3.mul (i.drop 32) 256 0 tI j7=PA,R (kM (i.take 32++(j++m)))=EH,cV (i.take 32++(j++m))=BM,(pK j).1.neg=pn,(pK j).1=p,tI=b6,wJ=d6,R (i.take 32)=EF,R (i.drop 32)=EG,R j=s,R i=u,cV m=f at*;have c1:(AV.A s).cells=s:=rfl;have c2:(AV.A u).cells=u:=rfl;have c5:(AV.A EH).cells=EH:=rfl;have bo:ff 1 (fK 0 [AV.I L 0]) []=J []:=rfl;try simp at bo
   generalize aP=h,fM=g at*;simp-implicitDefEqProofs [q,n,z,w, -K, -AV.cells, -aU];rw[ab fI];try simp at d
   try simp at a1
   try simp at b1
   try simp at d1
   simp-implicitDefEqProofs [d,ZH,pk3,y,v,hz,P,dc,tq,bB,sp,bU,n,fb,qH,bo,a1,b1,d1,g1,g2,g3,g4,de,ct,ha,hl5,hd5,pk5,fB,fD,m1,fn,m2,fA,fy,eq,(aL _:df (R (HY j (kM (i.take 32++(j++m))) (i.drop 32)).bytes)), -K, -AV.cells, -aU]
  ·rw[decide_eq_false hb]at fb⊢
   generalize(pK j).1=p,R (i.take 32)=EF,R (i.drop 32)=EG,R j=s,R i=u,cV m=f at*;have c1:(AV.A s).cells=s:=rfl;have c2:(AV.A u).cells=u:=rfl;generalize aP=h,fM=g at*;simp-implicitDefEqProofs [q,n,z,w, -K, -AV.cells, -aU];rw[ab fI];try simp at d
   simp-implicitDefEqProofs [d,ZH,y,v,P,dc,tq,bB,sp,bU,n,fb, -K, -AV.cells, -aU]
def JV(s m:B):B:=kM (oT s++m)
def sa(s m:B):B:=sE (JV s m)
def aaC(s m:B):B:=kM (sa s m++(sE (iK s)++m))
def MP(s m:B):B:=jw 32 ((dN (aaC s m)*dN (iK s)+dN (JV s m))%qN)
def Qz(s m:B):B:=sa s m++MP s m
def W_(s m:B):(Qz s m).length=64:=by simp[Qz,sa,MP,GC]
def aeq:bR=R (fK 32 0)++(R (fK 32 0)++[]):=rfl
def acE{S:Z}{l:List cZ}{k k' off c a:Nat}{cs:F}{b:B}{bt:bV}{q:Bool}(h:l[k]? =J (.M cs [] O))(d:l[k']? =J (.M (R b) bt q))(f:b.length=32)(g:off+32<=cs.length):
 uv S.length (S++l) 1 (.cH (S.length+k) off 32 c 1) (.cH (S.length+k') 0 32 a 1)=J (.I Y 32,S++l.set k (.M (aM cs off (R b)) [] O)):=by
 have e:=Da (S:=S) (off:=0) (n:=32) (c:=a) d V
 grind [uv,AU,yV,Fu]
def aGm(i:Nat):qH 64 1 (.P i 0) M (J (.I Y 32))=J (.cH i 0 32 64 1):=rfl
def aGn(i:Nat):qH 64 1 (.P i 0) (J (.I Y 32)) M=J (.cH i 32 32 32 1):=rfl
def aGo(i:Nat):qH 32 1 (.P i 0) M M=J (.cH i 0 32 32 1):=rfl
def W9(s:bh)(hs:s.length=32)(l:List (Q × bh))(S:Z)(hv:∀p∈l,HI S p)(hl:l.length<900)(hlen:(cj l).length<=900000):
 W ax X 14 [.A (R s),pk l] S=J (.A (R (Qz s (cj l))),S):=by
 have sp:=λS=>JU s hs S;have tk:=λt=>aoH t (iK s) (oT s);have pu:=λS=>Hy s hs S;have fb:=TL;have lN:=GQ s;have lS:=SM s;have lK:=GC (iK s);have lR:(JV s (cj l)).length=32:=GR _;have r:(sa s (cj l)).length=32:=GC _;have lH:(aaC s (cj l)).length=32:=GR _;have lZ:(MP s (cj l)).length=32:=tg _ _;have fm:=λS=>Ax Pt.base (JV s (cj l)) lR S;have fy:=λS=>OC (Pt.base.Im (JV s (cj l)) 64 Pt.none) S;rw[RZ lR,show sE (JV s (cj l))=sa s (cj l)from rfl]at fy;have h1:=Gm (.je (S.length+3)) .N (.inr ⟨_,rfl⟩) (.inl rfl) (oT s) [] l (S++[.M (R s) [] O,.M bR [] O,.M (R (iK s)) [] O,.M (R (oT s)) [] G,.M (R (sE (iK s))) [] O]) (λp hp=>(hv p hp).more _) hl (by grind);rw[Ar,show kM (oT s++cj l)=JV s (cj l)from rfl]at h1;have h2:=Gm (.je (S.length+6)) (.je (S.length+4)) (.inr ⟨_,rfl⟩) (.inr ⟨_,rfl⟩) (sa s (cj l)) (sE (iK s)) l (S++[.M (R s) [] O,.M bR [] O,.M (R (iK s)) [] O,.M (R (oT s)) [] O,.M (R (sE (iK s))) [] G,.M (R (JV s (cj l))) [] O,.M (R (sa s (cj l))) [] G,.M aP [] O]) (λp hp=>(hv p hp).more _) hl V;rw[show kM (sa s (cj l)++(sE (iK s)++cj l))=aaC s (cj l)from rfl]at h2;have ma:=λT=>Pf (aaC s (cj l)) (iK s) (JV s (cj l)) lH lN lR T;rw[show jw 32 ((dN (aaC s (cj l))*dN (iK s)+dN (JV s (cj l)))%qN)=MP s (cj l)from rfl]at ma;have y:(R s).length=32:=by simp[hs]
 have u:df (R s):=aL _;have ZH:=bG y u;have z:(R (iK s)).length=32:=by simp[lN]
 have v:df (R (iK s)):=aL _;have pk2:=bG z v;have hl3:(R (oT s)).length=32:=by simp[lS]
 have hd3:df (R (oT s)):=aL _;have hl4:(R (sE (iK s))).length=32:=by simp[lK]
 have hd4:df (R (sE (iK s))):=aL _;have I:(R (JV s (cj l))).length=32:=by rfl
 have w:df (R (JV s (cj l))):=aL _;have pk5:=bG I w;have hl6:(R (sa s (cj l))).length=32:=by simp[r]
 have hd6:df (R (sa s (cj l))):=aL _;have hd7:df (R (aaC s (cj l))):=aL _;have hl8:(R (MP s (cj l))).length=32:=by rfl
 have hd8:df (R (MP s (cj l))):=aL _;have P:(R (Qz s (cj l))).length=64:=by simp[W_]
 have x:df (R (Qz s (cj l))):=aL _;have pk9:=bG P x;have hz:aP.length=32:=rfl;have hz2:bR.length=64:=rfl;have gaS:∀A B C a,bH (S++[A,B,C,.M (R (oT s)) [] O,a]) (.cH (S.length+3) 0 32 32 1)=J (.sl (.je (S.length+3)) 1 (cJ (oT s))):=λA B C a=>Jw (l:=[A,B,C,.M (R (oT s)) [] O,a]) (k:=3) rfl lS;have h9:∀A B C a,bK (S++[A,B,C,.M (R (oT s)) [] O,a]) (.cH (S.length+3) 0 32 32 1)=S++[A,B,C,.M (R (oT s)) [] G,a]:=λA B C a=>HE (l:=[A,B,C,.M (R (oT s)) [] O,a]) (k:=3) rfl;have ulS:∀A B C a i B' j m,bk (S++[A,B,C,.M (R (oT s)) [] O,a]) (S++[i,B',j,.M (R (oT s)) [] G,m]) (.cH (S.length+3) 0 32 32 1)=S++[i,B',j,.M (R (oT s)) [] O,m]:=λA B C a i B' j m=>HF (l:=[A,B,C,.M (R (oT s)) [] O,a]) (l':=[i,B',j,.M (R (oT s)) [] G,m]) (k:=3) rfl rfl;have gaF:∀A B C a E b c,bH (S++[A,B,C,a,E,b,.M (R (sa s (cj l))) [] O,c]) (.cH (S.length+6) 0 32 32 1)=J (.sl (.je (S.length+6)) 1 (cJ (sa s (cj l)))):=λA B C a E b c=>Jw (l:=[A,B,C,a,E,b,.M (R (sa s (cj l))) [] O,c]) (k:=6) rfl r;have gaK:∀A B C a b c d,bH (S++[A,B,C,a,.M (R (sE (iK s))) [] O,b,c,d]) (.cH (S.length+4) 0 32 32 1)=J (.sl (.je (S.length+4)) 1 (cJ (sE (iK s)))):=λA B C a b c d=>Jw (l:=[A,B,C,a,.M (R (sE (iK s))) [] O,b,c,d]) (k:=4) rfl lK;have lkF:∀A B C a E b c,bK (S++[A,B,C,a,E,b,.M (R (sa s (cj l))) [] O,c]) (.cH (S.length+6) 0 32 32 1)=S++[A,B,C,a,E,b,.M (R (sa s (cj l))) [] G,c]:=λA B C a E b c=>HE (l:=[A,B,C,a,E,b,.M (R (sa s (cj l))) [] O,c]) (k:=6) rfl;have lkK:∀A B C a b c d,bK (S++[A,B,C,a,.M (R (sE (iK s))) [] O,b,c,d]) (.cH (S.length+4) 0 32 32 1)=S++[A,B,C,a,.M (R (sE (iK s))) [] G,b,c,d]:=λA B C a b c d=>HE (l:=[A,B,C,a,.M (R (sE (iK s))) [] O,b,c,d]) (k:=4) rfl;have ulF:∀A B C a E b c i B' j m E' n o,bk (S++[A,B,C,a,E,b,.M (R (sa s (cj l))) [] O,c]) (S++[i,B',j,m,E',n,.M (R (sa s (cj l))) [] G,o]) (.cH (S.length+6) 0 32 32 1)=S++[i,B',j,m,E',n,.M (R (sa s (cj l))) [] O,o]:=λA B C a E b c i B' j m E' n o=>HF (l:=[A,B,C,a,E,b,.M (R (sa s (cj l))) [] O,c]) (l':=[i,B',j,m,E',n,.M (R (sa s (cj l))) [] G,o]) (k:=6) rfl rfl;have ulK:∀A B C a b c d i B' j m n o H',bk (S++[A,B,C,a,.M (R (sE (iK s))) [] O,b,c,d]) (S++[i,B',j,m,.M (R (sE (iK s))) [] G,n,o,H']) (.cH (S.length+4) 0 32 32 1)=S++[i,B',j,m,.M (R (sE (iK s))) [] O,n,o,H']:=λA B C a b c d i B' j m n o H'=>HF (l:=[A,B,C,a,.M (R (sE (iK s))) [] O,b,c,d]) (l':=[i,B',j,m,.M (R (sE (iK s))) [] G,n,o,H']) (k:=4) rfl rfl;have k1:aM bR 0 (R (sa s (cj l)))=R (sa s (cj l))++(R (fK 32 0)++[]):=by rw[aeq];have:=xd (A:=[]) (B:=R (fK 32 0)) (C:=R (fK 32 0)++[]) (off:=0) (B':=R (sa s (cj l))) rfl (by simp[r]);simp_all
 have k2:aM (R (sa s (cj l))++(R (fK 32 0)++[])) 32 (R (MP s (cj l)))=R (Qz s (cj l)):=by have:=xd (A:=R (sa s (cj l))) (B:=R (fK 32 0)) (C:=[]) (off:=32) (B':=R (MP s (cj l))) (by simp[r]) (by simp[lZ]);simp_all[Qz,R]
 have q:∀A B C a E b c d,uv S.length (S++[A,B,C,a,E,b,.M (R (sa s (cj l))) [] O,c,.M bR [] O]) 1 (.cH (S.length+8) 0 32 64 1) (.cH (S.length+6) 0 32 32 1)=J (.I Y 32,S++[A,B,C,a,E,b,.M (R (sa s (cj l))) [] O,c,.M (R (sa s (cj l))++(R (fK 32 0)++[])) [] O]):=λA B C a E b c(d:Nat)=>by rw[<-k1];exact acE (l:=[A,B,C,a,E,b,.M (R (sa s (cj l))) [] O,c,.M bR [] O]) (k:=8) (k':=6) rfl rfl r V
 have q:=λA B C a E b c=>q A B C a E b c 0;have cp2:∀A B C a E b c,uv S.length (S++[A,B,C,a,E,b,c,.M (R (MP s (cj l))) [] O,.M (R (sa s (cj l))++(R (fK 32 0)++[])) [] O]) 1 (.cH (S.length+8) 32 32 32 1) (.cH (S.length+7) 0 32 32 1)=J (.I Y 32,S++[A,B,C,a,E,b,c,.M (R (MP s (cj l))) [] O,.M (R (Qz s (cj l))) [] O]):=λA B C a E b c=>by rw[<-k2];exact acE (l:=[A,B,C,a,E,b,c,.M (R (MP s (cj l))) [] O,.M (R (sa s (cj l))++(R (fK 32 0)++[])) [] O]) (k:=8) (k':=7) rfl rfl lZ (by simp[r])
 have rn:=X0 l;have rg:=λT=>X1 T l;have rl:=λT=>X2 T l;have ru:=λT T'=>X3 T T' l;have nn:ej .aw=.sl .N 1 (cJ []):=rfl;have ng:∀T,bH T .aw=J .aw:=λ_=>rfl;have nl:∀T,bK T .aw=T:=λ_=>rfl;have nu:∀T T',bk T T' .aw=T':=λ_ _=>rfl;clear k1 k2;generalize R (sa s (cj l))++(R (fK 32 0)++[])=EQ at*;generalize R (Qz s (cj l))=EB at*;generalize R (MP s (cj l))=EZ at*;generalize R (aaC s (cj l))=EH at*;generalize R (sa s (cj l))=EF at*;generalize R (JV s (cj l))=ER at*;generalize Pt.base.Im (JV s (cj l)) 64 Pt.none=f at*;generalize Pt.base=B at*;generalize R (sE (iK s))=EK at*;generalize R (iK s)=EN at*;generalize R (oT s)=ES at*;generalize R s=E at*;generalize cJ (sa s (cj l))=BF at*;generalize cJ (sE (iK s))=BK at*;generalize cJ (oT s)=BS at*;generalize cJ []=B0 at*;generalize pk l=e at*;have c1:(AV.A E).cells=E:=rfl;have c2:(AV.A EN).cells=EN:=rfl;have c3:(AV.A ES).cells=ES:=rfl;have c4:(AV.A EK).cells=EK:=rfl;have c5:(AV.A ER).cells=ER:=rfl;have c6:(AV.A EF).cells=EF:=rfl;have c8:(AV.A EZ).cells=EZ:=rfl;have c9:(AV.A EB).cells=EB:=rfl;rw[j6 aEz];try simp only[aaB]
 generalize hZ:aP=h,hY:bR=g at*;try simp at h1
 try simp at h2
 simp-implicitDefEqProofs [sp,tk,bB,pu,fb,fm,fy,y,u,ZH,z,v,pk2,hl3,hd3,hl4,hd4,I,w,pk5,hl6,hd6,hd7,hl8,hd8,P,x,pk9,hz,hz2,aGm,aGn,aGo,gaS,h9,ulS,gaF,gaK,lkF,lkK,ulF,ulK,si,nn,ng,nl,nu,rn,rg,rl,ru,de,ct,h1,h2,ma,q,cp2, -K, -AV.cells, -aU]
end Go.Proofs.YtiaklhkdbokkhaaGreat.am
