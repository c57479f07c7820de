/- Parts. No condition. -/
import Derived.Test.YtefopednbffpaaaGreatDoorQI
set_option linter.all false
namespace Go.Proofs.YtefopednbffpaaaGreatDoor.am
open Go
open Option renaming some->J,none->D
open Bool renaming false->O,true->G,and_eq_true->mz
open Go.IntKind renaming i64->Y,wrap->dh,u64->U,u32->bR,u8->L
open UInt8 renaming ofNat->cw,toNat_ofNat'->qE
open Decidable renaming decide->ck
open List renaming drop_eq_nil_of_le->jM,replicate->fg,take_of_length_le->oL,append_assoc->s_
open Nat renaming mod_eq_of_lt->fQ,le_refl->gL,div_div_eq_div_mul->th,mod_lt->gH,lt_of_lt_of_le->zj
open BitVec renaming ofInt->gU
open Go.Proofs.YtefopednbffpaaaGreatDoor.am renaming om->V,St->Z,ay->N,ai->R,nk->C,aM->M,AV->Q,bg->X,au->B,DF->W,pP->F,bJ->K
section
section
variable{S:Z}{j d:Nat}(z:de)
def Q5(v:bu)(hl:v.gD.length<=12)(OY:v.ar.length=v.gD.length)(hg:NO [] v.gD=G)(k:∀n∈v.gD,0<=n/\n<18446744073709551616)(hd:d<1000)
 (hF:∀x∈v.ar,∀(S:Z)(r:Rd)(u:X),S[j]? =J (fY j r)->r_ r (x.bytes++u)->W N C 191 [.P j 0,.I Y (d:Int)] S=J (.A x.aq,S.set j (fY j (r.go x.bytes.length)))):
 ∀e i(r:Rd)(u:X)(ag:bV),i+e=v.gD.length->S[j]? =J (fY j r)->∀c:Rd,r_ c (bu.m_ (v.gD.drop i) (v.ar.drop i)++u)->
 ∃aT,DC N C (.L vM) ⟨[(0,.P j 0),(1,.I Y ((d:Int)+1)),(4,.P S.length 0),(5,.P (S.length+1) 0),(51,.I Y (v.gD.length:Int)),(52,.I Y (i:Int))],ag,S.length⟩ (jc S j c z (vbI (S.length+1) (v.gD.take i) (v.ar.take i)))=
  J (.E 1,⟨[(0,.P j 0),(4,.P S.length 0),(5,.P (S.length+1) 0)],aT,S.length⟩,jc S j (c.go (bu.m_ (v.gD.drop i) (v.ar.drop i)).length) z (vbI (S.length+1) v.gD v.ar)):=by
 intro e;induction e with
 |zero=>
  intro i r u ag hi g c p;refine⟨ag, ?_⟩;have w:¬i<v.gD.length:=V;have e1:v.gD.drop i=[]:=jM V;have e2:v.gD.take i=v.gD:=oL V;have e3:v.ar.take i=v.ar:=oL V;simp[aj,aO eJ,e1,e2,e3,w,bu.m_,Rd.go]
 |succ e ih=>
  intro i r u ag hi g c p;have h3:i<v.gD.length:=V;have⟨a,A,ha'⟩:=aS (l:=v.gD) (i:=i) h3;have⟨y,T,hy'⟩:=aS (l:=v.ar) (i:=i) V;have hw:=aR (i:=i) V;have h:dh Y ((d:Int)+1 -1)=(d:Int):=by rw[cF V];omega
  have tN:v.gD.take (i+1)=v.gD.take i++[a]:=by rw[wx,A];rfl
  have tP:v.ar.take (i+1)=v.ar.take i++[y]:=by rw[wx,T];rfl
  have lN:(v.gD.take i).length=i:=by grind
  have lP:(v.ar.take i).length=i:=by grind
  rw[bf A,bf T,bu.m_]at p⊢;rw[s_,s_]at p;have R1:=p.go;have R2:=R1.go;have har:=k a (gM A);have ea:((a.toNat:Nat):Int)=a:=V;have E:NO [] (v.gD.take i++[a])=G:=by grind [Rd.adE,List.take_append_drop]
  have hm:(jc S j (c.go (cJ a.toNat).length) z (vbI (S.length+1) (v.gD.take i) (v.ar.take i)))[S.length+1]? =J (.M [.I Y 6,.I Y 0,.S [],.aw,bO (S.length+1) 0 1 (Mp (v.gD.take i)),bO (S.length+1) 1 6 (An (v.ar.take i))] (iL i i) O):=by rw[qm];unfold vbI;grind
  have c1:=oP (sR g c z (vbI (S.length+1) (v.gD.take i) (v.ar.take i))) V p;rw[wh g,ea]at c1;have⟨v1,t1,S1,t2,a1,s⟩:=aCt (sz:=1) (es:=Mp (v.gD.take i)) (x:=[.I U a]) (n:=i) (o:=4) ag hm (by simp;omega) V ca (by rw[<-ad3];exact T5 _);rw[rz,<-ad3]at s;have b1:de.M (aQ [.I Y 6,.I Y 0,.S [],.aw,bO (S.length+1) 0 1 (Mp (v.gD.take i)),bO (S.length+1) 1 6 (An (v.ar.take i))] 4 [bO (S.length+1) 0 1 (Mp (v.gD.take i++[a]))]) (iL (i+1) i) O=
   .M [.I Y 6,.I Y 0,.S [],.aw,bO (S.length+1) 0 1 (Mp (v.gD.take i++[a])),bO (S.length+1) 1 6 (An (v.ar.take i))] (iL (i+1) i) O:=rfl
  rw[b1]at s;have t:=Ho (v.gD.take i++[a]) (by grind) (jc S j (c.go (cJ a.toNat).length) z (.M [.I Y 6,.I Y 0,.S [],.aw,bO (S.length+1) 0 1 (Mp (v.gD.take i++[a])),bO (S.length+1) 1 6 (An (v.ar.take i))] (iL (i+1) i) O));have m:(v.gD.take i++[a]).length<=12:=by grind
  rw[E,decide_eq_true m]at t;have c3:=hF y (gM T) _ _ _ (sR g (c.go (cJ a.toNat).length) z (.M [.I Y 6,.I Y 0,.S [],.aw,bO (S.length+1) 0 1 (Mp (v.gD.take i++[a])),bO (S.length+1) 1 6 (An (v.ar.take i))] (iL (i+1) i) O)) R1;rw[wh g]at c3;have I:=qm S j ((c.go (cJ a.toNat).length).go y.bytes.length) z (.M [.I Y 6,.I Y 0,.S [],.aw,bO (S.length+1) 0 1 (Mp (v.gD.take i++[a])),bO (S.length+1) 1 6 (An (v.ar.take i))] (iL (i+1) i) O);have⟨v3,t3,S3,t4,d1,q⟩:=aun (sz:=6) (es:=An (v.ar.take i)) (x:=y.aq) (n:=i) (o:=5) t2 I (by simp;omega) V ca (by rw[<-OI];exact H3 _);rw[rz,<-OI]at q;have b2:de.M (aQ [.I Y 6,.I Y 0,.S [],.aw,bO (S.length+1) 0 1 (Mp (v.gD.take i++[a])),bO (S.length+1) 1 6 (An (v.ar.take i))] 5 [bO (S.length+1) 1 6 (An (v.ar.take i++[y]))]) (iL (i+1) (i+1)) O=
   vbI (S.length+1) (v.gD.take (i+1)) (v.ar.take (i+1)):=by
   simp_all[vbI,aQ]
  rw[b2]at q;have es:(c.go (cJ a.toNat).length).go y.bytes.length=c.go ((cJ a.toNat).length+y.bytes.length):=ca;have⟨aT,P⟩:=ih (i+1) r u t4 V g _ R2;refine⟨aT, ?_⟩;rw[(by simp[Rd.go,Et]:(((c.go (cJ a.toNat).length).go y.bytes.length).go (bu.m_ (v.gD.drop (i+1)) (v.ar.drop (i+1))).length)=c.go (cJ a.toNat++(y.bytes++bu.m_ (v.gD.drop (i+1)) (v.ar.drop (i+1)))).length)]at P;have l0:aX (jc S j c z (vbI (S.length+1) (v.gD.take i) (v.ar.take i))) .C (.P (S.length+1) 0)=J (.I Y 6):=oD ..;have l3:∀f,aX (jc S j f z (vbI (S.length+1) (v.gD.take i) (v.ar.take i))) .C (.P (S.length+1) 4)=J (bO (S.length+1) 0 1 (Mp (v.gD.take i))):=λf=>oD ..;have nn:mO 1 (Mp (v.gD.take i++[a]))=nd (v.gD.take i++[a]):=rfl;have bo:=Q4 y;have fb:=auo a;simp only[es]at d1 q;rw[aj,aO eJ];simp at P hw h t bo;simp[h3,l0,l3,c1,fb,a1,s,(λf b=>oD .. :∀f b,aX (jc S j f z (.M [.I Y 6,.I Y 0,.S [],.aw,bO (S.length+1) 0 1 b,bO (S.length+1) 1 6 (An (v.ar.take i))] (iL (i+1) i) O)) .C (.P (S.length+1) 4)=J (bO (S.length+1) 0 1 b)),Wn,Wo,Wp,Mq,nn,t,bT,(λf b=>oD .. :∀f b,aX (jc S j f z (.M [.I Y 6,.I Y 0,.S [],.aw,bO (S.length+1) 0 1 b,bO (S.length+1) 1 6 (An (v.ar.take i))] (iL (i+1) i) O)) .C (.P (S.length+1) 5)=J (bO (S.length+1) 1 6 (An (v.ar.take i)))),h,c3,bo,d1,q];rw[ab eJ];simp[hw,P]
end
def Ax(k n:Int)(s:X)(a b c:Q)(f:List X)(e:List Int)(ps:List bu)(g:eE a=dN f)(h:eE b=nd e)(i:eE c=pL ps):
 cj (.A [.I Y k,.I Y n,.S s,a,b,c])=.A (bu.mk k n s f e ps).aq:=by
 rw[bu.jT];show AV.A [_,_,_,eE a,eE b,eE c]=_;rw[g,h,i];rfl
def Mr(a:List X):eE (fc 1 (tx a))=dN a:=sx 1 _
def afT(a:List Int):eE (fc 1 (Mp a))=nd a:=sx 1 _
def T6(a:List bu):eE (fc 6 (An a))=pL a:=sx 6 _
def JB(k n:Int)(s:X):de:=.M [.I Y k,.I Y n,.S s,.aw,.aw,.aw] [] O
theorem fW{n:Nat}(cs:K)(h:cs.length=n):dG (.A n) cs 0=J (.A (cs.map aV)):=by grind [dG,sub]
def ak3:∀(d:Nat)(v:bu),v.Wf->v.bB d=G->d<1000->∀(S:Z)(j:Nat)(r:Rd)(u:X),S[j]? =J (fY j r)->r_ r (v.bytes++u)->
 W N C 191 [.P j 0,.I Y (d:Int)] S=J (.A v.aq,S.set j (fY j (r.go v.bytes.length))):=by
 intro d;induction d with
 |zero=>nofun
 |succ d ih=>
  intro v hv h hd S j r u hS hr;have a:=bu.ie h;have hj:j<S.length:=(mo.1 hS).1;have lb:=v.o_;rw[lb]at hr;have R1:=hr.go1;have hS1:∀b,(S++[b])[j]? =J (fY j r):=λb=>dL _ hS;have I:=Ki (hS1 (.M ah [] O)) hr;rw[iw _ hj]at I;have hk:((cw v.ak.toNat).toNat:Int)=v.ak:=by have:=a.ak;rw[qE];omega
  rw[hk]at I;have wk:dh Y v.ak=v.ak:=by have:=a.ak;exact cF V
  have T1:(S.set j (fY j (r.go 1))).length=S.length:=ca;have sg:=λg z b=>sR hS g z b;have ss:=λg r'' z b=>wh hS g r'' z b;have e0:∀c,S.set j (fY j (r.go 1))++[.M ah [] O,c]=jc S j (r.go 1) (.M ah [] O) c:=λ_=>rfl;have tkS:∀g z b,(jc S j g z b).take S.length=S.set j (fY j g):=λg z b=>by grind [jc,oL]
  have d0:¬((d:Int)+1=0):=V;have b0:ec .neq (.kv fV) G .dj .dj=J (.B O):=rfl;have fk:∀k:Int,dk ah [(0,1,.I Y k)]=J [.I Y k,.I Y 0,.S [],.aw,.aw,.aw]:=λ_=>rfl;have er:=λ{g:Rd}{u':X}(z b:de)(h':r_ g u')=>AX (sg g z b) h';have st0:∀k:Int,ba [] S.length (S.set j (fY j (r.go 1))++[.M ah [] O,.M ah [] O]) 6 (.P (S.length+1) 0) (.A [.I Y k,.I Y 0,.S [],.aw,.aw,.aw])=J ([],jc S j (r.go 1) (.M ah [] O) (JB k 0 [])):=λk=>by rw[PW T1 rfl];rfl
  have stN:∀g k m s s',ba [] S.length (jc S j g (.M ah [] O) (JB k m s)) 1 (.P (S.length+1) 2) (.S s')=J ([],jc S j g (.M ah [] O) (JB k m s')):=λg k m s s'=>by unfold jc;rw[stT (ud S j g) (Vd s')];rfl
  have stM:∀g k m s(m':Int),ba [] S.length (jc S j g (.M ah [] O) (JB k m s)) 1 (.P (S.length+1) 1) (.I Y m')=J ([],jc S j g (.M ah [] O) (JB k m' s)):=λg k m s m'=>by unfold jc;rw[stT (ud S j g) (z9 Y m')];rfl
  have fin:∀(i:bV) g(p:K) bt,p.length=6->dJ (p.map aV)=G->ba i S.length (jc S j g (.M ah [] O) (.M p bt O)) 6 (.P S.length 0) (.A (p.map aV))=J (i,jc S j g (.M (p.map aV) [] O) (.M p bt O)):=λi g p bt hc hp=>by simp_all[jc,Bu]
  have la:∀g z(p:K) bt,p.length=6->aX (jc S j g z (.M p bt O)) (.A 6) (.P (S.length+1) 0)=J (.A (p.map aV)):=λg z p bt hc=>by rw[oD];exact fW p hc
  have lz:∀g(p:K) b,p.length=6->(p.map aV).map aV=p.map aV->aX (jc S j g (.M (p.map aV) [] O) b) (.A 6) (.P S.length 0)=J (.A (p.map aV)):=λg p b hc hs=>by simp_all[jc,lT0,fW]
  have l0:∀g k n s,aX (jc S j g (.M ah [] O) (JB k n s)) .C (.P (S.length+1) 0)=J (.I Y k):=λg k n s=>oD ..;have lp0:∀g k n s,DC N C (.L vM) ⟨[(0,.P j 0),(1,.I Y ((d:Int)+1)),(4,.P S.length 0),(5,.P (S.length+1) 0),(51,.I Y 0),(52,.I Y 0)],[],S.length⟩ (jc S j g (.M ah [] O) (JB k n s))=
   J (.E 1,⟨[(0,.P j 0),(4,.P S.length 0),(5,.P (S.length+1) 0)],[],S.length⟩,jc S j g (.M ah [] O) (JB k n s)):=λg k n s=>by
   simp[aj,aO eJ]
  have res:∀g(i:bV)(p:K)(w:bu),cj (.A (p.map aV))=.A w.aq->dv 191 i [.A (p.map aV)] S (jc S j g (.M (p.map aV) [] O) (.M p [] O))=J (.A w.aq,S.set j (fY j g)):=λg i p w y=>by simp[tE,y,cI,tkS]
  have aCx:∀g(i:bV)(p:K) bt(w:bu),cj (.A (p.map aV))=.A w.aq->dv 191 i [.A (p.map aV)] S (jc S j g (.M (p.map aV) [] O) (.M p bt O))=J (.A w.aq,S.set j (fY j g)):=λg i p bt w y=>by rw[tE,y];simp[cI,tkS]
  have vs:∀k n s,[AV.I Y k,.I Y n,.S s,.aw,.aw,.aw].map aV=[.I Y k,.I Y n,.S s,.aw,.aw,.aw]:=λ_ _ _=>rfl;have E:∀g k n s,ba [] S.length (jc S j g (.M ah [] O) (JB k n s)) 6 (.P S.length 0) (.A [.I Y k,.I Y n,.S s,.aw,.aw,.aw])=J ([],jc S j g (JB k n s) (JB k n s)):=λg k n s=>fin [] g [.I Y k,.I Y n,.S s,.aw,.aw,.aw] [] rfl rfl;have la0:∀g k n s,aX (jc S j g (.M ah [] O) (JB k n s)) (.A 6) (.P (S.length+1) 0)=J (.A [.I Y k,.I Y n,.S s,.aw,.aw,.aw]):=λg k n s=>la g (.M ah [] O) [.I Y k,.I Y n,.S s,.aw,.aw,.aw] [] rfl;have lz0:∀g k n s,aX (jc S j g (JB k n s) (JB k n s)) (.A 6) (.P S.length 0)=J (.A [.I Y k,.I Y n,.S s,.aw,.aw,.aw]):=λg k n s=>lz g [.I Y k,.I Y n,.S s,.aw,.aw,.aw] (JB k n s) rfl rfl;have aoH:∀g k n s(w:bu),cj (.A [.I Y k,.I Y n,.S s,.aw,.aw,.aw])=.A w.aq->dv 191 [] [.A [.I Y k,.I Y n,.S s,.aw,.aw,.aw]] S (jc S j g (JB k n s) (JB k n s))=J (.A w.aq,S.set j (fY j g)):=λg k n s w y=>res g [] [.I Y k,.I Y n,.S s,.aw,.aw,.aw] w y;rw[jN az6];have T2:(S.set j (fY j (r.go 1))++[de.M ah [] O]).length=S.length+1:=ca;have l:=er (.M ah [] O) (JB v.ak 0 []) R1;rcases a.ak with k|k|k|k|k|k
  ·have⟨h1,h2,h3⟩:=a.bare V V
   have hn:=a.n1 k;have T:=a.s0 V V;have ev:bu.mk 1 v.n [] [] [] []=v:=bu.ux k rfl T h1 h2 h3;have eb:v.bytes=[cw v.ak.toNat]++[if ck (v.n=1)=G then(1:UInt8)else 0]:=by rw[lb,if_pos k];rcases hn with e|e<;>rw[e]<;>rfl
   have o:r_ (r.go 1) ((if ck (v.n=1)=G then 1 else 0)::u):=by have:=hr;rw[<-lb,eb]at this;exact this.go1
   have q:=aoF (sg (r.go 1) (.M ah [] O) (JB 1 0 [])) o;rw[ss]at q;have R2:=o.go1;have y:=Ax 1 v.n [] .aw .aw .aw [] [] [] rfl rfl rfl;rw[ev]at y;have t:=aoH ((r.go 1).go 1) 1 v.n [] v y;have f:=er (.M ah [] O) (JB 1 v.n []) R2;rw[k]at I wk l;rw[eb];rcases hn with e|e
   ·rw[e]at q t f
    simp at q t f;simp[d0,I,wk,fk,st0,l,b0,l0,q];rw[ab eJ];simp[lp0,f,b0,la0,E,lz0,t]
   ·rw[e]at q t f
    simp at q t f;simp[d0,I,wk,fk,st0,l,b0,l0,q,stM,e];rw[ab eJ];simp[lp0,f,b0,la0,E,lz0,t]
  ·have⟨h1,h2,h3⟩:=a.bare V V
   have T:=a.s0 V V;have ev:bu.mk 2 v.n [] [] [] []=v:=bu.ux k rfl T h1 h2 h3;have eb:v.bytes=[cw v.ak.toNat]++ye v.n:=by simp_all[if_pos]
   have o:r_ (r.go 1) (ye v.n++u):=by have:=hr;rw[<-lb,eb]at this;exact this.go1
   have q:=aum (sg (r.go 1) (.M ah [] O) (JB 2 0 [])) hv.one.n0 hv.one.n1 o;rw[ss]at q;have R2:=o.go;have y:=Ax 2 v.n [] .aw .aw .aw [] [] [] rfl rfl rfl;rw[ev]at y;have t:=aoH ((r.go 1).go (ye v.n).length) 2 v.n [] v y;have f:=er (.M ah [] O) (JB 2 v.n []) R2;rw[k]at I wk l;rw[eb];simp at q t f;simp[d0,I,wk,fk,st0,l,b0,l0,q,stM];rw[ab eJ];simp[lp0,f,b0,la0,E,lz0,t]
   grind
  ·have⟨h1,h2,h3⟩:=a.bare V V
   have P:=a.n0 V V;have ev:bu.mk 3 0 v.s [] [] []=v:=bu.ux k P rfl h1 h2 h3;have eb:v.bytes=[cw v.ak.toNat]++a_ v.s:=by simp_all[if_pos]
   have o:r_ (r.go 1) (a_ v.s++u):=by have:=hr;rw[<-lb,eb]at this;exact this.go1
   have q:=KW (sg (r.go 1) (.M ah [] O) (JB 3 0 [])) (a.s3 k) o;rw[ss]at q;have R2:=o.go;have y:=Ax 3 0 v.s .aw .aw .aw [] [] [] rfl rfl rfl;rw[ev]at y;have t:=aoH ((r.go 1).go (a_ v.s).length) 3 0 v.s v y;have f:=er (.M ah [] O) (JB 3 0 v.s) R2;rw[k]at I wk l;rw[eb];simp at q t f;simp[d0,I,wk,fk,st0,l,b0,l0,q,stN];rw[ab eJ];simp[lp0,f,b0,la0,E,lz0,t]
   grind
  ·have⟨h1,h2,h3⟩:=a.bare V V
   have P:=a.n0 V V;have ev:bu.mk 4 0 v.s [] [] []=v:=bu.ux k P rfl h1 h2 h3;have eb:v.bytes=[cw v.ak.toNat]++a_ v.s:=by simp_all[if_pos]
   have o:r_ (r.go 1) (a_ v.s++u):=by have:=hr;rw[<-lb,eb]at this;exact this.go1
   have q:=ad2 (sg (r.go 1) (.M ah [] O) (JB 4 0 [])) (a.s4 k) o;rw[ss]at q;have R2:=o.go;have y:=Ax 4 0 v.s .aw .aw .aw [] [] [] rfl rfl rfl;rw[ev]at y;have t:=aoH ((r.go 1).go (a_ v.s).length) 4 0 v.s v y;have f:=er (.M ah [] O) (JB 4 0 v.s) R2;rw[k]at I wk l;rw[eb];simp at q t f;simp[d0,I,wk,fk,st0,l,b0,l0,q,stN];rw[ab eJ];simp[lp0,f,b0,la0,E,lz0,t]
   grind
  ·have h5:=a.k5 k
   have P:=a.n0 V V;have T:=a.s0 V V;have ev:bu.mk 5 0 [] v.bk [] v.ar=v:=bu.ux k P T rfl h5.1 rfl;have eb:v.bytes=[cw v.ak.toNat]++(cJ v.ar.length++bu.eO v.bk v.ar):=by simp_all[if_pos]
   have o:r_ (r.go 1) (cJ v.ar.length++(bu.eO v.bk v.ar++u)):=by simp_all[s_]
   have q:=Y1 (sg (r.go 1) (.M ah [] O) (JB 5 0 [])) 8 V V o;rw[ss]at q;have R2:=o.go;have⟨i,lp⟩:=Q3 (S:=S) (j:=j) (d:=d) (.M ah [] O) v h5.2.2.2 h5.2.1 h5.2.2.1 V (λx hx S r u h1 h2=>ih x (hv.all x hx) (a.all x hx) V S j r u h1 h2) v.bk.length 0 r u [] V hS _ R2;have R3:=R2.go;have hvb:vbN (S.length+1) v.bk v.ar=.M [.I Y 5,.I Y 0,.S [],bO (S.length+1) 0 1 (tx v.bk),.aw,bO (S.length+1) 1 6 (An v.ar)] (iL v.bk.length v.ar.length) O:=rfl;have WK:[AV.I Y 5,.I Y 0,.S [],bO (S.length+1) 0 1 (tx v.bk),.aw,bO (S.length+1) 1 6 (An v.ar)].map aV=[.I Y 5,.I Y 0,.S [],fc 1 (tx v.bk),.aw,fc 6 (An v.ar)]:=by simp_all[sw]
   have q1:=p8 (sz:=1) (Di v.bk);have q2:=p8 (sz:=6) (H3 v.ar);have OY:dJ ([AV.I Y 5,.I Y 0,.S [],bO (S.length+1) 0 1 (tx v.bk),.aw,bO (S.length+1) 1 6 (An v.ar)].map aV)=G:=by simp_all[dJ,br]
   have hss:([AV.I Y 5,.I Y 0,.S [],bO (S.length+1) 0 1 (tx v.bk),.aw,bO (S.length+1) 1 6 (An v.ar)].map aV).map aV=[AV.I Y 5,.I Y 0,.S [],bO (S.length+1) 0 1 (tx v.bk),.aw,bO (S.length+1) 1 6 (An v.ar)].map aV:=by simp_all[U1]
   have y:=Ax 5 0 [] (fc 1 (tx v.bk)) .aw (fc 6 (An v.ar)) v.bk [] v.ar (Mr _) rfl (T6 _);rw[ev]at y;have t:=aCx (((r.go 1).go (cJ v.ar.length).length).go (bu.eO v.bk v.ar).length) i _ (iL v.bk.length v.ar.length) v (by rw[WK];exact y);have f:=er (.M ah [] O) (vbN (S.length+1) v.bk v.ar) R3;have f2:=fin i (((r.go 1).go (cJ v.ar.length).length).go (bu.eO v.bk v.ar).length) _ (iL v.bk.length v.ar.length) rfl OY;have l2:=la (((r.go 1).go (cJ v.ar.length).length).go (bu.eO v.bk v.ar).length) (.M ah [] O) [.I Y 5,.I Y 0,.S [],bO (S.length+1) 0 1 (tx v.bk),.aw,bO (S.length+1) 1 6 (An v.ar)] (iL v.bk.length v.ar.length) rfl;have A:=lz (((r.go 1).go (cJ v.ar.length).length).go (bu.eO v.bk v.ar).length) _ (vbN (S.length+1) v.bk v.ar) rfl hss;rw[<-hvb]at l2 t f2;simp only[WK]at f2 l2 A t;have v00:vbN (S.length+1) [] []=JB 5 0 []:=rfl;rw[k]at I wk l;rw[eb];rw[h5.2.1]at q lp f f2 l2 A t⊢;simp[v00]at q lp f f2 l2 A t;simp[d0,I,wk,fk,st0,l,b0,l0,q];rw[ab eJ];simp[lp,f,b0,l2,f2,A,t]
   grind
  ·have h6:=a.k6 k
   have P:=a.n0 V V;have T:=a.s0 V V;have ev:bu.mk 6 0 [] [] v.gD v.ar=v:=bu.ux k P T h6.1 rfl rfl;have o:r_ (r.go 1) (cJ v.ar.length++(bu.m_ v.gD v.ar++u)):=by simp_all[s_]
   have q:=Y1 (sg (r.go 1) (.M ah [] O) (JB 6 0 [])) 12 V V o;rw[ss]at q;have R2:=o.go;have⟨i,lp⟩:=Q5 (S:=S) (j:=j) (d:=d) (.M ah [] O) v h6.2.2.2 h6.2.1 h6.2.2.1 hv.one.id V (λx hx S r u h1 h2=>ih x (hv.all x hx) (a.all x hx) V S j r u h1 h2) v.gD.length 0 r u [] V hS _ R2;have R3:=R2.go;have hvb:vbI (S.length+1) v.gD v.ar=.M [.I Y 6,.I Y 0,.S [],.aw,bO (S.length+1) 0 1 (Mp v.gD),bO (S.length+1) 1 6 (An v.ar)] (iL v.gD.length v.ar.length) O:=rfl;have WK:[AV.I Y 6,.I Y 0,.S [],.aw,bO (S.length+1) 0 1 (Mp v.gD),bO (S.length+1) 1 6 (An v.ar)].map aV=[.I Y 6,.I Y 0,.S [],.aw,fc 1 (Mp v.gD),fc 6 (An v.ar)]:=by simp_all[sw]
   have q1:=p8 (sz:=1) (T5 v.gD);have q2:=p8 (sz:=6) (H3 v.ar);have OY:dJ ([AV.I Y 6,.I Y 0,.S [],.aw,bO (S.length+1) 0 1 (Mp v.gD),bO (S.length+1) 1 6 (An v.ar)].map aV)=G:=by simp_all[dJ,br]
   have hss:([AV.I Y 6,.I Y 0,.S [],.aw,bO (S.length+1) 0 1 (Mp v.gD),bO (S.length+1) 1 6 (An v.ar)].map aV).map aV=[AV.I Y 6,.I Y 0,.S [],.aw,bO (S.length+1) 0 1 (Mp v.gD),bO (S.length+1) 1 6 (An v.ar)].map aV:=by simp_all[U1]
   have y:=Ax 6 0 [] .aw (fc 1 (Mp v.gD)) (fc 6 (An v.ar)) [] v.gD v.ar rfl (afT _) (T6 _);rw[ev]at y;have t:=aCx (((r.go 1).go (cJ v.ar.length).length).go (bu.m_ v.gD v.ar).length) i _ (iL v.gD.length v.ar.length) v (by rw[WK];exact y);have f:=er (.M ah [] O) (vbI (S.length+1) v.gD v.ar) R3;have f2:=fin i (((r.go 1).go (cJ v.ar.length).length).go (bu.m_ v.gD v.ar).length) _ (iL v.gD.length v.ar.length) rfl OY;have l2:=la (((r.go 1).go (cJ v.ar.length).length).go (bu.m_ v.gD v.ar).length) (.M ah [] O) [.I Y 6,.I Y 0,.S [],.aw,bO (S.length+1) 0 1 (Mp v.gD),bO (S.length+1) 1 6 (An v.ar)] (iL v.gD.length v.ar.length) rfl;have A:=lz (((r.go 1).go (cJ v.ar.length).length).go (bu.m_ v.gD v.ar).length) _ (vbI (S.length+1) v.gD v.ar) rfl hss;rw[<-hvb]at l2 t f2;simp only[WK]at f2 l2 A t;have v00:vbI (S.length+1) [] []=JB 6 0 []:=rfl;rw[k]at I wk l;rw[(by simp_all[if_neg]:v.bytes=[UInt8.ofNat v.ak.toNat]++(cJ v.ar.length++bu.m_ v.gD v.ar))];rw[h6.2.1]at q lp f f2 l2 A t⊢;simp[v00]at q lp f f2 l2 A t;simp[d0,I,wk,fk,st0,l,b0,l0,q];rw[ab eJ];simp[lp,f,b0,l2,f2,A,t]
   grind
end
def K4{S:Z}{j:Nat}{r:Rd}{u:X}(v:bu)(i:v.Wf)(h:v.bB 5=G)(d:S[j]? =J (fY j r))(f:r_ r (v.bytes++u)):
 W N C 115 [.P j 0] S=J (.A v.aq,S.set j (fY j (r.go v.bytes.length))):=by
 have e:=ak3 5 v i h V (S++[.M ah [] O]) j r u (dL _ d) f;rw[iw _ ((mo.1 d).1)]at e;have c:(S.set j (fY j (r.go v.bytes.length))).length=S.length:=ca;have m:=Bu c (bu.jh v).br [.M ah [] O] 0 [] S.length 6;have l:aX (S.set j (fY j (r.go v.bytes.length))++[.M v.aq [] O]) (.A 6) (.P S.length 0)=J (.A v.aq):=by rw[lT0 c];simp
 have k:∀b a,(S.set j b++a).take S.length=S.set j b:=λb a=>by simp
 have g:aQ ah 0 v.aq=v.aq:=dX ca;rw[jC aB1];simp_all
def aa0(sz:Nat)(es:kp):Q:=if es=[]then .aw else .sl .gF sz es
def Kg(sz:Nat)(tX:Q)(ag:bV)(es:kp):Prop:=(es=[]/\tX=.aw/\ag=[])\/(es≠[]/\tX=.sl (.fr 0) sz es/\ag=[J es.length])
theorem Kg.nil(sz:Nat):Kg sz .aw [] []:=.inl ⟨rfl,rfl,rfl⟩
def Kg.app{sz:Nat}{a:Q}{ag:bV}{es:kp}(h:Kg sz a ag es)(x:K)(e:es.length<1000000)(S:Z):
 ∃b c,eK sz ag S a (.sl .X sz [x])=J (b,c,S)/\Kg sz b c (es++[x]):=by
 rcases h with⟨rfl,rfl,rfl⟩|⟨f,rfl,rfl⟩;·exact⟨.sl (.fr 0) sz [x],[J 1],by simp[eK,bZ],.inr ⟨by simp,rfl,rfl⟩⟩
 ·have d:¬(2^30<es.length+1):=V
  refine⟨.sl (.fr 0) sz (es++[x]),[J (es.length+1)],by simp[eK,bZ,d],.inr ⟨by simp,rfl,by simp⟩⟩
def Kg.res{sz:Nat}{a:Q}{ag:bV}{es:kp}(h:Kg sz a ag es)(c:eS es=G):∃t,bm ag a=(aa0 sz es,t)/\cI a=G/\cj a=a/\aG (aa0 sz es)=G:=by
 rcases h with⟨rfl,rfl,rfl⟩|⟨b,rfl,rfl⟩;·exact⟨[],rfl,rfl,rfl,rfl⟩
 simp_all[AN,aa0]
def ahY{T:Z}{i sz:Nat}{cs:K}{o:Nat}(es:kp)(bt ag:bV)(d:T[i]? =J (.M cs bt O))(e:o+1<=cs.length)(f:eS es=G)(nb:Nat)(b:nb<=i):
 ∃v t c,aY ag (aa0 sz es)=(v,t)/\ba t nb T 1 (.P i o) v=J (c,T.set i (.M (aQ cs o [bO i bt.length sz es]) (if es=[]then bt else bt++[J es.length]) O)):=by
 by_cases a:es=[]
 ·subst a
  refine⟨.aw,ag,ag,rfl, ?_⟩
  grind [ba,aW,AV.cells,k7,bO]
 ·refine⟨.sl (.fr ag.length) sz es,ag++[J es.length],ag++[D],by simp[aa0,a,aY,dx], ?_⟩
  grind [ba,aW,AV.cells,k7,bO]
def aoI{S:Z}{j:Nat}{r:Rd}{u:X}(s:fC)(q:s.Wf)(h:tQ s=G)(l:S[j]? =J (fY j r))(m:r_ r (nJ s++u)):
 W N C 190 [.P j 0] S=J (.A s.aq,S.set j (fY j (r.go (nJ s).length))):=by
 have hl:s.name.length<=64:=by grind [tQ,iu]
 unfold nJ at m;rw[s_]at m;have f:=KW (dL [.M [.S [],.I U 0] [] O] l) hl m;rw[iw _ ((mo.1 l).1)]at f;have y:=m.go;have T1:∀b,(S.set j b).length=S.length:=λb=>by simp
 have w:∀b a,(S.set j b++a).take S.length=S.set j b:=λb a=>by simp
 have A:∀x:X,dk [.S [],.I U 0] [(0,1,.S x)]=J [.S x,.I U 0]:=λ_=>rfl;have t:∀x:X,ba [] S.length (S.set j (fY j (r.go (a_ s.name).length))++[.M [.S [],.I U 0] [] O,.M [.S [],.I U 0] [] O]) 2 (.P (S.length+1) 0) (.A [.S x,.I U 0])=J ([],jc S j (r.go (a_ s.name).length) (.M [.S [],.I U 0] [] O) (.M [.S x,.I U 0] [] O)):=λx=>by rw[PW (T1 _) rfl];rfl
 have v:∀d x(n:Int),ba [] S.length (jc S j d (.M [.S [],.I U 0] [] O) (.M [.S x,.I U 0] [] O)) 1 (.P (S.length+1) 1) (.I U n)=J ([],jc S j d (.M [.S [],.I U 0] [] O) (.M [.S x,.I U n] [] O)):=λd x n=>by unfold jc;rw[stT (ud S j d) (z9 U n)];rfl
 have I:∀d x n,aX (jc S j d (.M [.S [],.I U 0] [] O) (.M [.S x,.I U n] [] O)) .C (.P (S.length+1) 0)=J (.S x):=λd x n=>oD ..;have P:∀d x n,aX (jc S j d (.M [.S [],.I U 0] [] O) (.M [.S x,.I U n] [] O)) (.A 2) (.P (S.length+1) 0)=J (.A [.S x,.I U n]):=λd x n=>oD ..;have g:∀d x(n:Int),ba [] S.length (jc S j d (.M [.S [],.I U 0] [] O) (.M [.S x,.I U n] [] O)) 2 (.P S.length 0) (.A [.S x,.I U n])=J ([],jc S j d (.M [.S x,.I U n] [] O) (.M [.S x,.I U n] [] O)):=λd x n=>by unfold jc;rw[Bu (ud S j d) rfl];rfl
 have T:∀d x n b,aX (jc S j d (.M [.S x,.I U n] [] O) b) (.A 2) (.P S.length 0)=J (.A [.S x,.I U n]):=λd x n b=>by unfold jc;rw[lT0 (ud S j d)];rfl
 have i:∀d z b,(jc S j d z b).take S.length=S.set j (fY j d):=λd z b=>w _ _;have c:=No s q;rw[h]at c;have en:s.aq=[.S s.name,.I U s.id]:=rfl;rw[en]at c⊢;have e:cU [AV.S s.name,.I U s.id]:=ca;rw[jC az5];by_cases E:s.name=[]
 ·rw[if_pos E]at y
  have k:=oP (sR l (r.go (a_ s.name).length) (.M [.S [],.I U 0] [] O) (.M [.S [],.I U 0] [] O)) (n:=s.id.toNat) (by have:=q.id1;omega) y;rw[wh l,(by have:=q.id0;omega:((s.id.toNat:Nat):Int)=s.id)]at k;have es:nJ s=a_ s.name++cJ s.id.toNat:=by unfold nJ;simp_all
  rw[es];rw[E]at f k t c e⊢;simp at f k c;simp[f,A,t,I,k,v,P,c,bT,g,T,i,e]
 ·have p:s.name.isEmpty=O:=by simp_all
  have o:s.id=0:=by grind [tQ]
  rw[(by unfold nJ;simp_all:nJ s=a_ s.name)];rw[o]at c e⊢;simp[f,A,t,I,p,P,c,bT,g,T,i,e]
def Nx(p:List fC):kp:=p.map fC.aq
def Ms(l:List fC):eS (Nx l)=G:=kC.2 λx a=>by obtain⟨s,_,rfl⟩:=zK.1 a;rfl
@[simp]def aD3(l:List fC):(Nx l).length=l.length:=by simp[Nx]
def aoJ{S:Z}{j:Nat}{r:Rd}{u:X}(p:List fC)(hs:∀s∈p,s.Wf)(h:zV p=G)(o:S[j]? =J (fY j r))(z:r_ r (og p++u)):
 W N C 114 [.P j 0] S=J (aa0 2 (Nx p),S.set j (fY j (r.go (og p).length))):=by
 have x:=h;unfold zV at x;simp only[mz,decide_eq_true_eq]at x;have P:og p=cJ p.length++p.flatMap nJ:=rfl;rw[P,s_]at z;have I:=z.go;have E:∀d i(k:Rd)(g:Q)(e:bV),i+d=p.length->r_ k ((p.drop i).flatMap nJ++u)->Kg 2 g e (Nx (p.take i))->
  ∃c a,Kg 2 c a (Nx p)/\DC N C (.L IT) ⟨[(0,.P j 0),(3,.I U (p.length:Int)),(4,g),(5,.I U (i:Int))],e,S.length⟩ (S.set j (fY j k))=
   J (.E 0,⟨[(0,.P j 0),(4,c)],a,S.length⟩,S.set j (fY j (k.go ((p.drop i).flatMap nJ).length))):=by
  intro d;induction d with
  |zero=>
   intro i k g e hi f q;rw[(oL V:p.take i=p)]at q;refine⟨g,e,q, ?_⟩;simp[aj,aO rq,(jM V:p.drop i=[]),(V:¬i<p.length),Rd.go]
  |succ d ih=>
   intro i k g e hi f q;have⟨y,A,hy'⟩:=aS (l:=p) (i:=i) V;have T:dh U ((i:Int)+1)=((i+1:Nat):Int):=by show((i:Int)+1)%2^64=_;omega
   have ym:=gM A;rw[bf A,EI]at f⊢;rw[s_]at f;have m:=AX (LP o k) f;have v:=aoI y (hs y ym) (AF.1 x.2 y ym) (LP o k) f;rw[U0]at v;have⟨o2,t2,a1,a2⟩:=q.app y.aq (by simp;omega) (S.set j (fY j (k.go (nJ y).length)));have⟨c,a,n1,n2⟩:=ih (i+1) (k.go (nJ y).length) o2 t2 V f.go (by rw[(by rw[wx,A];rfl:p.take (i+1)=p.take i++[y])];simpa[Nx]using a2);refine⟨c,a,n1, ?_⟩;have bo:fh 2 [[.S [],.I U 0]] [(0,.A y.aq)]=J [y.aq]:=rfl;rw[aj,aO rq];simp at n2 T v;simp[(V:i<p.length),m,(rfl:ec .eql (.kv fV) G .dj .dj=J (.B G)),v,bo,a1];rw[ab rq];simp[T,n2]
 have⟨c,a,g1,w⟩:=E p.length 0 _ .aw [] V I (Kg.nil 2);have⟨t,f1,f2,f3,f4⟩:=g1.res (Ms p);have m:=AX (LP o ((r.go (cJ p.length).length).go ((p.drop 0).flatMap nJ).length)) I.go;rw[jC aB0,P];simp only[uC]at w m;simp at w m;simp[oP o (n:=p.length) V z,(eq_false V:((8:Int)<(p.length:Int))=False)];rw[ab rq];simp[w,m,(rfl:ec .neq (.kv fV) G .dj .dj=J (.B O)),f1,f2,f3,f4,(λb=>oL ca:∀b,(S.set j b).take S.length=S.set j b)]
def zh(k:Int)(row:Q)(id af:Int)(vs:K):K:=[.I Y k,row,.I U id,.I U af]++vs
def aoK{k:Int}{a:Q}{id b:Int}{vs:K}(h:vs.length=6):(zh k a id b vs).length=10:=by simp[zh,h]
def Mt:ah.length=6:=rfl
def K5:ah.map aV=ah:=rfl
def Y2:dJ ah=G:=rfl
def Y3:ah.map eE=sC.aq:=by rfl
def ax4{S:Z}{j:Nat}{r:Rd}{u:X}(o:tu)(ho:o.Wf)(h:Nf o=G)(hS:S[j]? =J (fY j r))(hr:r_ r (zy o++u)):
 W N C 52 [.P j 0] S=J (.A o.aq,S.set j (fY j (r.go (zy o).length))):=by
 have hj:j<S.length:=(mo.1 hS).1;have kr:=QT h;have eb:zy o=cw o.ak.toNat::(og o.fR++((if 1<o.ak then cJ o.id.toNat else[])++((if o.ak=2\/o.ak=4 then cJ o.after.toNat else[])++(if o.ak=1\/o.ak=2 then o.value.bytes else[])))):=rfl;rw[eb]at hr⊢;simp only[FX,s_]at hr;have hS1:∀b,(S++[b])[j]? =J (fY j r):=λb=>dL _ hS;have T:=Ki (hS1 (.M aU [] O)) hr;rw[iw _ hj]at T;have hk:((cw o.ak.toNat).toNat:Int)=o.ak:=by rw[qE];omega
 rw[hk]at T;have wk:dh Y o.ak=o.ak:=cF V;have R1:=hr.go1;have fk:dk aU [(0,1,.I Y o.ak)]=J (zh o.ak .aw 0 0 ah):=rfl;have y:ba [] S.length (S.set j (fY j (r.go 1))++[.M aU [] O,.M aU [] O]) 10 (.P (S.length+1) 0) (.A (zh o.ak .aw 0 0 ah))=J ([],jc S j (r.go 1) (.M aU [] O) (.M (zh o.ak .aw 0 0 ah) [] O)):=by rw[PW ca rfl];rfl
 have sg:=λc b=>sR hS c (.M aU [] O) b;have ss:=λc r'' b=>wh hS c r'' (.M aU [] O) b;have E:=aoJ o.fR ho.fR (Dh h) (sg (r.go 1) (.M (zh o.ak .aw 0 0 ah) [] O)) R1;rw[ss]at E;have z:=R1.go;have⟨v,t1,t2,p1,A⟩:=ahY (sz:=2) (o:=1) (Nx o.fR) [] [] (qm S j ((r.go 1).go (og o.fR).length) (.M aU [] O) (.M (zh o.ak .aw 0 0 ah) [] O)) (by simp[zh]) (Ms _) S.length V;rw[rz]at A;generalize hbt:(if Nx o.fR=[]then([]:bV)else[]++[J (Nx o.fR).length])=i at A;have p3:aQ (zh o.ak .aw 0 0 ah) 1 [bO (S.length+1) ([]:bV).length 2 (Nx o.fR)]=zh o.ak (bO (S.length+1) 0 2 (Nx o.fR)) 0 0 ah:=rfl;rw[p3]at A;generalize RZ:bO (S.length+1) 0 2 (Nx o.fR)=d at*;have hrs:aV d=fc 2 (Nx o.fR):=by rw[<-RZ];exact sw ..
 have q1:=p8 (sz:=2) (Ms o.fR);have l0:∀c k d id g f i,aX (jc S j c (.M aU [] O) (.M (zh k d id g f) i O)) .C (.P (S.length+1) 0)=J (.I Y k):=λ_ _ _ _ _ _ _=>oD ..;have l2:∀c k d id g f i,aX (jc S j c (.M aU [] O) (.M (zh k d id g f) i O)) .C (.P (S.length+1) 2)=J (.I U id):=λ_ _ _ _ _ _ _=>oD ..;have l3:∀c k d id g f i,aX (jc S j c (.M aU [] O) (.M (zh k d id g f) i O)) .C (.P (S.length+1) 3)=J (.I U g):=λ_ _ _ _ _ _ _=>oD ..;have s2:∀a c k d id g f i(x:Int),ba a S.length (jc S j c (.M aU [] O) (.M (zh k d id g f) i O)) 1 (.P (S.length+1) 2) (.I U x)=J (a,jc S j c (.M aU [] O) (.M (zh k d x g f) i O)):=λa c k d id g f i x=>by rw[eH (z9 U x) (qm ..),rz,if_pos ⟨rfl,by simp[zh]⟩];rfl
 have s3:∀a c k d id g f i(x:Int),ba a S.length (jc S j c (.M aU [] O) (.M (zh k d id g f) i O)) 1 (.P (S.length+1) 3) (.I U x)=J (a,jc S j c (.M aU [] O) (.M (zh k d id x f) i O)):=λa c k d id g f i x=>by rw[eH (z9 U x) (qm ..),rz,if_pos ⟨rfl,by simp[zh]⟩];rfl
 have s4:∀a c k d id g i(x:bu),ba a S.length (jc S j c (.M aU [] O) (.M (zh k d id g ah) i O)) 6 (.P (S.length+1) 4) (.A x.aq)=J (a,jc S j c (.M aU [] O) (.M (zh k d id g x.aq) i O)):=λa c k d id g i x=>by
  rw[eH (lj (bu.jh x)) (qm ..),rz,if_pos ⟨by simp,by simp[zh]⟩];have:aQ (zh k d id g ah) 4 (AV.A x.aq).cells=zh k d id g x.aq:=by simp[aQ,zh,AV.cells]
  rw[this]
 have p:∀c id g f,f.length=6->f.map aV=f->aX (jc S j c (.M aU [] O) (.M (zh o.ak d id g f) i O)) (.A 10) (.P (S.length+1) 0)=J (.A (zh o.ak (fc 2 (Nx o.fR)) id g f)):=λc id g f hl hs=>by simp_all[oD,fW,zh]
 have s:∀a c id g f b,f.length=6->dJ f=G->ba a S.length (jc S j c (.M aU [] O) b) 10 (.P S.length 0) (.A (zh o.ak (fc 2 (Nx o.fR)) id g f))=J (a,jc S j c (.M (zh o.ak (fc 2 (Nx o.fR)) id g f) [] O) b):=λa c id g f b hl hp=>by
  unfold jc;have OY:dJ (zh o.ak (fc 2 (Nx o.fR)) id g f)=G:=by simp_all[AR,zh]
  simp_all[Bu,aoK]
 have q:∀c id g f b,f.length=6->f.map aV=f->aX (jc S j c (.M (zh o.ak (fc 2 (Nx o.fR)) id g f) [] O) b) (.A 10) (.P S.length 0)=J (.A (zh o.ak (fc 2 (Nx o.fR)) id g f)):=λc id g f b hl hs=>by simp_all[jc,lT0,fW,zh]
 have nr:∀id g f(w:bu),f.map eE=w.aq->cj (.A (zh o.ak (fc 2 (Nx o.fR)) id g f))=.A (tu.mk o.ak o.fR id g w).aq:=λid g f w P=>by show AV.A ((zh o.ak (fc 2 (Nx o.fR)) id g f).map eE)=_;unfold zh tu.aq;simp only[List.map_append,P];show AV.A ([_,eE (fc 2 (Nx o.fR)),_,_]++_)=_;rw[sx];rfl
 have res:∀a c id g f b(w:bu),f.map eE=w.aq->dv 52 a [.A (zh o.ak (fc 2 (Nx o.fR)) id g f)] S (jc S j c (.M (zh o.ak (fc 2 (Nx o.fR)) id g f) [] O) b)=J (.A (tu.mk o.ak o.fR id g w).aq,S.set j (fY j c)):=λa c id g f b w P=>by
  rw[tE,nr id g f w P];have:(jc S j c (.M (zh o.ak (fc 2 (Nx o.fR)) id g f) [] O) b).take S.length=S.set j (fY j c):=by grind [jc]
  have hd:cU (tu.mk o.ak o.fR id g w).aq:=tu.jh _;simp[cI,this,hd]
 have b0:ec .neq (.kv fV) G .dj .dj=J (.B O):=rfl;have er:=λ{c:Rd}{u':X}(b:de)(h':r_ c u')=>AX (sg c b) h';have vL:o.value.aq.length=6:=ca;have vS:=(bu.jh o.value).jg;have vP:=(bu.jh o.value).br;have vN:=(bu.jh o.value).xi;have hid:((o.id.toNat:Nat):Int)=o.id:=by have:=ho.id0;omega
 have haf:((o.after.toNat:Nat):Int)=o.after:=by have:=ho.af0;omega
 have m:=h;unfold Nf at m;rw[mz]at m;have m:=m.2;rw[jC aG9];rcases kr with k|k|k|k
 ·rw[if_pos k]at m
  simp only[mz,decide_eq_true_eq]at m;simp only[k]at z⊢;simp at z;have c5:=K4 o.value ho.value m.2 (sg ((r.go 1).go (og o.fR).length) (.M (zh 1 d 0 0 ah) i O)) (by simpa using z);rw[ss]at c5;have R5:=r_.go z;have l:=er (.M (zh 1 d 0 0 o.value.aq) i O) R5;have P:tu.mk o.ak o.fR 0 0 o.value=o:=by cases o;grind
  have t:=λa c b=>res a c 0 0 o.value.aq b o.value vN;rw[P]at t;have p:=λc=>p c 0 0 _ vL vS;have s:=λa c b=>s a c 0 0 _ b vL vP;have q:=λc b=>q c 0 0 _ b vL vS;rw[k]at T wk fk y E A p s q t;simp at E A c5 l p s q t;simp[T,wk,fk,y,l0,E,p1,A,c5,s4,l,b0,p,s,q,t];refine⟨rfl, ?_⟩
  grind
 ·rw[uB,if_pos k]at m
  simp only[mz,decide_eq_true_eq]at m;simp only[k]at z⊢;simp at z;have I:=oP (sg ((r.go 1).go (og o.fR).length) (.M (zh 2 d 0 0 ah) i O)) (n:=o.id.toNat) (by have:=ho.id1;omega) (by simpa using z);rw[ss,hid]at I;have R3:=r_.go z;have c4:=oP (sg _ (.M (zh 2 d o.id 0 ah) i O)) (n:=o.after.toNat) (by have:=ho.af1;omega) R3;rw[ss,haf]at c4;have R4:=r_.go R3;have c5:=K4 o.value ho.value m.2 (sg _ (.M (zh 2 d o.id o.after ah) i O)) R4;rw[ss]at c5;have R5:=r_.go R4;have l:=er (.M (zh 2 d o.id o.after o.value.aq) i O) R5;have t:=λa c b=>res a c o.id o.after o.value.aq b o.value vN;have n1:¬o.id=0:=m.1.1;have n2:¬o.after=o.id:=λe=>m.1.2 e.symm;have p:=λc=>p c o.id o.after _ vL vS;have s:=λa c b=>s a c o.id o.after _ b vL vP;have q:=λc b=>q c o.id o.after _ b vL vS;have P:tu.mk 2 o.fR o.id o.after o.value=o:=by rw[<-k]
  rw[k]at T wk fk y E A p s q t;rw[P]at t;simp at E A I c4 c5 l p s q t;simp[T,wk,fk,y,l0,l2,l3,E,p1,A,I,s2,n1,c4,s3,n2,c5,s4,l,b0,p,s,q,t];refine⟨rfl, ?_⟩
  grind
 ·rw[uB,uB,if_pos k]at m
  simp only[mz,decide_eq_true_eq]at m;have hz:=(Ef _).1 m.2;simp only[k]at z⊢;simp at z;have I:=oP (sg ((r.go 1).go (og o.fR).length) (.M (zh 3 d 0 0 ah) i O)) (n:=o.id.toNat) (by have:=ho.id1;omega) (by simpa using z);rw[ss,hid]at I;have R3:=r_.go z;have l:=er (.M (zh 3 d o.id 0 ah) i O) R3;have t:=λa c b=>res a c o.id 0 ah b sC Y3;have n1:¬o.id=0:=m.1.1;have p:=λc=>p c o.id 0 _ Mt K5;have s:=λa c b=>s a c o.id 0 _ b Mt Y2;have q:=λc b=>q c o.id 0 _ b Mt K5;have P:tu.mk 3 o.fR o.id 0 sC=o:=by rw[<-k,<-hz];conv=>lhs;rw[<-m.1.2]
  rw[k]at T wk fk y E A p s q t;rw[P]at t;simp at E A I l p s q t;simp[T,wk,fk,y,l0,l2,E,p1,A,I,s2,n1,l,b0,p,s,q,t];refine⟨rfl, ?_⟩
  grind
 ·rw[uB,uB,uB,if_pos k]at m
  simp only[mz,decide_eq_true_eq]at m;have hz:=(Ef _).1 m.2;simp only[k]at z⊢;simp at z;have I:=oP (sg ((r.go 1).go (og o.fR).length) (.M (zh 4 d 0 0 ah) i O)) (n:=o.id.toNat) (by have:=ho.id1;omega) (by simpa using z);rw[ss,hid]at I;have R3:=r_.go z;have c4:=oP (sg _ (.M (zh 4 d o.id 0 ah) i O)) (n:=o.after.toNat) (by have:=ho.af1;omega) R3;rw[ss,haf]at c4;have R4:=r_.go R3;have l:=er (.M (zh 4 d o.id o.after ah) i O) R4;have t:=λa c b=>res a c o.id o.after ah b sC Y3;have n1:¬o.id=0:=m.1.1;have n2:¬o.after=o.id:=λe=>m.1.2 e.symm;have p:=λc=>p c o.id o.after _ Mt K5;have s:=λa c b=>s a c o.id o.after _ b Mt Y2;have q:=λc b=>q c o.id o.after _ b Mt K5;have P:tu.mk 4 o.fR o.id o.after sC=o:=by rw[<-k,<-hz]
  rw[k]at T wk fk y E A p s q t;rw[P]at t;simp at E A I c4 l p s q t;simp[T,wk,fk,y,l0,l2,l3,E,p1,A,I,s2,n1,c4,s3,n2,l,b0,p,s,q,t];refine⟨rfl, ?_⟩
  grind
section
def auq{S:Z}{i sz:Nat}{es:kp}{x:K}{cs:K}{o:Nat}{bt:bV}(t:bV)(k:Nat)(g:S[i]? =J (.M cs bt O))(h:es=[]->bt.length=k)(a:es≠[]->bt[k]? =J (J es.length))
 (n:es.length<1000000) (q:o+1<=cs.length) (r:eS (es++[x])=G):
 ∃f e b m,eK sz t S (bO i k sz es) (.sl .X sz [x])=J (f,e,b)/\
  ∀nb,ba e nb b 1 (.P i o) f=J (m,S.set i (.M (aQ cs o [bO i k sz (es++[x])]) (if es=[]then bt++[J 1]else bt.set k (J (es.length+1))) O)):=by
 by_cases c:es=[]
 ·subst c
  obtain rfl:=h rfl;refine⟨.sl (.fr t.length) sz [x],t++[J 1],S,t++[D],by simp[eK,bO,bZ],λnb=>?_⟩
  grind [ba,br,aV,aW,AV.cells,k7,bO]
 ·have a:=a c
  have p:=(mo.1 g).1;have l:¬(2^30<es.length+1):=V;refine⟨.sl (.bx i k) sz (es++[x]),t,S.set i (.M cs (bt.set k (J (es.length+1))) O),t, ?_,λnb=>?_⟩;all_goals simp_all[eK,bO,bZ,ba,br,aV,k7]
def Fg(l:List bQ):kp:=l.map bQ.aq
def ad4(a:List bQ)(x:bQ):Fg (a++[x])=Fg a++[x.aq]:=by simp[Fg]
@[simp]def aD4(a:List bQ):(Fg a).length=a.length:=by simp[Fg]
def H4(l:List bQ):eS (Fg l)=G:=kC.2 λx a=>by obtain⟨s,_,rfl⟩:=zK.1 a;exact cU.br ca
def T7(a:List bQ):eE (fc 3 (Fg a))=sB a:=sx 3 _
def up0(bt:bV)(n:Nat):bV:=if n=0 then bt++[J 1]else bt.set 0 (J (n+1))
def ad5{T:Z}{j m:Nat}{r:Rd}{s u:X}{e:List X}{k:Int}{f:Q}{bt:bV}(hT:T[j]? =J (fY j r))(hm:T[m]? =J (.M [.I Y k,bO m 0 1 (tx e),f] bt O))(hjm:j≠m)
 (p:e=[]->bt.length=0) (hb1:e≠[]->bt[0]? =J (J e.length)) (hw:e.length<1000) (y:fS s=G) (g:FuncId) (hg:nk.tD g=D) (l:uS g=O) (hF:∀S,W N C g [dN (e++[s])] S=J (.B G,S)) (hr:r_ r (a_ s++u)):
 W N C 277 [.P j 0,.P m 0,.fn g [] []] T=J (.cV [],(T.set j (fY j (r.go (a_ s).length))).set m (.M [.I Y k,bO m 0 1 (tx (e++[s])),f] (up0 bt e.length) O)):=by
 have hl:=iu y;have I:=KW hT V hr;have w:=nV s V;rw[y]at w;have i:(T.set j (fY j (r.go (a_ s).length)))[m]? =J (.M [.I Y k,bO m 0 1 (tx e),f] bt O):=by simp_all
 have nn:tx e=[]↔e=[]:=by simp[tx]
 have⟨v1,t1,S1,t2,A,n⟩:=auq (sz:=1) (es:=tx e) (x:=[.S s]) (o:=1) [] 0 i (λh=>p (nn.1 h)) (λh=>by simp_all) (by simp;omega) ca (by rw[<-OH];exact Di _);have P:(if tx e=[]then bt++[J 1]else bt.set 0 (J ((tx e).length+1)))=up0 bt e.length:=by grind [up0,aoG]
 rw[P,<-OH]at n;have E:aQ [.I Y k,bO m 0 1 (tx e),f] 1 [bO m 0 1 (tx (e++[s]))]=[.I Y k,bO m 0 1 (tx (e++[s])),f]:=rfl;rw[E]at n;have q:=(mo.1 i).1;have t:∀c,aX ((T.set j (fY j (r.go (a_ s).length))).set m (.M [.I Y k,c,f] (up0 bt e.length) O)) .C (.P m 1)=J c:=λc=>by rw[bL (Tj q)];rfl
 have v:mO 1 (tx (e++[s]))=dN (e++[s]):=rfl;have fb:=ak2 s;rw[LB aBh];simp[I,h9,(by rw[bL i];rfl:aX (T.set j (fY j (r.go (a_ s).length))) .C (.P m 1)=some (bO m 0 1 (tx e))),fb,A,n,BT,w,t,Wn,Wo,Wp,Mq,v,hg,l,hF,bT,(λa b=>oL ca:∀a b,((T.set j a).set m b).take T.length=(T.set j a).set m b),dv,aP,cy,aG]
def T8{S:Z}{j:Nat}{r:Rd}{n:Nat}{u:X}(c:S[j]? =J (fY j r))(a:Nat)(e:a<=n)(f:n<=8)(h:r_ r (cJ n++u)):W N C 276 [.P j 0,.I U (a:Int)] S=J (.I Y (n:Int),S.set j (fY j (r.go (cJ n).length))):=by simp[jN aBg,oP c V h,AX (LP c (r.go (cJ n).length)) h.go,(rfl:ec .neq (.kv fV) G .dj .dj=J (.B O)),(cF V:dh Y (n:Int)=(n:Int)),(eq_false V:((8:Int)<(n:Int))=False),(eq_false V:((n:Int)<(a:Int))=False),(λb=>oL ca:∀b,(S.set j b).take S.length=S.set j b)]
def sb4(m:Nat)(ws:List X):de:=.M [.I Y 4,bO m 0 1 (tx ws),.aw] (if ws.length=0 then[]else[J ws.length]) O
def sb5(m:Nat)(ws:List X)(ps:List bQ):de:=.M [.I Y 5,bO m 0 1 (tx ws),bO m 1 3 (Fg ps)] (iL ws.length ps.length) O
section
variable{S:Z}{j d:Nat}(z:de)
def N9(b:List X)(E:b.length<=8)(I:km [] b=G)(v:∀w∈b,fS w=G):
 ∀e i(r:Rd)(u:X)(ag:bV),i+e=b.length->S[j]? =J (fY j r)->∀c:Rd,r_ c ((b.drop i).flatMap a_++u)->
 DC N C (.L E6) ⟨[(0,.P j 0),(4,.P S.length 0),(5,.P (S.length+1) 0),(29,.I Y (b.length:Int)),(30,.I Y (i:Int))],ag,S.length⟩ (jc S j c z (sb4 (S.length+1) (b.take i)))=
  J (.E 1,⟨[(0,.P j 0),(4,.P S.length 0),(5,.P (S.length+1) 0)],ag,S.length⟩,jc S j (c.go ((b.drop i).flatMap a_).length) z (sb4 (S.length+1) b)):=by
 intro e;induction e with
 |zero=>
  intro i r u ag t f c k;simp[aj,aO pq,(jM V:b.drop i=[]),(oL V:b.take i=b),(V:¬i<b.length),Rd.go]
 |succ e y=>
  intro i r u ag t f c k;have o:i<b.length:=V;have A:=(mo.1 f).1;have⟨a,n,s⟩:=aS (l:=b) (i:=i) o;have p:=aR (i:=i) V;have T:b.take (i+1)=b.take i++[a]:=by rw[wx,n];rfl
  have P:(b.take i).length=i:=by grind
  rw[bf n,EI]at k⊢;rw[s_]at k;have x:km [] (b.take i++[a])=G:=by grind [Np,List.take_append_drop]
  have m:=ad5 (sR f c z (sb4 (S.length+1) (b.take i))) (qm S j c z (sb4 (S.length+1) (b.take i))) V (λh=>by grind) (λh=>by simp_all) V (v a (gM n)) 278 rfl rfl (λS=>by grind [zD]) k;rw[wh f,rz]at m;have q:de.M [.I Y 4,bO (S.length+1) 0 1 (tx (b.take i++[a])),.aw] (up0 (if(b.take i).length=0 then[]else[J (b.take i).length]) (b.take i).length) O=sb4 (S.length+1) (b.take (i+1)):=by grind [sb4,up0]
  rw[q]at m;have g:=y (i+1) r u ag V f _ k.go;rw[aj,aO pq];simp at g p m;simp[o,m,dr];rw[ab pq];simp[p,g]
def N_(v:bQ)(hl:v.aL.length<=8)(OY:v.ar.length=v.aL.length)(hg:goN D v.aL=G)(hd:d<1000)
 (hF:∀x∈v.ar,∀(S:Z)(r:Rd)(u:X),S[j]? =J (fY j r)->r_ r (x.bytes++u)->W N C 252 [.P j 0,.I Y (d:Int)] S=J (.A x.aq,S.set j (fY j (r.go x.bytes.length)))):
 ∀e i(r:Rd)(u:X)(ag:bV),i+e=v.aL.length->S[j]? =J (fY j r)->∀c:Rd,r_ c (bQ.eO (v.aL.drop i) (v.ar.drop i)++u)->
 ∃aT,DC N C (.L E7) ⟨[(0,.P j 0),(1,.I Y ((d:Int)+1)),(4,.P S.length 0),(5,.P (S.length+1) 0),(38,.I Y (v.aL.length:Int)),(39,.I Y (i:Int))],ag,S.length⟩ (jc S j c z (sb5 (S.length+1) (v.aL.take i) (v.ar.take i)))=
  J (.E 3,⟨[(0,.P j 0),(4,.P S.length 0),(5,.P (S.length+1) 0)],aT,S.length⟩,jc S j (c.go (bQ.eO (v.aL.drop i) (v.ar.drop i)).length) z (sb5 (S.length+1) v.aL v.ar)):=by
 intro e;induction e with
 |zero=>
  intro i r u ag hi f c k;refine⟨ag, ?_⟩;simp[aj,aO pv,(jM V:v.aL.drop i=[]),(oL V:v.aL.take i=v.aL),(oL V:v.ar.take i=v.ar),(V:¬i<v.aL.length),bQ.eO,Rd.go]
 |succ e ih=>
  intro i r u ag hi f c k;have P:i<v.aL.length:=V;have hj:j<S.length:=(mo.1 f).1;have⟨a,s,ha'⟩:=aS (l:=v.aL) (i:=i) P;have⟨y,w,hy'⟩:=aS (l:=v.ar) (i:=i) V;have T:=aR (i:=i) V;have g:dh Y ((d:Int)+1 -1)=(d:Int):=by rw[cF V];omega
  have tN:v.aL.take (i+1)=v.aL.take i++[a]:=by rw[wx,s];rfl
  have tP:v.ar.take (i+1)=v.ar.take i++[y]:=by rw[wx,w];rfl
  have lN:(v.aL.take i).length=i:=by grind
  have lP:(v.ar.take i).length=i:=by grind
  rw[bf s,bf w,bQ.eO]at k⊢;rw[s_,s_]at k;have A:=k.go;have hgp:goN D (v.aL.take i++[a])=G:=by grind [Rd.V0,List.take_append_drop]
  have q:∀S,W N C 279 [dN (v.aL.take i++[a])] S=J (.B G,S):=λS=>by grind [Fh,TO]
  have m:=ad5 (sR f c z (sb5 (S.length+1) (v.aL.take i) (v.ar.take i))) (qm S j c z (sb5 (S.length+1) (v.aL.take i) (v.ar.take i))) V (λh=>by rw[h];rfl) (λh=>by grind [iL]) V (CN _ _ hg a (gM s)) 279 rfl rfl q k;rw[wh f,rz]at m;have eb:up0 (iL (v.aL.take i).length (v.ar.take i).length) (v.aL.take i).length=iL (i+1) i:=by grind [up0,iL]
  rw[eb]at m;have E:=hF y (gM w) _ _ _ (sR f (c.go (a_ a).length) z (.M [.I Y 5,bO (S.length+1) 0 1 (tx (v.aL.take i++[a])),bO (S.length+1) 1 3 (Fg (v.ar.take i))] (iL (i+1) i) O)) A;rw[wh f]at E;have⟨v3,t3,S3,t4,I,p⟩:=aun (sz:=3) (es:=Fg (v.ar.take i)) (x:=y.aq) (n:=i) (o:=2) ag (qm S j ((c.go (a_ a).length).go y.bytes.length) z (.M [.I Y 5,bO (S.length+1) 0 1 (tx (v.aL.take i++[a])),bO (S.length+1) 1 3 (Fg (v.ar.take i))] (iL (i+1) i) O)) (by simp;omega) V ca (by rw[<-ad4];exact H4 _);rw[rz,<-ad4]at p;have b2:de.M (aQ [.I Y 5,bO (S.length+1) 0 1 (tx (v.aL.take i++[a])),bO (S.length+1) 1 3 (Fg (v.ar.take i))] 2 [bO (S.length+1) 1 3 (Fg (v.ar.take i++[y]))]) (iL (i+1) (i+1)) O=
   sb5 (S.length+1) (v.aL.take (i+1)) (v.ar.take (i+1)):=by
   grind [sb5,aQ]
  rw[b2]at p;have es:(c.go (a_ a).length).go y.bytes.length=c.go ((a_ a).length+y.bytes.length):=ca;have⟨aT,t⟩:=ih (i+1) r u t4 V f _ A.go;refine⟨aT, ?_⟩;rw[(by simp[Rd.go,Et]:(((c.go (a_ a).length).go y.bytes.length).go (bQ.eO (v.aL.drop (i+1)) (v.ar.drop (i+1))).length)=c.go (a_ a++(y.bytes++bQ.eO (v.aL.drop (i+1)) (v.ar.drop (i+1)))).length)]at t;have ll:∀es,fG (bO (S.length+1) 1 3 es)=J (.I Y (es.length:Int)):=λes=>by unfold bO;cases es<;>rfl
  have bo:fh 3 [[.I Y 0,.aw,.aw]] [(0,.A y.aq)]=J [y.aq]:=by simp_all[fh]
  have bz:fh 3 [[.I Y 0,.aw,.aw]] [(0,.A [.I Y 0,.aw,.aw])]=J [[.I Y 0,.aw,.aw]]:=rfl;simp only[es]at I p;rw[aj,aO pv];simp at t T g m;simp[P,m,dr,(λr1 b=>oD .. :∀r1 b,aX (jc S j r1 z (.M [.I Y 5,bO (S.length+1) 0 1 b,bO (S.length+1) 1 3 (Fg (v.ar.take i))] (iL (i+1) i) O)) .C (.P (S.length+1) 2)=J (bO (S.length+1) 1 3 (Fg (v.ar.take i)))),g,E,ll,bz,bo,I,p];rw[ab pv];simp[T,t]
end
end
def Ay(k:Int)(a b:Q)(c:List X)(ps:List bQ)(d:eE a=dN c)(e:eE b=sB ps):
 cj (.A [.I Y k,a,b])=.A (bQ.mk k c ps).aq:=by
 rw[bQ.jT];show AV.A [_,eE a,eE b]=_;rw[d,e];rfl
def Dz(k:Int):de:=.M [.I Y k,.aw,.aw] [] O
def afV:∀(d:Nat)(v:bQ),v.Wf->v.bB d=G->d<1000->∀(S:Z)(j:Nat)(r:Rd)(u:X),S[j]? =J (fY j r)->r_ r (v.bytes++u)->
 W N C 252 [.P j 0,.I Y (d:Int)] S=J (.A v.aq,S.set j (fY j (r.go v.bytes.length))):=by
 intro d;induction d with
 |zero=>nofun
 |succ d ih=>
  intro v hv h hd S j r u hS hr;have a:=bQ.ie h;have hj:j<S.length:=(mo.1 hS).1;have lb:=v.o_;rw[lb]at hr;have R1:=hr.go1;have hS1:∀b,(S++[b])[j]? =J (fY j r):=λb=>dL _ hS;have A:=Ki (hS1 (.M [.I Y 0,.aw,.aw] [] O)) hr;rw[iw _ hj]at A;have hk:((cw v.ak.toNat).toNat:Int)=v.ak:=by have:=a.ak;rw[qE];omega
  rw[hk]at A;have T:dh Y v.ak=v.ak:=by have:=a.ak;exact cF V
  have T1:(S.set j (fY j (r.go 1))).length=S.length:=ca;have sg:=λf b=>sR hS f (.M [.I Y 0,.aw,.aw] [] O) b;have ss:=λf r'' b=>wh hS f r'' (.M [.I Y 0,.aw,.aw] [] O) b;have tkS:∀f z b,(jc S j f z b).take S.length=S.set j (fY j f):=λf z b=>by grind [jc]
  have d0:¬((d:Int)+1=0):=V;have hd1:dh Y (d:Int)=(d:Int):=cF V;have b0:ec .neq (.kv fV) G .dj .dj=J (.B O):=rfl;have fk:∀k:Int,dk [.I Y 0,.aw,.aw] [(0,1,.I Y k)]=J [.I Y k,.aw,.aw]:=λ_=>rfl;have er:=λ{f:Rd}{u':X}(b:de)(h':r_ f u')=>AX (sg f b) h';have P:∀k:Int,ba [] S.length (S.set j (fY j (r.go 1))++[.M [.I Y 0,.aw,.aw] [] O,.M [.I Y 0,.aw,.aw] [] O]) 3 (.P (S.length+1) 0) (.A [.I Y k,.aw,.aw])=J ([],jc S j (r.go 1) (.M [.I Y 0,.aw,.aw] [] O) (Dz k)):=λk=>by rw[PW T1 rfl];rfl
  have E:∀(g:bV) f(m:K) bt,m.length=3->dJ (m.map aV)=G->ba g S.length (jc S j f (.M [.I Y 0,.aw,.aw] [] O) (.M m bt O)) 3 (.P S.length 0) (.A (m.map aV))=J (g,jc S j f (.M (m.map aV) [] O) (.M m bt O)):=λg f m bt hc hp=>by simp_all[jc,Bu]
  have la:∀f z(m:K) bt,m.length=3->aX (jc S j f z (.M m bt O)) (.A 3) (.P (S.length+1) 0)=J (.A (m.map aV)):=λf z m bt hc=>by rw[oD];exact fW m hc
  have lz:∀f(m:K) b,m.length=3->(m.map aV).map aV=m.map aV->aX (jc S j f (.M (m.map aV) [] O) b) (.A 3) (.P S.length 0)=J (.A (m.map aV)):=λf m b hc hs=>by simp_all[jc,lT0,fW]
  have I:∀f(g:bV)(m:K) b(w:bQ),cj (.A (m.map aV))=.A w.aq->dv 252 g [.A (m.map aV)] S (jc S j f (.M (m.map aV) [] O) b)=J (.A w.aq,S.set j (fY j f)):=λf g m b w t=>by simp[tE,t,cI,tkS]
  have l0:∀f k,aX (jc S j f (.M [.I Y 0,.aw,.aw] [] O) (Dz k)) .C (.P (S.length+1) 0)=J (.I Y k):=λf k=>oD ..;have c:=er (Dz v.ak) R1;have q0:∀ws:List X,∀(i:Nat),aV (bO i 0 1 (tx ws))=fc 1 (tx ws):=λws i=>sw ..;rw[jN aAN];rcases a.ak with k|k|k|k|k|k
  ·have⟨h1,h2⟩:=a.k13 (.inl k)
   have ev:bQ.mk 1 [] []=v:=bQ.ux k h1 h2;have eb:v.bytes=[cw v.ak.toNat]:=by simp_all[bQ.gE]
   have t:=Ay 1 .aw .aw [] [] rfl rfl;rw[ev]at t;have p:ba [] S.length (jc S j (r.go 1) (.M [.I Y 0,.aw,.aw] [] O) (Dz 1)) 3 (.P S.length 0) (.A [.I Y 1,.aw,.aw])=J ([],jc S j (r.go 1) (Dz 1) (Dz 1)):=E [] (r.go 1) [.I Y 1,.aw,.aw] [] rfl rfl;have q:aX (jc S j (r.go 1) (.M [.I Y 0,.aw,.aw] [] O) (Dz 1)) (.A 3) (.P (S.length+1) 0)=J (.A [.I Y 1,.aw,.aw]):=la (r.go 1) _ [.I Y 1,.aw,.aw] [] rfl;have e:aX (jc S j (r.go 1) (Dz 1) (Dz 1)) (.A 3) (.P S.length 0)=J (.A [.I Y 1,.aw,.aw]):=lz (r.go 1) [.I Y 1,.aw,.aw] (Dz 1) rfl rfl;have n:dv 252 [] [.A [.I Y 1,.aw,.aw]] S (jc S j (r.go 1) (Dz 1) (Dz 1))=J (.A v.aq,S.set j (fY j (r.go 1))):=I (r.go 1) [] [.I Y 1,.aw,.aw] (Dz 1) v t;rw[k]at A T c;rw[eb];simp at n;simp[d0,A,T,fk,P,c,b0,l0,q,p,e,n]
  ·have⟨h1,h2⟩:=a.k13 (.inr (.inl k))
   have ev:bQ.mk 2 [] []=v:=bQ.ux k h1 h2;have eb:v.bytes=[cw v.ak.toNat]:=by simp_all[bQ.gE]
   have t:=Ay 2 .aw .aw [] [] rfl rfl;rw[ev]at t;have p:ba [] S.length (jc S j (r.go 1) (.M [.I Y 0,.aw,.aw] [] O) (Dz 2)) 3 (.P S.length 0) (.A [.I Y 2,.aw,.aw])=J ([],jc S j (r.go 1) (Dz 2) (Dz 2)):=E [] (r.go 1) [.I Y 2,.aw,.aw] [] rfl rfl;have q:aX (jc S j (r.go 1) (.M [.I Y 0,.aw,.aw] [] O) (Dz 2)) (.A 3) (.P (S.length+1) 0)=J (.A [.I Y 2,.aw,.aw]):=la (r.go 1) _ [.I Y 2,.aw,.aw] [] rfl;have e:aX (jc S j (r.go 1) (Dz 2) (Dz 2)) (.A 3) (.P S.length 0)=J (.A [.I Y 2,.aw,.aw]):=lz (r.go 1) [.I Y 2,.aw,.aw] (Dz 2) rfl rfl;have n:dv 252 [] [.A [.I Y 2,.aw,.aw]] S (jc S j (r.go 1) (Dz 2) (Dz 2))=J (.A v.aq,S.set j (fY j (r.go 1))):=I (r.go 1) [] [.I Y 2,.aw,.aw] (Dz 2) v t;rw[k]at A T c;rw[eb];simp at n;simp[d0,A,T,fk,P,c,b0,l0,q,p,e,n]
  ·have⟨h1,h2⟩:=a.k13 (.inr (.inr k))
   have ev:bQ.mk 3 [] []=v:=bQ.ux k h1 h2;have eb:v.bytes=[cw v.ak.toNat]:=by simp_all[bQ.gE]
   have t:=Ay 3 .aw .aw [] [] rfl rfl;rw[ev]at t;have p:ba [] S.length (jc S j (r.go 1) (.M [.I Y 0,.aw,.aw] [] O) (Dz 3)) 3 (.P S.length 0) (.A [.I Y 3,.aw,.aw])=J ([],jc S j (r.go 1) (Dz 3) (Dz 3)):=E [] (r.go 1) [.I Y 3,.aw,.aw] [] rfl rfl;have q:aX (jc S j (r.go 1) (.M [.I Y 0,.aw,.aw] [] O) (Dz 3)) (.A 3) (.P (S.length+1) 0)=J (.A [.I Y 3,.aw,.aw]):=la (r.go 1) _ [.I Y 3,.aw,.aw] [] rfl;have e:aX (jc S j (r.go 1) (Dz 3) (Dz 3)) (.A 3) (.P S.length 0)=J (.A [.I Y 3,.aw,.aw]):=lz (r.go 1) [.I Y 3,.aw,.aw] (Dz 3) rfl rfl;have n:dv 252 [] [.A [.I Y 3,.aw,.aw]] S (jc S j (r.go 1) (Dz 3) (Dz 3))=J (.A v.aq,S.set j (fY j (r.go 1))):=I (r.go 1) [] [.I Y 3,.aw,.aw] (Dz 3) v t;rw[k]at A T c;rw[eb];simp at n;simp[d0,A,T,fk,P,c,b0,l0,q,p,e,n]
  ·have h4:=a.k4 k
   have ev:bQ.mk 4 v.aL []=v:=bQ.ux k rfl h4.2.2.2.2;have eb:v.bytes=[cw v.ak.toNat]++(cJ v.aL.length++v.aL.flatMap a_):=by simp_all
   have wl1:1<=v.aL.length:=by grind
   have s:r_ (r.go 1) (cJ v.aL.length++(v.aL.flatMap a_++u)):=by simp_all
   have c2:=T8 (sg (r.go 1) (Dz 4)) 1 wl1 h4.2.1 s;rw[ss]at c2;have R2:=s.go;have lp:=N9 (S:=S) (j:=j) (.M [.I Y 0,.aw,.aw] [] O) v.aL h4.2.1 h4.2.2.2.1 h4.2.2.1 v.aL.length 0 r u [] V hS _ R2;have R3:=R2.go;have hvb:sb4 (S.length+1) v.aL=.M [.I Y 4,bO (S.length+1) 0 1 (tx v.aL),.aw] [J v.aL.length] O:=by unfold sb4;simp_all
   have y:[AV.I Y 4,bO (S.length+1) 0 1 (tx v.aL),.aw].map aV=[.I Y 4,fc 1 (tx v.aL),.aw]:=by simp only[MR,U1,sw];rfl
   have q1:=p8 (sz:=1) (Di v.aL);have OY:dJ ([AV.I Y 4,bO (S.length+1) 0 1 (tx v.aL),.aw].map aV)=G:=by rw[y];simp[dJ,br,q1.2]
   have hss:([AV.I Y 4,bO (S.length+1) 0 1 (tx v.aL),.aw].map aV).map aV=[AV.I Y 4,bO (S.length+1) 0 1 (tx v.aL),.aw].map aV:=by simp_all
   have t:=Ay 4 (fc 1 (tx v.aL)) .aw v.aL [] (Mr _) rfl;rw[ev]at t;have n:=I (((r.go 1).go (cJ v.aL.length).length).go (v.aL.flatMap a_).length) [] [AV.I Y 4,bO (S.length+1) 0 1 (tx v.aL),.aw] (sb4 (S.length+1) v.aL) v (by simp_all);have l:=er (sb4 (S.length+1) v.aL) R3;have p:=E [] (((r.go 1).go (cJ v.aL.length).length).go (v.aL.flatMap a_).length) _ [J v.aL.length] rfl OY;have q:=la (((r.go 1).go (cJ v.aL.length).length).go (v.aL.flatMap a_).length) (.M [.I Y 0,.aw,.aw] [] O) [.I Y 4,bO (S.length+1) 0 1 (tx v.aL),.aw] [J v.aL.length] rfl;have e:=lz (((r.go 1).go (cJ v.aL.length).length).go (v.aL.flatMap a_).length) _ (sb4 (S.length+1) v.aL) rfl hss;rw[<-hvb]at q p;simp only[y]at p q e n;have v00:sb4 (S.length+1) []=Dz 4:=rfl;rw[k]at A T c;rw[eb];simp[v00, -List.length_flatMap]at c2 lp l p q e n;simp[d0,A,T,fk,P,c,b0,l0,c2, -List.length_flatMap];rw[ab pq];simp[lp,l,b0,q,p,e,n, -List.length_flatMap]
   grind
  ·have h5:=a.k5 k
   have ev:bQ.mk 5 v.aL v.ar=v:=bQ.ux k rfl rfl;have eb:v.bytes=[cw v.ak.toNat]++(cJ v.aL.length++bQ.eO v.aL v.ar):=by simp_all
   have s:r_ (r.go 1) (cJ v.aL.length++(bQ.eO v.aL v.ar++u)):=by simp_all
   have c2:=T8 (sg (r.go 1) (Dz 5)) 0 V h5.2.1 s;rw[ss]at c2;have R2:=s.go;have⟨g,lp⟩:=N_ (S:=S) (j:=j) (d:=d) (.M [.I Y 0,.aw,.aw] [] O) v h5.2.1 h5.2.2 h5.1 V (λx hx S r u h1 h2=>ih x (hv.all x hx) (a.all x hx) V S j r u h1 h2) v.aL.length 0 r u [] V hS _ R2;have R3:=R2.go;have hvb:sb5 (S.length+1) v.aL v.ar=.M [.I Y 5,bO (S.length+1) 0 1 (tx v.aL),bO (S.length+1) 1 3 (Fg v.ar)] (iL v.aL.length v.ar.length) O:=rfl;have y:[AV.I Y 5,bO (S.length+1) 0 1 (tx v.aL),bO (S.length+1) 1 3 (Fg v.ar)].map aV=[.I Y 5,fc 1 (tx v.aL),fc 3 (Fg v.ar)]:=by simp_all[sw]
   have q1:=p8 (sz:=1) (Di v.aL);have q2:=p8 (sz:=3) (H4 v.ar);have OY:dJ ([AV.I Y 5,bO (S.length+1) 0 1 (tx v.aL),bO (S.length+1) 1 3 (Fg v.ar)].map aV)=G:=by simp_all[dJ]
   have hss:([AV.I Y 5,bO (S.length+1) 0 1 (tx v.aL),bO (S.length+1) 1 3 (Fg v.ar)].map aV).map aV=[AV.I Y 5,bO (S.length+1) 0 1 (tx v.aL),bO (S.length+1) 1 3 (Fg v.ar)].map aV:=by simp_all
   have t:=Ay 5 (fc 1 (tx v.aL)) (fc 3 (Fg v.ar)) v.aL v.ar (Mr _) (T7 _);rw[ev]at t;have n:=I (((r.go 1).go (cJ v.aL.length).length).go (bQ.eO v.aL v.ar).length) g [AV.I Y 5,bO (S.length+1) 0 1 (tx v.aL),bO (S.length+1) 1 3 (Fg v.ar)] (sb5 (S.length+1) v.aL v.ar) v (by simp_all);have l:=er (sb5 (S.length+1) v.aL v.ar) R3;have p:=E g (((r.go 1).go (cJ v.aL.length).length).go (bQ.eO v.aL v.ar).length) _ (iL v.aL.length v.ar.length) rfl OY;have q:=la (((r.go 1).go (cJ v.aL.length).length).go (bQ.eO v.aL v.ar).length) (.M [.I Y 0,.aw,.aw] [] O) [.I Y 5,bO (S.length+1) 0 1 (tx v.aL),bO (S.length+1) 1 3 (Fg v.ar)] (iL v.aL.length v.ar.length) rfl;have e:=lz (((r.go 1).go (cJ v.aL.length).length).go (bQ.eO v.aL v.ar).length) _ (sb5 (S.length+1) v.aL v.ar) rfl hss;rw[<-hvb]at q p;simp only[y]at p q e n;have v00:sb5 (S.length+1) [] []=Dz 5:=rfl;rw[k]at A T c;rw[eb];simp[v00]at c2 lp l p q e n;simp[d0,A,T,fk,P,c,b0,l0,c2];rw[ab pv];simp[lp,l,b0,q,p,e,n]
   grind
  ·have⟨hw0,hp1⟩:=a.k6 k
   have⟨x,hx⟩:=F7.1 hp1;have ev:bQ.mk 6 [] [x]=v:=bQ.ux k hw0 hx;have eb:v.bytes=[cw v.ak.toNat]++x.bytes:=by simp_all[bQ.gE]
   have s:r_ (r.go 1) (x.bytes++u):=by simp_all
   have c2:=ih x (hv.all x (by grind)) (a.all x (by grind)) V _ j (r.go 1) u (sg (r.go 1) (Dz 6)) s;rw[ss]at c2;have R2:=s.go;have hm:(jc S j ((r.go 1).go x.bytes.length) (.M [.I Y 0,.aw,.aw] [] O) (Dz 6))[S.length+1]? =J (.M [.I Y 6,.aw,bO (S.length+1) 0 3 []] [] O):=qm ..;have⟨v3,t3,S3,t4,p1,p2⟩:=auq (sz:=3) (es:=[]) (x:=x.aq) (o:=2) [] 0 hm (λ_=>rfl) (λh=>absurd rfl h) ca ca (H4 [x]);rw[rz]at p2;have ra0:bO (S.length+1) 0 3 []=.aw:=rfl;rw[ra0]at p1;have hvb:de.M (aQ [.I Y 6,.aw,.aw] 2 [bO (S.length+1) 0 3 ([]++[x.aq])]) ([]++[J 1]) O=.M [.I Y 6,.aw,bO (S.length+1) 0 3 (Fg [x])] [J 1] O:=rfl;have hp2:∀nb,ba t3 nb S3 1 (.P (S.length+1) 2) v3=J (t4,jc S j ((r.go 1).go x.bytes.length) (.M [.I Y 0,.aw,.aw] [] O) (.M [.I Y 6,.aw,bO (S.length+1) 0 3 (Fg [x])] [J 1] O)):=λnb=>by simp_all
   have y:[AV.I Y 6,.aw,bO (S.length+1) 0 3 (Fg [x])].map aV=[.I Y 6,.aw,fc 3 (Fg [x])]:=by rfl
   have q2:=p8 (sz:=3) (H4 [x]);have OY:dJ ([AV.I Y 6,.aw,bO (S.length+1) 0 3 (Fg [x])].map aV)=G:=by rw[y];simp[dJ,br,q2.2]
   have hss:([AV.I Y 6,.aw,bO (S.length+1) 0 3 (Fg [x])].map aV).map aV=[AV.I Y 6,.aw,bO (S.length+1) 0 3 (Fg [x])].map aV:=by rfl
   have t:=Ay 6 .aw (fc 3 (Fg [x])) [] [x] rfl (T7 _);rw[ev]at t;have n:=I ((r.go 1).go x.bytes.length) t4 [AV.I Y 6,.aw,bO (S.length+1) 0 3 (Fg [x])] (.M [.I Y 6,.aw,bO (S.length+1) 0 3 (Fg [x])] [J 1] O) v (by trivial);have l:=er (.M [.I Y 6,.aw,bO (S.length+1) 0 3 (Fg [x])] [J 1] O) R2;have p:=E t4 ((r.go 1).go x.bytes.length) _ [J 1] rfl OY;have q:=la ((r.go 1).go x.bytes.length) (.M [.I Y 0,.aw,.aw] [] O) [.I Y 6,.aw,bO (S.length+1) 0 3 (Fg [x])] [J 1] rfl;have e:=lz ((r.go 1).go x.bytes.length) _ (.M [.I Y 6,.aw,bO (S.length+1) 0 3 (Fg [x])] [J 1] O) rfl hss;simp only[y]at p q e n;have ld2:∀f,aX (jc S j f (.M [.I Y 0,.aw,.aw] [] O) (Dz 6)) .C (.P (S.length+1) 2)=J .aw:=λf=>oD ..;have bo:fh 3 [[.I Y 0,.aw,.aw]] [(0,.A x.aq)]=J [x.aq]:=by have:=(bQ.jh x).jg;simp[fh,aV,AV.cells,aW]
   have bz:fh 3 [[.I Y 0,.aw,.aw]] [(0,.A [.I Y 0,.aw,.aw])]=J [[.I Y 0,.aw,.aw]]:=rfl;rw[k]at A T c;rw[eb];generalize bO (S.length+1) 0 3 (Fg [x])=row at*;simp at c2 l p q e n p1 hp2;simp[d0,hd1,A,T,fk,P,c,b0,l0,ld2,c2,fG,bo,bz,p1,hp2,l,q,p,e,n]
   grind
def T9{S:Z}{j:Nat}{r:Rd}{u:X}(v:bQ)(i:v.Wf)(h:v.bB 5=G)(d:S[j]? =J (fY j r))(f:r_ r (v.bytes++u)):
 W N C 195 [.P j 0] S=J (.A v.aq,S.set j (fY j (r.go v.bytes.length))):=by
 have e:=afV 5 v i h V (S++[.M [.I Y 0,.aw,.aw] [] O]) j r u (dL _ d) f;rw[iw _ ((mo.1 d).1)]at e;have c:(S.set j (fY j (r.go v.bytes.length))).length=S.length:=ca;have m:=Bu c (bQ.jh v).br [.M [.I Y 0,.aw,.aw] [] O] 0 [] S.length 3;have l:aX (S.set j (fY j (r.go v.bytes.length))++[.M v.aq [] O]) (.A 3) (.P S.length 0)=J (.A v.aq):=by rw[lT0 c];simp
 have k:∀b a,(S.set j b++a).take S.length=S.set j b:=λb a=>by simp
 have g:aQ [.I Y 0,.aw,.aw] 0 v.aq=v.aq:=dX ca;rw[jC az_];simp_all
section
def Y4{S:Z}{j:Nat}{r:Rd}{s o u:X}(hS:S[j]? =J (fY j r))(d:fS s=G)(a:s≠o)(h:r_ r (a_ s++u)):
 W N C 192 [.P j 0,.S o] S=J (.S s,S.set j (fY j (r.go (a_ s).length))):=by
 have e:=iu d;have c:=nV s V (S.set j (fY j (r.go (a_ s).length)));rw[d]at c;simp[jN az7,KW hS V h,c,a,(λb=>oL ca:∀b,(S.set j b).take S.length=S.set j b),bT]
def Ny{S:Z}{j:Nat}{r:Rd}{u:X}(v:bu)(o:v.Wf)(h:v.bB 5=G)(hS:S[j]? =J (fY j r))(k:r_ r (v.bytes++u))(g:FuncId)(n:nk.tD g=D)(a:uS g=O)
 (l:∀T,W N C g [.A v.aq] T=J (.B G,T)):W N C 197 [.P j 0,.fn g [] []] S=J (.A v.aq,S.set j (fY j (r.go v.bytes.length))):=by
 have i:=K4 v o h (dL [.M ah [] O] hS) k;rw[iw _ ((mo.1 hS).1)]at i;have c:(S.set j (fY j (r.go v.bytes.length))).length=S.length:=ca;have p:ba [] S.length (S.set j (fY j (r.go v.bytes.length))++[.M ah [] O,.M ah [] O]) 6 (.P (S.length+1) 0) (.A v.aq)=J ([],jc S j (r.go v.bytes.length) (.M ah [] O) (.M v.aq [] O)):=by simp[PW c (bu.jh v).br,(dX ca:aQ ah 0 v.aq=v.aq),jc]
 have e:ba [] S.length (jc S j (r.go v.bytes.length) (.M ah [] O) (.M v.aq [] O)) 6 (.P S.length 0) (.A v.aq)=J ([],jc S j (r.go v.bytes.length) (.M v.aq [] O) (.M v.aq [] O)):=by unfold jc;simp[Bu c (bu.jh v).br]
 have f:∀d z b,(jc S j d z b).take S.length=S.set j (fY j d):=λd z b=>by grind [jc]
 rw[jN aqc];simp[i,p,AX (sR hS (r.go v.bytes.length) (.M ah [] O) (.M v.aq [] O)) k.go,(rfl:ec .eql (.kv fV) G .dj .dj=J (.B G)),(by rw[oD];simp:aX (jc S j (r.go v.bytes.length) (.M ah [] false) (.M v.aq [] false)) (.A 6) (.P (S.length+1) 0)=some (.A v.aq)),n,a,l,bT,e,(by unfold jc;rw[lT0 c];simp:aX (jc S j (r.go v.bytes.length) (.M v.aq [] false) (.M v.aq [] false)) (.A 6) (.P S.length 0)=some (.A v.aq)),f]
def Hp{S:Z}{j m:Nat}{r:Rd}{u:X}(v:bu)(o:v.Wf)(h:v.bB 5=G)(hS:S[j]? =J (fY j r))(l:r_ r (v.bytes++u))(g:FuncId)(n:nk.tD g=D)(a:uS g=O)
 (k:W N C g [.A v.aq,.P m 0] (jc S j (r.go v.bytes.length) (.M ah [] O) (.M v.aq [] O))=J (.B G,jc S j (r.go v.bytes.length) (.M ah [] O) (.M v.aq [] O))):
 W N C 197 [.P j 0,.fn g [] [.P m 0]] S=J (.A v.aq,S.set j (fY j (r.go v.bytes.length))):=by
 have i:=K4 v o h (dL [.M ah [] O] hS) l;rw[iw _ ((mo.1 hS).1)]at i;have c:(S.set j (fY j (r.go v.bytes.length))).length=S.length:=ca;have p:ba [] S.length (S.set j (fY j (r.go v.bytes.length))++[.M ah [] O,.M ah [] O]) 6 (.P (S.length+1) 0) (.A v.aq)=J ([],jc S j (r.go v.bytes.length) (.M ah [] O) (.M v.aq [] O)):=by simp[PW c (bu.jh v).br,(dX ca:aQ ah 0 v.aq=v.aq),jc]
 have e:ba [] S.length (jc S j (r.go v.bytes.length) (.M ah [] O) (.M v.aq [] O)) 6 (.P S.length 0) (.A v.aq)=J ([],jc S j (r.go v.bytes.length) (.M v.aq [] O) (.M v.aq [] O)):=by unfold jc;simp[Bu c (bu.jh v).br]
 have f:∀d z b,(jc S j d z b).take S.length=S.set j (fY j d):=λd z b=>by grind [jc]
 rw[jN aqc];simp at k;simp[i,p,AX (sR hS (r.go v.bytes.length) (.M ah [] O) (.M v.aq [] O)) l.go,(rfl:ec .eql (.kv fV) G .dj .dj=J (.B G)),(by rw[oD];simp:aX (jc S j (r.go v.bytes.length) (.M ah [] false) (.M v.aq [] false)) (.A 6) (.P (S.length+1) 0)=some (.A v.aq)),n,a,k,bT,e,(by unfold jc;rw[lT0 c];simp:aX (jc S j (r.go v.bytes.length) (.M v.aq [] false) (.M v.aq [] false)) (.A 6) (.P S.length 0)=some (.A v.aq)),f]
def mq(k:Int)(a b:X)(ts xs ys:K)(pr ir:Q):K:=[.I Y k,.S a,.S b]++(ts++(xs++(ys++[pr,ir])))
theorem pY{k:Int}{a b:X}{c xs ys:K}{pr ir:Q}(d:c.length=3)(e:xs.length=6)(f:ys.length=6):(mq k a b c xs ys pr ir).length=20:=by simp[mq,d,e,f]
def aqJ{k:Int}{a b:X}{d xs ys:K}{pr ir:Q}(e:d.length=3)(f:d.map aV=d):dG (.A 3) (mq k a b d xs ys pr ir) 3=J (.A d):=
 kB (a:=[.I Y k,.S a,.S b]) (b:=d) (c:=xs++(ys++[pr,ir])) rfl rfl e f
def aCA{k:Int}{a b:X}{c xs ys:K}{pr ir:Q}(d:c.length=3)(e:xs.length=6)(f:ys.length=6):(mq k a b c xs ys pr ir)[18]? =J pr:=by simp_all[mq]
theorem mE{l a b c b':K}{off:Nat}(f:l=a++(b++c))(d:a.length=off)(e:b'.length=b.length):aQ l off b'=a++(b'++c):=by grind [aQ]
def aur{k:Int}{a b:X}{e xs ys:K}{pr d ir:Q}(f:e.length=3)(g:xs.length=6)(h:ys.length=6):aQ (mq k a b e xs ys pr ir) 18 [d]=mq k a b e xs ys d ir:=by exact(mE (l:=mq k a b e xs ys pr ir) (off:=18) (b':=[d]) (a:=[.I Y k,.S a,.S b]++(e++(xs++ys))) (b:=[pr]) (c:=[ir]) (by simp[mq]) (by simp_all) rfl).trans (by simp[mq])
def aus{k:Int}{a b:X}{e xs ys:K}{pr ir d:Q}(f:e.length=3)(g:xs.length=6)(h:ys.length=6):aQ (mq k a b e xs ys pr ir) 19 [d]=mq k a b e xs ys pr d:=by exact(mE (l:=mq k a b e xs ys pr ir) (off:=19) (b':=[d]) (a:=[.I Y k,.S a,.S b]++(e++(xs++(ys++[pr])))) (b:=[ir]) (c:=[]) (by simp[mq]) (by simp_all) rfl).trans (by simp[mq])
def ak6{k:Int}{a b:X}{e d xs ys:K}{pr ir:Q}(g:e.length=3)(f:d.length=3):aQ (mq k a b e xs ys pr ir) 3 d=mq k a b d xs ys pr ir:=by exact(mE (l:=mq k a b e xs ys pr ir) (off:=3) (b':=d) (a:=[.I Y k,.S a,.S b]) (b:=e) (c:=xs++(ys++[pr,ir])) rfl rfl V).trans rfl
def ak7{k:Int}{a b:X}{e xs d ys:K}{pr ir:Q}(f:e.length=3)(h:xs.length=6)(g:d.length=6):aQ (mq k a b e xs ys pr ir) 6 d=mq k a b e d ys pr ir:=by exact(mE (l:=mq k a b e xs ys pr ir) (off:=6) (b':=d) (a:=[.I Y k,.S a,.S b]++e) (b:=xs) (c:=ys++[pr,ir]) rfl (by simp[f]) V).trans rfl
def aut{k:Int}{a b:X}{e xs ys d:K}{pr ir:Q}(g:e.length=3)(h:xs.length=6)(i:ys.length=6)(f:d.length=6):aQ (mq k a b e xs ys pr ir) 12 d=mq k a b e xs d pr ir:=by exact(mE (l:=mq k a b e xs ys pr ir) (off:=12) (b':=d) (a:=[.I Y k,.S a,.S b]++(e++xs)) (b:=ys) (c:=[pr,ir]) (by simp[mq]) (by grind) V).trans (by simp[mq])
def K6(S:Z)(j m:Nat)(r:Rd)(b:de)(G:List de):Z:=(S.set j (fY j r)).set m b++G
section
variable{S:Z}{j m:Nat}{r:Rd}(hS:S[j]? =J (fY j r))(hm:m<S.length)(hjm:j≠m)
include hS hjm in
theorem OJ(c:Rd)(b:de)(a:List de):(K6 S j m c b a)[j]? =J (fY j c):=by
 refine dL a ?_
 grind
include hS hjm in
theorem Wq(d c:Rd)(b:de)(a:List de):(K6 S j m d b a).set j (fY j c)=K6 S j m c b a:=by grind [K6,List.set_comm,List.set_set]
include hm in
theorem ak8(c:Rd)(b:de)(a:List de):(K6 S j m c b a)[m]? =J b:=dL a (Tj (by simp_all))
include hm in
theorem ak9(d:Rd)(b c:de)(a:List de):(K6 S j m d b a).set m c=K6 S j m d c a:=by grind [K6,List.set_set]
end
def aoL(S:Z)(j m:Nat)(r:Rd)(b:de)(a c:List de):K6 S j m r b a++c=K6 S j m r b (a++c):=s_ ..
def Mu(l:List fO):kp:=l.map fO.aq
def ad6(a:List fO)(x:fO):Mu (a++[x])=Mu a++[x.aq]:=by simp[Mu]
@[simp]theorem ad7(a:List fO):(Mu a).length=a.length:=by simp[Mu]
def T_(l:List fO):eS (Mu l)=G:=kC.2 λx a=>by obtain⟨s,_,rfl⟩:=zK.1 a;exact cU.br ca
def afW(a:List fO):eE (fc 12 (Mu a))=rj a:=sx 12 _
def Wr(n:Nat):bV:=if n=0 then[]else[J n]
def Cp{T:Z}{m:Nat}{k:Int}{a b:X}{t:bQ}{xs ys:K}{pr ir:Q}{bt:bV}{q:Bool}(hm:T[m]? =J (.M (mq k a b t.aq xs ys pr ir) bt q))(y:bu)(e:y.Wf)(d:t.Wf)(h:rU y t=G):
 W N C 193 [.A y.aq,.P m 0] T=J (.B G,T):=by
 have c:=Ch y t e d (T++[.M y.aq [] O]);rw[h]at c;have f:aX (T++[.M y.aq [] O]) (.A 3) (.P m 3)=J (.A t.aq):=by rw[bL (dL [.M y.aq [] O] hm)];exact aqJ ca (bQ.jh t).jg
 simp[jN az8,f,c]
def ak_{S:Z}{j m:Nat}{r:Rd}{u:X}(l:bU)(hl:l.Lk)(hq:l.type.ak<=4)(hbk:kh l.back=G)(hp8:l.bj.length<=8)(hpr:l.bj.all (wz l.type)=G){k:Int}{a b:X}{xs ys:K}{ir:Q}(hx:xs.length=6)(hy:ys.length=6)
 (hS:S[j]? =J (fY j r)) (hm:S[m]? =J (.M (mq k a b l.type.aq xs ys .aw ir) [] O)) (hjm:j≠m) (hr:r_ r (l.back.bytes++(cJ l.bj.length++(l.bj.flatMap nO++u)))):
 W N C 198 [.P j 0,.P m 0,.fn 193 [] [.P m 0]] S=J (.cV [],K6 S j m (r.go (l.back.bytes.length+((cJ l.bj.length).length+(l.bj.flatMap nO).length))) (.M (mq k a b l.type.aq xs l.back.aq (bO m 0 12 (Mu l.bj)) ir) (Wr l.bj.length) O) []):=by
 have hj:j<S.length:=(mo.1 hS).1;have hml:m<S.length:=(mo.1 hm).1;have I:=hbk;unfold kh at I;simp only[mz]at I;have ht3:l.type.aq.length=3:=ca;have c1:=Ny l.back hl.back I.1 hS hr 253 rfl rfl (λT=>by rw[xJ l.back hl.back,hbk]);have hm1:(S.set j (fY j (r.go l.back.bytes.length)))[m]? =J (.M (mq k a b l.type.aq xs ys .aw ir) [] O):=by simp_all
 have st1:ba [] S.length (S.set j (fY j (r.go l.back.bytes.length))) 6 (.P m 12) (.A l.back.aq)=J ([],K6 S j m (r.go l.back.bytes.length) (.M (mq k a b l.type.aq xs l.back.aq (bO m 0 12 (Mu [])) ir) (Wr 0) O) []):=by rw[eH (lj (bu.jh l.back)) hm1,if_pos ⟨by simp,by rw[pY ht3 hx hy];omega⟩];simp_all[aut,K6,bO,Mu,Wr]
 have R1:=hr.go;have c2:=oP (OJ hS hjm (r.go l.back.bytes.length) (.M (mq k a b l.type.aq xs l.back.aq (bO m 0 12 (Mu [])) ir) (Wr 0) O) []) (n:=l.bj.length) V R1;rw[Wq hS hjm]at c2;have R2:=R1.go;have gg:∀d i(A:Rd)(s:bV)(e:List de),i+d=l.bj.length->r_ A ((l.bj.drop i).flatMap nO++u)->
  ∃w v,DC N C (.L G4) ⟨[(0,.P j 0),(1,.P m 0),(2,.fn 193 [] [.P m 0]),(6,.I U (l.bj.length:Int)),(7,.I U (i:Int))],s,S.length⟩ (K6 S j m A (.M (mq k a b l.type.aq xs l.back.aq (bO m 0 12 (Mu (l.bj.take i))) ir) (Wr i) O) e)=
   J (.E 0,⟨[],w,S.length⟩,K6 S j m (A.go ((l.bj.drop i).flatMap nO).length) (.M (mq k a b l.type.aq xs l.back.aq (bO m 0 12 (Mu l.bj)) ir) (Wr l.bj.length) O) v):=by
  intro d;induction d with
  |zero=>
   intro i A s e hi z;have ei:i=l.bj.length:=V;have e3:l.bj.drop i=[]:=jM V;refine⟨s,e, ?_⟩;simp[aj,aO qg,e3,(oL V:l.bj.take i=l.bj),ei,Rd.go]
  |succ d ih=>
   intro i A s e hi z;have h3:i<l.bj.length:=V;have⟨y,hy1,hy'⟩:=aS (l:=l.bj) (i:=i) V;have ym:=gM hy1;have hw:dh U ((i:Int)+1)=((i+1:Nat):Int):=by show((i:Int)+1)%2^64=_;omega
   have yp:=AF.1 hpr y ym;have yw:=hl.pair y ym;unfold wz at yp;simp only[mz]at yp;have yx:=yp.1;unfold kh at yx;simp only[mz]at yx;have yy:=qW yp.2;rw[bf hy1,EI]at z⊢;unfold nO at z;rw[s_,s_]at z;have Q1:=z.go;have Q2:=Q1.go;have lP:(l.bj.take i).length=i:=by grind
   generalize hB:de.M (mq k a b l.type.aq xs l.back.aq (bO m 0 12 (Mu (l.bj.take i))) ir) (Wr i) O=c at*;have ce:=AX (OJ hS hjm A c e) z;have d1:=Ny y.x yw.1 yx.1 (OJ hS hjm A c e) z 253 rfl rfl (λT=>by rw[xJ y.x yw.1,yp.1]);rw[Wq hS hjm]at d1;have P:∀p E v,(K6 S j m p E v).length=S.length+v.length:=λp E v=>by simp[K6]
   have ap:∀p E v f,K6 S j m p E v++[f]=K6 S j m p E (v++[f]):=λ_ _ _ _=>aoL ..;have hsp:aQ ah 0 y.x.aq=y.x.aq:=dX ca;have lx:∀p E,aX (K6 S j m p E (e++[.M y.x.aq [] O])) (.A 6) (.P (S.length+e.length) 0)=J (.A y.x.aq):=λp E=>by simp[<-ap,<-P p E e,Ws]
   have hB2:∀p v,(K6 S j m p c v)[m]? =J (.M (mq k a b l.type.aq xs l.back.aq (bO m 0 12 (Mu (l.bj.take i))) ir) (Wr i) O):=λp v=>by rw[ak8 hml,hB]
   have l18:∀p v,aX (K6 S j m p c v) .C (.P m 18)=J (bO m 0 12 (Mu (l.bj.take i))):=λp v=>by rw[bL (hB2 p v),k_,aCA ht3 hx ca]
   have d2:=Hp (m:=m) y.y yw.2 yy.1 (OJ hS hjm (A.go y.x.bytes.length) c (e++[.M y.x.aq [] O])) Q1 193 rfl rfl (by
    refine Cp (k:=k) (a:=a) (b:=b) (t:=l.type) (xs:=xs) (ys:=l.back.aq) (pr:=bO m 0 12 (Mu (l.bj.take i))) (ir:=ir) (bt:=Wr i) (q:=O) ?_ y.y yw.2 hl.type yp.2
    grind [jc])
   rw[Wq hS hjm]at d2
   have⟨v1,t1,S1,t2,a1,a2⟩:=auq (sz:=12) (es:=Mu (l.bj.take i)) (x:=y.aq) (o:=18) s 0 (hB2 ((A.go y.x.bytes.length).go y.y.bytes.length) (e++[.M y.x.aq [] O])) (λh=>by
    have:l.bj.take i=[]:=by simpa[Mu]using h
    have:i=0:=by simp_all
    rw[this];rfl) (λh=>by
    grind [Wr,ad7]) (by simp;omega) (by rw[pY ht3 hx ca];omega) (by rw[<-ad6];exact T_ _)
   rw[ak9 hml,aur ht3 hx ca,<-ad6]at a2;have eu:(if Mu (l.bj.take i)=[]then Wr i++[J 1]else(Wr i).set 0 (J ((Mu (l.bj.take i)).length+1)))=Wr (i+1):=by grind [ad7,Wr]
   rw[eu,<-(by rw[wx,hy1];rfl:l.bj.take (i+1)=l.bj.take i++[y])]at a2;have⟨w,v,n1⟩:=ih (i+1) ((A.go y.x.bytes.length).go y.y.bytes.length) t2 (e++[.M y.x.aq [] O]) V Q2;refine⟨w,v, ?_⟩;have es:(A.go y.x.bytes.length).go y.y.bytes.length=A.go (y.x.bytes.length+y.y.bytes.length):=ca;rw[(by simp[Rd.go,nO,Et]:A.go (nO y++(l.bj.drop (i+1)).flatMap nO).length=(A.go (y.x.bytes.length+y.y.bytes.length)).go ((l.bj.drop (i+1)).flatMap nO).length)];have st:∀p,ba s S.length (K6 S j m p c (e++[.M ah [] O])) 6 (.P (S.length+e.length) 0) (.A y.x.aq)=J (s,K6 S j m p c (e++[.M y.x.aq [] O])):=λp=>by rw[<-ap,<-ap,<-P p c e,vh (lj (bu.jh y.x))];simp
   have pe:dk pk [(0,6,.A y.x.aq),(6,6,.A y.y.aq)]=J y.aq:=by simp_all[aQ,fO.aq,dk]
   have bo:fh 12 [pk] [(0,.A y.aq)]=J [y.aq]:=by simp_all[fh]
   simp only[es]at a1 a2 n1;rw[aj,aO qg];simp only[es]at d2;have ld:=P;simp[-List.length_flatMap]at hw n1 bo pe;simp[h3,ce,(rfl:ec .eql (.kv fV) G .dj .dj=J (.B G)),d1,ap,ld,st,h9,l18,lx,d2,pe,bo,a1,a2, -List.length_flatMap];rw[ab qg];simp[hw,n1, -List.length_flatMap]
 have⟨w,v,g⟩:=gg l.bj.length 0 _ [] [] V R2;simp only[List.take_zero,uC]at g;have tk:∀p E,(K6 S j m p E v).take S.length=K6 S j m p E []:=λp E=>by grind [K6]
 rw[(by simp[Rd.go,Et]:((r.go l.back.bytes.length).go (cJ l.bj.length).length).go (l.bj.flatMap nO).length=r.go (l.back.bytes.length+((cJ l.bj.length).length+(l.bj.flatMap nO).length)))]at g;rw[LB aAb];simp at c1 c2;simp[-List.length_flatMap]at g;simp[c1,h9,st1,c2,(eq_false V:((8:Int)<(l.bj.length:Int))=False), -List.length_flatMap];rw[ab qg];simp[g,tk,dv,aP,cy,aG, -List.length_flatMap]
end
@[simp high]def aD_(x:UInt64):bT .xor (M x)=J (M (~~~x)):=by
  show J (AV.I U (dh U ((gU 64 (18446744073709551615:Int)^^^gU 64 (x.toNat:Int)).toNat:Int)))=J (.I U (((~~~x).toNat:Nat):Int));have a:gU 64 (x.toNat:Int)=x.toBitVec:=by apply BitVec.eq_of_toNat_eq;rw[ZA,fQ x.toNat_lt];rfl
  rw[(fE:gU 64 (18446744073709551615:Int)=BitVec.allOnes 64),(BitVec.allOnes_xor:(BitVec.allOnes 64^^^gU 64 (x.toNat:Int))= ~~~(gU 64 (x.toNat:Int))),a,Ig,fQ (BitVec.isLt _)];rfl
def Y7(n:Nat)(h:n<72057594037927936):B .shl (.I U (n:Int)) (.I U 8)=J (.I U ((n*256:Nat):Int)):=by
 show(if(8:Int)<0 then D else J (AV.I U (dh U ((n:Int)*2^(min (8:Int).toNat 64)))))=_;have:(n:Int)*2^8=((n*256:Nat):Int):=by rfl
 rw[if_neg fE,(fE:min (8:Int).toNat 64=8),this,Ig,fQ V]
def ad_(n:Nat)(y:UInt8)(h:n<72057594037927936):B .or (.I U ((n*256:Nat):Int)) (.I U (y.toNat:Int))=J (.I U ((n*256+y.toNat:Nat):Int)):=by
 have c:=y.toNat_lt;have a:n*256+y.toNat<2^64:=V;have b:n*256|||y.toNat=n*256+y.toNat:=by have:=aoV n y;rwa [AL]at this
 show J (AV.I U (dh U ((gU 64 ((n*256:Nat):Int)|||gU 64 (y.toNat:Int)).toNat:Int)))=_;rw[UX,ZA,ZA,fQ (Tq (Nat.le_add_right _ _) a),fQ (Tq (Nat.le_add_left _ _) a),Ig,b,fQ a]
def MB(r:f_)(b:X)(w:b.length<=8)(nb:Nat)(S:Z):∀d i n,i+d=b.length->n<256^i->
 DC N C (.L BL) ⟨[(3,.I U (n:Nat)),(6,.sl r 1 (IJ b)),(7,.I Y (b.length:Int)),(8,.I Y (i:Nat))],[],nb⟩ S=
  J (.E 0,⟨[(3,.I U ((ZB n (b.drop i):Nat):Int))],[],nb⟩,S):=by
 intro d;induction d with
 |zero=>
  simp_all[aj,nQ,ZB]
 |succ d u=>
  intro i n x m;have⟨y,t,g⟩:=aS (l:=b) (i:=i) V;have o:=aR (i:=i) V;have z:=y.toNat_lt;have q:(256:Nat)^i<=256^7:=ya V V;have nb:=zj m q;have e:n*256+y.toNat<256^(i+1):=V;have h:=Y7 n nb;have f:=ad_ n y nb;have p:=u (i+1) (n*256+y.toNat) V e;rw[aj,aO nQ,bf t,ZB];obtain⟨A,j⟩:∃A:Int,A=((n*256+y.toNat:Nat):Int):=⟨_,rfl⟩;obtain⟨c,k⟩:∃c:Int,c=((n*256:Nat):Int):=⟨_,rfl⟩;rw[<-j]at p f;rw[<-k]at h f;clear j k e m q nb;simp at p o;have s:∀a b,B .add (.I Y a) (.I Y b)=J (.I Y (dh Y (a+b))):=λ_ _=>rfl;have v:∀a b,B .lss (.I Y a) (.I Y b)=J (.B (ck (a<b))):=λ_ _=>rfl;simp[(V:i<b.length),g,bq, -B, -oI,h,f,abF y,s,v,o];rw[ab nQ];trivial
def MC(r:f_)(b:X)(a:b.length<=8)(S:Z):W N C 236 [.sl r 1 (IJ b)] S=J (.I U ((ZB 0 b:Nat):Int),S):=by have h:=MB r b a S.length S b.length 0 0 V ca;rw[jC aAz];simp at h;simp;rw[ab nQ];simp[h]
def Su(w:List UInt64)(i:Nat):UInt64:=
 w.getD (i -16) 0+(jk (w.getD (i -15) 0) 1^^^jk (w.getD (i -15) 0) 8^^^ct (w.getD (i -15) 0) 7)+w.getD (i -7) 0+(jk (w.getD (i -2) 0) 19^^^jk (w.getD (i -2) 0) 61^^^ct (w.getD (i -2) 0) 6)
def za(b:X)(i:Nat):UInt64:=UInt64.ofNat (ZB 0 ((b.take (8*i+8)).drop (8*i)))
def oJ(b:X):Nat->List UInt64
 |0=>[]
 |i+1=>oJ b i++[if i<16 then za b i else Su (oJ b i) i]
structure W8 where
 a:UInt64
 b:UInt64
 c:UInt64
 d:UInt64
 e:UInt64
 f:UInt64
 g:UInt64
 h:UInt64
def W8.t(v:W8)(k w:UInt64):UInt64:=v.h+(jk v.e 14^^^jk v.e 18^^^jk v.e 41)+(v.e&&&v.f^^^ ~~~v.e&&&v.g)+k+w
def W8.u(v:W8):UInt64:=(jk v.a 28^^^jk v.a 34^^^jk v.a 39)+(v.a&&&v.b^^^v.a&&&v.c^^^v.b&&&v.c)
def W8.round(v:W8)(k w:UInt64):W8:=⟨v.t k w+v.u,v.a,v.b,v.c,v.d+v.t k w,v.e,v.f,v.g⟩
def W8.rounds(v:W8)(ks ws:List UInt64):Nat->W8
 |0=>v
 |i+1=>(v.rounds ks ws i).round (ks.getD i 0) (ws.getD i 0)
def W8.add(s v:W8):W8:=⟨s.a+v.a,s.b+v.b,s.c+v.c,s.d+v.d,s.e+v.e,s.f+v.f,s.g+v.g,s.h+v.h⟩
def W8.sa(s:W8)(ks:List UInt64)(b:X):W8:=s.add (s.rounds ks (oJ b 80) 80)
def qt:W8:=⟨7640891576956012808,13503953896175478587,4354685564936845355,11912009170470909681,5840696475078001361,11170449401992604703,2270897969802886507,6620516959819538809⟩
def iG:List UInt64:=[4794697086780616226,8158064640168781261,13096744586834688815,16840607885511220156,4131703408338449720,6480981068601479193,10538285296894168987,12329834152419229976,15566598209576043074,1334009975649890238,2608012711638119052,6128411473006802146,8268148722764581231,9286055187155687089,11230858885718282805,13951009754708518548,16472876342353939154,17275323862435702243,1135362057144423861,2597628984639134821,3308224258029322869,5365058923640841347,6679025012923562964,8573033837759648693,10970295158949994411,12119686244451234320,12683024718118986047,13788192230050041572,14330467153632333762,15395433587784984357,489312712824947311,1452737877330783856,2861767655752347644,3322285676063803686,5560940570517711597,5996557281743188959,7280758554555802590,8532644243296465576,9350256976987008742,10552545826968843579,11727347734174303076,12113106623233404929,14000437183269869457,14369950271660146224,15101387698204529176,15463397548674623760,17586052441742319658,1182934255886127544,1847814050463011016,2177327727835720531,2830643537854262169,3796741975233480872,4115178125766777443,5681478168544905931,6601373596472566643,7507060721942968483,8399075790359081724,8693463985226723168,9568029438360202098,10144078919501101548,10430055236837252648,11840083180663258601,13761210420658862357,14299343276471374635,14566680578165727644,15097957966210449927,16922976911328602910,17689382322260857208,500013540394364858,748580250866718886,1242879168328830382,1977374033974150939,2944078676154940804,3659926193048069267,4368137639120453308,4836135668995329356,5532061633213252278,6448918945643986474,6902733635092675308,7801388544844847127]
def Ri:Nat->W8->X->W8
 |0,v,_=>v
 |n+1,v,b=>Ri n (v.sa iG b) (b.drop 128)
def W8.l(v:W8):List UInt64:=[v.a,v.b,v.c,v.d,v.e,v.f,v.g,v.h]
def W8.tX(v:W8):X:=v.l.flatMap λx=>Ft 8 x.toNat
def bM(l:X):X:=(Ri ((l++fX l.length).length/128) qt (l++fX l.length)).tX
@[simp]def K9(b:X)(i:Nat):(oJ b i).length=i:=by
  induction i with
  |zero=>rfl
  |succ i a=>simp[oJ,a]
def Ba{l:List UInt64}{j:Nat}(h:j<l.length):l[j]? =J (l.getD j 0):=by simp_all
def Sv(b:X)(i:Nat):K:=(oJ b i).map M++fg (80 -i) (M 0)
def aoW(b:X){i:Nat}(h:i<=80):(Sv b i).length=80:=by simp[Sv];omega
def OM(b:X){i j:Nat}(h:j<i):(Sv b i)[j]? =J (M ((oJ b i).getD j 0)):=by simp_all[Sv,FT]
def aec(b:X){i:Nat}(h:i<80)(x:UInt64)(d:x=if i<16 then za b i else Su (oJ b i) i):aQ (Sv b i) i [M x]=Sv b (i+1):=by have e:80 -i=(80 -(i+1))+1:=V;have:=mE (l:=Sv b i) (off:=i) (b':=[M x]) (a:=(oJ b i).map M) (b:=[M 0]) (c:=fg (80 -(i+1)) (M 0)) (by grind [Sv]) ca rfl;rw[this,d];unfold Sv;simp[oJ]
def Wu:∀(b:X)(n k:Nat),n<256^k->ZB n b<256^(k+b.length)
 |[],n,k,h=>by trivial
 |c::r,n,k,h=>by
  have a:=c.toNat_lt;have:=Wu r (n*256+c.toNat) (k+1) V
  grind [ZB]
def Uc(S:Z)(s z w:K):Z:=S++[.M s [] O,.M z [] O,.M w [] O]
def Zc(S:Z)(s z w:K):(Uc S s z w)[S.length+2]? =J (.M w [] O):=cr S _ 2
def alj(S:Z)(s z w w':K):(Uc S s z w).set (S.length+2) (.M w' [] O)=Uc S s z w':=AI S _ 2 _
def ON{S:Z}{s z w:K}{j:Nat}{v:Q}(h:w[j]? =J v):aX (Uc S s z w) .C (.P (S.length+2) j)=J v:=by rw[bL (Zc S s z w),k_,h]
def aed{S:Z}{s z w:K}{j:Nat}{x:UInt64}(h:j+1<=w.length)(ag:bV):ba ag S.length (Uc S s z w) 1 (.P (S.length+2) j) (M x)=J (ag,Uc S s z (aQ w j [M x])):=by rw[eH (Kl x).NP (Zc ..),alj,if_pos ⟨rfl,h⟩];rfl
def Cr(n m i:Nat)(h:i<n)(k:IntKind):jS n 1 (.P m 0) (.I k (i:Int))=J (.P m i):=by simp_all
def Y8(i c:Nat)(h:c<=i)(a:i<1000):B .sub (.I Y (i:Int)) (.I Y (c:Int))=J (.I Y ((i -c:Nat):Int)):=by
 show J (AV.I Y (dh Y ((i:Int) -(c:Int))))=_;rw[cF V]
 grind
def alk(b:X)(hb:128<=b.length)(S:Z)(m:Nat)(s z:K):∀d i,i+d=80->
 DC N C (.L vI) ⟨[(1,dw b),(2,.P m 0),(3,.P S.length 0),(6,.P (S.length+1) 0),(7,.P (S.length+2) 0),(18,.I Y (i:Nat))],[],S.length⟩ (Uc S s z (Sv b i))=
  J (.E 0,⟨[(2,.P m 0),(3,.P S.length 0),(6,.P (S.length+1) 0),(7,.P (S.length+2) 0)],[],S.length⟩,Uc S s z (Sv b 80)):=by
 have aI:∀a b,B .add (.I Y a) (.I Y b)=J (.I Y (dh Y (a+b))):=λ_ _=>rfl;have lI:∀a b,B .lss (.I Y a) (.I Y b)=J (.B (ck (a<b))):=λ_ _=>rfl;intro d;induction d with
 |zero=>
  intro i hi;have e:i=80:=V;subst e;simp[aj,aO mf]
 |succ d ih=>
  intro i hi;have h3:i<80:=V;have k:(i:Int)<80:=V;have v:=aR (i:=i) V;have E:=ih (i+1) V;have o:=Cr 80 (S.length+2) i h3 Y;have hlen:=aoW b (i:=i) V;by_cases h16:i<16
  ·have f:(i:Int)<16:=by omega
   have m1:B .mul (.I Y 8) (.I Y (i:Int))=J (.I Y ((8*i:Nat):Int)):=by show J (AV.I Y (dh Y (8*(i:Int))))=_;rw[cF V];congr 2
   have P:dh Y (((8*i:Nat):Int)+8)=((8*i+8:Nat):Int):=by rw[cF V];omega
   have ql:((b.take (8*i+8)).drop (8*i)).length=8:=by simp;omega
   have I:=Mk b (8*i) (8*i+8) V V;obtain⟨q,hq⟩:∃q,q=(b.take (8*i+8)).drop (8*i):=⟨_,rfl⟩;have wq:za b i=UInt64.ofNat (ZB 0 q):=by rw[hq];rfl
   rw[<-hq]at I ql;have e1:dw q=.sl .N 1 (IJ q):=by cases q<;>rfl
   have T:=MC .N q V (Uc S s z (Sv b i));rw[<-e1]at T;have bl:=Wu q 0 0 ca;rw[ql]at bl;have cv:(AV.I U ((ZB 0 q:Nat):Int))=M (za b i):=by show AV.I U ((ZB 0 q:Nat):Int)=AV.I U (((za b i).toNat:Nat):Int);simp_all[fQ]
   rw[cv]at T;have g:=aed (S:=S) (s:=s) (z:=z) (w:=Sv b i) (j:=i) (x:=za b i) V [];rw[aec b h3 (za b i) (by simp_all)]at g;obtain⟨A,hA⟩:∃A:Int,A=((8*i:Nat):Int):=⟨_,rfl⟩;obtain⟨c,hB⟩:∃c:Int,c=((8*i+8:Nat):Int):=⟨_,rfl⟩;rw[<-hA]at m1 P I;rw[<-hB]at P I;rw[aj,aO mf];simp at E v;simp[k,f, -B, -oI, -jS,aI,lI,m1,P,I,T,o,g];rw[ab mf];simp[v,E, -B]
  ·have f:¬(i:Int)<16:=by omega
   have p:B .sub (.I Y (i:Int)) (.I Y 15)=_:=Y8 i 15 V V;have s2:B .sub (.I Y (i:Int)) (.I Y 2)=_:=Y8 i 2 V V;have r:B .sub (.I Y (i:Int)) (.I Y 16)=_:=Y8 i 16 V V;have s7:B .sub (.I Y (i:Int)) (.I Y 7)=_:=Y8 i 7 V V;have t:=Cr 80 (S.length+2) (i -15) V Y;have x2:=Cr 80 (S.length+2) (i -2) V Y;have u:=Cr 80 (S.length+2) (i -16) V Y;have x7:=Cr 80 (S.length+2) (i -7) V Y;have l15:=ON (S:=S) (s:=s) (z:=z) (OM b (i:=i) (j:=i -15) V);have l2:=ON (S:=S) (s:=s) (z:=z) (OM b (i:=i) (j:=i -2) V);have l16:=ON (S:=S) (s:=s) (z:=z) (OM b (i:=i) (j:=i -16) V);have l7:=ON (S:=S) (s:=s) (z:=z) (OM b (i:=i) (j:=i -7) V);have g:=λx(h:True)=>aed (S:=S) (s:=s) (z:=z) (w:=Sv b i) (j:=i) (x:=x) V [];have g:=g (Su (oJ b i) i) trivial;rw[aec b h3 (Su (oJ b i) i) (by grind)]at g;unfold Su at g;generalize hx:(oJ b i).getD (i -15) 0=x at*;generalize hy:(oJ b i).getD (i -2) 0=y at*;generalize hx6:(oJ b i).getD (i -16) 0=xg at*;generalize hx7:(oJ b i).getD (i -7) 0=xh at*;have t7:W N C 237 [M x,.I Y 1] (Uc S s z (Sv b i))=_:=jV x 1 V V _;have t18:W N C 237 [M x,.I Y 8] (Uc S s z (Sv b i))=_:=jV x 8 V V _;have t17:W N C 237 [M y,.I Y 19] (Uc S s z (Sv b i))=_:=jV y 19 V V _;have t19:W N C 237 [M y,.I Y 61] (Uc S s z (Sv b i))=_:=jV y 61 V V _;have r7:B .shr (M x) (.I U 7)=J (M (ct x 7)):=Ae x 7 V U;have r6:B .shr (M y) (.I U 6)=J (M (ct y 6)):=Ae y 6 V U;obtain⟨A15,l⟩:∃A:Int,A=((i -15:Nat):Int):=⟨_,rfl⟩;obtain⟨A2,hA2⟩:∃A:Int,A=((i -2:Nat):Int):=⟨_,rfl⟩;obtain⟨A16,n⟩:∃A:Int,A=((i -16:Nat):Int):=⟨_,rfl⟩;obtain⟨A7,hA7⟩:∃A:Int,A=((i -7:Nat):Int):=⟨_,rfl⟩;rw[<-l]at p t;rw[<-hA2]at s2 x2;rw[<-n]at r u;rw[<-hA7]at s7 x7;rw[aj,aO mf];simp at E v;simp[k,f, -B, -oI, -jS,aI,lI,p,s2,r,s7,t,x2,u,x7,l15,l2,l16,l7,t7,t18,t17,t19,r7,r6,o,g];rw[ab mf];simp[v,E, -B]
def W8.aq(v:W8):K:=[M v.a,M v.b,M v.c,M v.d,M v.e,M v.f,M v.g,M v.h]
@[simp]def W8.len(v:W8):v.aq.length=8:=rfl
@[simp]def W8.jh(v:W8):cU v.aq:=by simp[W8.aq]
def Ju(S:Z)(s z w v:K):Z:=S++[.M s [] O,.M z [] O,.M w [] O,.M v [] O]
def alm(S:Z)(s z w v:K):(Ju S s z w v)[S.length+2]? =J (.M w [] O):=cr S _ 2
def Rk(S:Z)(s z w v:K):(Ju S s z w v)[S.length+3]? =J (.M v [] O):=cr S _ 3
def Zd(S:Z)(s z w v a:K):(Ju S s z w v).set (S.length+3) (.M a [] O)=Ju S s z w a:=AI S _ 3 _
def Rl(S:Z)(s z w v:K):(Ju S s z w v)[S.length]? =J (.M s [] O):=by have:=cr S [.M s [] O,.M z [] O,.M w [] O,.M v [] O] 0;trivial
def aln(S:Z)(s a z w v:K):(Ju S s z w v).set S.length (.M a [] O)=Ju S a z w v:=by have:=AI S [.M s [] O,.M z [] O,.M w [] O,.M v [] O] 0 (.M a [] O);trivial
def alo(S:Z)(s z a w v:K):(Ju S s z w v).set (S.length+1) (.M a [] O)=Ju S s a w v:=AI S _ 1 _
def Ze(S:Z)(s z w v:K):(Ju S s z w v)[S.length+1]? =J (.M z [] O):=cr S _ 1
def alp(S:Z)(s z w v:K):(Ju S s z w v).take S.length=S:=PS rfl
def auB(cs:K)(off:Nat)(x:UInt64)(r:List (Nat × Nat × Q))(h:off+1<=cs.length):dk cs ((off,1,M x)::r)=dk (aQ cs off [M x]) r:=by rw[dk,if_pos ⟨rfl,rfl,h⟩];rfl
def auC(a b c d e f g h:UInt64):dk cS [(0,1,M a),(1,1,M b),(2,1,M c),(3,1,M d),(4,1,M e),(5,1,M f),(6,1,M g),(7,1,M h)]=J [M a,M b,M c,M d,M e,M f,M g,M h]:=by simp[auB,aQ];rfl
set_option maxHeartbeats 1000000 in
def alq(S:Z)(m:Nat)(l h:List UInt64)(hk:l.length=80)(hws:h.length=80)(bt:bV)(q:Bool)(hm:S[m]? =J (.M (l.map M) bt q))(s z:K)(v:W8):∀d i,i+d=80->
 DC N C (.L vJ) ⟨[(2,.P m 0),(3,.P S.length 0),(6,.P (S.length+1) 0),(7,.P (S.length+2) 0),(11,.P (S.length+3) 0),(72,.I Y (i:Nat))],[],S.length⟩ (Ju S s z (h.map M) (v.rounds l h i).aq)=
  J (.E 2,⟨[(3,.P S.length 0),(6,.P (S.length+1) 0),(11,.P (S.length+3) 0)],[],S.length⟩,Ju S s z (h.map M) (v.rounds l h 80).aq):=by
 have aI:∀a b,B .add (.I Y a) (.I Y b)=J (.I Y (dh Y (a+b))):=λ_ _=>rfl;have lI:∀a b,B .lss (.I Y a) (.I Y b)=J (.B (ck (a<b))):=λ_ _=>rfl;intro d;induction d with
 |zero=>
  intro i hi;have e:i=80:=V;subst e;simp[aj,aO pV]
 |succ d ih=>
  intro i hi;have h3:i<80:=V;have E:(i:Int)<80:=V;have hw:=aR (i:=i) V;have o:=ih (i+1) V;have er:v.rounds l h (i+1)=(v.rounds l h i).round (l.getD i 0) (h.getD i 0):=rfl;rw[er]at o;generalize v.rounds l h i=f,Ju S s z (h.map M) (v.rounds l h 80).aq=c at*;generalize t:Ju S s z (h.map M) f.aq=T at*;have I:=Cr 80 m i h3 Y;have P:=Cr 80 (S.length+2) i h3 Y;have lk:aX T .C (.P m i)=J (M (l.getD i 0)):=by
   have:T[m]? =J (.M (l.map M) bt q):=by rw[<-t];exact dL _ hm
   rw[bL this,k_,zo,Ba V];rfl
  have lw:aX T .C (.P (S.length+2) i)=J (M (h.getD i 0)):=by
   have:T[S.length+2]? =J (.M (h.map M) [] O):=by rw[<-t];exact alm ..
   rw[bL this,k_,zo,Ba V];rfl
  generalize l.getD i 0=k,h.getD i 0=w at*;have n:T[S.length+3]? =J (.M f.aq [] O):=by rw[<-t];exact Rk ..
  have lv0:aX T .C (.P (S.length+3) 0)=J (M f.a):=by rw[bL n];rfl
  have lv1:aX T .C (.P (S.length+3) 1)=J (M f.b):=by rw[bL n];rfl
  have lv2:aX T .C (.P (S.length+3) 2)=J (M f.c):=by rw[bL n];rfl
  have lv3:aX T .C (.P (S.length+3) 3)=J (M f.d):=by rw[bL n];rfl
  have lv4:aX T .C (.P (S.length+3) 4)=J (M f.e):=by rw[bL n];rfl
  have lv5:aX T .C (.P (S.length+3) 5)=J (M f.f):=by rw[bL n];rfl
  have lv6:aX T .C (.P (S.length+3) 6)=J (M f.g):=by rw[bL n];rfl
  have lv7:aX T .C (.P (S.length+3) 7)=J (M f.h):=by rw[bL n];rfl
  have g:∀j:Nat,j<8->jS 8 1 (.P (S.length+3) 0) (.I Y (j:Int))=J (.P (S.length+3) j):=λj hj=>Cr 8 (S.length+3) j hj Y;have x0:jS 8 1 (.P (S.length+3) 0) (.I Y 0)=J (.P (S.length+3) 0):=g 0 V;have x1:jS 8 1 (.P (S.length+3) 0) (.I Y 1)=J (.P (S.length+3) 1):=g 1 V;have x2:jS 8 1 (.P (S.length+3) 0) (.I Y 2)=J (.P (S.length+3) 2):=g 2 V;have x3:jS 8 1 (.P (S.length+3) 0) (.I Y 3)=J (.P (S.length+3) 3):=g 3 V;have x4:jS 8 1 (.P (S.length+3) 0) (.I Y 4)=J (.P (S.length+3) 4):=g 4 V;have x5:jS 8 1 (.P (S.length+3) 0) (.I Y 5)=J (.P (S.length+3) 5):=g 5 V;have x6:jS 8 1 (.P (S.length+3) 0) (.I Y 6)=J (.P (S.length+3) 6):=g 6 V;have x7:jS 8 1 (.P (S.length+3) 0) (.I Y 7)=J (.P (S.length+3) 7):=g 7 V;have e6:W N C 237 [M f.e,.I Y 14] T=_:=jV f.e 14 V V T;have y:W N C 237 [M f.e,.I Y 18] T=_:=jV f.e 18 V V T;have A:W N C 237 [M f.e,.I Y 41] T=_:=jV f.e 41 V V T;have a2:W N C 237 [M f.a,.I Y 28] T=_:=jV f.a 28 V V T;have u:W N C 237 [M f.a,.I Y 34] T=_:=jV f.a 34 V V T;have x:W N C 237 [M f.a,.I Y 39] T=_:=jV f.a 39 V V T;have p:∀r:W8,ba [] S.length T 8 (.P (S.length+3) 0) (.A r.aq)=J ([],Ju S s z (h.map M) r.aq):=λr=>by rw[eH (lj r.jh) n,if_pos ⟨rfl,by simp⟩,<-t,Zd];rfl
  have fw:=auC (f.t k w+f.u) f.a f.b f.c (f.d+f.t k w) f.e f.f f.g;have p:=p (f.round k w);unfold W8.aq at p o;unfold W8.round at p o;unfold W8.t W8.u at p fw o;rw[aj,aO pV];simp at o hw;simp[E, -B, -jS,aI,lI,x0,x1,x2,x3,x4,x5,x6,x7,lv0,lv1,lv2,lv3,lv4,lv5,lv6,lv7,e6,y,A,a2,u,x,I,P,lk,lw,fw,p];rw[ab pV];simp[hw,o, -B]
def WM(s v:List UInt64)(i:Nat):List UInt64:=(List.zipWith (·+·) s v).take i++s.drop i
theorem aoX{s v:List UInt64}(h:v.length=s.length){i:Nat}(a:i<=s.length):(WM s v i).length=s.length:=by simp[WM,h];omega
def aoY{s v:List UInt64}(h:v.length=s.length){i:Nat}(a:i<s.length):(WM s v i)[i]? =J (s.getD i 0):=by grind [WM]
def aoZ{s v:List UInt64}(h:v.length=s.length){i:Nat}(a:i<s.length):aQ ((WM s v i).map M) i [M (s.getD i 0+v.getD i 0)]=(WM s v (i+1)).map M:=by
 have b:((List.zipWith (·+·) s v).take i).length=i:=by grind
 have c:=bf (Ba a)
 grind [mE,WM,List.take_add_one]
def W8.aqL(v:W8):v.aq=v.l.map M:=rfl
def aCJ(s v:W8):(WM s.l v.l 8).map M=(s.add v).aq:=rfl
def aCK(s v:W8):(WM s.l v.l 0).map M=s.aq:=rfl
def alr(S:Z)(s v:List UInt64)(r:s.length=8)(t:v.length=8)(z w:K):∀d i,i+d=8->
 DC N C (.L vK) ⟨[(3,.P S.length 0),(6,.P (S.length+1) 0),(11,.P (S.length+3) 0),(156,.I Y (i:Nat))],[],S.length⟩ (Ju S ((WM s v i).map M) z w (v.map M))=
  J (.E 4,⟨[(3,.P S.length 0),(6,.P (S.length+1) 0)],[],S.length⟩,Ju S ((WM s v 8).map M) z w (v.map M)):=by
 have j:∀a b,B .add (.I Y a) (.I Y b)=J (.I Y (dh Y (a+b))):=λ_ _=>rfl;have m:∀a b,B .lss (.I Y a) (.I Y b)=J (.B (ck (a<b))):=λ_ _=>rfl;intro d;induction d with
 |zero=>
  simp_all[aj,pW]
 |succ d k=>
  intro i q;have g:=aR (i:=i) V;have h:=k (i+1) V;have l:aX (Ju S ((WM s v i).map M) z w (v.map M)) .C (.P S.length i)=J (M (s.getD i 0)):=by rw[bL (Rl ..),k_,zo,aoY V V];rfl
  have f:aX (Ju S ((WM s v i).map M) z w (v.map M)) .C (.P (S.length+3) i)=J (M (v.getD i 0)):=by rw[bL (Rk ..),k_,zo,Ba V];rfl
  have n:ba [] S.length (Ju S ((WM s v i).map M) z w (v.map M)) 1 (.P S.length i) (M (s.getD i 0+v.getD i 0))=J ([],Ju S ((WM s v (i+1)).map M) z w (v.map M)):=by rw[eH (Kl _).NP (Rl ..),if_pos ⟨rfl,by grind [aoX]⟩,aln];rw[show(M (s.getD i 0+v.getD i 0)).cells=[M (s.getD i 0+v.getD i 0)]from rfl,aoZ V V]
  generalize s.getD i 0=a,v.getD i 0=b,(WM s v i).map M=c,(WM s v (i+1)).map M=o,(WM s v 8).map M=p,v.map M=e at*;rw[aj,aO pW];simp at h g;simp[(V:(i:Int)<8), -B, -jS,j,m,Cr 8 S.length i V Y,Cr 8 (S.length+3) i V Y,l,f,n];rw[ab pW];simp[g,h, -B]
def aNv:iK=fg 80 (M 0):=rfl
def Oa(s:W8)(b:X)(t:128<=b.length)(m:Nat)(e:List UInt64)(u:e.length=80)(S:Z)(bt:bV)(q:Bool)(v:S[m]? =J (.M (e.map M) bt q)):
 W N C 168 [.A s.aq,dw b,.P m 0] S=J (.A (s.sa e b).aq,S):=by
 have f:=alk b t S m s.aq cS 80 0 V;have p:Sv b 0=iK:=by rfl
 rw[p,(by unfold Sv;simp:Sv b 80=(oJ b 80).map M)]at f;have g:=alq S m e (oJ b 80) u ca bt q v s.aq cS s 80 0 V;have y:s.rounds e (oJ b 80) 0=s:=rfl;rw[y]at g;have h:=alr S s.l (s.rounds e (oJ b 80) 80).l rfl rfl cS ((oJ b 80).map M) 8 0 V;rw[aCK,aCJ,<-W8.aqL]at h;have r:s.add (s.rounds e (oJ b 80) 80)=s.sa e b:=rfl;rw[r]at h;generalize s.rounds e (oJ b 80) 80=c,s.sa e b=a,(oJ b 80).map M=d at*;have l:=s.jh;have i:=a.jh;have z:S++[de.M s.aq [] O,de.M cS [] O,de.M iK [] O]=Uc S s.aq cS iK:=rfl;have j:aX (Uc S s.aq cS d) (.A 8) (.P S.length 0)=J (.A s.aq):=by
  have:(Uc S s.aq cS d)[S.length]? =J (.M s.aq [] O):=by have:=cr S [.M s.aq [] O,.M cS [] O,.M d [] O] 0;assumption
  rw[bL this,fW _ s.len,l.jg]
 have k:ba [] S.length (Ju S s.aq cS d cS) 8 (.P (S.length+3) 0) (.A s.aq)=J ([],Ju S s.aq cS d s.aq):=by rw[eH (lj l) (Rk ..),if_pos ⟨s.len,by decide⟩,Zd,show(AV.A s.aq).cells=s.aq from rfl,dX ca]
 have w:∀c,aX (Ju S a.aq cS d c) (.A 8) (.P S.length 0)=J (.A a.aq):=λc=>by rw[bL (Rl ..),fW _ a.len,i.jg]
 have n:∀c,ba [] S.length (Ju S a.aq cS d c) 8 (.P (S.length+1) 0) (.A a.aq)=J ([],Ju S a.aq a.aq d c):=λc=>by rw[eH (lj i) (Ze ..),if_pos ⟨a.len,by decide⟩,alo,show(AV.A a.aq).cells=a.aq from rfl,dX ca]
 have x:∀c,aX (Ju S a.aq a.aq d c) (.A 8) (.P (S.length+1) 0)=J (.A a.aq):=λc=>by rw[bL (Ze ..),fW _ a.len,i.jg]
 have E:∀c,dv 168 [] [.A a.aq] S (Ju S a.aq a.aq d c)=J (.A a.aq,S):=λc=>by
  have A:cj (.A a.aq)=.A a.aq:=by rfl
  simp_all[alp]
 rw[LB azS];generalize iK=o at*;simp at f g h;simp[z];rw[ab mf];simp[f,j,(by unfold Uc Ju;simp:Uc S s.aq cS d++[de.M cS [] false]=Ju S s.aq cS d cS),(by simp[Uc]:(Uc S s.aq cS d).length=S.length+3),k];rw[ab pV];simp[g];rw[ab pW];simp_all
def als:iG.length=80:=rfl
def Ud(l:List UInt64):cU (l.map M):=by induction l<;>simp_all
def La(S:Z):W N C 166 [] S=J (.A qt.aq,S):=by
 have a:dk cS [(0,1,.I U 7640891576956012808),(1,1,.I U 13503953896175478587),(2,1,.I U 4354685564936845355),(3,1,.I U 11912009170470909681),(4,1,.I U 5840696475078001361),(5,1,.I U 11170449401992604703),(6,1,.I U 2270897969802886507),(7,1,.I U 6620516959819538809)]=J qt.aq:=by rfl
 have b:qt.aq.length=8:=rfl;have d:cj (.A qt.aq)=.A qt.aq:=by rfl
 have e:ba [] S.length (S++[.M cS [] O]) 8 (.P S.length 0) (.A qt.aq)=J ([],S++[.M qt.aq [] O]):=by rw[vh (lj qt.jh)];rfl
 have c:aX (S++[.M qt.aq [] O]) (.A 8) (.P S.length 0)=J (.A qt.aq):=by rw[ky];rfl
 rw[XC azQ];simp_all
def ao0:dk iK [(0,1,.I U 4794697086780616226),(1,1,.I U 8158064640168781261),(2,1,.I U 13096744586834688815),(3,1,.I U 16840607885511220156),(4,1,.I U 4131703408338449720),(5,1,.I U 6480981068601479193),(6,1,.I U 10538285296894168987),(7,1,.I U 12329834152419229976),(8,1,.I U 15566598209576043074),(9,1,.I U 1334009975649890238),(10,1,.I U 2608012711638119052),(11,1,.I U 6128411473006802146),(12,1,.I U 8268148722764581231),(13,1,.I U 9286055187155687089),(14,1,.I U 11230858885718282805),(15,1,.I U 13951009754708518548),(16,1,.I U 16472876342353939154),(17,1,.I U 17275323862435702243),(18,1,.I U 1135362057144423861),(19,1,.I U 2597628984639134821),(20,1,.I U 3308224258029322869),(21,1,.I U 5365058923640841347),(22,1,.I U 6679025012923562964),(23,1,.I U 8573033837759648693),(24,1,.I U 10970295158949994411),(25,1,.I U 12119686244451234320),(26,1,.I U 12683024718118986047),(27,1,.I U 13788192230050041572),(28,1,.I U 14330467153632333762),(29,1,.I U 15395433587784984357),(30,1,.I U 489312712824947311),(31,1,.I U 1452737877330783856),(32,1,.I U 2861767655752347644),(33,1,.I U 3322285676063803686),(34,1,.I U 5560940570517711597),(35,1,.I U 5996557281743188959),(36,1,.I U 7280758554555802590),(37,1,.I U 8532644243296465576),(38,1,.I U 9350256976987008742),(39,1,.I U 10552545826968843579),(40,1,.I U 11727347734174303076),(41,1,.I U 12113106623233404929),(42,1,.I U 14000437183269869457),(43,1,.I U 14369950271660146224),(44,1,.I U 15101387698204529176),(45,1,.I U 15463397548674623760),(46,1,.I U 17586052441742319658),(47,1,.I U 1182934255886127544),(48,1,.I U 1847814050463011016),(49,1,.I U 2177327727835720531),(50,1,.I U 2830643537854262169),(51,1,.I U 3796741975233480872),(52,1,.I U 4115178125766777443),(53,1,.I U 5681478168544905931),(54,1,.I U 6601373596472566643),(55,1,.I U 7507060721942968483),(56,1,.I U 8399075790359081724),(57,1,.I U 8693463985226723168),(58,1,.I U 9568029438360202098),(59,1,.I U 10144078919501101548),(60,1,.I U 10430055236837252648),(61,1,.I U 11840083180663258601),(62,1,.I U 13761210420658862357),(63,1,.I U 14299343276471374635),(64,1,.I U 14566680578165727644),(65,1,.I U 15097957966210449927),(66,1,.I U 16922976911328602910),(67,1,.I U 17689382322260857208),(68,1,.I U 500013540394364858),(69,1,.I U 748580250866718886),(70,1,.I U 1242879168328830382),(71,1,.I U 1977374033974150939),(72,1,.I U 2944078676154940804),(73,1,.I U 3659926193048069267),(74,1,.I U 4368137639120453308),(75,1,.I U 4836135668995329356),(76,1,.I U 5532061633213252278),(77,1,.I U 6448918945643986474),(78,1,.I U 6902733635092675308),(79,1,.I U 7801388544844847127)]=J (iG.map M):=by kernel_rfl
def Jv(S:Z):W N C 167 [] S=J (.A (iG.map M),S):=by
 have b:=ao0;have a:=Ud iG;have c:(iG.map M).length=80:=rfl;have d:iK.length=80:=rfl;have f:cj (.A (iG.map M))=.A (iG.map M):=by rfl
 have g:ba [] S.length (S++[.M iK [] O]) 80 (.P S.length 0) (.A (iG.map M))=J ([],S++[.M (iG.map M) [] O]):=by simp_all
 have e:aX (S++[.M (iG.map M) [] O]) (.A 80) (.P S.length 0)=J (.A (iG.map M)):=by simp_all[fW]
 rw[XC azR];simp_all
theorem B5:∀k n,(Ft k n).length=k
 |0,_=>rfl
 |k+1,n=>by simp[Ft,B5 k]
theorem ab1(l A B:K)(off:Nat)(h:off+(A.length+B.length)<=l.length):aQ (aQ l (off+A.length) B) off A=aQ l off (A++B):=by
 have a:=DL l (off+A.length) B V;apply Bf
 grind [w_]
def auD{T:Z}{j:Nat}{b:de}(h:T[j]? =J b):T.set j b=T:=by
 apply Bf
 grind
def aqM{j off m cap nb:Nat}{bt:bV}:∀(k n:Nat)(cs:K)(T:Z)(ag:bV),T[j]? =J (.M cs bt O)->off+m<=cs.length->k<=m->m<1000000->n<18446744073709551616->
 DC N C (.L G1) ⟨[(0,.cg j off m cap 1),(1,.I U (n:Int)),(4,.I Y ((k:Int) -1))],ag,nb⟩ T=
  J (.E 0,⟨[],ag,nb⟩,T.set j (.M (aQ cs off (R (Ft k n))) bt O))
 |0,n,cs,T,ag,hT,hc,hk,hm,hn=>by simp_all[aQ,R,Ft,auD,aj,qe]
 |k+1,n,cs,T,ag,hT,hc,hk,hm,hn=>by
  have b:nK 1 (.cg j off m cap 1) (.I Y (k:Int))=J (.P j (off+k)):=by grind [nK]
  have d:ba ag nb T 1 (.P j (off+k)) (.I L (dh L (n:Int)))=J (ag,T.set j (.M (aQ cs (off+k) [bq (cw n)]) bt O)):=by rw[eH (z9 L _) hT,if_pos ⟨rfl,by omega⟩];rfl
  have c:(n:Int).fdiv (2^min 8 IntKind.u64.bits)=(n:Int)/256:=Int.fdiv_eq_ediv_of_nonneg _ fE;have a:=aqM (nb:=nb) (cap:=cap) k (n/256) (aQ cs (off+k) [bq (cw n)]) (T.set j (.M (aQ cs (off+k) [bq (cw n)]) bt O)) ag (Tj ((mo.1 hT).1)) (by rw[DL _ _ _ (by grind)];exact hc) V hm V;have e:aQ (aQ cs (off+k) [bq (cw n)]) off (R (Ft k (n/256)))=aQ cs off (R (Ft (k+1) n)):=by
   have f:(R (Ft k (n/256))).length=k:=by simp[B5]
   grind [ab1,R,Ft]
  rw[U0,e]at a;rw[(V:((k+1:Nat):Int) -1=k),aj,aO qe];simp at a;simp[b,d,c,(cF V:dh Y ((k:Int) -1)=(k:Int) -1)];rw[ab qe];simp[a]
def Wy{j off m cap:Nat}{bt:bV}{cs:K}{T:Z}(a:T[j]? =J (.M cs bt O))(b:off+m<=cs.length)(c:m<1000000)(n:Nat)(d:n<18446744073709551616):
 W N C 169 [.cg j off m cap 1,.I U (n:Int)] T=J (.cV [],T.set j (.M (aQ cs off (R (Ft m n))) bt O)):=by
 simp[jN azT,fG,(cF V:dh Y ((m:Int) -1)=(m:Int) -1)];rw[ab qe];simp[aqM (nb:=T.length) (cap:=cap) m n cs T [] a b (gL _) c d,(λx=>oL ca:∀x,(T.set j x).take T.length=T.set j x),dv,aP,cy,aG]
def pQ(l:List (Q × X)):Q:=.sl .N 1 (l.map λp=>[p.1])
def cx(l:List (Q × X)):X:=l.flatMap λp=>p.2
def IY(S:Z)(p:Q × X):Prop:=aV p.1=p.1/\∀G,∃z,bZ (S++G) p.1=J (z,cE p.2)/\(cE p.2≠[]->z=1)
def Lb(b:X)(T:Z):∃z,bZ T (dw b)=J (z,cE b)/\(cE b≠[]->z=1):=by
 cases b with
 |nil=>exact⟨1,rfl,λ_=>rfl⟩
 |cons a r=>exact⟨1,rfl,λ_=>rfl⟩
theorem Nj(S:Z)(b:X):IY S (dw b,b):=⟨by simp,λa=>Lb b _⟩
def ao1(S:Z)(l:List (Q × X))(q:∀p∈l,IY S p)(y:(cx l).length<=100000000)(j:l.length<1000)(c:de):∀n i(e:Q)(ag:bV),i+n=l.length->ml e ag (cx (l.take i))->
 ∃d aT,ml d aT (cx l)/\DC N C (.L BV) ⟨[(2,.P S.length 0),(3,e),(11,pQ l),(12,.I Y (l.length:Int)),(13,.I Y (i:Int))],ag,S.length⟩ (S++[c])=
  J (.E 0,⟨[(2,.P S.length 0),(3,d)],aT,S.length⟩,S++[c]):=by
 intro n;induction n with
 |zero=>
  simp_all[aj,nR]
 |succ n r=>
  intro i e ag z o;have h:cx (l.take i)++l[i].2=cx (l.take (i+1)):=by grind [cx,List.take_add_one]
  have m:(cx (l.take i)++l[i].2).length<=(cx l).length:=by grind [cx,List.take_append_drop]
  have⟨A,k⟩:=q l[i] (List.getElem_mem V);have⟨v,w,f,g⟩:=d_.N6 o (xs:=cE l[i].2) (x:=l[i].1) (S:=S++[c]) (by grind [xG]) (k [c]);have⟨d,aT,u,E⟩:=r (i+1) v w V (by rw[<-h];simpa[ml,cE]using g);refine⟨d,aT,u, ?_⟩;have s:nK 1 (pQ l) (.I Y (i:Int))=J (.eZ .N [l[i].1] 0):=by grind [nK,pQ,tz]
  have t:∀T,aX T .C (.eZ .N [l[i].1] 0)=J l[i].1:=λT=>by rfl
  generalize l[i].1=b,pQ l=a at*;rw[aj,aO nR];simp[-B,ds,ej,(aR V:dh Y ((i:Int)+1)=((i+1:Nat):Int)),(V:(i:Int)<(l.length:Int)),s,t,f];rw[ab nR];trivial
def aeb(r:f_)(a:X)(h:128<=a.length):H6 1 (.sl r 1 (cE a)) (J (.I Y 128)) D=J (.sl (tz r) 1 (cE (a.drop 128))):=by
 have b:(List.take (cE a).length (cE a)).drop 128=cE (a.drop 128):=by rw[Ex];simp[cE]
 grind [H6,kZ,xG]
def ao2(S:Z)(l:de):∀n(g:X)(r:f_)(v:W8)(ag:bV),g.length=128*n->(r=.N\/r=.X\/∃k,r=.fr k)->
 DC N C (.L BW) ⟨[(2,.P S.length 0),(3,.sl r 1 (cE g)),(6,.P (S.length+1) 0),(7,.P (S.length+2) 0)],ag,S.length⟩ (S++[l,.M v.aq [] O,.M (iG.map M) [] O])=
  J (.E 2,⟨[(2,.P S.length 0),(6,.P (S.length+1) 0)],ag,S.length⟩,S++[l,.M (Ri n v g).aq [] O,.M (iG.map M) [] O]):=by
 have gI:∀a b,B .gtr (.I Y a) (.I Y b)=J (.B (ck (a>b))):=λ_ _=>rfl;intro n;induction n with
 |zero=>
  intro g r v ag hM u;have e:=XE V;subst e;have q:Ri 0 v []=v:=rfl;rw[q,aj,aO nS];generalize iG.map M=f;simp[fG,cE]
 |succ n ih=>
  intro g r v ag hM u;have m:128<=g.length:=V;have hp:(0:Int)<(g.length:Int):=V;have t:0<g.length:=V;have P:=aeb r g m;have w:tz r=.N:=by rcases u with rfl|rfl|⟨k,rfl⟩<;>rfl
  rw[w]at P;have I:=ih (g.drop 128) .N (v.sa iG g) ag (by grind) (.inl rfl);have q:Ri (n+1) v g=Ri n (v.sa iG g) (g.drop 128):=rfl;rw[q];have tn:g≠[]:=by grind
  have E:dT (.sl .N 1 (cE g))=dw g:=by cases g<;>rfl
  have e2:dT (.sl .X 1 (cE g))=dw g:=by cases g<;>rfl
  obtain⟨s,g1,g2⟩:∃s,(∀T,bG T (.sl r 1 (cE g))=J s)/\dT s=dw g:=by
   rcases u with rfl|rfl|⟨k,rfl⟩;·exact⟨_,λ_=>rfl,E⟩
   ·exact⟨_,λ_=>rfl,e2⟩
   ·exact⟨_,λ_=>rfl,E⟩
  have lm:∀T,bK T (.sl r 1 (cE g))=T:=λT=>by rfl
  have um:∀T p,bh T p (.sl r 1 (cE g))=p:=λT p=>by rfl
  have cm:=Oa v g m (S.length+2) iG als (S++[l,.M v.aq [] O,.M (iG.map M) [] O]) [] O (cr S _ 2);have x:aX (S++[l,.M v.aq [] O,.M (iG.map M) [] O]) (.A 8) (.P (S.length+1) 0)=J (.A v.aq):=by rw[bL (cr S _ 1)];rfl
  have z:ba ag S.length (S++[l,.M v.aq [] O,.M (iG.map M) [] O]) 8 (.P (S.length+1) 0) (.A (v.sa iG g).aq)=J (ag,S++[l,.M (v.sa iG g).aq [] O,.M (iG.map M) [] O]):=by rw[eH (lj (W8.jh _)) (cr S _ 1),if_pos ⟨rfl,by simp⟩,show(AV.A (v.sa iG g).aq).cells=(v.sa iG g).aq from rfl,dX ca];simp
  have tka:∀c,aY ag (.A c)=(.A c,ag):=λ_=>rfl;have y:∀T i o,bK T (.P i o)=T:=λ_ _ _=>rfl;have A:∀T p i o,bh T p (.P i o)=p:=λ_ _ _ _=>rfl;generalize v.sa iG g=j,iG.map M=f at*;generalize Ri n j (g.drop 128)=h,cE (g.drop 128)=d at*;rw[aj,aO nS];try simp at I
  simp[(by simp[fG]:fG (.sl r 1 (cE g))=some (.I .i64 (g.length:Int))),gI,t, -B,x,g1,g2,lm,um,y,A,cm,z,P];rw[ab nS];simp[I]
def Jw(v:W8)(i:Nat):X:=(v.l.take i).flatMap λx=>Ft 8 x.toNat
def OL:∀l:List UInt64,(l.flatMap λx=>Ft 8 x.toNat).length=8*l.length:=by intro l;induction l<;>grind [B5]
def alu(v:W8)(i:Nat)(h:i<=8):(Jw v i).length=8*i:=by rw[Jw,OL,List.length_take,show v.l.length=8 from rfl,Tr h]
def W8.aee(v:W8):v.tX.length=64:=OL v.l
def af9(v:W8)(i:Nat)(h:i<8):Jw v i++Ft 8 (v.l.getD i 0).toNat=Jw v (i+1):=by unfold Jw;rw[wx,Ba (show i<v.l.length from h)];simp
def NB(l vs:K)(off:Nat)(h:off+vs.length<=l.length):(aQ l off vs).length=l.length:=by unfold aQ;grind
theorem Zf(l vs:K)(off k:Nat)(h:off+vs.length<=l.length):(aQ l off vs)[k]? =if off<=k/\k<off+vs.length then vs[k -off]? else l[k]? :=by grind [aQ,List.length_append]
def Wx(l A B:K)(h:A.length+B.length<=l.length):aQ (aQ l 0 A) A.length B=aQ l 0 (A++B):=by
 have a:=NB l A 0 V;apply Bf
 grind [Zf]
def ao3{S:Z}(g:W8)(a b c:de)(ag:bV):∀d i,i+d=8->
 DC N C (.L BX) ⟨[(2,.P S.length 0),(8,.P (S.length+3) 0),(36,.A g.aq),(37,.I Y (i:Nat))],ag,S.length⟩ (S++[a,b,c,.M (aQ bw 0 (R (Jw g i))) [] O])=
  J (.E 4,⟨[(2,.P S.length 0),(8,.P (S.length+3) 0)],ag,S.length⟩,S++[a,b,c,.M (R g.tX) [] O]):=by
 have q:bw.length=64:=rfl;intro d;induction d with
 |zero=>
  intro i v;have e:i=8:=V;subst e;have e:Jw g 8=g.tX:=rfl;simp_all[W8.aee,aj,nT]
 |succ d y=>
  intro i v;have u:(i:Int)<8:=V;have n:=aR (i:=i) V;have w:=alu g i V;have hs:(aQ bw 0 (R (Jw g i))).length=64:=by rw[NB _ _ _ (by rw[q];simp;omega)];exact q
  have E:Pn 8 1 .C (.A g.aq) (.I Y (i:Int))=J (M (g.l.getD i 0)):=by have:i<8:=V;have t:¬(i:Int)<0:=V;unfold Pn;simp only;rw[if_neg t,M9,if_pos this,Bt,W8.aqL];show(g.l.map M)[i]? =_;rw[zo,Ba (show i<g.l.length from this)];rfl
  have x64:=jD (g.l.getD i 0);have k:=y (i+1) V;rw[<-af9 g i V]at k;have s:=Wx bw (R (Jw g i)) (R (Ft 8 (g.l.getD i 0).toNat)) (by rw[q];simp[B5];omega);rw[show(R (Jw g i)).length=8*i by simp[w],show R (Jw g i)++R (Ft 8 (g.l.getD i 0).toNat)=R (Jw g i++Ft 8 (g.l.getD i 0).toNat)by simp[R]]at s;rw[<-s]at k;generalize g.l.getD i 0=x at*;have p:=Wy (T:=S++[a,b,c,.M (aQ bw 0 (R (Jw g i))) [] O]) (j:=S.length+3) (off:=8*i) (m:=8) (cap:=64 -8*i) (cr S _ 3) V V x.toNat V;rw[AI S _ 3]at p;have p:W N C 169 [.cg (S.length+3) (8*i) 8 (64 -8*i) 1,M x] _=_:=p;obtain⟨A,hA⟩:∃A:Int,A=((8*i:Nat):Int):=⟨_,rfl⟩;obtain⟨f,hB⟩:∃f:Int,f=((8*i+8:Nat):Int):=⟨_,rfl⟩;have r:dh Y (A+8)=f:=by rw[cF V];omega
  have sl:qq 64 1 (.P (S.length+3) 0) (J (.I Y A)) (J (.I Y f))=J (.cg (S.length+3) (8*i) 8 (64 -8*i) 1):=by
   have I:¬64=8*i:=V;have e4:8*i+8 -8*i=8:=V;unfold qq;simp;rw[if_pos ⟨by omega,by omega⟩];simp only;rw[if_pos ⟨by omega,by omega⟩]
   grind [Int.toNat_natCast]
  simp at p;generalize aQ bw 0 (R (Jw g i))=h at*;have ra:∀i o l c z,B9 (.cg i o l c z)=J (.cg i o l c z):=λ_ _ _ _ _=>rfl;have P:∀i o l c z,dT (.cg i o l c z)=.cg i o l c z:=λ_ _ _ _ _=>rfl;have ri:B9 (M x)=J (M x):=rfl;rw[aj,aO nT];simp at n k;simp[u,E,ra,ri,P, -oI,(by rw[cF V];omega:IntKind.wrap .i64 (8*(i:Int))=A),r,sl,p,dr,n, -Pn];rw[ab nT];simp[k]
def Fi(l:List (Q × X))(S:Z)(hv:∀p∈l,IY S p)(hbs:l.length<1000)(hb:(cx l).length<=1000000):W N C 87 [pQ l] S=J (.A (R (bM (cx l))),S):=by
 have⟨o1,t1,a1,y⟩:=ao1 S l hv V hbs (.M bw [] O) l.length 0 .aw [] V (.inl ⟨rfl,rfl⟩);have e0:((0:Nat):Int)=0:=rfl;rw[e0]at y;generalize cx l=b at*;have fl:(fX b.length).length<=300:=by simp[fX,B5];omega
 have fne:fX b.length≠[]:=by nofun
 have fp:∀T,IU [.I Y (b.length:Int),.I Y 128,.I Y 16] T=J (dw (fX b.length),T):=λT=>by
  have e:dw (fX b.length)=.sl .N 1 ((fX b.length).map λc=>[.I L c.toNat]):=by rfl
  grind [IU]
 have tkB:∀u,aY u (dw (fX b.length))=(dw (fX b.length),u):=λu=>by rfl
 have⟨o2,w,b1,b2⟩:=d_.N6 a1 (xs:=cE (fX b.length)) (x:=dw (fX b.length)) (S:=S++[.M bw [] O]) (by rw[xG,xG];omega) (Lb _ _);have z:ml o2 w (b++fX b.length):=by simpa[ml,cE]using b2
 obtain⟨m,hN⟩:∃m,(b++fX b.length).length=128*m:=⟨(b++fX b.length).length/128,by grind [fX,B5]⟩;have aNw:b++fX b.length≠[]:=by simp[fX]
 have ed:bM b=(Ri m qt (b++fX b.length)).tX:=by grind [bM]
 obtain⟨r,eo,hr⟩:∃r,o2=.sl r 1 (cE (b++fX b.length))/\(r=.N\/r=.X\/∃k,r=.fr k):=by rcases z with⟨h,_⟩|h|⟨k,h,_⟩;all_goals grind [tW]
 have A:=ao2 S (.M bw [] O) m (b++fX b.length) r qt w hN hr;rw[<-eo]at A;rw[ed];generalize Ri m qt (b++fX b.length)=n at*;have hL:=ao3 (S:=S) n (.M bw [] O) (.M n.aq [] O) (.M (iG.map M) [] O) w 8 0 rfl;rw[show aQ bw 0 (R (Jw n 0))=bw from by rfl]at hL;have ho:=n.aee;have dl:cU (R n.tX):=aF _;have v:(R n.tX).length=64:=by simp[ho]
 generalize R n.tX=s at*;have c3:=La;have c4:=Jv;have hk1:cS.length=8:=rfl;have hk2:iK.length=80:=rfl;have hk3:bw.length=64:=rfl;have tka:∀t c,aY t (.A c)=(.A c,t):=λ_ _=>rfl;have st1:∀o,ba w S.length (S++[o,.M cS [] O,.M iK [] O]) 8 (.P (S.length+1) 0) (.A qt.aq)=J (w,S++[o,.M qt.aq [] O,.M iK [] O]):=λo=>by rw[eH (lj (W8.jh _)) (cr S _ 1),if_pos ⟨rfl,by omega⟩,show(AV.A qt.aq).cells=qt.aq from rfl,dX (by rfl)];simp
 have st2:∀o q,ba w S.length (S++[o,q,.M iK [] O]) 80 (.P (S.length+2) 0) (.A (iG.map M))=J (w,S++[o,q,.M (iG.map M) [] O]):=λo q=>by rw[eH (lj (Ud _)) (cr S _ 2),if_pos ⟨rfl,by omega⟩,show(AV.A (iG.map M)).cells=iG.map M from rfl,dX (by rfl)];simp
 have U7:∀o q d,aX (S++[o,.M n.aq [] O,q,d]) (.A 8) (.P (S.length+1) 0)=J (.A n.aq):=λo q d=>by rw[bL (cr S _ 1)];rfl
 have ld3:∀a b c,aX (S++[a,b,c,.M s [] O]) (.A 64) (.P (S.length+3) 0)=J (.A s):=λa b c=>by rw[bL (cr S _ 3)];exact(fW _ v).trans (by rw[dl.jg])
 have ld0:∀l,aX (S++.M s [] O::l) (.A 64) (.P S.length 0)=J (.A s):=λl=>by rw[ky];exact(fW _ v).trans (by rw[dl.jg])
 have hsp:aQ bw 0 s=s:=dX V;have rs:∀u i,dv 87 u [.A s] S (S++i)=J (.A s,S):=λu i=>by simp_all
 have st:∀u l,ba u S.length (S++.M bw [] O::l) 64 (.P S.length 0) (.A s)=J (u,S++.M s [] O::l):=λu l=>by simp_all
 have dB:=Ji (fX b.length);have pf:nk.tD 165=J IU:=rfl;have lnb:fG (pQ l)=J (.I Y (l.length:Int)):=by simp[fG,pQ]
 generalize dw (fX b.length)=g,iG.map M=j,P:bw=KZ,I:cS=KY,E:iK=KX,qt.aq=H5,n.aq=VE,pQ l=f at*;rw[jC aHp,P,I,E];simp[lnb];rw[ab nR];simp at y A hL;simp[y,(by rw[d_.len a1,xG]:fG o1=some (.I .i64 (b.length:Int))),pf,fp,tka,dB.NP,b1,c3,c4,st1,st2];rw[ab nS];simp[A,U7];rw[ab nT];simp[hL,ld3,st,ld0,rs]
section
class PX (ch:Nat) [NeZero ch] where
 inv:Fin ch->Fin ch
 yf:∀a:Fin ch,a≠0->a*inv a=1
 d:Fin ch
 i:Fin ch
 hi:i*i= -1
 hd:∀s:Fin ch,s*s≠d
 h2:(1+1:Fin ch)≠0
section
variable{ch:Nat}[NeZero ch][F:PX ch]
def DN{a b:Fin ch}(h:a*b=0):a=0\/b=0:=by
 by_cases c:a=0;·omega
 ·have:=F.yf a c
  grind
def aht:(1:Fin ch)≠0:=λh=>F.h2 (by grind)
def ahe{x1 y1 x2 y2:Fin ch}(l:y1*y1=1+x1*x1+F.d*(x1*x1)*(y1*y1))(m:y2*y2=1+x2*x2+F.d*(x2*x2)*(y2*y2))(t:Fin ch)(o:t=F.d*x1*x2*y1*y2)(h:t*t=1):False:=by
 have f:=F.hi
 have b:∀j:Fin ch,j*j= -1->x1*y1*(y2+j*x2)=0:=λj n=>by
  have e:(y1+t*j*x1)*(y1+t*j*x1)=F.d*((x1*y1*(y2+j*x2))*(x1*y1*(y2+j*x2))):=by grind
  by_cases c:x1*y1*(y2+j*x2)=0;·exact c
  ·exfalso
   have p:=F.yf _ c;generalize x1*y1*(y2+j*x2)=w at*;refine F.hd ((y1+t*j*x1)*F.inv w) ?_;generalize F.inv w=v,y1+t*j*x1=s at*
   grind
 have a:x1*y1≠0:=λe=>aht (ch:=ch) (by grind);have g:=(DN (b F.i f)).resolve_left a;have i:=(DN (b (-F.i) (by grind))).resolve_left a;have d:(1+1:Fin ch)*(F.i*x2)=0:=by grind
 have k:=(DN d).resolve_left F.h2
 grind
structure EP(ch:Nat)[NeZero ch][F:PX ch]where
 x:Fin ch
 y:Fin ch
 on:y*y=1+x*x+F.d*(x*x)*(y*y)
def EP.ext{p q:EP ch}(a:p.x=q.x)(b:p.y=q.y):p=q:=by cases p;simp_all
def tt(p q:EP ch):Fin ch:=F.d*p.x*q.x*p.y*q.y
def den(p q:EP ch):1+tt p q≠0/\1 -tt p q≠0:=by
 have h:=ahe p.on q.on (tt p q) rfl
 grind
def asa{u v A B a b d:Fin ch}(c:u*A=1)(e:v*B=1)(h:b*b*(u*u)=u*v*(u*v)+a*a*(v*v)+d*(a*a)*(b*b)):(b*B)*(b*B)=1+(a*A)*(a*A)+d*((a*A)*(a*A))*((b*B)*(b*B)):=by grind
def closed{d x1 y1 x2 y2 t:Fin ch}(a:y1*y1=1+x1*x1+d*(x1*x1)*(y1*y1))(b:y2*y2=1+x2*x2+d*(x2*x2)*(y2*y2))(c:t=d*x1*x2*y1*y2):
 (y1*y2+x1*x2)*(y1*y2+x1*x2)*((1+t)*(1+t))=(1+t)*(1 -t)*((1+t)*(1 -t))+(x1*y2+x2*y1)*(x1*y2+x2*y1)*((1 -t)*(1 -t))+d*((x1*y2+x2*y1)*(x1*y2+x2*y1))*((y1*y2+x1*x2)*(y1*y2+x1*x2)):=by
 grind
def EP.add(p q:EP ch):EP ch where
 x:=(p.x*q.y+q.x*p.y)*F.inv (1+tt p q)
 y:=(p.y*q.y+p.x*q.x)*F.inv (1 -tt p q)
 on:=asa (F.yf _ (den p q).1) (F.yf _ (den p q).2) (closed p.on q.on rfl)
theorem EP.add_comm(p q:EP ch):p.add q=q.add p:=by
 have e:tt p q=tt q p:=by
  unfold tt
  grind
 apply EP.ext
 ·show(p.x*q.y+q.x*p.y)*F.inv (1+tt p q)=(q.x*p.y+p.x*q.y)*F.inv (1+tt q p)
  grind
 ·show(p.y*q.y+p.x*q.x)*F.inv (1 -tt p q)=(q.y*p.y+q.x*p.x)*F.inv (1 -tt q p)
  grind
end
end
section
section
variable{ch:Nat}[NeZero ch][F:PX ch]
def amQ(d x1 y1 x2 y2 a b:Fin ch)(c:y1*y1=1+x1*x1+d*(x1*x1)*(y1*y1))(e:y2*y2=1+x2*x2+d*(x2*x2)*(y2*y2))(f:b*b=1+a*a+d*(a*a)*(b*b)):
 ((x1*y2+x2*y1)*(1 -d*x1*x2*y1*y2)*b+a*(y1*y2+x1*x2)*(1+d*x1*x2*y1*y2))*((1+d*x2*a*y2*b)*(1 -d*x2*a*y2*b)+d*x1*y1*(x2*b+a*y2)*(y2*b+x2*a))=
 (x1*(y2*b+x2*a)*(1+d*x2*a*y2*b)+(x2*b+a*y2)*(1 -d*x2*a*y2*b)*y1)*((1+d*x1*x2*y1*y2)*(1 -d*x1*x2*y1*y2)+d*(x1*y2+x2*y1)*(y1*y2+x1*x2)*a*b):=by
 grind
def amR(d x1 y1 x2 y2 a b:Fin ch)(c:y1*y1=1+x1*x1+d*(x1*x1)*(y1*y1))(e:y2*y2=1+x2*x2+d*(x2*x2)*(y2*y2))(f:b*b=1+a*a+d*(a*a)*(b*b)):
 ((y1*y2+x1*x2)*(1+d*x1*x2*y1*y2)*b+a*(x1*y2+x2*y1)*(1 -d*x1*x2*y1*y2))*((1+d*x2*a*y2*b)*(1 -d*x2*a*y2*b) -d*x1*y1*(x2*b+a*y2)*(y2*b+x2*a))=
 (y1*(y2*b+x2*a)*(1+d*x2*a*y2*b)+x1*(x2*b+a*y2)*(1 -d*x2*a*y2*b))*((1+d*x1*x2*y1*y2)*(1 -d*x1*x2*y1*y2) -d*(x1*y2+x2*y1)*(y1*y2+x1*x2)*a*b):=by
 grind
def acJ{a A f c b B g d:Fin ch}(h:a*A*c=f)(i:b*B*d=g)(e:f*d=g*c)(z1:c≠0)(z2:d≠0):a*A=b*B:=by
 have j:=F.yf _ z1;have k:=F.yf _ z2
 grind
theorem J6{a b:Fin ch}(c:a≠0)(d:b≠0):a*b≠0:=λh=>(DN h).elim c d
def apF{x1 y1 x2 y2 a b d A B C:Fin ch}(c:(1+d*x1*x2*y1*y2)*A=1)(e:(1 -d*x1*x2*y1*y2)*B=1)(f:(1+d*((x1*y2+x2*y1)*A)*a*((y1*y2+x1*x2)*B)*b)*C=1):
 (((x1*y2+x2*y1)*A)*b+a*((y1*y2+x1*x2)*B))*C*((1+d*x1*x2*y1*y2)*(1 -d*x1*x2*y1*y2)+d*(x1*y2+x2*y1)*(y1*y2+x1*x2)*a*b)=(x1*y2+x2*y1)*(1 -d*x1*x2*y1*y2)*b+a*(y1*y2+x1*x2)*(1+d*x1*x2*y1*y2):=by
 grind
def apG{x1 y1 x2 y2 a b d A B C:Fin ch}(c:(1+d*x1*x2*y1*y2)*A=1)(e:(1 -d*x1*x2*y1*y2)*B=1)(f:(1 -d*((x1*y2+x2*y1)*A)*a*((y1*y2+x1*x2)*B)*b)*C=1):
 (((y1*y2+x1*x2)*B)*b+((x1*y2+x2*y1)*A)*a)*C*((1+d*x1*x2*y1*y2)*(1 -d*x1*x2*y1*y2) -d*(x1*y2+x2*y1)*(y1*y2+x1*x2)*a*b)=(y1*y2+x1*x2)*(1+d*x1*x2*y1*y2)*b+a*(x1*y2+x2*y1)*(1 -d*x1*x2*y1*y2):=by
 grind
def apH{x1 y1 x2 y2 a b d A B U:Fin ch}(c:(1+d*x1*x2*y1*y2)*A=1)(e:(1 -d*x1*x2*y1*y2)*B=1)(f:1+d*((x1*y2+x2*y1)*A)*a*((y1*y2+x1*x2)*B)*b≠0):
 (1+d*x1*x2*y1*y2)*(1 -d*x1*x2*y1*y2)+d*(x1*y2+x2*y1)*(y1*y2+x1*x2)*a*b≠0:=by
 grind
def apI{x1 y1 x2 y2 a b d A B U:Fin ch}(c:(1+d*x1*x2*y1*y2)*A=1)(e:(1 -d*x1*x2*y1*y2)*B=1)(f:1 -d*((x1*y2+x2*y1)*A)*a*((y1*y2+x1*x2)*B)*b≠0):
 (1+d*x1*x2*y1*y2)*(1 -d*x1*x2*y1*y2) -d*(x1*y2+x2*y1)*(y1*y2+x1*x2)*a*b≠0:=by
 grind
theorem EP.add_assoc(p q r:EP ch):(p.add q).add r=p.add (q.add r):=by
 have⟨i,k⟩:=den p q;have⟨j,l⟩:=den q r;have⟨e,g⟩:=den (p.add q) r;have⟨f,h⟩:=den (q.add r) p;have a:=F.yf _ i;have b:=F.yf _ k;have c:=F.yf _ j;have d:=F.yf _ l;have m:=F.yf _ e;have n:=F.yf _ g;have o:=F.yf _ f;have s:=F.yf _ h;rw[EP.add_comm p (q.add r)];have t:=amQ F.d p.x p.y q.x q.y r.x r.y p.on q.on r.on;have u:=amR F.d p.x p.y q.x q.y r.x r.y p.on q.on r.on;apply EP.ext
 ·refine acJ (apF a b m) (apF c d o) ?_ (apH (U:=0) a b e) (apH (U:=0) c d f)
  grind
 ·refine acJ (apG a b n) (apG c d s) ?_ (apI (U:=0) a b g) (apI (U:=0) c d h)
  clear a b c d m n o s i k j l e g f h t
  grind
def EP.zero:EP ch:=⟨0,1,by grind⟩
def EP.neg(p:EP ch):EP ch:=⟨-p.x,p.y,by have:=p.on;grind⟩
def amS(p:EP ch):tt EP.zero p=0:=by
 show F.d*0*p.x*1*p.y=0
 grind
def afR:F.inv (1:Fin ch)=1:=by
 have:=F.yf (1:Fin ch) aht
 grind
theorem EP.zero_add(p:EP ch):EP.zero.add p=p:=by
 have a:(1:Fin ch)+tt EP.zero p=1:=by rw[amS];grind
 apply EP.ext
 ·show(0*p.y+p.x*1)*F.inv (1+tt EP.zero p)=p.x
  rw[a,afR]
  grind
 ·show(1*p.y+0*p.x)*F.inv (1 -tt EP.zero p)=p.y
  rw[(by grind:(1:Fin ch) -tt EP.zero p=1),afR]
  grind
def EP.Ce:Nat->EP ch->EP ch
 |0,_=>EP.zero
 |n+1,p=>(EP.Ce n p).add p
theorem EP.DO(p:EP ch)(m:Nat):∀n,EP.Ce (m+n) p=(EP.Ce m p).add (EP.Ce n p)
 |0=>by grind [EP.Ce,EP.add_comm,EP.zero_add]
 |n+1=>by show(EP.Ce (m+n) p).add p=(EP.Ce m p).add ((EP.Ce n p).add p);rw[EP.DO p m n,EP.add_assoc]
theorem EP.acK(p:EP ch):EP.Ce 1 p=p:=EP.zero_add p
theorem EP.Ov(p:EP ch)(m:Nat):∀n,EP.Ce (n*m) p=EP.Ce n (EP.Ce m p)
 |0=>by rw[Pc];rfl
 |n+1=>by rw[PO,EP.DO,EP.Ov p m n];rfl
end
end
instance:NeZero F:=⟨by decide⟩
abbrev Zp:=Fin F
def fi(n:Nat):Zp:=⟨n %F,gH _ (by decide)⟩
theorem wA{a b:Nat}:fi a=fi b↔a %F=b %F:=by grind [fi]
def P4(a b:Nat):fi (a+b)=fi a+fi b:=Fin.ext (PU ..)
theorem nM(a b:Nat):fi (a*b)=fi a*fi b:=Fin.ext (AM ..)
theorem zr(a:Nat):fi (a %F)=fi a:=wA.2 (Nat.mod_mod ..)
theorem P5(a:Zp):fi a.val=a:=Fin.ext (fQ a.isLt)
theorem tV:fi 0=0:=Fin.ext fE
theorem uq:fi 1=1:=Fin.ext fE
def aLV:fi F=0:=tV▸wA.2 rfl
theorem J7(a b:Nat):fi (mM a b)=fi a*fi b:=by unfold mM;rw[zr,nM]
theorem X0(a b:Nat):fi (mA a b)=fi a+fi b:=by unfold mA;rw[zr,P4]
theorem Nb{a b:Nat}(c:b<F):fi (mS a b)=fi a -fi b:=by grind [fi,F,mS]
def axv{a:Nat}(h:a<F)(b:a≠0):fi a≠0:=by grind [tV,wA,fQ]
theorem P6:fi mB*fi mB= -1:=by
 have h:fi (mB*mB)=fi (F -1):=wA.2 (by simp_all[acL]);have a:fi (F -1)+fi 1=0:=by rfl
 rw[uq]at a
 grind [nM]
def axw:uR^((F -1)/2)%F=F -1:=by rw[<-Nc fE,HP];kernel_rfl
def ahz(s:Zp):s*s≠fi uR:=by
 rw[<-P5 s,<-nM];intro e;have h:=wA.1 e;have d:=s.isLt;generalize s.val=n at*;have b:¬F∣n:=by grind [F,Nat.mod_eq_zero_of_dvd,HP]
 have c:=P7 amT b;have a:F -1=2*((F -1)/2):=fE;rw[a,uE,Nat.pow_two,EJ,h,<-EJ,axw]at c;omega
instance:PX F where
 inv a:=fi (pc a.val)
 yf a h:=by
  have h0:a.val≠0:=λe=>h (Fin.ext e);have hi:=ack a.isLt h0;have:fi (a.val*pc a.val)=fi 1:=wA.2 (by rw[hi];decide)
  grind [nM,P5,uq]
 d:=fi uR
 i:=fi mB
 hi:=P6
 hd:=ahz
 h2:=by trivial
structure P3.rep(P:P3)(e:EP F):Prop where
 z:fi P.z≠0
 x:fi P.x=e.x*fi P.z
 y:fi P.y=e.y*fi P.z
def amU{x1 y1 z1 x2 y2 z2 d t A B:Zp}(e:t=d*x1*x2*y1*y2)(a:(1+t)*A=1)(b:(1 -t)*B=1)(h:z1≠0)(i:z2≠0)(j:1+t≠0)(k:1 -t≠0):
 let c:=z1*z2
 let f:=c*c+d*(x1*z1*(x2*z2)*(y1*z1*(y2*z2)))
 let g:=c*c -d*(x1*z1*(x2*z2)*(y1*z1*(y2*z2)))
 f*g≠0/\(x1*z1*(y2*z2)+y1*z1*(x2*z2))*c*g=(x1*y2+x2*y1)*A*(f*g)/\(y1*z1*(y2*z2)+x1*z1*(x2*z2))*c*f=(y1*y2+x1*x2)*B*(f*g):=by
 grind [J6]
def Ou{P Q:P3}{p q:EP F}(l:P.rep p)(m:Q.rep q):(P.add Q uR).rep (p.add q):=by
 have⟨j,b,c⟩:=l;have⟨k,e,f⟩:=m;have⟨g,h⟩:=den p q;have a:=amU (x1:=p.x) (y1:=p.y) (z1:=fi P.z) (x2:=q.x) (y2:=q.y) (z2:=fi Q.z) (d:=fi uR) (t:=tt p q) rfl (PX.yf _ g) (PX.yf _ h) j k g h;simp only at a;have⟨r,n,o⟩:=a;have i:fi (mS (mM (mM P.z Q.z) (mM P.z Q.z)) (mM uR (mM (mM P.x Q.x) (mM P.y Q.y))))=fi (mM (mM P.z Q.z) (mM P.z Q.z)) -fi (mM uR (mM (mM P.x Q.x) (mM P.y Q.y))):=Nb (gH _ fE);refine⟨?_, ?_, ?_⟩;·grind [P3.add,J7,X0]
 ·unfold P3.add
  simp only[J7,X0,i,b,c,e,f];exact n
 ·unfold P3.add
  simp only[J7,X0,i,b,c,e,f];exact o
def ahA:iM.rep EP.zero:=by refine⟨?_, ?_, ?_⟩;all_goals trivial
def U8(b:bg):∀(n i:Nat)(X a:P3)(x o:EP F),X.rep x->a.rep o->(P3.mul b n i X a).rep (o.add (EP.Ce (dp b/2^i %2^n) x))
 |0,i,X,a,x,o,hX,hO=>by rw[(V:dp b/2^i %2^0=0)];show a.rep (o.add EP.zero);rw[EP.add_comm,EP.zero_add];exact hO
 |n+1,i,X,a,x,o,hX,hO=>by
  rw[P3.mul,acM];have c:=Ou hX hX;have e:x.add x=EP.Ce 2 x:=by grind [EP.Ce,EP.acK]
  rw[e]at c;have d:dp b/2^i %2^(n+1)=dp b/2^i %2+(dp b/2^(i+1)%2^n)*2:=by grind [Nat.mod_mul,th]
  rw[d,EP.DO,EP.Ov,<-EP.add_assoc];have h:dp b/2^i %2=0\/dp b/2^i %2=1:=V;rcases h with h|h
  ·rw[h]
   have f:o.add (EP.Ce 0 x)=o:=by show o.add EP.zero=o;rw[EP.add_comm,EP.zero_add]
   rw[f];exact U8 b n (i+1) _ _ _ _ c hO
  ·rw[h,EP.acK]
   exact U8 b n (i+1) _ _ _ _ c (Ou hO hX)
def xd(b:bg)(c:b.length=32){X:P3}{x:EP F}(a:X.rep x):(P3.mul b 256 0 X iM).rep (EP.Ce (dp b) x):=by
 have h:=U8 b 256 0 X iM x EP.zero a ahA
 grind [AO,EP.zero_add]
def EP.bytes(e:EP F):X:=if e.x.val %2=1 then(ig 32 e.y.val).set 31 (cw (((ig 32 e.y.val).getD 31 0).toNat+128))else ig 32 e.y.val
def U9{a:Nat}{x:Zp}(h:a<F)(e:fi a=x):a=x.val:=by rw[<-e];exact(fQ h).symm
def HN{P:P3}{e:EP F}(h:P.rep e)(c:P.z<F):P.bytes=e.bytes:=by
 have⟨a,d,f⟩:=h;have g:fi P.z*fi (pc P.z)=1:=by rw[<-nM,<-uq];exact wA.2 (by rw[ack c (λb=>a (by rw[b,tV]))];decide)
 have i:mM P.x (pc P.z)=e.x.val:=U9 (gH _ fE) (by grind [J7]);have j:mM P.y (pc P.z)=e.y.val:=U9 (gH _ fE) (by grind [J7]);unfold P3.bytes EP.bytes
 grind
def ano(k a:K)(A c2 c7:Q)(y yy u yd v w nw m d1:Fl)(n PA PB:Pt)(h l ok zw:Bool)(S:Z)(f:k.length=32)(d:cU k)(hl2:a.length=32)(e:cU a)
 (i:dG (.A 32) a 0=J (.A a)) (g:∀X,aX (S++[.M k [] O,X]) .C (.P S.length 31)=J A) (r:B .shr A (.I U 7)=J c7) (c:B .eql c7 (.I L 1)=J (.B h))
 (p:B .and A (.I L 127)=J c2) (s:∀X,ba [] S.length (S++[.M k [] O,X]) 1 (.P S.length 31) c2=J ([],S++[.M a [] O,X]))
 (q:∀S,W N C 134 [.A a] S=J (.B l,S)) (z:∀S,W N C 91 [] S=J (n.aq,S)) (s1:∀S,W N C 135 [.I bR 1] S=J (m.aq,S))
 (o:∀S,W N C 89 [.A a] S=J (y.aq,S)) (E:∀S,W N C 95 [y.aq,y.aq] S=J (yy.aq,S)) (I:∀S,W N C 137 [yy.aq,m.aq] S=J (u.aq,S))
 (od:∀S,W N C 138 [] S=J (d1.aq,S)) (P:∀S,W N C 95 [yy.aq,d1.aq] S=J (yd.aq,S)) (T:∀S,W N C 139 [yd.aq,m.aq] S=J (v.aq,S))
 (rt:∀S,W N C 136 [u.aq,v.aq] S=J (.cV [w.aq,.B ok],S)) (hz:∀S,W N C 140 [w.aq] S=J (.B zw,S)) (ng:∀S,W N C 141 [w.aq] S=J (nw.aq,S))
 (aA:∀S,W N C 88 [nw.aq,y.aq] S=J (PA.aq,S)) (aB:∀S,W N C 88 [w.aq,y.aq] S=J (PB.aq,S)):
 W N C 71 [.A k] S=J (if l=G then(if ok=G then(if h=G then(if zw=G then .cV [n.aq,.B O]else .cV [PA.aq,.B G])else .cV [PB.aq,.B G])else .cV [n.aq,.B O])else .cV [n.aq,.B O],S):=by
 have cc1:(AV.A k).cells=k:=rfl;have cc2:(AV.A a).cells=a:=rfl;have j:∀(x:Pt)(b:Bool),aG (.cV [x.aq,.B b])=G:=λ_ _=>rfl;have tk:∀(t:bV)(x:Fl)(b:Bool),aY t (.cV [x.aq,.B b])=(.cV [x.aq,.B b],t):=λ_ _ _=>rfl;rw[jC aGp];cases l with
 |false=>simp-implicitDefEqProofs [f,d,e,i,g,r,c,p,s,q,z,j,bT, -B, -AV.cells, -aW]
 |true=>
  cases ok with
  |false=>cases h<;>simp-implicitDefEqProofs [f,d,e,i,g,r,c,p,s,q,z,s1,o,E,I,od,P,T,rt,j,tk,bT,bF, -B, -AV.cells, -aW]
  |true=>
   cases h with
   |false=>simp-implicitDefEqProofs [f,d,e,i,g,r,c,p,s,q,z,s1,o,E,I,od,P,T,rt,ng,aB,j,tk,bT,bF, -B, -AV.cells, -aW]
   |true=>cases zw<;>simp-implicitDefEqProofs [f,d,e,i,g,r,c,p,s,q,z,s1,o,E,I,od,P,T,rt,hz,ng,aA,j,tk,bT,bF, -B, -AV.cells, -aW]
def aie(c:UInt8):B .and (bq c) (.I L 127)=J (bq (cw (c.toNat %128))):=by show J (AV.I L (dh L ((gU 8 (c.toNat:Int)&&&gU 8 ((127:Nat):Int)).toNat:Int)))=_;rw[XX,ZA,ZA,fQ c.toNat_lt,show(127:Nat)%2^8=2^7 -1 from rfl,PK,ahF,bq,qE]
def alX(c:UInt8):B .eql (bq (cw (c.toNat/2^7))) (.I L 1)=J (.B (ck (128<=c.toNat))):=by
 have a:=c.toNat_lt;have e:(cw (c.toNat/2^7)).toNat=c.toNat/128:=by simp_all
 show J (AV.B (((cw (c.toNat/2^7)).toNat:Int)==1))=_
 grind [decide_eq_false]
def ayR{x y:Fl}(a:x.n.ij)(b:y.n.ij):(x.add y).p=mA x.p y.p/\(x.add y).n.ij:=by grind [EL,Fl.p,mA,Nat.add_mod]
def ayS{x y:Fl}(a:x.n.ij)(b:y.n.ij):(x.sub y).p=mS x.p y.p/\(x.sub y).n.ij:=II a b
theorem Ge:Fl.one.p=1/\Fl.one.n.ij:=⟨by rfl,aif.2⟩
structure Pt.is(q:Pt)(p:P3):Prop where
 x:q.x.p=p.x
 y:q.y.p=p.y
 z:q.z.p=p.z
 t:q.t.p=q.x.p*q.y.p %F
 gx:q.x.n.ij
 gy:q.y.n.ij
 gz:q.z.n.ij
 gt:q.t.n.ij
def P9:Fl.nil.p=0/\Fl.nil.n.ij:=⟨rfl,u7 TK.2⟩
theorem anp:Pt.none.is iM:=⟨P9.1,Ge.1,Ge.1,by rfl,P9.2,Ge.2,Ge.2,P9.2⟩
theorem ahu{x y:Fl}(a:x.n.ij)(b:y.n.ij):(Pt.aff x y).is ⟨x.p,y.p,1⟩:=by have⟨c,d⟩:=CW a b;exact⟨rfl,rfl,Ge.1,c,a,b,Ge.2,d⟩
def afq(b:X)(d:b.length=32):∃q:Pt,(∀S,W N C 71 [.A (R b)] S=J (.cV [q.aq,.B (zq b).2],S))/\q.is (zq b).1:=by
 have f:(nD b).length=32:=by simp[nD,d]
 have⟨y,h,_⟩:=ayP b d;have⟨o,g⟩:=CW h h;have⟨p,j⟩:=ayS g Ge.2;have⟨r,k⟩:=CW g aaJ.2;have⟨s,l⟩:=ayR k Ge.2;have⟨w,m,n,i⟩:=anq _ _ j l;have⟨t,v⟩:=adh m;have e:p_ (((Fl.of (nD b)).mul (Fl.of (nD b))).sub Fl.one).p ((((Fl.of (nD b)).mul (Fl.of (nD b))).mul Fl.d1).add Fl.one).p=tG b:=by
  have x:Fl.d1.p=uR:=aaJ.1
  grind [Ge,tG,mM]
 rw[e]at i n
 have a:=λS=>ano (R b) (R (nD b)) (bq (b.getD 31 0)) (bq (cw ((b.getD 31 0).toNat %128))) (bq (cw ((b.getD 31 0).toNat/2^7)))
  (Fl.of (nD b)) ((Fl.of (nD b)).mul (Fl.of (nD b))) (((Fl.of (nD b)).mul (Fl.of (nD b))).sub Fl.one) (((Fl.of (nD b)).mul (Fl.of (nD b))).mul Fl.d1) ((((Fl.of (nD b)).mul (Fl.of (nD b))).mul Fl.d1).add Fl.one) w (Fl.nil.sub w) Fl.one Fl.d1
  Pt.none (Pt.aff (Fl.nil.sub w) (Fl.of (nD b))) (Pt.aff w (Fl.of (nD b))) (ck (128<=(b.getD 31 0).toNat)) (ck (dp (nD b)<F)) (tG b).2 (ck (w.p=0)) S
  (by simp[d]) (aF _) (by simp[f]) (aF _) (bA (by simp[f]) (aF _)) (λc=>U7 (jF S _) V) (amW (b.getD 31 0) 7 V U) (alX _) (aie _)
  (λc=>by grind [st8,nD])
  (Yt b d) U_ Kn (afa (nD b) f) (u9 _ _) (ada _ _) ah8 (u9 _ _) (ac_ _ _) i (adi w) (LI w) (PY _ _) (PY _ _)
 have u:zq b=if dp (nD b)<F then
  (if(tG b).2=G/\¬(128<=(b.getD 31 0).toNat/\(tG b).1=0)then(⟨if 128<=(b.getD 31 0).toNat then mS 0 (tG b).1 else(tG b).1,dp (nD b)%F,1⟩,G)else(iM,O))
  else(iM,O):=rfl
 grind [mS,anp,ahu]
section
section
variable{ch:Nat}[NeZero ch][F:PX ch]
def ahB{x1 y1 z1 x2 y2 z2 d t A B:Fin ch}(n:t=d*x1*x2*y1*y2)(c:(1+t)*A=1)(i:(1 -t)*B=1)(a:z1≠0)(b:z2≠0)(p:1+t≠0)(q:1 -t≠0)(e f g h:Fin ch)
 (j:e=(y1*z1+x1*z1)*(y2*z2+x2*z2) -(y1*z1 -x1*z1)*(y2*z2 -x2*z2)) (m:h=(y1*z1+x1*z1)*(y2*z2+x2*z2)+(y1*z1 -x1*z1)*(y2*z2 -x2*z2))
 (k:f=(z1+z1)*z2 -x1*y1*z1*(d+d)*(x2*y2*z2)) (l:g=(z1+z1)*z2+x1*y1*z1*(d+d)*(x2*y2*z2)):
 f*g≠0/\e*f=(x1*y2+x2*y1)*A*(f*g)/\g*h=(y1*y2+x1*x2)*B*(f*g)/\e*h=(x1*y2+x2*y1)*A*((y1*y2+x1*x2)*B)*(f*g):=by
 have o:=J6 F.h2 (J6 a b);rw[(by grind:e=(1+1)*(z1*z2)*(x1*y2+x2*y1)),(by grind:h=(1+1)*(z1*z2)*(y1*y2+x1*x2)),(by grind:f=(1+1)*(z1*z2)*(1 -t)),(by grind:g=(1+1)*(z1*z2)*(1+t))]
 grind [J6]
def ahC{x y z d t A B:Fin ch}(l:y*y=1+x*x+d*(x*x)*(y*y))(m:t=d*x*x*y*y)(a:(1+t)*A=1)(b:(1 -t)*B=1)(n:z≠0)(o:1+t≠0)(p:1 -t≠0)(e f g h:Fin ch)
 (c:e=h -(x*z+y*z)*(x*z+y*z)) (k:h=x*z*(x*z)+y*z*(y*z)) (j:g=x*z*(x*z) -y*z*(y*z)) (i:f=z*z+z*z+g):
 f*g≠0/\e*f=(x*y+x*y)*A*(f*g)/\g*h=(y*y+x*x)*B*(f*g)/\e*h=(x*y+x*y)*A*((y*y+x*x)*B)*(f*g):=by
 grind [J6]
end
def fx(x:Fl):Zp:=fi x.n.v
theorem na{x y:Fl}(a:x.n.ij)(b:y.n.ij):fx (x.mul y)=fx x*fx y:=by unfold fx;rw[<-nM];exact wA.2 (u_ a b).1
def xe{x y:Fl}(a:x.n.ij)(b:y.n.ij):fx (x.add y)=fx x+fx y:=by unfold fx;rw[<-P4];exact wA.2 (EL a b).1
def DP{x y:Fl}(a:x.n.ij)(b:y.n.ij):fx (x.sub y)=fx x -fx y:=by grind [II,fx,zr,Nb,gH]
structure Pt.rep(q:Pt)(e:EP F):Prop where
 gx:q.x.n.ij
 gy:q.y.n.ij
 gz:q.z.n.ij
 gt:q.t.n.ij
 z:fx q.z≠0
 x:fx q.x=e.x*fx q.z
 y:fx q.y=e.y*fx q.z
 t:fx q.t=e.x*e.y*fx q.z
def ahD:fx Fl.d2=fi uR+fi uR/\Fl.d2.n.ij:=by
 refine⟨?_,(EL aaJ.2 aaJ.2).2⟩;have a:fx Fl.d1=fi uR:=by unfold fx;rw[<-aaJ.1,zr]
 show fx (Fl.d1.add Fl.d1)=_;rw[xe aaJ.2 aaJ.2,a]
def P0{P Q:Pt}{p q:EP F}(a:P.rep p)(b:Q.rep q):(P.add Q).rep (p.add q):=by
 have⟨y,z⟩:=den p q;have r:=II a.gy a.gx;have s:=II b.gy b.gx;have c:=u_ r.2 s.2;have u:=EL a.gy a.gx;have v:=EL b.gy b.gx;have e:=u_ u.2 v.2;have w:=u_ a.gt ahD.2;have f:=u_ w.2 b.gt;have z1:=EL a.gz a.gz;have z2:=u_ z1.2 b.gz;have i:=II e.2 c.2;have j:=II z2.2 f.2;have k:=EL z2.2 f.2;have l:=EL e.2 c.2;have⟨x,m,n,o⟩:=ahB (x1:=p.x) (y1:=p.y) (z1:=fx P.z) (x2:=q.x) (y2:=q.y) (z2:=fx Q.z) (d:=fi uR) (t:=tt p q) rfl (PX.yf _ y) (PX.yf _ z) a.z b.z y z _ _ _ _ rfl rfl rfl rfl;have A:fx (((P.y.add P.x).mul (Q.y.add Q.x)).sub ((P.y.sub P.x).mul (Q.y.sub Q.x)))=(p.y*fx P.z+p.x*fx P.z)*(q.y*fx Q.z+q.x*fx Q.z) -(p.y*fx P.z -p.x*fx P.z)*(q.y*fx Q.z -q.x*fx Q.z):=by rw[DP e.2 c.2,na u.2 v.2,na r.2 s.2,xe a.gy a.gx,xe b.gy b.gx,DP a.gy a.gx,DP b.gy b.gx,a.x,a.y,b.x,b.y]
 have E:fx (((P.y.add P.x).mul (Q.y.add Q.x)).add ((P.y.sub P.x).mul (Q.y.sub Q.x)))=(p.y*fx P.z+p.x*fx P.z)*(q.y*fx Q.z+q.x*fx Q.z)+(p.y*fx P.z -p.x*fx P.z)*(q.y*fx Q.z -q.x*fx Q.z):=by rw[xe e.2 c.2,na u.2 v.2,na r.2 s.2,xe a.gy a.gx,xe b.gy b.gx,DP a.gy a.gx,DP b.gy b.gx,a.x,a.y,b.x,b.y]
 have g:fx (((P.z.add P.z).mul Q.z).sub ((P.t.mul Fl.d2).mul Q.t))=(fx P.z+fx P.z)*fx Q.z -p.x*p.y*fx P.z*(fi uR+fi uR)*(q.x*q.y*fx Q.z):=by rw[DP z2.2 f.2,na z1.2 b.gz,na w.2 b.gt,na a.gt ahD.2,xe a.gz a.gz,a.t,b.t,ahD.1]
 have h:fx (((P.z.add P.z).mul Q.z).add ((P.t.mul Fl.d2).mul Q.t))=(fx P.z+fx P.z)*fx Q.z+p.x*p.y*fx P.z*(fi uR+fi uR)*(q.x*q.y*fx Q.z):=by rw[xe z2.2 f.2,na z1.2 b.gz,na w.2 b.gt,na a.gt ahD.2,xe a.gz a.gz,a.t,b.t,ahD.1]
 rw[<-A,<-g,<-h]at m;rw[<-E,<-g,<-h]at n;rw[<-A,<-E,<-g,<-h]at o;rw[<-g,<-h]at x;rw[<-na j.2 k.2]at x m n o;rw[<-na i.2 j.2]at m;rw[<-na k.2 l.2]at n;rw[<-na i.2 l.2]at o;exact⟨(u_ i.2 j.2).2,(u_ k.2 l.2).2,(u_ j.2 k.2).2,(u_ i.2 l.2).2,x,m,n,o⟩
def J8{P:Pt}{p:EP F}(i:P.rep p):P.Ry.rep (p.add p):=by
 have⟨n,o⟩:=den p p;have a:=u_ i.gx i.gx;have b:=u_ i.gy i.gy;have c:=u_ i.gz i.gz;have h:=EL a.2 b.2;have s:=EL i.gx i.gy;have r:=u_ s.2 s.2;have e:=II h.2 r.2;have g:=II a.2 b.2;have m:=EL c.2 c.2;have f:=EL m.2 g.2;have A:fx ((P.x.mul P.x).add (P.y.mul P.y))=p.x*fx P.z*(p.x*fx P.z)+p.y*fx P.z*(p.y*fx P.z):=by rw[xe a.2 b.2,na i.gx i.gx,na i.gy i.gy,i.x,i.y]
 have w:fx ((P.x.mul P.x).sub (P.y.mul P.y))=p.x*fx P.z*(p.x*fx P.z) -p.y*fx P.z*(p.y*fx P.z):=by rw[DP a.2 b.2,na i.gx i.gx,na i.gy i.gy,i.x,i.y]
 have u:fx (((P.x.mul P.x).add (P.y.mul P.y)).sub ((P.x.add P.y).mul (P.x.add P.y)))=fx ((P.x.mul P.x).add (P.y.mul P.y)) -(p.x*fx P.z+p.y*fx P.z)*(p.x*fx P.z+p.y*fx P.z):=by rw[DP h.2 r.2,na s.2 s.2,xe i.gx i.gy,i.x,i.y]
 have v:fx (((P.z.mul P.z).add (P.z.mul P.z)).add ((P.x.mul P.x).sub (P.y.mul P.y)))=fx P.z*fx P.z+fx P.z*fx P.z+fx ((P.x.mul P.x).sub (P.y.mul P.y)):=by rw[xe m.2 g.2,xe c.2 c.2,na i.gz i.gz]
 have⟨q,j,k,l⟩:=ahC (x:=p.x) (y:=p.y) (z:=fx P.z) (d:=fi uR) (t:=tt p p) p.on rfl (PX.yf _ n) (PX.yf _ o) i.z n o _ _ _ _ u A w v;rw[<-na f.2 g.2]at q j k l;rw[<-na e.2 f.2]at j;rw[<-na g.2 h.2]at k;rw[<-na e.2 h.2]at l;have E:p.x*p.y+p.x*p.y=p.x*p.y+p.x*p.y:=rfl;exact⟨(u_ e.2 f.2).2,(u_ g.2 h.2).2,(u_ f.2 g.2).2,(u_ e.2 h.2).2,q,j,k,l⟩
end
def lg(l:List Pt):K:=l.flatMap Pt.cs
theorem sA:∀l:List Pt,(lg l).length=20*l.length
 |[]=>rfl
 |p::r=>by have:=sA r;unfold lg at this⊢;rw[EI,AK,this,ase,CJ];omega
def DQ(l:List Pt)(k:Nat)(h:k<l.length):lg l=lg (l.take k)++(l[k].cs++lg (l.drop (k+1))):=by grind [List.take_append_drop,List.drop_eq_getElem_cons,lg]
def afb(p:Pt):p.cs.map aV=p.cs:=rfl
def afc(l:List Pt)(k:Nat)(h:k<l.length):dG (.A 20) (lg l) (k*20)=J l[k].aq:=by refine kB (DQ l k h) ?_ rfl (afb _);rw[sA,List.length_take];omega
def yg{A B C B':K}{off:Nat}(a:A.length=off)(b:B'.length=B.length):aQ (A++(B++C)) off B'=A++(B'++C):=by grind [aQ]
def P8(l:List Pt)(k:Nat)(h:k<l.length)(q:Pt):aQ (lg l) (k*20) q.cs=lg (l.set k q):=by
 rw[DQ l k h,DQ (l.set k q) k (by grind),yg (B:=l[k].cs) (B':=q.cs) (by grind [sA]) rfl]
 grind [List.take_set_of_le,List.drop_set_of_lt]
def Pt.RT(P:Pt):Nat->Pt
 |0=>Pt.none
 |n+1=>(P.RT n).add P
def X1:Pt.none.rep EP.zero:=by
 have b:fx Fl.one=1:=by rfl
 have a:fx Fl.nil=0:=by rfl
 refine⟨P9.2,Ge.2,Ge.2,P9.2, ?_, ?_, ?_, ?_⟩;all_goals trivial
def acN{P:Pt}{p:EP F}(h:P.rep p):∀n,(P.RT n).rep (EP.Ce n p)
 |0=>X1
 |n+1=>P0 (acN h n) h
def Gf(b:X)(i:Nat):Nat:=(b.getD (i/2) 0).toNat/2^(4*(i %2))%16
def amV(b:X)(i:Nat):Gf b i=dp b/16^i %16:=by
 unfold Gf;rw[<-AP];have c:16^i=256^(i/2)*16^(i %2):=by
  rw[show(256:Nat)=16^2 from rfl,<-uE,<-p7]
  grind
 rw[c,<-th];generalize dp b/256^(i/2)=a;have h:i %2=0\/i %2=1:=V;rcases h with h|h<;>rw[h]<;>simp<;>omega
def itr{α:Type}(f:Nat->α->α):Nat->α->α
 |0,o=>o
 |i+1,o=>itr f i (f i o)
def P_{α:Type}(f:Nat->α->α)(i:Nat)(o:α):itr f (i+1) o=itr f i (f i o):=rfl
def Pt.wst(P:Pt)(b:X)(i:Nat)(o:Pt):Pt:=(o.Ry.Ry.Ry.Ry).add (P.RT (Gf b i))
def Pt.JA(P:Pt)(b:X)(n:Nat)(o:Pt):Pt:=itr (P.wst b) n o
def acO{P:Pt}{p:EP F}(h:P.rep p)(b:X):∀n k o,o.rep (EP.Ce k p)->(P.JA b n o).rep (EP.Ce (k*16^n+dp b %16^n) p)
 |0,k,o,ho=>by have e:k*16^0+dp b %16^0=k:=V;rw[e];exact ho
 |n+1,k,o,ho=>by
  have d:∀m,(EP.Ce m p).add (EP.Ce m p)=EP.Ce (m+m) p:=λm=>(EP.DO p m m).symm;have f:=J8 ho;rw[d]at f;have g:=J8 f;rw[d]at g;have i:=J8 g;rw[d]at i;have j:=J8 i;rw[d]at j;have s:=P0 j (acN h (Gf b n));rw[<-EP.DO]at s;have r:=acO h b n _ _ s;have l:P.JA b (n+1) o=P.JA b n ((o.Ry.Ry.Ry.Ry).add (P.RT (Gf b n))):=P_ (P.wst b) n o;rw[l];clear l;have e:(k+k+(k+k)+(k+k+(k+k))+(k+k+(k+k)+(k+k+(k+k)))+Gf b n)*16^n+dp b %16^n=k*16^(n+1)+dp b %16^(n+1):=by
   rw[amV,uo,F9,<-yb,aaB];generalize dp b/16^n %16=a;generalize dp b %16^n=E;generalize 16^n=c;have:(k+k+(k+k)+(k+k+(k+k))+(k+k+(k+k)+(k+k+(k+k)))+a)*c=k*16*c+c*a:=by rw[show k+k+(k+k)+(k+k+(k+k))+(k+k+(k+k)+(k+k+(k+k)))+a=k*16+a by omega,JR,uD a]
   omega
  rw[e]at r;exact r
def LJ{P:Pt}{p:EP F}(h:P.rep p)(b:X)(a:b.length=32):(P.JA b 64 Pt.none).rep (EP.Ce (dp b) p):=by
 have r:=acO h b 64 0 Pt.none X1
 grind [AO]
noncomputable abbrev LK(l:List Pt):de:=.M (lg l) [] O
def ixP{i k:Nat}(h:k<16)(j:IntKind):jS 16 20 (.P i 0) (.I j (k:Int))=J (.P i (k*20)):=by simp_all
def ldP{S:Z}{i k:Nat}{l:List Pt}{bt:bV}{q:Bool}(a:S[i]? =J (.M (lg l) bt q))(h:k<l.length):aX S (.A 20) (.P i (k*20))=J l[k].aq:=by rw[bL a,afc l k h]
def axy{S:Z}{i k:Nat}{l:List Pt}(a:S[i]? =J (.M (lg l) [] O))(h:k<l.length)(q:Pt)(ag:bV)(nb:Nat):ba ag nb S 20 (.P i (k*20)) q.aq=J (ag,S.set i (.M (lg (l.set k q)) [] O)):=by rw[eH (ahE q) a,if_pos ⟨rfl,by rw[sA];omega⟩,X2,P8 _ _ h]
def ptZ:Pt:=⟨Fl.nil,Fl.nil,Fl.nil,Fl.nil⟩
def qs(P:Pt)(i:Nat):List Pt:=(List.range i).map P.RT++fg (16 -i) ptZ
theorem J9(P:Pt)(i:Nat)(h:i<=16):(qs P i).length=16:=by simp[qs];omega
def X3(P:Pt)(i j:Nat)(h:j<i)(a:i<=16)(b:j<(qs P i).length):(qs P i)[j]=P.RT j:=by grind [qs]
def X4(P:Pt)(i:Nat)(h:i<16):(qs P i).set i (P.RT i)=qs P (i+1):=by unfold qs;rw[show 16 -i=(16 -(i+1))+1 by omega,SS,aau _ _ ca,PN,List.length_range,Nat.sub_self,To,List.range_succ,List.map_append,s_];rfl
def axz(S:Z)(P:Pt)(d:de):∀n i:Nat,i+n=16->1<=i->DC N C (.L sW) ⟨[(1,.P S.length 0),(2,.P (S.length+1) 0),(3,.P (S.length+2) 0),(4,.I Y (i:Int))],[],S.length⟩ (S++[.M P.cs [] O,d,LK (qs P i)])=
 J (.E 0,⟨[(2,.P (S.length+1) 0),(3,.P (S.length+2) 0)],[],S.length⟩,S++[.M P.cs [] O,d,LK (qs P 16)]):=by
 intro n;induction n with
 |zero=>
  simp_all[aj,iP]
 |succ n m=>
  intro i r q;have c:i<16:=V;have h:=m (i+1) V V;obtain⟨j,g⟩:∃j,i=j+1:=⟨i -1,by omega⟩;have k:dh Y ((i:Int) -1)=(j:Int):=by rw[cF V];omega
  have l:=ixP (i:=S.length+2) (show j<16 by omega) Y;have s:=J9 P i V;have o:∀a b,aX (S++[a,b,LK (qs P i)]) (.A 20) (.P (S.length+2) (j*20))=J (P.RT j).aq:=λa b=>by rw[ldP (cr S _ 2) V,X3 P i j V V]
  have e:=λS=>aaH (P.RT j) P S;have f:(P.RT j).add P=P.RT i:=by rw[g];rfl
  rw[f]at e;have p:ba [] S.length (S++[.M P.cs [] O,d,LK (qs P i)]) 20 (.P (S.length+2) (i*20)) (P.RT i).aq=J ([],S++[.M P.cs [] O,d,LK (qs P (i+1))]):=by rw[axy (cr S _ 2) V,X4 P i c];simp
  generalize P.RT j=x,P.RT i=w,qs P i=t,qs P (i+1)=u,qs P 16=v at*;clear f g;rw[aj,aO iP];simp-implicitDefEqProofs [-B, -jS,ds,pG,ej,(V:(i:Int)<16),k,ixP (i:=S.length+2) c Y,l,o,e,p, -AV.cells, -aW];rw[ab iP];simp at h;simp-implicitDefEqProofs [-B,(aR V:dh Y ((i:Int)+1)=((i+1:Nat):Int)),h]
def X5(l:List Pt):cU (lg l):=by
 intro x b;simp only[lg,List.mem_flatMap]at b;have⟨p,_,a⟩:=b;simp only[Pt.cs,MT]at a;rcases a with h|h|h|h;·exact z7 p.x x h
 ·exact z7 p.y x h
 ·exact z7 p.z x h
 ·exact z7 p.t x h
set_option maxRecDepth 20000 in
theorem J_:oc=lg (fg 16 ptZ):=by rfl
theorem acP(P:Pt):(fg 16 ptZ).set 0 Pt.none=qs P 1:=X4 P 0 V
def X6(P:Pt)(S:Z):W N C 90 [P.aq] S=J (.A (lg (qs P 16)),S):=by
 have a:=axz S P (.M oc [] O) 15 1 rfl (gL _);have z:=U_;have r:=ixP (i:=S.length+2) (show 0<16 by omega) Y;have n:∀b c,ba [] S.length (S++[b,c,.M oc [] O]) 20 (.P (S.length+2) 0) Pt.none.aq=J ([],S++[b,c,LK (qs P 1)]):=λb c=>by have h:=axy (l:=fg 16 ptZ) (k:=0) (cr S [b,c,LK (fg 16 ptZ)] 2) ca Pt.none [] S.length;rw[J_];rw[Pc]at h;rw[h,acP P];simp
 have o:(lg (qs P 16)).length=320:=by grind [sA,J9]
 have p:oc.length=320:=by grind [J_,sA]
 have g:=X5 (qs P 16);have j:∀b c,aX (S++[b,c,LK (qs P 16)]) (.A 320) (.P (S.length+2) 0)=J (.A (lg (qs P 16))):=λb c=>by simp_all[bA]
 have f:∀b c,ba [] S.length (S++[b,.M oc [] O,c]) 320 (.P (S.length+1) 0) (.A (lg (qs P 16)))=J ([],S++[b,.M (lg (qs P 16)) [] O,c]):=λb c=>by simp_all
 have e:∀b c,aX (S++[b,.M (lg (qs P 16)) [] O,c]) (.A 320) (.P (S.length+1) 0)=J (.A (lg (qs P 16))):=λb c=>by simp_all[bA]
 have d:jS 16 20 (.P (S.length+2) 0) (.I Y 0)=J (.P (S.length+2) 0):=by rfl
 have q:=g.agg.br;have m:aQ oc 0 Pt.none.cs=lg (qs P 1):=by
  have:=P8 (fg 16 ptZ) 0 ca Pt.none
  grind [acP,J_]
 generalize lg (qs P 16)=E,Pt.none=t,qs P 1=s at*;rw[jC aFd];simp-implicitDefEqProofs [-jS,z,d,n, -AV.cells, -aW];rw[ab iP];simp at a;simp-implicitDefEqProofs [a,j,f,e,g, -AV.cells, -aW]
def axA(c:UInt8):B .and (bq c) (.I L 15)=J (.I L ((c.toNat %16:Nat):Int)):=by show J (AV.I L (dh L ((gU 8 (c.toNat:Int)&&&gU 8 ((15:Nat):Int)).toNat:Int)))=_;rw[XX,ZA,ZA,fQ c.toNat_lt,show(15:Nat)%2^8=2^4 -1 from rfl,PK,ahF,fQ V]
noncomputable abbrev bPt(p:Pt):de:=.M p.cs [] O
def Pt.dbs(n:Nat)(o:Pt):Pt:=itr (λ_ p=>Pt.Ry p) n o
def ahG(o:Pt):Pt.dbs 0 o=o:=rfl
def ahH(n:Nat)(o:Pt):Pt.dbs (n+1) o=Pt.dbs n o.Ry:=P_ (λ_ p=>Pt.Ry p) n o
def ahI(o:Pt):Pt.dbs 4 o=o.Ry.Ry.Ry.Ry:=by rfl
def ldO{S:Z}{i:Nat}{p:Pt}{bt:bV}{q:Bool}(a:S[i]? =J (.M p.cs bt q)):aX S (.A 20) (.P i 0)=J p.aq:=by rw[bL a];rfl
def stO{S:Z}{i:Nat}{cs:K}(a:S[i]? =J (.M cs [] O))(b:cs.length=20)(q:Pt)(ag:bV)(nb:Nat):ba ag nb S 20 (.P i 0) q.aq=J (ag,S.set i (bPt q)):=by rw[eH (ahE q) a,if_pos ⟨rfl,by omega⟩,X2,dX (by rw[b];rfl)]
def axD(S:Z)(X:Q)(b0 b b2 c:de):∀(n j:Nat)(o:Pt),j+n=4->DC N C (.L zM) ⟨[(3,.P (S.length+1) 0),(4,.P (S.length+2) 0),(5,.P (S.length+3) 0),(6,.P (S.length+4) 0),(7,X),(15,.I Y (j:Int))],[],S.length⟩ (S++[b0,b,b2,c,bPt o])=
 J (.E 2,⟨[(3,.P (S.length+1) 0),(4,.P (S.length+2) 0),(5,.P (S.length+3) 0),(6,.P (S.length+4) 0),(7,X)],[],S.length⟩,S++[b0,b,b2,c,bPt (Pt.dbs n o)]):=by
 intro n;induction n with
 |zero=>
  intro j o h;have e:j=4:=V;subst e;simp[aj,aO jO,ahG]
 |succ n f=>
  intro j o h;have i:=f (j+1) o.Ry V;have d:=axE o;have g:ba [] S.length (S++[b0,b,b2,c,bPt o]) 20 (.P (S.length+4) 0) o.Ry.aq=J ([],S++[b0,b,b2,c,bPt o.Ry]):=by rw[stO (cr S _ 4) rfl];simp
  rw[aj,aO jO,ahH];generalize Pt.dbs n o.Ry=a,o.Ry=k at*;simp-implicitDefEqProofs [-B,ds,(V:(j:Int)<4),(ldO (cr S _ 4):aX (S++[b0,b,b2,c,bPt o]) (.A 20) (.P (S.length+4) 0)=J o.aq),d,g,ej,(aR V:dh Y ((j:Int)+1)=((j+1:Nat):Int)), -AV.cells, -aW];rw[ab jO];trivial
def axF(S:Z)(P:Pt)(b:X)(hb:b.length=32)(b0 b2:de):∀(n:Nat)(o:Pt),n<=64->DC N C (.L zN) ⟨[(3,.P (S.length+1) 0),(4,.P (S.length+2) 0),(5,.P (S.length+3) 0),(6,.P (S.length+4) 0),(7,.I Y ((n:Int) -1))],[],S.length⟩ (S++[b0,.M (R b) [] O,b2,LK (qs P 16),bPt o])=
 J (.E 0,⟨[(4,.P (S.length+2) 0),(6,.P (S.length+4) 0)],[],S.length⟩,S++[b0,.M (R b) [] O,b2,LK (qs P 16),bPt (P.JA b n o)]):=by
 intro n;induction n with
 |zero=>
  intro o h;simp[aj,aO mw,show P.JA b 0 o=o from rfl]
 |succ n ih=>
  intro o h;have v:((n+1:Nat):Int) -1=(n:Int):=V;rw[v];have t:(n:Int)≥0:=V;have E:dh Y ((n:Int) -1)=(n:Int) -1:=cF V;have s:Gf b n<16:=gH _ V;have q:B .quo (.I Y (n:Int)) (.I Y 2)=_:=Va n 2 V V;have r:B .rem (.I Y (n:Int)) (.I Y 2)=_:=X7 n 2 V;have m:B .mul (.I Y 4) (.I Y ((n %2:Nat):Int))=J (.I Y ((4*(n %2):Nat):Int)):=by show J (AV.I Y (dh Y (4*((n %2:Nat):Int))))=_;rw[cF V];rfl
  have I:=H8 (i:=S.length+1) (show n/2<32 by omega) Y;have l1:∀g j l f,aX (S++[g,.M (R b) [] O,j,l,f]) .C (.P (S.length+1) (n/2))=J (bq (b.getD (n/2) 0)):=λg j l f=>U7 (cr S _ 1) V;have sh:=amW (b.getD (n/2) 0) (4*(n %2)) V Y;have u:=axA (cw ((b.getD (n/2) 0).toNat/2^(4*(n %2))));have w:(cw ((b.getD (n/2) 0).toNat/2^(4*(n %2)))).toNat %16=Gf b n:=by have hc:(b.getD (n/2) 0).toNat<256:=(b.getD (n/2) 0).toNat_lt;have A:(b.getD (n/2) 0).toNat/2^(4*(n %2))<=(b.getD (n/2) 0).toNat:=M_ _ _;rw[qE,fQ (show(b.getD (n/2) 0).toNat/2^(4*(n %2))<2^8 by omega)];rfl
  rw[w]at u;have ix:=ixP (i:=S.length+3) s L;have lt:∀g j l f,aX (S++[g,j,l,LK (qs P 16),f]) (.A 20) (.P (S.length+3) (Gf b n*20))=J (P.RT (Gf b n)).aq:=λg j l f=>by have hl:=J9 P 16 V;rw[ldP (cr S _ 3) V,X3 P 16 _ s V]
  have x:P.JA b (n+1) o=P.JA b n ((Pt.dbs 4 o).add (P.RT (Gf b n))):=by rw[ahI];exact P_ (P.wst b) n o
  rw[x];have y:=ih ((Pt.dbs 4 o).add (P.RT (Gf b n))) V;have c:=axD S (.I Y (n:Int)) b0 (.M (R b) [] O) b2 (LK (qs P 16)) 4 0 o rfl;have z:=aaH (Pt.dbs 4 o) (P.RT (Gf b n));have st:∀p q g j l f,ba [] S.length (S++[g,j,l,f,bPt p]) 20 (.P (S.length+4) 0) (Pt.aq q)=J ([],S++[g,j,l,f,bPt q]):=λp q g j l f=>by rw[stO (cr S _ 4) rfl];simp
  clear w x v;generalize P.JA b n ((Pt.dbs 4 o).add (P.RT (Gf b n)))=e at*;generalize(Pt.dbs 4 o).add (P.RT (Gf b n))=pa at*;generalize Pt.dbs 4 o=pd at*;generalize P.RT (Gf b n)=pt at*;generalize Gf b n=dg at*;generalize bq (cw ((b.getD (n/2) 0).toNat/2^(4*(n %2))))=c2 at*;generalize bq (b.getD (n/2) 0)=c1 at*;generalize((4*(n %2):Nat):Int)=K3 at*;generalize((n %2:Nat):Int)=K2 at*;generalize n/2=k at*;generalize R b=a at*;generalize qs P 16=T at*;generalize hN:(n:Int)=d at*;rw[aj,aO mw];simp-implicitDefEqProofs [-B, -jS,xf,t, -AV.cells, -aW];rw[ab jO];try simp at c
  simp-implicitDefEqProofs [-B, -jS,c,q,r,m,I,l1,sh,u,ix,lt,z,(λp g j l f=>ldO (cr S _ 4):∀p g j l f,aX (S++[g,j,l,f,bPt p]) (.A 20) (.P (S.length+4) 0)=J p.aq),st,pG,E, -AV.cells, -aW];rw[ab mw];try simp at y
  simp-implicitDefEqProofs [-B,y]
def Bv(P:Pt)(b:X)(o:b.length=32)(S:Z):W N C 37 [P.aq,.A (R b)] S=J ((P.JA b 64 Pt.none).aq,S):=by
 have c:=axF S P b o (.M P.cs [] O) (.M eY [] O) 64 Pt.none (gL _);have z:=U_;have s:=X6 P;have r:(R b).length=32:=by simp[o]
 have q:cU (R b):=aF _;have v:(AV.A (R b)).cells=R b:=rfl;have w:(lg (qs P 16)).length=320:=by grind [sA,J9]
 have x:oc.length=320:=by grind [J_,sA]
 have i:eY.length=20:=rfl;have l:=X5 (qs P 16);have m:∀f g h,ba [] S.length (S++[f,g,h,.M oc [] O]) 320 (.P (S.length+3) 0) (.A (lg (qs P 16)))=J ([],S++[f,g,h,LK (qs P 16)]):=λf g h=>by simp_all
 have j:∀f g h e,ba [] S.length (S++[f,g,h,e,.M eY [] O]) 20 (.P (S.length+4) 0) Pt.none.aq=J ([],S++[f,g,h,e,bPt Pt.none]):=λf g h e=>by rw[stO (cr S _ 4) i];simp
 have k:∀p f g h e,ba [] S.length (S++[f,g,.M eY [] O,h,e]) 20 (.P (S.length+2) 0) (Pt.aq p)=J ([],S++[f,g,bPt p,h,e]):=λp f g h e=>by rw[stO (cr S _ 2) i];simp
 generalize P.JA b 64 Pt.none=d,Pt.none=y,R b=a,qs P 16=T at*;have n:=l.agg;have u:∀t,aY t (.A (lg T))=(.A (lg T),t):=λt=>n.take t;simp at j k c;rw[jN aFe];simp-implicitDefEqProofs [r,q,z,s,m,j,n, -AV.cells, -aW];rw[ab mw];try simp at c
 simp-implicitDefEqProofs [c,(λp f g h e=>ldO (cr S _ 4):∀p f g h e,aX (S++[f,g,h,e,bPt p]) (.A 20) (.P (S.length+4) 0)=J p.aq),k,(λp f g h e=>ldO (cr S _ 2):∀p f g h e,aX (S++[f,g,bPt p,h,e]) (.A 20) (.P (S.length+2) 0)=J p.aq), -AV.cells, -aW]
def bX:Nat:=15112221349535400772501151409588531511454012693041857206046113283949847762202
def bY:Nat:=46316835694926478169428394003475163141307993866256225615783033603165251855960
def aFf:pc 5=11579208923731619542357098500868790785326998466564056403945758400791312963990:=by rw[Gg,<-Nc fE];kernel_rfl
def asf:mM 4 (pc 5)=bY:=by rw[aFf];decide
def asg{u v k a:Nat}(h:(u*v^7)^((F -5)/8)%F=k)(b:u*v^3*k %F=a):Vb u v=a:=by unfold Vb;rw[<-AQ,h,b]
def amX:Vb 37053468555941182535542715202780130513046395093004980492626426882532201484767 35320460721920060721965471946471712506633951349663716574434581141966314745466=42783823269122696939284341094755422415180979639778424813682678720006717057747:=by
 have h:(37053468555941182535542715202780130513046395093004980492626426882532201484767*35320460721920060721965471946471712506633951349663716574434581141966314745466^7)^((F -5)/8)%F=2861453323427594548699152106119760322257416108237569298356087714518206905866:=by rw[<-Nc fE];kernel_rfl
 exact asg h fE
def amY:uF 42783823269122696939284341094755422415180979639778424813682678720006717057747=bX:=by rfl
def afd:p_ 37053468555941182535542715202780130513046395093004980492626426882532201484767 35320460721920060721965471946471712506633951349663716574434581141966314745466=(bX,G):=by rw[Jh fE fE fE,amX,if_pos fE,amY]
def Gd:oK=⟨bX,bY,1⟩:=by
 have a:dp (nD (ig 32 bY))=bY:=by rfl
 have b:mS (mM bY bY) 1=37053468555941182535542715202780130513046395093004980492626426882532201484767:=fE;have c:mA (mM uR (mM bY bY)) 1=35320460721920060721965471946471712506633951349663716574434581141966314745466:=by rw[HP];decide
 simp_all[bY,F,ig,tG,afd,oK,asf,zq]
def amZ:fi bY*fi bY=1+fi bX*fi bX+fi uR*(fi bX*fi bX)*(fi bY*fi bY):=by rw[<-uq,HP,<-nM,<-nM,<-nM,<-nM,<-P4,<-P4];rfl
def bE:EP F:=⟨fi bX,fi bY,amZ⟩
def aaL:fi 1≠0:=axv fE fE
def CP:oK.rep bE:=by rw[Gd];refine⟨aaL, ?_, ?_⟩;all_goals rfl
def ahw{q:Pt}{P:P3}{e:EP F}(h:q.is P)(i:P.rep e)(b:P.z=1):q.rep e:=by
 have⟨l,c,d⟩:=i;have a:∀x:Fl,fx x=fi x.p:=λx=>(zr _).symm;rw[b,uq]at c d;have k:fx q.z=1:=by rw[a,h.z,b,uq]
 have f:fx q.x=e.x:=by rw[a,h.x,c];grind
 have g:fx q.y=e.y:=by rw[a,h.y,d];grind
 have j:fx q.t=e.x*e.y:=by rw[a,h.t,zr,nM,<-a,<-a,f,g]
 refine⟨h.gx,h.gy,h.gz,h.gt, ?_, ?_, ?_, ?_⟩;all_goals grind
def X8{r:Nat}(a:r<F):fi (uF r)*fi (uF r)=fi r*fi r:=by
 unfold uF;by_cases h:r %2=1
 ·rw[if_pos h,show(0+F -r)%F=mS 0 r from rfl,Nb a,tV]
  grind
 simp_all
def X9{u v:Nat}(b:u<F)(e:v<F)(h:(p_ u v).2=G):fi v*(fi (p_ u v).1*fi (p_ u v).1)=fi u:=by
 by_cases c:v=0;·grind [p_]
 rw[Jh b e c]at h⊢;have f:Vb u v<F:=gH _ fE;generalize Vb u v=r at*;by_cases a:v*(r*r)%F=u
 ·rw[if_pos a]
  show fi v*(fi (uF r)*fi (uF r))=fi u;rw[X8 f,<-nM,<-nM]
  grind [wA,fQ]
 ·rw[if_neg a]at h⊢
  by_cases d:v*(r*r)%F=(F -u)%F
  ·rw[if_pos d]
   dsimp only;rw[X8 (gH _ fE),zr,nM];have i:=P6;have g:fi v*(fi r*fi r)= -fi u:=by rw[<-nM,<-nM];have:fi (v*(r*r))=fi (mS 0 u):=wA.2 (by grind [mS,Nat.mod_mod]);rw[this,Nb b,tV];rfl
   grind
  simp_all
def amP{b:X}(h:(zq b).2=G):∃e:EP F,(zq b).1.rep e/\(zq b).1.z=1/\(zq b).1.ok:=by
 unfold zq at h⊢;by_cases j:dp (nD b)<F
 ·rw[if_pos j]at h⊢
  by_cases f:(tG b).2=G/\¬(128<=(b.getD 31 0).toNat/\(tG b).1=0)
  ·rw[if_pos f]
   have k:mS (mM (dp (nD b)%F) (dp (nD b)%F)) 1<F:=gH _ fE;have l:mA (mM uR (mM (dp (nD b)%F) (dp (nD b)%F))) 1<F:=gH _ fE;have g:=X9 k l f.1;rw[show p_ (mS (mM (dp (nD b)%F) (dp (nD b)%F)) 1) (mA (mM uR (mM (dp (nD b)%F) (dp (nD b)%F))) 1)=tG b from rfl]at g;have o:(tG b).1<F:=Qa _ _;rw[Nb fE,X0,J7,J7,uq]at g;have p:dp (nD b)%F<F:=gH _ fE;generalize(tG b).1=c,dp (nD b)%F=d at*;have n:∀x:Zp,x*x=fi c*fi c->fi d*fi d=1+x*x+fi uR*(x*x)*(fi d*fi d):=λx q=>by grind
   have i:fi (if 128<=(b.getD 31 0).toNat then mS 0 c else c)*fi (if 128<=(b.getD 31 0).toNat then mS 0 c else c)=fi c*fi c:=by
    split
    ·rw[Nb o,tV]
     grind
    ·rfl
   have m:(if 128<=(b.getD 31 0).toNat then mS 0 c else c)<F:=by
    split;·exact gH _ fE
    omega
   generalize(if 128<=(b.getD 31 0).toNat then mS 0 c else c)=a at*;refine⟨⟨fi a,fi d,n _ i⟩,⟨aaL, ?_, ?_⟩,rfl,m,p,show(1:Nat)<F by decide⟩
   ·show fi a=fi a*fi 1
    rw[uq];grind
   ·show fi d=fi d*fi 1
    rw[uq];grind
  grind
 simp_all
def P3.neg(P:P3):P3:=⟨mS 0 P.x,P.y,P.z⟩
def acI{P:P3}{e:EP F}(h:P.rep e)(d:P.x<F):P.neg.rep e.neg:=by
 have⟨a,b,c⟩:=h;refine⟨a, ?_,c⟩;show fi (mS 0 P.x)= -e.x*fi P.z
 grind [Nb,tV]
def Pt.neg(q:Pt):Pt:=⟨Fl.nil.sub q.x,q.y,q.z,Fl.nil.sub q.t⟩
def ahJ{x:Fl}(h:x.n.ij):fx (Fl.nil.sub x)= -fx x/\(Fl.nil.sub x).n.ij:=by refine⟨?_,(II P9.2 h).2⟩;rw[DP P9.2 h,show fx Fl.nil=fi 0 from rfl,tV];rfl
def apJ(e:EP F):e.neg.x= -e.x:=rfl
def axG(e:EP F):e.neg.y=e.y:=rfl
def am0{a x z:Zp}(h:a=x*z): -a= -x*z:=by grind
def ahK{a x y z:Zp}(h:a=x*y*z): -a= -x*y*z:=by grind
def ahy{q:Pt}{e:EP F}(h:q.rep e):q.neg.rep e.neg:=by have⟨l,m,n,k⟩:=q;have⟨g,i,j,f,z,x,y,t⟩:=h;have⟨a,b⟩:=ahJ g;have⟨c,d⟩:=ahJ f;exact⟨b,i,j,d,z,by rw[apJ];exact a.trans (am0 x),by trivial,by rw[apJ,axG];exact c.trans (ahK t)⟩
def ash{c:UInt8}(h:c.toNat<128):c|||128=cw (c.toNat+128):=by
 apply UY.1;rw[UInt8.toNat_or,qE,fQ V,PT];have:=Nat.two_pow_add_eq_or_of_lt (i:=7) (b:=c.toNat) V 1
 grind
def Pt.bytes(q:Pt):X:=
 if(q.x.mul q.z.inv).p %2=1 then(ig 32 (q.y.mul q.z.inv).p).set 31 ((ig 32 (q.y.mul q.z.inv).p).getD 31 0|||128)else ig 32 (q.y.mul q.z.inv).p
def P1{q:Pt}{e:EP F}(h:q.rep e):q.bytes=e.bytes:=by
 have⟨n,o,j,m,z,x,y,t⟩:=h;have⟨r,s⟩:=axH j;have u:fx q.z*fx q.z.inv=1:=by
  have f:fx q.z.inv=fi (pc q.z.p):=by grind [Gg,Fl.p,Nat.pow_mod,zr,fx]
  have b:fx q.z=fi q.z.p:=(zr _).symm;rw[f,b,<-nM,<-uq];exact wA.2 (by rw[ack (am1 _) (λd=>z (by rw[b,d,tV]))];decide)
 have a:∀(w:Fl)(v:Zp),fx w=v->w.p=v.val:=λw v l=>U9 (am1 w) ((zr _).trans l);have g:(q.x.mul q.z.inv).p=e.x.val:=a _ _ (by grind [na]);have i:(q.y.mul q.z.inv).p=e.y.val:=a _ _ (by grind [na]);unfold Pt.bytes EP.bytes;rw[g,i,ash];have k:=AP (ig 32 e.y.val) 31;have c:=e.y.isLt;rw[(by rw[z8,fQ (zj c fE)]:dp (ig 32 e.y.val)=e.y.val)]at k;have p:e.y.val/256^31<128:=(ED (CM V)).2 (zj c fE);omega
def bxB:X:=[26,213,37,143,96,45,86,201,178,167,37,149,96,199,44,105,92,220,214,253,49,226,164,192,254,83,110,205,211,54,105,33]
def byB:X:=88::fg 31 102
def Pt.base:Pt:=Pt.aff (Fl.of bxB) (Fl.of byB)
def U4(S:Z):W N C 36 [] S=J (Pt.base.aq,S):=by have c:=λS=>afa bxB rfl S;have d:=λS=>afa byB rfl S;have h:=λS=>PY (Fl.of bxB) (Fl.of byB) S;have f:R bxB=[.I L 26,.I L 213,.I L 37,.I L 143,.I L 96,.I L 45,.I L 86,.I L 201,.I L 178,.I L 167,.I L 37,.I L 149,.I L 96,.I L 199,.I L 44,.I L 105,.I L 92,.I L 220,.I L 214,.I L 253,.I L 49,.I L 226,.I L 164,.I L 192,.I L 254,.I L 83,.I L 110,.I L 205,.I L 211,.I L 54,.I L 105,.I L 33]:=rfl;have g:R byB=[.I L 88,.I L 102,.I L 102,.I L 102,.I L 102,.I L 102,.I L 102,.I L 102,.I L 102,.I L 102,.I L 102,.I L 102,.I L 102,.I L 102,.I L 102,.I L 102,.I L 102,.I L 102,.I L 102,.I L 102,.I L 102,.I L 102,.I L 102,.I L 102,.I L 102,.I L 102,.I L 102,.I L 102,.I L 102,.I L 102,.I L 102,.I L 102]:=rfl;rw[f]at c;rw[g]at d;have e:∀k n,AV.cells (.I k n)=[.I k n]:=λ_ _=>rfl;have j:∀k n,aW (.I k n)=G:=λ_ _=>rfl;rw[XC aE9];unfold Pt.base;generalize Fl.of bxB=a,Fl.of byB=b at*;generalize Pt.aff a b=P at*;have i:=U5 P;simp at i;simp-implicitDefEqProofs [c,d,h,dk,aQ, -B, -AV.cells, -aW,e]
def Tt:Pt.base.rep bE:=by have h:=ahu (u7 (ahv bxB rfl).2) (u7 (ahv byB rfl).2);rw[(by rfl:(Fl.of bxB).p=bX),(by rfl:(Fl.of byB).p=bY),<-Gd]at h;exact ahw h CP (by rw[Gd])
def asd(p:Pt)(S:Z):W N C 74 [p.aq] S=J (p.neg.aq,S):=by have d:=λS=>LI p.x S;have e:=λS=>LI p.t S;have c:=U6 (Fl.nil.sub p.x) p.y p.z (Fl.nil.sub p.t);rw[show(⟨Fl.nil.sub p.x,p.y,p.z,Fl.nil.sub p.t⟩:Pt)=p.neg from rfl]at c;have f:=U5 p.neg;simp at c f;rw[jC aE_];generalize p.neg=a,Fl.nil.sub p.x=b,Fl.nil.sub p.t=T at*;simp-implicitDefEqProofs [d,e,c, -AV.cells, -aW, -B]
def PZ(q:Pt)(S:Z):W N C 38 [q.aq] S=J (.A (R q.bytes),S):=by
 have u:=λS=>axu q.z S;have r:=λS=>u9 q.y q.z.inv S;have s:=λS=>u9 q.x q.z.inv S;have e:=λS=>acG (q.y.mul q.z.inv) S;rw[acH]at e;rw[show(q.y.mul q.z.inv).n.v %F=(q.y.mul q.z.inv).p from rfl]at e;have l:=λS=>aaF (q.x.mul q.z.inv) S;rw[show(q.x.mul q.z.inv).n.v %F=(q.x.mul q.z.inv).p from rfl]at l;have p:q.bytes=if(q.x.mul q.z.inv).p %2=1 then(ig 32 (q.y.mul q.z.inv).p).set 31 ((ig 32 (q.y.mul q.z.inv).p).getD 31 0|||128)else ig 32 (q.y.mul q.z.inv).p:=rfl
 have t:(ig 32 (q.y.mul q.z.inv).p).length=32:=qC _ _;generalize ig 32 (q.y.mul q.z.inv).p=d at*;generalize(q.x.mul q.z.inv).p=x at*;generalize q.y.mul q.z.inv=b at*;generalize q.x.mul q.z.inv=a at*;generalize q.z.inv=I at*;have g:(R d).length=32:=by simp[t]
 have f:cU (R d):=aF _;have m:dG (.A 32) (R d) 0=J (.A (R d)):=bA g f;have k:∀a b c,aX (S++[a,b,c,.M (R d) [] O]) .C (.P (S.length+3) 31)=J (bq (d.getD 31 0)):=λa b c=>U7 (cr S _ 3) V;have w:B .or (bq (d.getD 31 0)) (.I L 128)=J (bq (d.getD 31 0|||128)):=ahx (d.getD 31 0) 128;have E:∀a b c,ba [] S.length (S++[a,b,c,.M (R d) [] O]) 1 (.P (S.length+3) 31) (bq (d.getD 31 0|||128))=J ([],S++[a,b,c,.M (R (d.set 31 (d.getD 31 0|||128))) [] O]):=λa b c=>by rw[st8 (cr S _ 3) V];simp
 have i:(R (d.set 31 (d.getD 31 0|||128))).length=32:=by simp[t]
 have h:cU (R (d.set 31 (d.getD 31 0|||128))):=aF _;rw[p];clear p;generalize d.set 31 (d.getD 31 0|||128)=v,d.getD 31 0|||128=T,d.getD 31 0=P,A:R d=n at*;have y:(AV.A n).cells=n:=rfl;rw[jC aFa];by_cases j:x %2=1
 ·rw[if_pos j]
  generalize R v=o at*;have z:(AV.A o).cells=o:=rfl;simp-implicitDefEqProofs [u,r,s,e,l,j,g,f,k,w,E,i,h,bA i h, -B, -AV.cells, -aW]
 ·rw[if_neg j,A]
  simp-implicitDefEqProofs [u,r,s,e,l,j,g,f,m, -B, -AV.cells, -aW]
def amO(n m:X)(k:n.length=32)(j:m.length=32)(p:Pt)(S:Z):W N C 73 [.A (R n),p.aq,.A (R m)] S=J (((p.JA n 64 Pt.none).add (Pt.base.JA m 64 Pt.none)).aq,S):=by
 have r:=λS=>Bv p n k S;have s:=λS=>Bv Pt.base m j S;have b:=U4;have l:=λS=>aaH (p.JA n 64 Pt.none) (Pt.base.JA m 64 Pt.none) S;have f:(R n).length=32:=by simp[k]
 have d:cU (R n):=aF _;have g:(R m).length=32:=by simp[j]
 have e:cU (R m):=aF _;generalize(p.JA n 64 Pt.none).add (Pt.base.JA m 64 Pt.none)=c,p.JA n 64 Pt.none=t,Pt.base.JA m 64 Pt.none=u,Pt.base=a,R n=h,R m=i at*;have o:(AV.A h).cells=h:=rfl;have q:(AV.A i).cells=i:=rfl;rw[LB aFb];simp-implicitDefEqProofs [r,s,b,l,f,d,bA f d,g,e,bA g e, -B, -AV.cells, -aW]
def RS(gg k s:X):P3:=(P3.mul s 256 0 oK iM).add (P3.mul k 256 0 (zq gg).1.neg iM) uR
def aaI{b k s:X}(h:(zq b).2=G){q:Pt}(f:q.is (zq b).1)(c:k.length=32)(d:s.length=32):
 ((q.neg.JA k 64 Pt.none).add (Pt.base.JA s 64 Pt.none)).bytes=(RS b k s).bytes:=by
 have⟨e,r,i,g⟩:=amP h;have a:=P0 (LJ (ahy (ahw f r i)) k c) (LJ Tt s d);rw[P1 a,show RS b k s=(P3.mul s 256 0 oK iM).add (P3.mul k 256 0 (zq b).1.neg iM) uR from rfl,HN (Ou (xd s d CP) (xd k c (acI r g.1))) (P3.Jg _ _ _).2.2,EP.add_comm]
def gX(n:X):X:=(P3.mul n 256 0 oK iM).bytes
def HO:oK.ok:=by rw[Gd];trivial
def P3.P2(b:X):∀(n i:Nat)(x o:P3),x.ok->o.ok->(P3.mul b n i x o).ok
 |0,_,_,_,_,ho=>ho
 |n+1,i,x,o,hx,ho=>by
  rw[P3.mul];refine P3.P2 b n (i+1) _ _ (P3.Jg _ _ _) ?_;split;·exact P3.Jg _ _ _
  ·exact ho
def Tu{n:X}(a:n.length=32):(Pt.base.JA n 64 Pt.none).bytes=gX n:=by rw[P1 (LJ Tt n a),show gX n=(P3.mul n 256 0 oK iM).bytes from rfl,HN (xd n a CP) (P3.P2 n 256 0 _ _ HO J5).2.2]
def sM(n:X):(gX n).length=32:=by unfold gX P3.bytes;split<;>simp
def bd.bytes(e:bd):X:=e.dH++e.je
def bd.Av{e:bd}(A:e.Ok):e.bytes.length=e.dH.length+64:=by simp[bd.bytes,A.je]
theorem bd.im(e:bd):e.bytes≠[]:=by nofun
def vn(e:bd)(k:e.Wf)(S:Z):W N C 15 [.A e.aq] S=J (xj e.cM e.bytes,S):=by
 have A:=k.toOk;have c:=RX e k (S++[.M e.aq [] O]);have p:Bh 1=.kv 71 (.I Y 1):=rfl;have r:Bh 3=.kv 71 (.I Y 3):=rfl;rw[jC aFu];rcases(show e.cM=O\/e.cM=G by simp)with hs|hs
 ·rw[hs]at c⊢
  simp[A,c,bT,xj,p,cI,uY,cj,bm,aG,br]
 rw[hs]at c⊢;have⟨a,u,f,d⟩:=DT e k hs (S++[.M e.aq [] O]);have q:=bd.Av A;have i:∀b,aY [] (.cV [.sl .gF 1 (cE a),.B b])=(.cV [.sl (.fr 0) 1 (cE a),.B b],[J a.length]):=λb=>by have:=ahS a (.B b) (λ_=>rfl);exact this
 by_cases l:e.dH.length+64<=4096
 ·have n:=d l
  have j:=decide_eq_true l;rw[j,n]at f;rw[n]at i;have s:bZ (S++[.M e.aq [] O]) (.cg S.length 96 64 64 1)=J (1,cE e.je):=Au (x:=e.je) (bt:=[]) (b:=O) ca (bd.s96 A) A.je (by simp[A]);have v:e.je≠[]:=by intro h;have:=A.je;simp_all
  have m:eK 1 [J e.dH.length] (S++[.M e.aq [] O]) (.sl (.fr 0) 1 (cE e.dH)) (.cg S.length 96 64 64 1)=J (.sl (.fr 0) 1 (cE e.bytes),[J e.bytes.length],S++[.M e.aq [] O]):=by
   have t:¬(2^30<e.dH.length+e.je.length):=by rw[A.je];omega
   simp_all[eK,bd.bytes]
  have g:=AN [J e.bytes.length] 0 1 (cE e.bytes) ca;have o:dv 15 [J e.bytes.length] [.sl (.fr 0) 1 (cE e.bytes),.dj] S (S++[.M e.aq [] O])=J (.cV [.sl .gF 1 (cE e.bytes),.dj],S):=by grind [cj,bm,uY,cI,aG,fI,br]
  rw[HR rfl e.im,uB];simp at i m o;simp[A,c,bT,f,i,qq,m,o]
 ·have j:=decide_eq_false l
  rw[j]at f;rw[HR rfl e.im,ifP];simp[A,c,bT,f,i,cI,uY,cj,bm,aG,br]
def RY(e:bd)(d:e.Wf)(S:Z):W N C 27 [.A e.aq] S=J (.B (e.cM&&ck (e.bytes.length<=4096)),S):=by
 have A:=d.toOk;have b:=vn e d (S++[.M e.aq [] O]);have a:=HQ e.cM e.bytes e.im;have g:Bh 1=.kv 71 (.I Y 1):=rfl;have h:Bh 3=.kv 71 (.I Y 3):=rfl;have c:∀n,ec .eql (.kv fV) G (.kv 71 (.I Y n)) .dj=J (.B O):=λ_=>rfl;rw[jC aFv];rcases(show e.cM=O\/e.cM=G by simp)with hs|hs
 ·rw[hs]at b a⊢
  rw[if_neg ca,g]at a;simp[A,b,a,c]
 rw[hs]at b a⊢;rw[if_pos rfl]at a;by_cases f:e.bytes.length<=4096
 ·rw[uB]at a
  simp[A,b,a,(rfl:ec .eql (.kv fV) G .dj .dj=J (.B G)),f]
 ·rw[ifP,h]at a
  simp[A,b,a,c,f]
def Ao(S:Z)(j:Nat)(r:Rd)(z:de)(c:K)(bt:bV)(u:de):Z:=S.set j (fY j r)++[z,.M c bt O,u]
def K7(S:Z)(j:Nat)(r:Rd)(z:de)(c:K)(bt:bV)(u:de):jc S j r z (.M c bt O)++[u]=Ao S j r z c bt u:=s_ ..
def Q6(S:Z)(j:Nat)(r:Rd)(z b:de):(jc S j r z b).length=S.length+2:=by simp[jc]
def Ap{S:Z}{j:Nat}{r:Rd}(b:S[j]? =J (fY j r))(a:Rd)(z:de)(c:K)(bt:bV)(u:de):(Ao S j a z c bt u)[j]? =J (fY j a):=ak1 b a _
theorem xO{S:Z}{j:Nat}{r:Rd}(d:S[j]? =J (fY j r))(b a:Rd)(z:de)(c:K)(bt:bV)(u:de):(Ao S j b z c bt u).set j (fY j a)=Ao S j a z c bt u:=by grind [Ao,List.set_set]
theorem Dj(S:Z)(j:Nat)(r:Rd)(z:de)(c:K)(bt:bV)(u:de):(Ao S j r z c bt u)[S.length+1]? =J (.M c bt O):=gT (ud S j r) _ 1
theorem Q7(S:Z)(j:Nat)(r:Rd)(z:de)(c a:K)(bt bt':bV)(u:de):(Ao S j r z c bt u).set (S.length+1) (.M a bt' O)=Ao S j r z a bt' u:=sT (ud S j r) _ 1 _
def ala(S:Z)(j:Nat)(r:Rd)(z:de)(c:K)(bt:bV)(u:de):(Ao S j r z c bt u)[S.length+2]? =J u:=gT (ud S j r) _ 2
def alb(S:Z)(j:Nat)(r:Rd)(z:de)(c:K)(bt:bV)(u:de):(Ao S j r z c bt u)[S.length]? =J z:=gT0 (ud S j r) _
theorem abU(S:Z)(j:Nat)(r:Rd)(z:de)(c:K)(bt:bV)(u:de)(a:Sh)(off:Nat):aX (Ao S j r z c bt u) a (.P (S.length+1) off)=dG a c off:=bL (Dj S j r z c bt u) a off
def OK(S:Z)(j:Nat)(r:Rd)(z:de)(c:K)(bt:bV)(cs:K)(a:Sh)(off:Nat):aX (Ao S j r z c bt (.M cs [] O)) a (.P (S.length+2) off)=dG a cs off:=bL (ala ..) a off
theorem aoM(S:Z)(j:Nat)(r:Rd)(cs:K)(c:K)(bt:bV)(u:de)(a:Sh)(off:Nat):aX (Ao S j r (.M cs [] O) c bt u) a (.P S.length off)=dG a cs off:=bL (alb ..) a off
def alc(S:Z)(j:Nat)(r:Rd)(z:de)(c:K)(bt:bV)(u:de):(Ao S j r z c bt u).take S.length=S.set j (fY j r):=by grind [Ao]
def aoN(S:Z)(j:Nat)(r b:Rd)(z:de)(c a:K)(bt bt':bV)(u:de){d:Rd}(e:S[j]? =J (fY j d)):K6 (Ao S j r z c bt u) j (S.length+1) b (.M a bt' O) []=Ao S j b z a bt' u:=by grind [K6,xO,Q7]
def Mv{S:Z}{j:Nat}{r:Rd}{z:de}{c a:K}{bt:bV}{u:de}{v:Q}(f:yc v)(off n:Nat)(d:v.cells.length=n)(e:off+n<=c.length)(b:aQ c off v.cells=a)(ag:bV):
 ba ag S.length (Ao S j r z c bt u) n (.P (S.length+1) off) v=J (ag,Ao S j r z a bt u):=by
 grind [eH,Dj,Q7]
def Q8{S:Z}{j:Nat}{r:Rd}{cs c C:K}{bt:bV}{u:de}(d:dJ C=G)(a:cs.length=20)(b:C.length=20)(ag:bV):
 ba ag S.length (Ao S j r (.M cs [] O) c bt u) 20 (.P S.length 0) (.A C)=J (ag,Ao S j r (.M C [] O) c bt u):=by
 grind [Ao,Bu,dX]
def Dk{k:Int}{a b:X}{c xs ys:K}{pr ir:Q}(d:dJ c=G)(e:dJ xs=G)(f:dJ ys=G)(g:br pr=G)(h:br ir=G):dJ (mq k a b c xs ys pr ir)=G:=by rw[AR]at*;intro x hx;unfold mq at hx;simp only[MT,Pz,List.not_mem_nil,or_false]at hx;rcases hx with(rfl|rfl|rfl)|hx|hx|hx|rfl|rfl;all_goals simp_all
theorem Ua{k:Int}{a b:X}{c xs ys:K}{pr ir:Q}(d:c.map aV=c)(e:xs.map aV=xs)(f:ys.map aV=ys):(mq k a b c xs ys pr ir).map aV=mq k a b c xs ys (aV pr) (aV ir):=by simp_all[mq]
def Dl{l:bU}{k:Int}{a b:X}{c xs ys:K}{pr ir:Q}(m:k=l.ak)(i:a=l.a)(j:b=l.b)(d:c.map eE=l.type.aq)(e:xs.map eE=l.base.aq)(f:ys.map eE=l.back.aq)(g:eE pr=rj l.bj)(h:eE ir=vg l.bW):
 cj (.A (mq k a b c xs ys pr ir))=.A l.aq:=by
 subst m i j;show AV.A ((mq l.ak l.a l.b c xs ys pr ir).map eE)=_;unfold mq;simp only[List.map_append,MR,U1,d,e,f,g,h];rw[bU.jT];rfl
abbrev y9:K:=[.I Y 0,.aw,.aw]
def auu{k:Int}(b:1<=k)(c:k<=10):(wo k=G/\uw k=O/\xo k=O/\ze k=O)\/(wo k=O/\uw k=G/\xo k=O/\ze k=O)\/(wo k=O/\uw k=O/\xo k=O/\ze k=O)\/(wo k=O/\uw k=O/\xo k=O/\ze k=G)\/(wo k=O/\uw k=G/\xo k=G/\ze k=O):=by have a:k=1\/k=2\/k=3\/k=4\/k=5\/k=6\/k=7\/k=8\/k=9\/k=10:=V;rcases a with k|k|k|k|k|k|k|k|k|k<;>subst k<;>decide
def aoO:∀(d:Nat)(l:bU),l.Wf->l.bB d=G->d<1000->∀(S:Z)(j:Nat)(r:Rd)(u:X),S[j]? =J (fY j r)->r_ r (l.bytes++u)->
 W N nk 116 [.P j 0,.I Y (d:Int)] S=J (.A l.aq,S.set j (fY j (r.go l.bytes.length))):=by
 intro d;induction d with
 |zero=>nofun
 |succ d ih=>
  intro l hl h hd S j r u w hr;have f:=bU.ie h;have I:=hl.one;have hj:j<S.length:=(mo.1 w).1;have lb:=l.A9;have k1:=f.k1;have k10:=f.k10;have hR1:r_ (r.go 1) (a_ l.a++((if wo l.ak=G then a_ l.b else[])++((if uw l.ak=G then l.type.bytes++l.base.bytes else[])++((if xo l.ak=G then l.back.bytes++(cJ l.bj.length++l.bj.flatMap nO)else[])++(bU.gE l.bW++u))))):=by have:=hr;rw[lb,FX]at this;simpa only[s_]using this.go1
  have hr0:=hr;rw[lb,FX]at hr0;have hS1:∀b,(S++[b])[j]? =J (fY j r):=λb=>dL _ w;have c1:=Ki (hS1 (.M aE [] O)) hr0;rw[iw _ hj]at c1;have hk:((cw l.ak.toNat).toNat:Int)=l.ak:=by rw[qE];omega
  rw[hk]at c1;have wk:dh Y l.ak=l.ak:=cF V;have d0:¬((d:Int)+1=0):=V;have hd1:dh Y (d:Int)=(d:Int):=cF V;have T1:(S.set j (fY j (r.go 1))).length=S.length:=ca;have fk:dk aE [(0,1,.I Y l.ak)]=J (mq l.ak [] [] y9 ah ah .aw .aw):=rfl;have st0:ba [] S.length (S.set j (fY j (r.go 1))++[.M aE [] O,.M aE [] O]) 20 (.P (S.length+1) 0) (.A (mq l.ak [] [] y9 ah ah .aw .aw))=J ([],jc S j (r.go 1) (.M aE [] O) (.M (mq l.ak [] [] y9 ah ah .aw .aw) [] O)):=by rw[PW T1 rfl];rfl
  have lk:∀n,aX (jc S j n (.M aE [] O) (.M (mq l.ak [] [] y9 ah ah .aw .aw) [] O)) .C (.P (S.length+1) 0)=J (.I Y l.ak):=λn=>oD ..;have cu:=yA l.ak;have hok:Cg l.ak=G:=by simp[Cg,k1,k10]
  rw[hok]at cu;have stu:∀n c b t y i,ba [] S.length (Ao S j n (.M aE [] O) c [] (.M [.B O,.B O,.B O,.B O] [] O)) 4 (.P (S.length+2) 0) (.A [.B b,.B t,.B y,.B i])=J ([],Ao S j n (.M aE [] O) c [] (.M [.B b,.B t,.B y,.B i] [] O)):=λn c b t y i=>by unfold Ao;rw[PW (ud S j n) rfl];rfl
  have b0:ec .neq (.kv fV) G .dj .dj=J (.B O):=rfl;have b1:ec .eql (.kv fV) G .dj .dj=J (.B G):=rfl;have lu0:∀n z c bt b t y i,aX (Ao S j n z c bt (.M [.B b,.B t,.B y,.B i] [] O)) .C (.P (S.length+2) 0)=J (.B b):=λ_ _ _ _ _ _ _ _=>OK ..;have lu1:∀n z c bt b t y i,aX (Ao S j n z c bt (.M [.B b,.B t,.B y,.B i] [] O)) .C (.P (S.length+2) 1)=J (.B t):=λ_ _ _ _ _ _ _ _=>OK ..;have lu2:∀n z c bt b t y i,aX (Ao S j n z c bt (.M [.B b,.B t,.B y,.B i] [] O)) .C (.P (S.length+2) 2)=J (.B y):=λ_ _ _ _ _ _ _ _=>OK ..;have lu3:∀n z c bt b t y i,aX (Ao S j n z c bt (.M [.B b,.B t,.B y,.B i] [] O)) .C (.P (S.length+2) 3)=J (.B i):=λ_ _ _ _ _ _ _ _=>OK ..;have er:=λ{n:Rd}{u':X}(z:de)(c:K)(bt)(b:de)(h':r_ n u')=>AX (Ap w n z c bt b) h';have ne0:l.a≠[]:=by have:=iu f.a;intro e;have h2:=f.a;rw[e]at h2;trivial
  have c2:=λg=>Y4 (o:=[]) (Ap w (r.go 1) (.M aE [] O) (mq l.ak [] [] y9 ah ah .aw .aw) [] g) f.a ne0 hR1;simp only[xO w]at c2;have s2:∀n g,ba [] S.length (Ao S j n (.M aE [] O) (mq l.ak [] [] y9 ah ah .aw .aw) [] g) 1 (.P (S.length+1) 1) (.S l.a)=J ([],Ao S j n (.M aE [] O) (mq l.ak l.a [] y9 ah ah .aw .aw) [] g):=λn g=>Mv (Vd l.a) 1 1 rfl (by rw[pY rfl rfl rfl];omega) rfl [];have R2:=hR1.go;have lA:∀n z a b(ts xs ys:K) pr ir bt g,ts.length=3->xs.length=6->ys.length=6->ts.map aV=ts->xs.map aV=xs->ys.map aV=ys->aX (Ao S j n z (mq l.ak a b ts xs ys pr ir) bt g) (.A 20) (.P (S.length+1) 0)=J (.A (mq l.ak a b ts xs ys (aV pr) (aV ir))):=λn z a b ts xs ys pr ir bt g h1 h2 h3 g1 g2 g3=>by grind [abU,fW,pY,Ua]
  have lZ:∀n a b(ts xs ys:K) pr ir c bt g,ts.length=3->xs.length=6->ys.length=6->ts.map aV=ts->xs.map aV=xs->ys.map aV=ys->aV pr=pr->aV ir=ir->aX (Ao S j n (.M (mq l.ak a b ts xs ys pr ir) [] O) c bt g) (.A 20) (.P S.length 0)=J (.A (mq l.ak a b ts xs ys pr ir)):=λn a b ts xs ys pr ir c bt g h1 h2 h3 g1 g2 g3 g4 g5=>by grind [aoM,fW,pY,Ua]
  have res:∀n s C c bt g,cj (.A C)=.A l.aq->dv 116 s [.A C] S (Ao S j n (.M C [] O) c bt g)=J (.A l.aq,S.set j (fY j n)):=λn s C c bt g hC=>by simp[tE,hC,cI,alc]
  have tS:=(bQ.jh l.type).jg;have tP:=(bQ.jh l.type).br;have tN:=(bQ.jh l.type).xi;have xS:=(bu.jh l.base).jg;have xP:=(bu.jh l.base).br;have xN:=(bu.jh l.base).xi;have yS:=(bu.jh l.back).jg;have yP:=(bu.jh l.back).br;have yN:=(bu.jh l.back).xi;have z3:y9.map aV=y9:=rfl;have z3P:dJ y9=G:=rfl;have tr:∀b t y i o,aY [] (.cV [.A (tw b t y i),.B o])=(.cV [.A (tw b t y i),.B o],[]):=λ_ _ _ _ _=>rfl;have sn:aV .aw=.aw:=rfl;have i0:l.bW=[]->bU.gE l.bW=[]:=λh=>by rw[h];rfl
  rcases auu k1 k10 with⟨E,P,T,hi⟩|⟨E,P,T,hi⟩|⟨E,P,T,hi⟩|⟨E,P,T,hi⟩|⟨E,P,T,hi⟩
  ·
    have e1:=f.b1 E;have e2:=f.t0 P;have e3:=f.y0 T;have e4:=f.i0 hi;rw[E,P,T,hi]at cu;simp only[E,P,T,i0 e4,if_true,Cw,if_false,Br]at R2 lb;have c3:=λg=>Y4 (o:=l.a) (Ap w ((r.go 1).go (a_ l.a).length) (.M aE [] O) (mq l.ak l.a [] y9 ah ah .aw .aw) [] g) e1.1 e1.2 R2;simp only[xO w]at c3;have R3:=R2.go;have l1:∀n g,aX (Ao S j n (.M aE [] O) (mq l.ak l.a [] y9 ah ah .aw .aw) [] g) .C (.P (S.length+1) 1)=J (.S l.a):=λ_ _=>abU ..;have s3:∀n g,ba [] S.length (Ao S j n (.M aE [] O) (mq l.ak l.a [] y9 ah ah .aw .aw) [] g) 1 (.P (S.length+1) 2) (.S l.b)=J ([],Ao S j n (.M aE [] O) (mq l.ak l.a l.b y9 ah ah .aw .aw) [] g):=λn g=>Mv (Vd l.b) 2 1 rfl (by rw[pY rfl rfl rfl];omega) rfl [];have hC:cj (.A (mq l.ak l.a l.b y9 ah ah .aw .aw))=.A l.aq:=Dl rfl rfl rfl (by rw[e2.1];rfl) (by rw[e2.2];rfl) (by rw[e3.1];rfl) (by rw[e3.2];rfl) (by rw[e4];rfl);have p:=λn z g=>lA n z l.a l.b y9 ah ah .aw .aw [] g rfl rfl rfl rfl rfl rfl;have lZ':=λn c g=>lZ n l.a l.b y9 ah ah .aw .aw c [] g rfl rfl rfl rfl rfl rfl rfl rfl;have sZ':=λn c g=>Q8 (S:=S) (j:=j) (r:=n) (cs:=aE) (c:=c) (bt:=[]) (u:=g) (C:=mq l.ak l.a l.b y9 ah ah .aw .aw) (Dk rfl rfl rfl rfl rfl) rfl (pY rfl rfl rfl) [];have A:=λg=>er (.M aE [] O) (mq l.ak [] [] y9 ah ah .aw .aw) [] g hR1;have v:=λg=>er (.M aE [] O) (mq l.ak l.a l.b y9 ah ah .aw .aw) [] g R3;have rr:=λn s c g=>res n s _ c [] g hC;simp only[sn]at p;rw[jN YG];rw[lb];generalize hc0:mq l.ak [] [] y9 ah ah .aw .aw=C0,hc1:mq l.ak l.a [] y9 ah ah .aw .aw=C1,hc2:mq l.ak l.a l.b y9 ah ah .aw .aw=C2 at*;simp at c2 c3 v p;simp[d0,c1,wk,fk,st0,lk,cu,tr,bT,Q6,K7,stu,A,b0,c2,s2,lu0,lu1,lu2,lu3,l1,c3,s3,oQ,v,p,sZ',lZ',rr]
    grind
  ·
    have e1:=f.b0 E;have e2:=f.t1 P;have e3:=f.y0 T;have e4:=f.i0 hi;have fr:=qW e2;rw[E,P,T,hi]at cu;simp only[E,P,T,i0 e4,if_true,Cw,if_false,Br,s_]at R2 lb;have c3:=λg=>T9 l.type I.type fr.2 (Ap w ((r.go 1).go (a_ l.a).length) (.M aE [] O) (mq l.ak l.a [] y9 ah ah .aw .aw) [] g) R2;simp only[xO w]at c3;have R3:=R2.go;have s3:∀n g,ba [] S.length (Ao S j n (.M aE [] O) (mq l.ak l.a [] y9 ah ah .aw .aw) [] g) 3 (.P (S.length+1) 3) (.A l.type.aq)=J ([],Ao S j n (.M aE [] O) (mq l.ak l.a [] l.type.aq ah ah .aw .aw) [] g):=λn g=>Mv (lj (bQ.jh l.type)) 3 3 ca (by rw[pY rfl rfl rfl];omega) (ak6 rfl ca) [];have R4:=R3.go
    have c4:=λg=>Hp (m:=S.length+1) l.base I.base fr.1 (Ap w (((r.go 1).go (a_ l.a).length).go l.type.bytes.length) (.M aE [] O) (mq l.ak l.a [] l.type.aq ah ah .aw .aw) [] g) R3 193 rfl rfl (by
     refine Cp (k:=l.ak) (a:=l.a) (b:=[]) (t:=l.type) (xs:=ah) (ys:=ah) (pr:=.aw) (ir:=.aw) (bt:=[]) (q:=O) ?_ l.base I.base I.type e2;unfold jc
     grind [xO,Dj])
    simp only[xO w]at c4;have s4:∀n g,ba [] S.length (Ao S j n (.M aE [] O) (mq l.ak l.a [] l.type.aq ah ah .aw .aw) [] g) 6 (.P (S.length+1) 6) (.A l.base.aq)=J ([],Ao S j n (.M aE [] O) (mq l.ak l.a [] l.type.aq l.base.aq ah .aw .aw) [] g):=λn g=>Mv (lj (bu.jh l.base)) 6 6 ca (by rw[pY ca rfl rfl];omega) (ak7 ca rfl ca) [];have hC:cj (.A (mq l.ak l.a [] l.type.aq l.base.aq ah .aw .aw))=.A l.aq:=Dl rfl rfl e1.symm tN xN (by rw[e3.1];rfl) (by rw[e3.2];rfl) (by rw[e4];rfl);have p:=λn z g=>lA n z l.a [] l.type.aq l.base.aq ah .aw .aw [] g ca ca rfl tS xS rfl;have lZ':=λn c g=>lZ n l.a [] l.type.aq l.base.aq ah .aw .aw c [] g ca ca rfl tS xS rfl rfl rfl;have sZ':=λn c g=>Q8 (S:=S) (j:=j) (r:=n) (cs:=aE) (c:=c) (bt:=[]) (u:=g) (C:=mq l.ak l.a [] l.type.aq l.base.aq ah .aw .aw) (Dk tP xP rfl rfl rfl) rfl (pY ca ca rfl) [];have A:=λg=>er (.M aE [] O) (mq l.ak [] [] y9 ah ah .aw .aw) [] g hR1;have v:=λg=>er (.M aE [] O) (mq l.ak l.a [] l.type.aq l.base.aq ah .aw .aw) [] g R4;have rr:=λn s c g=>res n s _ c [] g hC;simp only[sn]at p;rw[jN YG];rw[lb];generalize hc0:mq l.ak [] [] y9 ah ah .aw .aw=C0,hc1:mq l.ak l.a [] y9 ah ah .aw .aw=C1,hc2:mq l.ak l.a [] l.type.aq ah ah .aw .aw=C2,hc3:mq l.ak l.a [] l.type.aq l.base.aq ah .aw .aw=C3 at*;simp at c2 c3 c4 v p;simp[d0,c1,wk,fk,st0,lk,cu,tr,bT,Q6,K7,stu,A,b0,c2,s2,lu0,lu1,lu2,lu3,c3,s3,c4,s4,oQ,v,p,sZ',lZ',rr]
    grind
  ·
    have e1:=f.b0 E;have e2:=f.t0 P;have e3:=f.y0 T;have e4:=f.i0 hi;rw[E,P,T,hi]at cu;simp only[E,P,T,i0 e4,Cw,if_false,Br]at R2 lb;have hC:cj (.A (mq l.ak l.a [] y9 ah ah .aw .aw))=.A l.aq:=Dl rfl rfl e1.symm (by rw[e2.1];rfl) (by rw[e2.2];rfl) (by rw[e3.1];rfl) (by rw[e3.2];rfl) (by rw[e4];rfl);have p:=λn z g=>lA n z l.a [] y9 ah ah .aw .aw [] g rfl rfl rfl rfl rfl rfl;have lZ':=λn c g=>lZ n l.a [] y9 ah ah .aw .aw c [] g rfl rfl rfl rfl rfl rfl rfl rfl;have sZ':=λn c g=>Q8 (S:=S) (j:=j) (r:=n) (cs:=aE) (c:=c) (bt:=[]) (u:=g) (C:=mq l.ak l.a [] y9 ah ah .aw .aw) (Dk rfl rfl rfl rfl rfl) rfl (pY rfl rfl rfl) [];have A:=λg=>er (.M aE [] O) (mq l.ak [] [] y9 ah ah .aw .aw) [] g hR1;have v:=λg=>er (.M aE [] O) (mq l.ak l.a [] y9 ah ah .aw .aw) [] g R2;have rr:=λn s c g=>res n s _ c [] g hC;simp only[sn]at p;rw[jN YG];rw[lb];generalize hc0:mq l.ak [] [] y9 ah ah .aw .aw=C0,hc1:mq l.ak l.a [] y9 ah ah .aw .aw=C1 at*;simp at c2 v p;simp[d0,c1,wk,fk,st0,lk,cu,tr,bT,Q6,K7,stu,A,b0,c2,s2,lu0,lu1,lu2,lu3,oQ,v,p,sZ',lZ',rr]
    grind
  ·
    have e1:=f.b0 E;have e2:=f.t0 P;have e3:=f.y0 T;have e4:=f.i1 hi;obtain⟨x,ex⟩:∃x,l.bW=[x]:=F7.1 e4;have eb:bU.gE l.bW=x.bytes:=by rw[ex];simp[bU.gE]
    rw[E,P,T,hi]at cu;simp only[E,P,T,eb,Cw,if_false,Br]at R2 lb;have c3:=λg=>ih x (hl.all x (by grind)) (f.all x (by grind)) V _ j ((r.go 1).go (a_ l.a).length) u (Ap w ((r.go 1).go (a_ l.a).length) (.M aE [] O) (mq l.ak l.a [] y9 ah ah .aw .aw) [] g) R2;simp only[xO w]at c3;have R3:=R2.go;have bo:fh 20 [aE] [(0,.A x.aq)]=J [x.aq]:=by have:=(bU.jh x).jg;simp[fh,aV,AV.cells,aW]
    have px:br (.sl .X 20 [x.aq])=G:=by simp[br,eS,(bU.jh x).br]
    have s3:∀n g,ba [] S.length (Ao S j n (.M aE [] O) (mq l.ak l.a [] y9 ah ah .aw .aw) [] g) 1 (.P (S.length+1) 19) (.sl .X 20 [x.aq])=J ([],Ao S j n (.M aE [] O) (mq l.ak l.a [] y9 ah ah .aw (.sl .X 20 [x.aq])) [] g):=λn g=>by unfold ba;simp only[Dj];rw[if_pos ⟨rfl,rfl,by rw[pY rfl rfl rfl];omega,.inl V⟩];show J ([],(Ao ..).set _ (.M (aQ _ 19 [_]) [] O))=_;rw[Q7,aus rfl rfl rfl];rfl
    have hC:cj (.A (mq l.ak l.a [] y9 ah ah .aw (.sl .X 20 [x.aq])))=.A l.aq:=Dl rfl rfl e1.symm (by rw[e2.1];rfl) (by rw[e2.2];rfl) (by rw[e3.1];rfl) (by rw[e3.2];rfl) (by rw[ex];rfl);have p:=λn z g=>lA n z l.a [] y9 ah ah .aw (.sl .X 20 [x.aq]) [] g rfl rfl rfl rfl rfl rfl;have lZ':=λn c g=>lZ n l.a [] y9 ah ah .aw (.sl .X 20 [x.aq]) c [] g rfl rfl rfl rfl rfl rfl rfl rfl;have sZ':=λn c g=>Q8 (S:=S) (j:=j) (r:=n) (cs:=aE) (c:=c) (bt:=[]) (u:=g) (C:=mq l.ak l.a [] y9 ah ah .aw (.sl .X 20 [x.aq])) (Dk rfl rfl rfl rfl px) rfl (pY rfl rfl rfl) [];have A:=λg=>er (.M aE [] O) (mq l.ak [] [] y9 ah ah .aw .aw) [] g hR1;have v:=λg=>er (.M aE [] O) (mq l.ak l.a [] y9 ah ah .aw (.sl .X 20 [x.aq])) [] g R3;have rr:=λn s c g=>res n s _ c [] g hC;have st9:aV (.sl .X 20 [x.aq])=.sl .X 20 [x.aq]:=rfl;simp only[st9]at p;simp only[sn]at p;rw[jN YG];rw[lb];generalize hc0:mq l.ak [] [] y9 ah ah .aw .aw=C0,hc1:mq l.ak l.a [] y9 ah ah .aw .aw=C1,hc2:mq l.ak l.a [] y9 ah ah .aw (.sl .X 20 [x.aq])=C2 at*;simp at c2 c3 v p bo;simp[d0,hd1,c1,wk,fk,st0,lk,cu,tr,bT,Q6,K7,stu,A,b0,c2,s2,lu0,lu1,lu2,lu3,c3,s3,bo,oQ,v,p,sZ',lZ',rr]
    grind
  ·
    have e1:=f.b0 E;have e2:=f.t1 P;have e3:=f.y1 T;have e4:=f.i0 hi;have fr:=qW e2;have tk1:=Qs e2;rw[E,P,T,hi]at cu;simp only[E,P,T,i0 e4,if_true,Cw,if_false,Br,s_]at R2 lb;have c3:=λg=>T9 l.type I.type fr.2 (Ap w ((r.go 1).go (a_ l.a).length) (.M aE [] O) (mq l.ak l.a [] y9 ah ah .aw .aw) [] g) R2;simp only[xO w]at c3;have R3:=R2.go;have s3:∀n g,ba [] S.length (Ao S j n (.M aE [] O) (mq l.ak l.a [] y9 ah ah .aw .aw) [] g) 3 (.P (S.length+1) 3) (.A l.type.aq)=J ([],Ao S j n (.M aE [] O) (mq l.ak l.a [] l.type.aq ah ah .aw .aw) [] g):=λn g=>Mv (lj (bQ.jh l.type)) 3 3 ca (by rw[pY rfl rfl rfl];omega) (ak6 rfl ca) [];have R4:=R3.go;have ert:=λg=>er (.M aE [] O) (mq l.ak l.a [] l.type.aq ah ah .aw .aw) [] g R3;have l3:∀n g,aX (Ao S j n (.M aE [] O) (mq l.ak l.a [] l.type.aq ah ah .aw .aw) [] g) (.A 3) (.P (S.length+1) 3)=J (.A l.type.aq):=λn g=>by rw[abU];exact aqJ ca tS
    have csc:=EU l.type;have hsc:(ck (1<=l.type.ak)&&ck (l.type.ak<=4))=G:=by grind
    rw[hsc]at csc;have c4:=λg=>Hp (m:=S.length+1) l.base I.base fr.1 (Ap w (((r.go 1).go (a_ l.a).length).go l.type.bytes.length) (.M aE [] O) (mq l.ak l.a [] l.type.aq ah ah .aw .aw) [] g) R3 193 rfl rfl (by refine Cp (k:=l.ak) (a:=l.a) (b:=[]) (t:=l.type) (xs:=ah) (ys:=ah) (pr:=.aw) (ir:=.aw) (bt:=[]) (q:=O) ?_ l.base I.base I.type e2;unfold jc;refine dL _ ?_;rw[xO w];exact Dj ..)
    simp only[xO w]at c4;have s4:∀n g,ba [] S.length (Ao S j n (.M aE [] O) (mq l.ak l.a [] l.type.aq ah ah .aw .aw) [] g) 6 (.P (S.length+1) 6) (.A l.base.aq)=J ([],Ao S j n (.M aE [] O) (mq l.ak l.a [] l.type.aq l.base.aq ah .aw .aw) [] g):=λn g=>Mv (lj (bu.jh l.base)) 6 6 ca (by rw[pY ca rfl rfl];omega) (ak7 ca rfl ca) [];have jm:j≠S.length+1:=V;have c5:=λg=>ak_ l I e3.1 e3.2.1 e3.2.2.1 e3.2.2.2 (k:=l.ak) (a:=l.a) (b:=[]) (xs:=l.base.aq) (ys:=ah) (ir:=.aw) ca rfl (Ap w ((((r.go 1).go (a_ l.a).length).go l.type.bytes.length).go l.base.bytes.length) (.M aE [] O) (mq l.ak l.a [] l.type.aq l.base.aq ah .aw .aw) [] g) (Dj ..) jm R4;simp only[aoN S j _ _ _ _ _ _ _ _ w]at c5;have R5:r_ (((((r.go 1).go (a_ l.a).length).go l.type.bytes.length).go l.base.bytes.length).go (l.back.bytes.length+((cJ l.bj.length).length+(l.bj.flatMap nO).length))) u:=by
     have:=R4.go.go.go
     grind [Rd.go]
    generalize RZ:bO (S.length+1) 0 12 (Mu l.bj)=row at*;have hrs:aV row=fc 12 (Mu l.bj):=by rw[<-RZ];exact sw ..
    have q1:=p8 (sz:=12) (T_ l.bj);have hC:cj (.A (mq l.ak l.a [] l.type.aq l.base.aq l.back.aq (fc 12 (Mu l.bj)) .aw))=.A l.aq:=Dl rfl rfl e1.symm tN xN yN (afW _) (by rw[e4];rfl);have p:=λn z g=>lA n z l.a [] l.type.aq l.base.aq l.back.aq row .aw (Wr l.bj.length) g ca ca ca tS xS yS;have lZ':=λn c g=>lZ n l.a [] l.type.aq l.base.aq l.back.aq (fc 12 (Mu l.bj)) .aw c (Wr l.bj.length) g ca ca ca tS xS yS q1.1 rfl;have sZ':=λn c g=>Q8 (S:=S) (j:=j) (r:=n) (cs:=aE) (c:=c) (bt:=Wr l.bj.length) (u:=g) (C:=mq l.ak l.a [] l.type.aq l.base.aq l.back.aq (fc 12 (Mu l.bj)) .aw) (Dk tP xP yP q1.2 rfl) rfl (pY ca ca ca) [];have A:=λg=>er (.M aE [] O) (mq l.ak [] [] y9 ah ah .aw .aw) [] g hR1;have v:=λg=>er (.M aE [] O) (mq l.ak l.a [] l.type.aq l.base.aq l.back.aq row .aw) (Wr l.bj.length) g R5;have rr:=λn s c g=>res n s _ c (Wr l.bj.length) g hC;simp only[sn,hrs]at p;rw[jN YG];rw[lb];generalize hc0:mq l.ak [] [] y9 ah ah .aw .aw=C0,hc1:mq l.ak l.a [] y9 ah ah .aw .aw=C1,hc2:mq l.ak l.a [] l.type.aq ah ah .aw .aw=C2,hc3:mq l.ak l.a [] l.type.aq l.base.aq ah .aw .aw=C3,hc4:mq l.ak l.a [] l.type.aq l.base.aq l.back.aq row .aw=C4,hc5:mq l.ak l.a [] l.type.aq l.base.aq l.back.aq (fc 12 (Mu l.bj)) .aw=C5 at*;simp at c2 c3 ert c4 p;simp[-List.length_flatMap]at c5 v;simp[d0,c1,wk,fk,st0,lk,cu,tr,dr,bT,Q6,K7,stu,A,b0,b1,c2,s2,lu0,lu1,lu2,lu3,c3,s3,ert,l3,csc,c4,s4,c5,oQ,v,p,sZ',lZ',rr, -List.length_flatMap]
    grind
def Yk{S:Z}{j:Nat}{r:Rd}{u:X}(v:bU)(i:v.Wf)(h:v.bB 5=G)(d:S[j]? =J (fY j r))(f:r_ r (v.bytes++u)):
 W N C 53 [.P j 0] S=J (.A v.aq,S.set j (fY j (r.go v.bytes.length))):=by
 have e:=aoO 5 v i h V (S++[.M aE [] O]) j r u (dL _ d) f;rw[iw _ ((mo.1 d).1)]at e;have c:(S.set j (fY j (r.go v.bytes.length))).length=S.length:=ca;have m:=Bu c (bU.jh v).br [.M aE [] O] 0 [] S.length 20;have l:aX (S.set j (fY j (r.go v.bytes.length))++[.M v.aq [] O]) (.A 20) (.P S.length 0)=J (.A v.aq):=by rw[lT0 c];simp
 have k:∀b a,(S.set j b++a).take S.length=S.set j b:=λb a=>by simp
 have g:aQ aE 0 v.aq=v.aq:=dX ca;rw[jC aG_];simp_all
theorem GD(s:X):(cE s).flatten=R s:=by
 induction s with
 |nil=>rfl
 |cons a r b=>show _::(cE r).flatten=_;rw[b];rfl
def Vk{s:X}(h:s≠[]):fc 1 (cE s)=.sl .N 1 (cE s):=by grind [fc,tW]
def Ow{S:Z}{j:Nat}{r:Rd}{s u:X}(c:s.length=32)(i:S[j]? =J (fY j r))(k:r_ r (s++u)):
 W N C 50 [.P j 0] S=J (.A (R s),S.set j (fY j (r.go 32))):=by
 have e:=aaY (dL [.M aK [] O,.M aK [] O] i) 32 c V k;rw[iw _ ((mo.1 i).1),c,Vk (by grind)]at e;have d:(S.set j (fY j (r.go 32))).length=S.length:=ca;have p:((cE s).take 32).flatten=R s:=by simp_all[oL,GD]
 have h:uX S.length (S.set j (fY j (r.go 32))++[.M aK [] O,.M aK [] O]) 1 (.cg (S.length+1) 0 32 32 1) (.sl .N 1 (cE s))=J (.I Y 32,S.set j (fY j (r.go 32))++[.M aK [] O,.M (R s) [] O]):=by simp_all[uX,bZ,B8]
 have l:aX (S.set j (fY j (r.go 32))++[.M aK [] O,.M (R s) [] O]) (.A 32) (.P (S.length+1) 0)=J (.A (R s)):=by simp[lT d,c]
 have g:=Bu d (aF s).br [.M aK [] O,.M (R s) [] O] 0 [] S.length 32;have f:aX (S.set j (fY j (r.go 32))++[.M (R s) [] O,.M (R s) [] O]) (.A 32) (.P S.length 0)=J (.A (R s)):=by simp[lT0 d,c]
 have n:∀b a,(S.set j b++a).take S.length=S.set j b:=λb a=>by simp
 have o:aY [] (.sl .N 1 (cE s))=(.sl .N 1 (cE s),[]):=rfl;have m:∀a,dv 50 [] [.A (R s)] S (S.set j (fY j (r.go 32))++a)=J (.A (R s),S.set j (fY j (r.go 32))):=λa=>by simp
 simp only[Tn,To]at g;rw[if_pos ⟨by simp[c],by decide⟩,(dX (by simp[c]):aQ aK 0 (R s)=R s)]at g;rw[jC aFw];simp at e h;simp[e,qq,o,h,l,g,f,m]
def TB:∀(l:List X)(i:Nat),CT l=G->CT (l.take i)=G
 |[],i,_=>by grind
 |[a],i,_=>by cases i<;>simp[CT]
 |a::b::r,0,_=>by rfl
 |a::b::r,1,_=>by rfl
 |a::b::r,i+2,h=>by simp only[CT,mz]at h;have:=TB (b::r) (i+1) h.2;simp at this⊢;simp only[CT,h.1,SR];exact this
def xD(l:List X):kp:=l.map R
def ahT(l:List X):ot l=mO 32 (xD l):=rfl
@[simp]def aDD(l:List X):(xD l).length=l.length:=by simp[xD]
def LO(l:List X):eS (xD l)=G:=kC.2 λx a=>by obtain⟨s,_,rfl⟩:=zK.1 a;exact cU.br (aF s)
def aaZ{S:Z}{j:Nat}{r:Rd}{u:X}(l:List X)(hl:∀p∈l,p.length=32)(h4:l.length<=4)(A:CT l=G)(z:S[j]? =J (fY j r))(hr:r_ r (cJ l.length++(l.flatten++u))):
 W N C 51 [.P j 0] S=J (aa0 32 (xD l),S.set j (fY j (r.go ((cJ l.length).length+l.flatten.length)))):=by
 have I:∀d i(k:Rd)(g:Q)(e:bV),i+d=l.length->r_ k ((l.drop i).flatten++u)->Kg 32 g e (xD (l.take i))->
  ∃c a,Kg 32 c a (xD l)/\DC N C (.L Bw) ⟨[(0,.P j 0),(3,.I U (l.length:Int)),(4,g),(5,.I U (i:Int))],e,S.length⟩ (S.set j (fY j k))=
   J (.E 0,⟨[(4,c)],a,S.length⟩,S.set j (fY j (k.go (l.drop i).flatten.length))):=by
  intro d;induction d with
  |zero=>
   intro i k g e hi f q;rw[(oL V:l.take i=l)]at q;refine⟨g,e,q, ?_⟩;simp[aj,aO nP,(jM V:l.drop i=[]),(V:¬i<l.length),Rd.go]
  |succ d ih=>
   intro i k g e hi f q;have⟨y,E,hy'⟩:=aS (l:=l) (i:=i) V;have hw:dh U ((i:Int)+1)=((i+1:Nat):Int):=by show((i:Int)+1)%2^64=_;omega
   have m:=hl y (gM E);rw[bf E,SU]at f⊢;rw[s_]at f;have v:=Ow m (LP z k) f;rw[U0]at v;have Rn:=f.go;rw[m]at Rn;have tP:l.take (i+1)=l.take i++[y]:=by rw[wx,E];rfl
   have⟨o,t2,a1,a2⟩:=q.app (R y) (by simp;omega) (S.set j (fY j (k.go 32)));have a3:Kg 32 o t2 (xD (l.take (i+1))):=by rw[tP];simpa[xD]using a2
   have ne:xD (l.take (i+1))≠[]:=by rw[tP];simp[xD]
   have w:o=.sl (.fr 0) 32 (xD (l.take (i+1))):=by rcases a3 with⟨h,_⟩|⟨_,h,_⟩;all_goals trivial
   have gn:dT (.sl .N 32 (xD (l.take (i+1))))=ot (l.take (i+1)):=by rw[ahT];cases h:xD (l.take (i+1))<;>rfl
   have c3:=Gs (l.take (i+1)) (λp hp=>hl p (List.mem_of_mem_take hp)) (by grind) (S.set j (fY j (k.go 32)));rw[TB l _ A]at c3;have⟨c,a,n1,P⟩:=ih (i+1) (k.go 32) o t2 V Rn a3;refine⟨c,a,n1, ?_⟩;have bo:fh 32 [aK] [(0,.A (R y))]=J [R y]:=by simp_all[fh]
   rw[aj,aO nP];simp only[AK,m]at P⊢;simp[-List.length_flatten]at P hw v bo;simp[(V:i<l.length),AX (LP z k) f,(rfl:ec .eql (.kv fV) G .dj .dj=J (.B G)),v,bo,a1,(λT=>by rw[w];rfl:∀T,bG T o=J (.sl .N 32 (xD (l.take (i+1))))),gn,(λT=>by rw[w];rfl:∀T,bK T o=T),(λT s=>by rw[w];rfl:∀T s,bh T s o=s),cQ,b_,c3,bT, -List.length_flatten];rw[ab nP];simp[hw,P, -List.length_flatten]
 have⟨c,a,g1,x⟩:=I l.length 0 _ .aw [] V hr.go (Kg.nil 32);have⟨t,f1,f2,f3,f4⟩:=g1.res (LO l);rw[jC aFx];simp only[uC]at x;simp[-List.length_flatten]at x;simp[oP z (n:=l.length) V hr,(eq_false V:((4:Int)<(l.length:Int))=False), -List.length_flatten];rw[ab nP];simp[x,f1,f2,f3,f4,(λb=>oL ca:∀b,(S.set j b).take S.length=S.set j b), -List.length_flatten]
def Bb{S:Z}{l:List de}{k off n c:Nat}{b:X}{bt:bV}{q:Bool}(h:l[k]? =J (.M (R b) bt q))(a:off+n<=b.length):bZ (S++l) (.cg (S.length+k) off n c 1)=J (1,cE ((b.drop off).take n)):=by grind [Au,R,sub,List.map_take,List.map_drop]
def B6(b:X)(u:b.length=64)(s:Bool)(S:Z):W N C 70 [.A (R b),.B s] S=J (.A (R (if s=G then b.drop 32 else b.take 32)),S):=by
 have h:(R b).length=64:=by simp[u]
 have g:cU (R b):=aF _;have v:(AV.A (R b)).cells=R b:=rfl;have r:aK.length=32:=rfl
 have i:∀off c:Nat,off+32<=64->uX S.length (S++[.M (R b) [] O,.M aK [] O,.M aK [] O]) 1 (.cg (S.length+2) 0 32 32 1) (.cg S.length off 32 c 1)=J (.I Y 32,S++[.M (R b) [] O,.M aK [] O,.M (R ((b.drop off).take 32)) [] O]):=λoff c x=>by
  have m:=Bb (S:=S) (l:=[.M (R b) [] O,.M aK [] O,.M aK [] O]) (k:=0) (off:=off) (n:=32) (c:=c) (b:=b) rfl V;have q:((b.drop off).take 32).length=32:=by simp;omega
  unfold uX;rw[PQ]at m;rw[m];simp only[B8];rw[uB,gT (S:=S) rfl];simp only[XW,Tn];have w:((cE ((b.drop off).take 32)).take 32).flatten=R ((b.drop off).take 32):=by grind [xG,GD]
  simp_all
 have o:=λc=>i 0 c V;have p:=λc=>i 32 c V;rw[(ca:(b.drop 0).take 32=b.take 32)]at o;rw[(by grind [oL]:(b.drop 32).take 32=b.drop 32)]at p;rw[jN aHh];cases s with
 |false=>
  rw[if_neg ca];have e:cU (R (b.take 32)):=aF _;have f:(R (b.take 32)).length=32:=by simp;omega
  have j:=bA f e;generalize R (b.take 32)=a at*;generalize R b=E at*;have t:(AV.A a).cells=a:=rfl;generalize aK=d at*;simp-implicitDefEqProofs [h,g,r,qq,o,e,f,j, -AV.cells, -aW]
 |true=>
  rw[if_pos rfl];have e:cU (R (b.drop 32)):=aF _;have f:(R (b.drop 32)).length=32:=by simp;omega
  generalize R (b.drop 32)=a at*;generalize R b=E at*;have t:(AV.A a).cells=a:=rfl;generalize aK=d at*;simp-implicitDefEqProofs [h,g,r,qq,p,e,f,bA f e, -AV.cells, -aW]
def alv(c:UInt8):B .andNot (bq c) (.I L 7)=J (bq (cw (c.toNat/8*8))):=by
 have h:∀n:Nat,n<256->(gU 8 (n:Int)&&& ~~~gU 8 7).toNat=n/8*8:=by decide+kernel
 show J (AV.I L (dh L ((gU 8 (c.toNat:Int)&&& ~~~gU 8 7).toNat:Int)))=_;rw[h c.toNat c.toNat_lt,bq,qE,ahF]
def alw(c:UInt8):B .or (bq (cw (c.toNat %128))) (.I L 64)=J (bq (cw (c.toNat %64+64))):=by
 have h:∀n:Nat,n<256->n %128|||64=n %64+64:=by decide+kernel
 have e:=h c.toNat c.toNat_lt;have:=ahx (cw (c.toNat %128)) 64
 grind [bq,UInt8.toNat_or,qE]
def clp(h:X):X:=(h.set 0 (cw ((h.getD 0 0).toNat/8*8))).set 31 (cw ((h.getD 31 0).toNat %64+64))
def cq(s:X):X:=clp ((bM s).take 32)
def j_(s:X):X:=(bM s).drop 32
def Dq(b:X):(bM b).length=64:=by unfold bM W8.tX;rw[OL];rfl
def xB(s:X):(cq s).length=32:=by simp_all[Dq,cq,clp]
def MD(s:X):(j_ s).length=32:=by have:=Dq s;simp[j_];omega
def IY.more{S:Z}{p:Q × bg}(h:IY S p)(X:List de):IY (S++X) p:=⟨h.1,λa=>by rw[s_];exact h.2 _⟩
def ab2{S:Z}{l:List de}{k n c:Nat}{b:X}{bt:bV}{q:Bool}(h:l[k]? =J (.M (R b) bt q))(d:b.length=n):IY (S++l) (.cg (S.length+k) 0 n c 1,b):=by
 refine⟨rfl,λa=>⟨1, ?_,λ_=>rfl⟩⟩;have e:=(mo.1 h).1;have:=Bb (S:=S) (l:=l++a) (k:=k) (off:=0) (n:=n) (c:=c) (b:=b) (bt:=bt) (q:=q) (by grind) V
 grind
def Lc(s:X)(hs:s.length=32)(S:Z):W N C 35 [.A (R s)] S=J (.cV [.A (R (cq s)),.A (R (j_ s))],S):=by
 have i:=Dq s;have hl1:(R s).length=32:=by simp[hs]
 have hd1:cU (R s):=aF _;have hz:aK.length=32:=rfl;have hz2:bw.length=64:=rfl;have z:=Fi [(.cg S.length 0 32 32 1,s)] (S++[.M (R s) [] O,.M aK [] O,.M aK [] O]) (λp hp=>by rw[Tp.1 hp];have:=ab2 (S:=S) (l:=[.M (R s) [] O,.M aK [] O,.M aK [] O]) (k:=0) (n:=32) (c:=32) (b:=s) rfl hs;omega) ca (by simp[cx];omega);rw[show cx [(AV.cg S.length 0 32 32 1,s)]=s from by simp[cx]]at z;rw[show pQ [(AV.cg S.length 0 32 32 1,s)]=.sl .N 1 [[.cg S.length 0 32 32 1]]from rfl]at z;have hf:=λT=>B6 (bM s) i O T;have ht:=λT=>B6 (bM s) i G T;rw[if_neg ca]at hf;rw[if_pos rfl]at ht;have l32:((bM s).take 32).length=32:=by simp[i]
 have a7:=alv (((bM s).take 32).getD 0 0);have a8:=aie (((bM s).take 32).getD 31 0);have a9:=alw (((bM s).take 32).getD 31 0);have bo:fh 1 (fg 1 [AV.aw]) [(0,.cg S.length 0 32 32 1)]=J [[.cg S.length 0 32 32 1]]:=rfl;have ed:j_ s=(bM s).drop 32:=rfl;have en:cq s=(((bM s).take 32).set 0 (cw ((((bM s).take 32).getD 0 0).toNat/8*8))).set 31 (cw ((((bM s).take 32).getD 31 0).toNat %64+64)):=rfl;rw[ed,en];clear ed en;have u:∀f g h e,aX (S++[f,g,h,e,.M (R ((bM s).take 32)) [] O]) .C (.P (S.length+4) 0)=J (bq (((bM s).take 32).getD 0 0)):=λf g h e=>U7 (cr S _ 4) V;have v:∀f g h e c,ba [] S.length (S++[f,g,h,e,.M (R ((bM s).take 32)) [] O]) 1 (.P (S.length+4) 0) (bq c)=J ([],S++[f,g,h,e,.M (R (((bM s).take 32).set 0 c)) [] O]):=λf g h e c=>by rw[st8 (cr S _ 4) V];simp
 have q:∀f g h e c,aX (S++[f,g,h,e,.M (R (((bM s).take 32).set 0 c)) [] O]) .C (.P (S.length+4) 31)=J (bq (((bM s).take 32).getD 31 0)):=λf g h e c=>by rw[U7 (cr S _ 4) (by simp[i]),Ja,PH V,<-Ja]
 have r:∀f g h e c d,ba [] S.length (S++[f,g,h,e,.M (R (((bM s).take 32).set 0 c)) [] O]) 1 (.P (S.length+4) 31) (bq d)=J ([],S++[f,g,h,e,.M (R ((((bM s).take 32).set 0 c).set 31 d)) [] O]):=λf g h e c d=>by rw[st8 (cr S _ 4) (by simp[i])];simp
 have i0:jS 32 1 (.P (S.length+4) 0) (.I Y 0)=J (.P (S.length+4) 0):=N4 (k:=0) V;have i31:jS 32 1 (.P (S.length+4) 0) (.I Y 31)=J (.P (S.length+4) 31):=N4 (k:=31) V;have P:∀T,bG T (.sl .X 1 [[.cg S.length 0 32 32 1]])=J (.sl .X 1 [[.cg S.length 0 32 32 1]]):=λ_=>rfl;have lkX:∀T,bK T (.sl .X 1 [[.cg S.length 0 32 32 1]])=T:=λ_=>rfl;have ulX:∀T T',bh T T' (.sl .X 1 [[.cg S.length 0 32 32 1]])=T':=λ_ _=>rfl;have noX:dT (.sl .X 1 [[.cg S.length 0 32 32 1]])=.sl .N 1 [[.cg S.length 0 32 32 1]]:=rfl;have hH:(R (bM s)).length=64:=by simp[i]
 have y:cU (R (bM s)):=aF _;have hHp:=bA hH y;have hF:(R ((bM s).take 32)).length=32:=by simp[i]
 have hFd:cU (R ((bM s).take 32)):=aF _;have hG:(R ((bM s).drop 32)).length=32:=by simp[i]
 have m:cU (R ((bM s).drop 32)):=aF _;have hGp:=bA hG m;generalize cw ((((bM s).take 32).getD 0 0).toNat/8*8)=t,cw ((((bM s).take 32).getD 31 0).toNat %64+64)=j,cw ((((bM s).take 32).getD 31 0).toNat %128)=I at*;have hN:(R ((((bM s).take 32).set 0 t).set 31 j)).length=32:=by simp[i]
 have o:cU (R ((((bM s).take 32).set 0 t).set 31 j)):=aF _;have hNp:=bA hN o;have u:=u;have v:=λf g h e=>v f g h e t;have q:=λf g h e=>q f g h e t;have r:=λf g h e=>r f g h e t j;generalize((bM s).take 32).getD 0 0=c0,((bM s).take 32).getD 31 0=A,R ((((bM s).take 32).set 0 t).set 31 j)=x,R (((bM s).take 32).set 0 t)=EM,R ((bM s).take 32)=EF,R ((bM s).drop 32)=w,R (bM s)=EH,R s=E,bq t=cd0,bq j=aIq,bq I=aIr at*;generalize bq c0=cc0,bq A=aIs at*;have c1:(AV.A E).cells=E:=rfl;have c2:(AV.A EH).cells=EH:=rfl;have c3:(AV.A EF).cells=EF:=rfl;have c4:(AV.A w).cells=w:=rfl;have c5:(AV.A x).cells=x:=rfl;have rs:∀a,dv 35 [] [.A x,.A w] S (S++a)=J (.cV [.A x,.A w],S):=λa=>by have n1:cj (.A x)=.A x:=o.agg.cj;have n2:cj (.A w)=.A w:=m.agg.cj;have g1:=o.agg.Gh;have g2:=m.agg.Gh;have p1:=o.br;have p2:=m.br;simp_all[aG]
 try simp at bo
 rw[jC aGY];generalize hZ:aK=h,hY:bw=g at*;try simp at z
 simp-implicitDefEqProofs [hl1,hd1,hz,hz2,qq,bo,P,lkX,ulX,noX,cQ,b_,z,hf,ht,hH,y,hHp,hF,hFd,hG,m,hGp,hN,o,hNp,i0,i31,u,a7,v,q,a8,a9,r,rs, -B, -jS, -AV.cells, -aW]
def iI(d:Nat):Q:=.I Y (d:Int)
def jP(l:List Nat):kp:=l.map λd=>[iI d]
def eI(l:List Nat):K:=l.map iI
@[simp]def aDZ(l:List Nat):(jP l).length=l.length:=PN ..
@[simp]def aka(l:List Nat):(eI l).length=l.length:=PN ..
def akb(l:List Nat)(i:Nat):(eI l)[i]? =l[i]?.map iI:=zo ..
def atN(l:List Nat)(i d:Nat):(eI l).set i (iI d)=eI (l.set i d):=(List.map_set ..).symm
def xr(d:Nat):yc (iI d):=(ve Y _).NP
theorem C9(l:List Nat):eS (jP l)=G:=kC.2 λx a=>by obtain⟨d,_,rfl⟩:=zK.1 a;rfl
def abh(es:kp):mO 1 es=.sl .N 1 es:=by cases es<;>rfl
def gat(l:List Nat)(i:Int):Nat:=if i<0 then 0 else l.getD i.toNat 0
def C7(r:f_)(l:List Nat)(i:Int)(S:Z):W N C 256 [.sl r 1 (jP l),.I Y i] S=J (iI (gat l i),S):=by
 have j:fG (.sl r 1 (jP l))=J (.I Y (l.length:Int)):=by simp[fG]
 have g:∀a b,B .geq (.I Y a) (.I Y b)=J (.B (ck (a≥b))):=λ_ _=>rfl;unfold gat;rw[jN aAQ];by_cases h:i<0
 ·rw[if_pos h]
  generalize jP l=c at*;simp[-B,ds,h];rfl
 ·rw[if_neg h]
  by_cases d:(l.length:Int)<=i
  ·have e:l.getD i.toNat 0=0:=by simp_all
   rw[e];have f:=d;generalize jP l=c at*;simp[-B,ds,g,h,j,d];rfl
  ·have f:=d
   have m:nK 1 (.sl r 1 (jP l)) (.I Y i)=J (.eZ (tz r) [iI (l.getD i.toNat 0)] 0):=by grind [jP,nK]
   have k:=xr (l.getD i.toNat 0);generalize iI (l.getD i.toNat 0)=v,jP l=c at*;simp[-B,ds,g,h,j,d,m,(λ_=>rfl:∀T,aX T .C (.eZ (tz r) [iI (l.getD i.toNat 0)] 0)=J (iI (l.getD i.toNat 0))),k]
def qD:List Nat:=[237,211,245,92,26,99,18,88,214,156,247,162,222,249,222,20,0,0,0,0,0,0,0,0,0,0,0,0,0,0,0,16]
def aHE:vB 256 qD=qN:=fE
def akc:Dg 256 qD:=by unfold Dg;decide
def aHF:qD.length=32:=rfl
def OD(S:Z):W N C 258 [] S=J (.sl .X 1 (jP qD),S):=by
 have b:fh 1 (fg 32 [.I Y 0]) [(0,.I Y 237),(1,.I Y 211),(2,.I Y 245),(3,.I Y 92),(4,.I Y 26),(5,.I Y 99),(6,.I Y 18),(7,.I Y 88),(8,.I Y 214),(9,.I Y 156),(10,.I Y 247),(11,.I Y 162),(12,.I Y 222),(13,.I Y 249),(14,.I Y 222),(15,.I Y 20),(16,.I Y 0),(17,.I Y 0),(18,.I Y 0),(19,.I Y 0),(20,.I Y 0),(21,.I Y 0),(22,.I Y 0),(23,.I Y 0),(24,.I Y 0),(25,.I Y 0),(26,.I Y 0),(27,.I Y 0),(28,.I Y 0),(29,.I Y 0),(30,.I Y 0),(31,.I Y 16)]=J (jP qD):=by rfl
 have c:=C9 qD;generalize jP qD=a at*;rw[XC aAS];simp_all[bm,aG,br]
def VI(b:X):List Nat:=b.map UInt8.toNat
def VJ(b:X):Dg 256 (VI b):=λd a=>by obtain⟨c,_,rfl⟩:=zK.1 a;exact c.toNat_lt
def YB:∀b:X,vB 256 (VI b)=dp b
 |[]=>rfl
 |c::r=>by show c.toNat+256*vB 256 (VI r)=_;rw[YB r,dp]
@[simp]theorem anX(b:X):(VI b).length=b.length:=PN ..
def aHG(c:UInt8):oI Y (bq c)=J (iI c.toNat):=by have h:=c.toNat_lt;show J (AV.I Y (dh Y (c.toNat:Int)))=_;rw[cF V];rfl
def aCf(h:f_)(b:X)(z:b.length<1000)(S:Z):∀n i(f:Q)(ag:bV),i+n=b.length->d_ 1 f ag (jP (VI (b.take i)))->
 ∃d aT,d_ 1 d aT (jP (VI b))/\DC N C (.L uJ) ⟨[(0,.sl h 1 (cE b)),(3,f),(4,.I Y (i:Int))],ag,S.length⟩ S=
  J (.E 0,⟨[(3,d)],aT,S.length⟩,S):=by
 have l:fG (.sl h 1 (cE b))=J (.I Y (b.length:Int)):=by simp[fG]
 intro n;induction n with
 |zero=>
  intro i f ag s g;have e:i=b.length:=V;subst e;rw[Ex]at g;refine⟨f,ag,g, ?_⟩;rw[aj,aO jA];generalize cE b=a at*;simp[-B,ds,l]
 |succ n t=>
  intro i f ag s g;have j:i<b.length:=V;have u:=ixB h b i j;have q:=aHG (b.getD i 0);have p:fh 1 [[AV.I Y 0]] [(0,iI (b.getD i 0).toNat)]=J [[iI (b.getD i 0).toNat]]:=rfl;have r:jP (VI (b.take i))++[[iI (b.getD i 0).toNat]]=jP (VI (b.take (i+1))):=by grind [jP,VI,List.take_add_one]
  have⟨x,y,o,k⟩:=d_.app g (xs:=[[iI (b.getD i 0).toNat]]) ca (by simp;omega) .X S;rw[r]at k;have⟨d,aT,w,m⟩:=t (i+1) x y V k;refine⟨d,aT,w, ?_⟩;generalize iI (b.getD i 0).toNat=v,b.getD i 0=c,cE b=a at*;rw[aj,aO jA];simp[-B, -oI,ds,ej,(V:(i:Int)<(b.length:Int)),l,u,(λ_ _=>rfl:∀T c,aX T .C (.eZ (tz h) [bq c] 0)=J (bq c)),q,p,o];rw[ab jA];try simp at m
  simp[-B,(aR V:dh Y ((i:Int)+1)=((i+1:Nat):Int)),m]
def Af(d:f_)(b:X)(e:b.length<1000)(S:Z):∃r,NW 1 r (jP (VI b))/\W N C 210 [.sl d 1 (cE b)] S=J (r,S):=by have⟨o,t,c,h⟩:=aCf d b e S b.length 0 .aw [] V (.inl ⟨rfl,rfl⟩);have⟨q,k,i,f,j⟩:=c.res (C9 _);refine⟨q,f, ?_⟩;have g:=c.nt;rw[jC aAh];generalize cE b=a at*;simp[-B];rw[ab jA];simp_all
def wu(r:f_):Prop:=r=.N\/∃i,r=.iq i
def wu.ga{r:f_}(h:wu r)(T:Z)(es:kp):bG T (.sl r 1 es)=J (.sl r 1 es):=by rcases h with rfl|⟨i,rfl⟩<;>rfl
def wu.lk{r:f_}(h:wu r)(T:Z)(es:kp):bK T (.sl r 1 es)=T:=by rfl
def wu.ul{r:f_}(h:wu r)(T a:Z)(es:kp):bh T a (.sl r 1 es)=a:=by rfl
def wu.no{r:f_}(h:wu r)(es:kp):dT (.sl r 1 es)=.sl r 1 es:=by
 rcases h with rfl|⟨i,rfl⟩;·cases es<;>rfl
 ·rfl
def atO(a b:Nat):B .neq (iI a) (iI b)=J (.B (ck (a≠b))):=by show J (AV.B ((a:Int) !=(b:Int)))=_;simp
def atP(a b:Nat):B .lss (iI a) (iI b)=J (.B (ck (a<b))):=by show J (AV.B (ck ((a:Int)<(b:Int))))=_;simp
def abH{b:List Nat}(c:Dg 256 b)(i a:Nat):gat b ((i:Int) -(a:Int))=vB 256 b*256^a/256^i %256:=by
 unfold gat;by_cases h:(i:Int) -(a:Int)<0
 ·rw[if_pos h]
  have e:a=i+(1+(a -i -1)):=V;rw[e,p7,<-yb,aaB,Nat.mul_div_cancel _ (CM V),p7,Nat.pow_one,<-yb,aaB,Nat.mul_mod_left]
 ·rw[if_neg h]
  have e:i=a+(i -a):=V
  grind [BI,th,Nat.mul_div_cancel]
def Kx{a:List Nat}(b:Dg 256 a)(i:Nat):gat a (i:Int)=vB 256 a/256^i %256:=by have:=abH b i 0;simp_all
def abI(r s:f_)(g:wu r)(i:wu s)(a b:List Nat)(ha:Dg 256 a)(hb:Dg 256 b)(f:Nat)(hup:f<1000)(S:Z):∀n:Nat,n<10000->vB 256 a/256^n=vB 256 b*256^f/256^n->
 ∃q,DC N C (.L rQ) ⟨[(0,.sl r 1 (jP a)),(1,.sl s 1 (jP b)),(2,.I Y (f:Int)),(8,.I Y ((n:Int) -1))],[],S.length⟩ S=
  if vB 256 a=vB 256 b*256^f then J (.E 0,⟨[],[],S.length⟩,S)else J (.R,⟨[(6,.B (ck (vB 256 a<vB 256 b*256^f)))],[],q⟩,S):=by
 have gI:∀a b,B .geq (.I Y a) (.I Y b)=J (.B (ck (a≥b))):=λ_ _=>rfl;have d:=C7;intro n;induction n with
 |zero=>
  simp_all[aj,eW]
 |succ n ih=>
  intro hn he;rw[(V:((n+1:Nat):Int) -1=(n:Int))];have k:(n:Int)≥0:=V;have sb:B .sub (.I Y (n:Int)) (.I Y (f:Int))=J (.I Y ((n:Int) -(f:Int))):=by show J (AV.I Y (dh Y ((n:Int) -(f:Int))))=_;rw[cF V]
  have m:=λS=>d r a (n:Int) S;have o:=λS=>d s b ((n:Int) -(f:Int)) S;rw[Kx ha]at m;rw[abH hb]at o;have l:=atO (vB 256 a/256^n %256) (vB 256 b*256^f/256^n %256);have q2:=atP (vB 256 a/256^n %256) (vB 256 b*256^f/256^n %256);have T:=xr (vB 256 a/256^n %256);have d2:=xr (vB 256 b*256^f/256^n %256);have t:=g.ga;have u:=g.lk;have v:=g.ul;have w:=g.no;have z:=i.ga;have E:=i.lk;have I:=i.ul;have P:=i.no;by_cases j:vB 256 a/256^n %256=vB 256 b*256^f/256^n %256
  ·have⟨q,hi⟩:=ih V (atC he j)
   refine⟨q, ?_⟩;rw[decide_eq_false (λh=>h j)]at l;generalize(if vB 256 a=vB 256 b*256^f then J (Out.E 0,(⟨[],[],S.length⟩:cf),S)else J (.R,⟨[(6,.B (ck (vB 256 a<vB 256 b*256^f)))],[],q⟩,S))=e,iI (vB 256 a/256^n %256)=x,iI (vB 256 b*256^f/256^n %256)=y,jP a=A,jP b=c at*;rw[aj,aO eW];simp-implicitDefEqProofs [-B,gI,k,t,u,v,w,z,E,I,P,cQ,b_,m,o,sb,T,d2,l,pG];rw[ab eW];simp-implicitDefEqProofs [-B,(cF V:dh Y ((n:Int) -1)=(n:Int) -1),hi]
  ·have p:=atD he j
   refine⟨S.length, ?_⟩;rw[if_neg (λh=>j (by rw[h]))];rw[decide_eq_true (show vB 256 a/256^n %256≠vB 256 b*256^f/256^n %256 from j)]at l;rw[p]at q2;generalize ck (vB 256 a<vB 256 b*256^f)=qb,iI (vB 256 a/256^n %256)=x,iI (vB 256 b*256^f/256^n %256)=y,jP a=A,jP b=c at*;rw[aj,aO eW];simp-implicitDefEqProofs [-B,gI,k,t,u,v,w,z,E,I,P,cQ,b_,m,o,sb,T,d2,l,q2]
def QJ(k l:f_)(u:wu k)(v:wu l)(a b:List Nat)(y:Dg 256 a)(z:Dg 256 b)(la:a.length<1000)(lb:b.length<1000)(e:Nat)(w:e<1000)(S:Z):
 W N C 257 [.sl k 1 (jP a),.sl l 1 (jP b),.I Y (e:Int)] S=J (.B (ck (vB 256 a<vB 256 b*256^e)),S):=by
 have vb:=CZ z;have f:fG (.sl k 1 (jP a))=J (.I Y (a.length:Int)):=by simp[fG]
 have g:fG (.sl l 1 (jP b))=J (.I Y (b.length:Int)):=by simp[fG]
 have o:B .add (.I Y (b.length:Int)) (.I Y (e:Int))=J (.I Y ((b.length+e:Nat):Int)):=by show J (AV.I Y (dh Y ((b.length:Int)+(e:Int))))=_;rw[cF V];rfl
 have i:B .gtr (.I Y ((b.length+e:Nat):Int)) (.I Y (a.length:Int))=J (.B (ck (b.length+e>a.length))):=by
  show J (AV.B (ck (((b.length+e:Nat):Int)>(a.length:Int))))=_;congr 2
  grind
 have x:vB 256 b*256^e<256^(b.length+e):=by simp_all[p7,CM]
 have p:∀n,a.length<=n->b.length+e<=n->vB 256 a/256^n=vB 256 b*256^e/256^n:=λn r s=>by rw[IF (zj (CZ y) (ya V r)),IF (zj x (ya V s))]
 rw[LB aAR];have h:∀n:Nat,n<10000->a.length<=n->b.length+e<=n->∃q,DC N C (.L rQ) ⟨[(0,.sl k 1 (jP a)),(1,.sl l 1 (jP b)),(2,.I Y (e:Int)),(8,.I Y ((n:Int) -1))],[],S.length⟩ S=
  if vB 256 a=vB 256 b*256^e then J (.E 0,⟨[],[],S.length⟩,S)else J (.R,⟨[(6,.B (ck (vB 256 a<vB 256 b*256^e)))],[],q⟩,S):=λn I r s=>
  abI k l u v a b y z e w S n I (p n r s)
 by_cases E:b.length+e>a.length
 ·have⟨q,t⟩:=h (b.length+e) V V V
  rw[decide_eq_true E]at i;have m:dh Y (((b.length+e:Nat):Int) -1)=((b.length+e:Nat):Int) -1:=cF V;by_cases j:vB 256 a=vB 256 b*256^e
  ·rw[if_pos j]at t
   have P:ck (vB 256 a<vB 256 b*256^e)=O:=decide_eq_false V;rw[P];generalize((b.length+e:Nat):Int)=d,jP a=A,jP b=c at*;simp-implicitDefEqProofs [-B,f,g,o,i,pG,m];rw[ab eW];simp-implicitDefEqProofs [-B,t]
  ·rw[if_neg j]at t
   generalize ck (vB 256 a<vB 256 b*256^e)=T,((b.length+e:Nat):Int)=d,jP a=A,jP b=c at*;simp-implicitDefEqProofs [-B,f,g,o,i,pG,m];rw[ab eW];simp-implicitDefEqProofs [-B,t]
 ·have⟨q,t⟩:=h a.length V V V
  rw[decide_eq_false E]at i;have m:dh Y ((a.length:Int) -1)=(a.length:Int) -1:=cF V;by_cases j:vB 256 a=vB 256 b*256^e
  ·rw[if_pos j]at t
   rw[(decide_eq_false V:ck (vB 256 a<vB 256 b*256^e)=O)];generalize((b.length+e:Nat):Int)=d,jP a=A,jP b=c at*;simp-implicitDefEqProofs [-B,f,g,o,i,pG,m];rw[ab eW];simp-implicitDefEqProofs [-B,t]
  ·rw[if_neg j]at t
   generalize ck (vB 256 a<vB 256 b*256^e)=T,((b.length+e:Nat):Int)=d,jP a=A,jP b=c at*;simp-implicitDefEqProofs [-B,f,g,o,i,pG,m];rw[ab eW];simp-implicitDefEqProofs [-B,t]
def adA:dT (.sl .X 1 (jP qD))=.sl .N 1 (jP qD):=rfl
def ixO{i k n:Nat}(h:k<n):nK 1 (.ka i 0 n 1) (.I Y (k:Int))=J (.P i k):=by grind [nK]
def ldI{S:Z}{i k d:Nat}{l:List Nat}{bt:bV}{q:Bool}(a:S[i]? =J (.M (eI l) bt q))(h:l[k]? =J d):aX S .C (.P i k)=J (iI d):=by rw[bL a,k_,akb,h];rfl
def stI{S:Z}{i k:Nat}{l:List Nat}(a:S[i]? =J (.M (eI l) [] O))(h:k<l.length)(d:Nat)(ag:bV)(nb:Nat):ba ag nb S 1 (.P i k) (iI d)=J (ag,S.set i (.M (eI (l.set k d)) [] O)):=by rw[eH (xr d) a,if_pos ⟨rfl,by rw[aka];omega⟩,show(iI d).cells=[iI d]from rfl,Ee _ _ _ (by rwa [aka]),atN]
def atQ(a b:Nat)(c:a<1000)(d:b<1000):B .sub (iI a) (iI b)=J (.I Y ((a:Int) -(b:Int))):=by show J (AV.I Y (dh Y ((a:Int) -(b:Int))))=_;rw[cF V]
def YM(a b u:Nat):Nat:=if a<b+u then a+256 -b -u else a -b -u
def dfU(a b u:Nat):Nat:=if a<b+u then 1 else 0
def anY{a b u:Nat}(c:a<256)(d:b<256)(e:u<=1):YM a b u+b+u=a+256*dfU a b u/\YM a b u<256/\dfU a b u<=1:=by
 unfold YM dfU
 grind
def afC(n j:Nat)(hn:n<1000)(hup:j<1000)(X f:Nat)(hY:f=vB 256 qD*256^j)(S:Z):∀k i(l:List Nat)(u:Nat),i+k=n->Dg 256 l->l.length=n->u<=1->vB 256 l+f %256^i=X+u*256^i->
 ∃l' u',Dg 256 l'/\l'.length=n/\u'<=1/\vB 256 l'+f %256^n=X+u'*256^n/\
  DC N C (.L wQ) ⟨[(3,.ka S.length 0 n 1),(4,.I Y (j:Int)),(5,.I Y (u:Int)),(6,.I Y (i:Int))],[],S.length⟩ (S++[.M (eI l) [] O])=
   J (.E 4,⟨[(3,.ka S.length 0 n 1),(4,.I Y (j:Int))],[],S.length⟩,S++[.M (eI l') [] O]):=by
 have s:fG (.ka S.length 0 n 1)=J (.I Y (n:Int)):=rfl;intro k;induction k with
 |zero=>
  intro i l u hi hl p hu hv;have e:i=n:=V;subst e;refine⟨l,u,hl,p,hu,hv, ?_⟩;rw[aj,aO eV];generalize eI l=E;simp[-au,ds,s]
 |succ k ih=>
  intro i l u hi hl p hu hv;have FJ:(i:Int)<(n:Int):=V;have hin:i<n:=V;have hw:dh Y ((i:Int)+1)=((i+1:Nat):Int):=aR V;have ix:=ixO (i:=S.length) hin;have gk:l[i]? =J (l.getD i 0):=by simp_all
  have ld:aX (S++[.M (eI l) [] O]) .C (.P S.length i)=J (iI (l.getD i 0)):=ldI (jF S _) gk;have al:=D0 hl V i;have st:=λd=>stI (k:=i) (jF S [.M (eI l) [] O]) V d [] S.length;have v:∀d,(S++[de.M (eI l) [] O]).set S.length (.M (eI (l.set i d)) [] O)=S++[.M (eI (l.set i d)) [] O]:=λd=>by simp
  simp only[v]at st;have sb:au .sub (.I Y (i:Int)) (.I Y (j:Int))=J (.I Y ((i:Int) -(j:Int))):=by show J (AV.I Y (dh Y ((i:Int) -(j:Int))))=_;rw[cF V]
  have A:=OD;have fa:=λS=>C7 .N qD ((i:Int) -(j:Int)) S;rw[abH akc,<-hY]at fa;have bl:f/256^i %256<256:=gH _ V;have⟨e1,e2,e3⟩:=anY al bl hu;have hs:=L7 (B:=256) l i (YM (l.getD i 0) (f/256^i %256) u) V;have hp:256^(i+1)=256^i*256:=uo ..;have hm:f %256^(i+1)=f %256^i+256^i*(f/256^i %256):=by rw[hp,F9]
  have q:vB 256 (l.set i (YM (l.getD i 0) (f/256^i %256) u))+f %256^(i+1)=X+dfU (l.getD i 0) (f/256^i %256) u*256^(i+1):=by grind
  have⟨l',u',r1,r2,r3,r4,I⟩:=ih (i+1) (l.set i (YM (l.getD i 0) (f/256^i %256) u)) (dfU (l.getD i 0) (f/256^i %256) u) V (Qv hl e2) (by simp[p]) e3 q;refine⟨l',u',r1,r2,r3,r4, ?_⟩;have g:=atQ (l.getD i 0) (f/256^i %256) V V;have h:au .sub (.I Y (((l.getD i 0:Nat):Int) -((f/256^i %256:Nat):Int))) (.I Y (u:Int))=J (.I Y (((l.getD i 0:Nat):Int) -((f/256^i %256:Nat):Int) -(u:Int))):=by show J (AV.I Y (dh Y (((l.getD i 0:Nat):Int) -((f/256^i %256:Nat):Int) -(u:Int))))=_;rw[cF V]
  have dA:=xr (l.getD i 0);have dB:=xr (f/256^i %256);have nq:=adA;by_cases hd:l.getD i 0<f/256^i %256+u
  ·have o:((l.getD i 0:Nat):Int) -((f/256^i %256:Nat):Int) -(u:Int)<0:=V
   have hD:YM (l.getD i 0) (f/256^i %256) u=l.getD i 0+256 -f/256^i %256 -u:=if_pos hd;have hU:dfU (l.getD i 0) (f/256^i %256) u=1:=if_pos hd;have ad:au .add (.I Y (((l.getD i 0:Nat):Int) -((f/256^i %256:Nat):Int) -(u:Int))) (.I Y 256)=J (iI (YM (l.getD i 0) (f/256^i %256) u)):=by
    show J (AV.I Y (dh Y (((l.getD i 0:Nat):Int) -((f/256^i %256:Nat):Int) -(u:Int)+256)))=_
    grind [cF,iI]
   rw[hU]at I;have sd:=st (YM (l.getD i 0) (f/256^i %256) u);have dD:=xr (YM (l.getD i 0) (f/256^i %256) u);clear st v q hs hm e1 e2 e3 hD hU A;have A:=OD;generalize iI (YM (l.getD i 0) (f/256^i %256) u)=z,eI (l.set i (YM (l.getD i 0) (f/256^i %256) u))=E1,((l.getD i 0:Nat):Int) -((f/256^i %256:Nat):Int) -(u:Int)=w,((l.getD i 0:Nat):Int) -((f/256^i %256:Nat):Int)=w0,iI (l.getD i 0)=a,iI (f/256^i %256)=b,eI l=E0,eI l'=E2,jP qD=c,(u:Int)=ui at*;have x:∀t,aY t (.sl .X 1 c)=(.sl .X 1 c,t):=λ_=>rfl;have m:∀T,bG T (.sl .X 1 c)=J (.sl .X 1 c):=λ_=>rfl;have r:∀T,bK T (.sl .X 1 c)=T:=λ_=>rfl;have y:∀T P,bh T P (.sl .X 1 c)=P:=λ_ _=>rfl;rw[aj,aO eV];simp-implicitDefEqProofs [-au,ds,FJ,s,ix,ld,A,x,m,r,y,cQ,b_,nq,fa,sb,g,h,dB,o,ad,sd,ej];rw[ab eV];try simp at I
   simp-implicitDefEqProofs [-au,hw,I]
  ·have o:¬((l.getD i 0:Nat):Int) -((f/256^i %256:Nat):Int) -(u:Int)<0:=V
   have hD:YM (l.getD i 0) (f/256^i %256) u=l.getD i 0 -f/256^i %256 -u:=if_neg hd;have hU:dfU (l.getD i 0) (f/256^i %256) u=0:=if_neg hd;have ew:AV.I Y (((l.getD i 0:Nat):Int) -((f/256^i %256:Nat):Int) -(u:Int))=iI (YM (l.getD i 0) (f/256^i %256) u):=by
    rw[hD];unfold iI
    grind
   rw[hU]at I;have sd:=st (YM (l.getD i 0) (f/256^i %256) u);rw[<-ew]at sd;have dD:=xr (YM (l.getD i 0) (f/256^i %256) u);rw[<-ew]at dD;clear st v q hs hm e1 e2 e3 hD hU ew A;have A:=OD;generalize eI (l.set i (YM (l.getD i 0) (f/256^i %256) u))=E1,((l.getD i 0:Nat):Int) -((f/256^i %256:Nat):Int) -(u:Int)=w,((l.getD i 0:Nat):Int) -((f/256^i %256:Nat):Int)=w0,iI (l.getD i 0)=a,iI (f/256^i %256)=b,eI l=E0,eI l'=E2,jP qD=c,(u:Int)=ui at*;have x:∀t,aY t (.sl .X 1 c)=(.sl .X 1 c,t):=λ_=>rfl;have m:∀T,bG T (.sl .X 1 c)=J (.sl .X 1 c):=λ_=>rfl;have r:∀T,bK T (.sl .X 1 c)=T:=λ_=>rfl;have y:∀T P,bh T P (.sl .X 1 c)=P:=λ_ _=>rfl;rw[aj,aO eV];simp-implicitDefEqProofs [-au,ds,FJ,s,ix,ld,A,x,m,r,y,cQ,b_,nq,fa,sb,g,h,dB,o,sd,ej];rw[ab eV];try simp at I
   simp-implicitDefEqProofs [-au,hw,I]
def YA{l:List Nat}(i:Nat)(h:i<l.length):sub (eI l) i 1=[iI (l.getD i 0)]:=by
 unfold sub;apply Bf;intro j;rw[XH,aag,akb,Ja]
 grind
def adB{T:Z}{i k:Nat}{l:List Nat}{bt:bV}{q:Bool}(h:T[i]? =J (.M (eI l) bt q))(b:l.length=k):bZ T (.ka i 0 k 1)=J (1,jP l):=by
 simp only[bZ,h];rw[if_pos ⟨by simp[b],by omega⟩];congr 2;apply Bf;intro j;unfold jP;rw[zo,zo];by_cases a:j<k
 ·rw[aax a,Eu V]
  simp only[W6];rw[JO,Bt,YA j V,Ja,Eu V];rfl
 simp_all
def aiB(T:Z)(nb d:Nat):∀l:List Nat,(jP l).mapM (λx:K=>x.mapM (DH T nb (d+1)))=J (jP l)
 |[]=>rfl
 |a::r=>by have h:=aiB T nb d r;have e:DH T nb (d+1) (iI a)=J (iI a):=rfl;unfold jP at*;simp[MR,F5,h,e]
def atT{T:Z}{nb i k:Nat}{l:List Nat}{bt:bV}{q:Bool}(h:T[i]? =J (.M (eI l) bt q))(a:l.length=k)(e:nb<=i):Lo T nb (.ka i 0 k 1)=J (.sl .N 1 (jP l)):=by
 have c:=adB h a;have d:=aiB T nb 10 l;have b:Lo T nb (.ka i 0 k 1)=DH T nb (11+1) (.ka i 0 k 1):=rfl
 grind [DH,br]
def aHH(S:Z)(l:List Nat)(n:Nat)(h:l.length=n):bG (S++[.M (eI l) [] O]) (.ka S.length 0 n 1)=J (.sl (.iq S.length) 1 (jP l)):=by
 have:=adB (T:=S++[.M (eI l) [] O]) (jF S _) h;show Option.map _ (bZ _ _)=_
 grind
def aHI(S:Z)(E:K)(n:Nat):bK (S++[.M E [] O]) (.ka S.length 0 n 1)=S++[.M E [] G]:=by simp[bK,oj]
def aHJ(S:Z)(E:K)(n:Nat):bh (S++[.M E [] O]) (S++[.M E [] G]) (.ka S.length 0 n 1)=S++[.M E [] O]:=by simp[bh,oj]
def afD(n f:Nat)(hn:n<1000)(j:f<1000)(c:Nat)(v:c=vB 256 qD*256^f)(S:Z):∀(B:Nat)(l:List Nat),vB 256 l<B->Dg 256 l->l.length=n->
 ∃l',Dg 256 l'/\l'.length=n/\vB 256 l'=vB 256 l %c/\
  DC N C (.L wR) ⟨[(3,.ka S.length 0 n 1),(4,.I Y (f:Int))],[],S.length⟩ (S++[.M (eI l) [] O])=
   J (.E 2,⟨[(3,.ka S.length 0 n 1),(4,.I Y (f:Int))],[],S.length⟩,S++[.M (eI l') [] O]):=by
 have hq:0<vB 256 qD:=by trivial
 have hY0:0<c:=by simp_all[CM]
 intro B;induction B with
 |zero=>omega
 |succ B ih=>
  intro l hB q e;have s:=OD;have fl:=λS=>QJ (.iq S.length) .N (.inr ⟨_,rfl⟩) (.inl rfl) l qD q akc V fE f j S;have d:∀i T,W N C 257 [.sl (.iq i) 1 (jP l),.sl .N 1 (jP qD),.I Y (f:Int)] T=J (.B (ck (vB 256 l<vB 256 qD*256^f)),T):=λi T=>QJ (.iq i) .N (.inr ⟨_,rfl⟩) (.inl rfl) l qD q akc V fE f j T;rw[<-v]at d;clear fl;have u:=aHH S l n e;have x:=aHI S (eI l) n;have P:=aHJ S (eI l) n;have y:=adA;by_cases h:vB 256 l<c
  ·refine⟨l,q,e,(fQ h).symm, ?_⟩
   rw[decide_eq_true h]at d;generalize jP l=a,eI l=E0,jP qD=b at*;have m:∀t,aY t (.sl .X 1 b)=(.sl .X 1 b,t):=λ_=>rfl;have g:∀T,bG T (.sl .X 1 b)=J (.sl .X 1 b):=λ_=>rfl;have k:∀T,bK T (.sl .X 1 b)=T:=λ_=>rfl;have o:∀T p,bh T p (.sl .X 1 b)=p:=λ_ _=>rfl;rw[aj,aO kU];simp-implicitDefEqProofs [-au,s,m,g,k,o,u,x,P,cQ,b_,rF,y,d,bT]
  ·have r:c<=vB 256 l:=V
   have⟨w,u1,z,A,r3,E,I⟩:=afC n f hn j (vB 256 l) c v S n 0 l 0 V q e V V;have v0:=CZ q;have v1:=CZ z;rw[e]at v0;rw[A]at v1;rw[fQ (show c<256^n by omega)]at E;have hu:u1=0:=by grind
   rw[hu,Pc,PQ]at E;have⟨l',t1,t2,t3,t4⟩:=ih w V z A;refine⟨l',t1,t2, ?_, ?_⟩
   ·rw[t3,aaC r]
    congr 1;omega
   rw[decide_eq_false h]at d;generalize jP l=a,eI l=E0,eI w=E1,eI l'=E2,jP qD=b at*;have m:∀t,aY t (.sl .X 1 b)=(.sl .X 1 b,t):=λ_=>rfl;have g:∀T,bG T (.sl .X 1 b)=J (.sl .X 1 b):=λ_=>rfl;have k:∀T,bK T (.sl .X 1 b)=T:=λ_=>rfl;have o:∀T p,bh T p (.sl .X 1 b)=p:=λ_ _=>rfl;rw[aj,aO kU];simp-implicitDefEqProofs [-au,s,m,g,k,o,u,x,P,cQ,b_,rF,y,d,bT];rw[ab eV];try simp at I
   simp-implicitDefEqProofs [-au,I];omega
def afE(n:Nat)(x:n<999)(X:Nat)(S:Z):∀(k:Nat)(l:List Nat),k<=n+1->Dg 256 l->l.length=n->vB 256 l=X %(vB 256 qD*256^k)->
 ∃l',Dg 256 l'/\l'.length=n/\vB 256 l'=X %vB 256 qD/\
  DC N C (.L wS) ⟨[(3,.ka S.length 0 n 1),(4,.I Y ((k:Int) -1))],[],S.length⟩ (S++[.M (eI l) [] O])=
   J (.E 0,⟨[(3,.ka S.length 0 n 1)],[],S.length⟩,S++[.M (eI l') [] O]):=by
 have h:∀a b,B .geq (.I Y a) (.I Y b)=J (.B (ck (a≥b))):=λ_ _=>rfl;intro k;induction k with
 |zero=>
  intro l i e c d;rw[LF,Bt]at d;refine⟨l,e,c,d, ?_⟩;simp_all[aj,kV]
 |succ k j=>
  intro l i e c d;rw[(V:((k+1:Nat):Int) -1=(k:Int))];have y:dh Y ((k:Int) -1)=(k:Int) -1:=cF V;have⟨f,q,r,s,t⟩:=afD n k V V _ rfl S (vB 256 l+1) l V e c;have g:vB 256 f=X %(vB 256 qD*256^k):=by rw[s,d];exact aaA _ ⟨256,by grind⟩
  have⟨l',m,o,p,z⟩:=j f V q r g;refine⟨l',m,o,p, ?_⟩;generalize eI l=u,eI f=v,eI l'=w at*;rw[aj,aO kV];simp-implicitDefEqProofs [-B,h,(V:(k:Int)≥0)];rw[ab kU];simp-implicitDefEqProofs [-B,t,pG];rw[ab kV];simp_all
def akd(l:List Nat):(jP l).flatten=eI l:=by
 induction l with
 |nil=>rfl
 |cons a r b=>show _::(jP r).flatten=_;rw[b];rfl
def Qw(r:f_)(a:List Nat)(g:Dg 256 a)(d:a≠[])(m:a.length<999)(S:Z):∃l',Dg 256 l'/\l'.length=a.length/\vB 256 l'=vB 256 a %qN/\
 W N C 207 [.sl r 1 (jP a)] S=J (.sl .N 1 (jP l'),S):=by
 have b:vB 256 a<vB 256 qD*256^(a.length+1):=by refine zj (CZ g) (uA (ya V (Nat.le_succ _)) ?_);exact Nat.le_mul_of_pos_left _ (by trivial)
 have⟨l',n,i,j,k⟩:=afE a.length m (vB 256 a) S (a.length+1) a (gL _) g rfl (fQ b).symm;rw[aHE]at j;refine⟨l',n,i,j, ?_⟩;rw[(V:((a.length+1:Nat):Int) -1=(a.length:Int))]at k;have c:¬a.length=0:=λh=>d (List.length_eq_zero_iff.1 h);have l:CD 1 S (.sl .X 1 []) (.sl r 1 (jP a))=J (.ka S.length 0 a.length 1,S++[.M (eI a) [] O]):=by simp only[CD,bZ,Ui];rw[if_neg (by simp[c]),if_neg (by simp;omega),akd];simp
 have f:fh 1 (fg 0 [AV.I Y 0]) []=J []:=rfl;have e:fG (.ka S.length 0 a.length 1)=J (.I Y (a.length:Int)):=rfl;have o:dv 207 [] [.ka S.length 0 a.length 1] S (S++[.M (eI l') [] O])=J (.sl .N 1 (jP l'),S):=by
  have s:=atT (T:=S++[.M (eI l') [] O]) (nb:=S.length) (jF S _) i (gL _)
  grind [C9,tE,cI,cj,bm,aG,br,Pq,Z2,jE,xU,lt]
 rw[jC aAg];generalize jP a=A,eI a=p,eI l'=q at*;try simp at f
 simp-implicitDefEqProofs [-B,f,l,e];rw[ab kV];simp-implicitDefEqProofs [-B,k,o]
def YN(r:f_)(d:wu r)(l:List Nat)(k:Dg 256 l)(S:Z)(b0:de):∀n i:Nat,i+n=32->DC N C (.L vO) ⟨[(0,.sl r 1 (jP l)),(2,.P S.length 0),(3,.P (S.length+1) 0),(4,.I Y (i:Int))],[],S.length⟩ (S++[b0,.M (R (Aj i (vB 256 l))) [] O])=
 J (.E 0,⟨[(2,.P S.length 0),(3,.P (S.length+1) 0)],[],S.length⟩,S++[b0,.M (R (ig 32 (vB 256 l))) [] O]):=by
 intro n;induction n with
 |zero=>
  simp_all[aj,jZ,Mj]
 |succ n m=>
  intro i t;have b:i<32:=V;have g:=m (i+1) V;have f:=λT=>C7 r l (i:Int) T;rw[Kx k]at f;have h:oI L (iI (vB 256 l/256^i %256))=J (bq (cw (vB 256 l/256^i))):=by
   have:vB 256 l/256^i %256<256:=gH _ V;show J (AV.I L (dh L ((vB 256 l/256^i %256:Nat):Int)))=_;have e:dh L ((vB 256 l/256^i %256:Nat):Int)=((vB 256 l/256^i %256:Nat):Int):=by show((vB 256 l/256^i %256:Nat):Int)%256=_;omega
   rw[e,bq,qE]
  have o:ba [] S.length (S++[b0,.M (R (Aj i (vB 256 l))) [] O]) 1 (.P (S.length+1) i) (bq (cw (vB 256 l/256^i)))=J ([],S++[b0,.M (R (Aj (i+1) (vB 256 l))) [] O]):=by rw[st8 (cr S _ 1) (by rw[QF _ _ V];exact b),QG _ _ b];simp
  have j:=xr (vB 256 l/256^i %256);generalize R (Aj i (vB 256 l))=p,R (Aj (i+1) (vB 256 l))=q,R (ig 32 (vB 256 l))=s,bq (cw (vB 256 l/256^i))=c,iI (vB 256 l/256^i %256)=w,jP l=a at*;rw[aj,aO jZ];simp-implicitDefEqProofs [-B, -oI, -jS,ds,ej,(V:(i:Int)<32),d.ga,d.lk,d.ul,d.no,cQ,b_,f,j,h,H8 (i:=S.length+1) b Y,o];rw[ab jZ];try simp at g
  simp-implicitDefEqProofs [-B,(aR V:dh Y ((i:Int)+1)=((i+1:Nat):Int)),g]
def Nl(r:f_)(e:wu r)(l:List Nat)(d:Dg 256 l)(S:Z):W N C 206 [.sl r 1 (jP l)] S=J (.A (R (ig 32 (vB 256 l))),S):=by have z:R (fg 32 0)=aK:=rfl;have h:=YN r e l d S (.M (R (fg 32 0)) [] O) 32 0 rfl;rw[(by rfl:Aj 0 (vB 256 l)=List.replicate 32 0),z]at h;have c:(R (ig 32 (vB 256 l))).length=32:=ca;have g:=bA c (aF _);have f:cU (R (ig 32 (vB 256 l))):=aF _;generalize R (ig 32 (vB 256 l))=b,jP l=a at*;simp[jC aAf, -AV.cells, -aW];rw[ab jZ];simp_all
def VY(b:X)(u:b.length=64)(S:Z):W N C 205 [.A (R b)] S=J (.A (R (ig 32 (dp b %qN))),S):=by
 have r:(R b).length=64:=by simp[u]
 have p:cU (R b):=aF _;have z:∀d,bG (S++.M (R b) [] O::d) (.cg S.length 0 64 64 1)=J (.sl (.iq S.length) 1 (cE b)):=λd=>EW (l:=.M (R b) [] O::d) (k:=0) rfl u;have I:∀d,bK (S++.M (R b) [] O::d) (.cg S.length 0 64 64 1)=S++.M (R b) [] G::d:=λd=>C_ (l:=.M (R b) [] O::d) (k:=0) rfl;have ul:∀d j,bh (S++.M (R b) [] O::d) (S++.M (R b) [] G::j) (.cg S.length 0 64 64 1)=S++.M (R b) [] O::j:=λd j=>Da (l:=.M (R b) [] O::d) (l':=.M (R b) [] G::j) (k:=0) rfl rfl;have c1:(AV.A (R b)).cells=R b:=rfl;have A:aK.length=32:=rfl;have⟨q,q1,x⟩:=Af (.iq S.length) b V (S++[.M (R b) [] G,.M aK [] O]);have⟨o,t,v,m⟩:=q1.take [];have o3:=d_.Gh m;have w:=d_.dT m;have o5:=d_.lock m;have o6:=d_.tj m;rw[abh]at w;have n:VI b≠[]:=by grind [anX]
 have⟨l',r1,r2,r3,y⟩:=Qw .N (VI b) (VJ b) n (by simp;omega) (S++[.M (R b) [] O,.M aK [] O]);have g:=λT=>Nl .N (.inl rfl) l' r1 T;rw[r3,YB]at g;have P:dT (.sl .N 1 (jP l'))=.sl .N 1 (jP l'):=wu.no (.inl rfl) _;have h:cU (R (ig 32 (dp b %qN))):=aF _;have i:(R (ig 32 (dp b %qN))).length=32:=ca;have s:=bA i h;generalize R (ig 32 (dp b %qN))=f,jP l'=e,jP (VI b)=c,R b=E,cE b=a at*;have c2:(AV.A f).cells=f:=rfl;rw[jC aAe];try simp at v
 try simp at x
 try simp at y
 simp-implicitDefEqProofs [r,p,qq,z,I,ul,cQ,b_,rF,VK,VL,VM,VN,x,v,o3,w,o5,o6,y,P,g,h,i,s,A, -AV.cells, -aW]
def aqN(t:bV)(x y:X):aY t (.cV [.A (R x),.A (R y)])=(.cV [.A (R x),.A (R y)],t):=by rfl
def IP(s:X)(q:s.length=32)(S:Z):W N C 16 [.A (R s)] S=J (.A (R (gX (cq s))),S):=by
 have w:=λS=>Lc s q S;have x:=λt=>aqN t (cq s) (j_ s);have r:=U4;have u:=λS=>Bv Pt.base (cq s) (xB s) S;have p:=λS=>PZ (Pt.base.JA (cq s) 64 Pt.none) S;rw[Tu (xB s)]at p;have h:(R s).length=32:=by simp[q]
 have e:cU (R s):=aF _;have i:(R (cq s)).length=32:=by simp[xB]
 have f:cU (R (cq s)):=aF _;have m:=bA i f;have l:(R (j_ s)).length=32:=by simp[MD]
 have k:cU (R (j_ s)):=aF _;have j:(R (gX (cq s))).length=32:=by simp[sM]
 have g:cU (R (gX (cq s))):=aF _;have v:aK.length=32:=rfl;generalize R (gX (cq s))=b,Pt.base.JA (cq s) 64 Pt.none=c,Pt.base=a,R (cq s)=n,R (j_ s)=o,R s=E at*;have y:(AV.A E).cells=E:=rfl;have z:(AV.A n).cells=n:=rfl;have A:(AV.A o).cells=o:=rfl;have I:(AV.A b).cells=b:=rfl;rw[jC aGS];generalize P:aK=d at*;simp-implicitDefEqProofs [w,x,bF,r,u,p,h,e,bA h e,i,f,m,l,k,j,g,bA j g,v, -B, -AV.cells, -aW]
def pB(m:X):X:=ig 32 (dp (bM m)%qN)
def xC(m:X):(pB m).length=32:=qC _ _
def alx(l:List (Q × X)):AV.sl .N 1 (l.map λp=>[p.1])=pQ l:=rfl
def Hw(m n:f_)(u:wu m)(v:wu n)(a b:X)(l:List (Q × X))(S:Z)(hv:∀p∈l,IY S p)(hl:l.length<900)(t:a.length+b.length+(cx l).length<=1000000):
 W N C 45 [.sl m 1 (cE a),.sl n 1 (cE b),pQ l] S=J (.A (R (pB (a++(b++cx l)))),S):=by
 have o:∀r,wu r->∀x,aV (.sl r 1 (cE x))=.sl r 1 (cE x):=λr h x=>by rcases h with rfl|⟨i,rfl⟩<;>rfl
 have bo:fh 1 (fg 2 [AV.aw]) [(0,.sl m 1 (cE a)),(1,.sl n 1 (cE b))]=J [[.sl m 1 (cE a)],[.sl n 1 (cE b)]]:=by rcases u with rfl|⟨i,rfl⟩<;>rcases v with rfl|⟨j,rfl⟩<;>rfl
 have z:d_ 1 (.sl .X 1 [[.sl m 1 (cE a)],[.sl n 1 (cE b)]]) [] [[.sl m 1 (cE a)],[.sl n 1 (cE b)]]:=.inr (.inl rfl);have⟨o2,t2,I,w⟩:=d_.N6 z (xs:=l.map λp=>[p.1]) (x:=pQ l) (S:=S++[.M aK [] O]) (by grind) ⟨1,rfl,λ_=>rfl⟩;have P:=d_.dT w;rw[abh,show[[AV.sl m 1 (cE a)],[.sl n 1 (cE b)]]++(l.map λp=>[p.1])=((.sl m 1 (cE a),a)::(.sl n 1 (cE b),b)::l).map (λp=>[p.1])from rfl,alx]at P
 have E:=Fi ((.sl m 1 (cE a),a)::(.sl n 1 (cE b),b)::l) (S++[.M aK [] O]) (λp hp=>by
  rcases Pz.1 hp with h|h;·rw[h];exact⟨o m u a,λd=>⟨1,rfl,λ_=>rfl⟩⟩
  ·rcases Pz.1 h with h|h
   ·rw[h];exact⟨o n v b,λd=>⟨1,rfl,λ_=>rfl⟩⟩
   ·exact(hv p h).more _) (by grind) (by simp[cx]at t⊢;omega)
 rw[show cx ((AV.sl m 1 (cE a),a)::(.sl n 1 (cE b),b)::l)=a++(b++cx l)from by rfl]at E;have rd:=λT=>QH (bM (a++(b++cx l))) (Dq _) T;rw[show ig 32 (dp (bM (a++(b++cx l)))%qN)=pB (a++(b++cx l))from rfl]at rd;have y:cU (R (bM (a++(b++cx l)))):=aF _;have s:(R (pB (a++(b++cx l)))).length=32:=by rfl
 have q:cU (R (pB (a++(b++cx l)))):=aF _;have hz:aK.length=32:=rfl;generalize R (pB (a++(b++cx l)))=g,R (bM (a++(b++cx l)))=e,pQ ((AV.sl m 1 (cE a),a)::(.sl n 1 (cE b),b)::l)=RE,pQ l=f,AV.sl m 1 (cE a)=A,AV.sl n 1 (cE b)=c at*;have c4:(AV.A g).cells=g:=rfl;try simp at bo
 rw[LB aG4];generalize hZ:aK=k at*;try simp at E
 try simp at I
 simp-implicitDefEqProofs [bo,I,d_.Gh w,P,d_.lock w,d_.tj w,cQ,b_,E,rd,y,s,q,bA s q,hz, -B, -AV.cells, -aW]
def ab3:[AV.I L 0,.I L 0,.I L 0,.I L 0,.I L 0,.I L 0,.I L 0,.I L 0,.I L 0,.I L 0,.I L 0,.I L 0,.I L 0,.I L 0,.I L 0,.I L 0,.I L 0,.I L 0,.I L 0,.I L 0,.I L 0,.I L 0,.I L 0,.I L 0,.I L 0,.I L 0,.I L 0,.I L 0,.I L 0,.I L 0,.I L 0,.I L 0]=aK:=rfl
def aa3(gg je m:X):Bool:=(zq gg).2&&(ck (dp (je.drop 32)<qN)&&ck ((RS gg (pB (je.take 32++(gg++m))) (je.drop 32)).bytes=je.take 32))
def aly(a k s:X):(RS a k s).bytes.length=32:=by unfold P3.bytes;split<;>simp
def Zg(l:List (Q × X)):dT (pQ l)=pQ l:=wu.no (.inl rfl) _
def Zh(T:Z)(l:List (Q × X)):bG T (pQ l)=J (pQ l):=rfl
def Zi(T:Z)(l:List (Q × X)):bK T (pQ l)=T:=rfl
def Zj(T a:Z)(l:List (Q × X)):bh T a (pQ l)=a:=rfl
def auE(t:bV)(q:Pt)(b:Bool):aY t (.cV [q.aq,.B b])=(.cV [q.aq,.B b],t):=by rfl
def R6(m j:X)(hk:m.length=32)(hs:j.length=64)(l:List (Q × X))(S:Z)(hv:∀p∈l,IY S p)(hl:l.length<900)(hlen:(cx l).length<=900000):
 W N C 28 [.A (R m),.A (R j),pQ l] S=J (.B (aa3 m j (cx l)),S):=by
 have hf:=λT=>B6 j hs O T;have ht:=λT=>B6 j hs G T;rw[if_neg ca]at hf;rw[if_pos rfl]at ht;have⟨q,dq,hq⟩:=afq m hk;have tq:=λt=>auE t q (zq m).2;have lf:(j.take 32).length=32:=by simp[hs]
 have ls:(j.drop 32).length=32:=by simp[hs]
 have fb:=λT=>Sj (j.drop 32) ls T;have y:(R m).length=32:=by simp[hk]
 have u:cU (R m):=aF _;have pk1:=bA y u;have z:(R j).length=64:=by simp[hs]
 have v:cU (R j):=aF _;have pk2:=bA z v;have E:(R (j.take 32)).length=32:=by simp[hs]
 have w:cU (R (j.take 32)):=aF _;have pk3:=bA E w;have I:(R (j.drop 32)).length=32:=by simp[hs]
 have x:cU (R (j.drop 32)):=aF _;have aCM:=bA I x;have hz:aK.length=32:=rfl;have hz2:eY.length=20:=rfl;have P:∀g h i f,ba [] S.length (S++[g,h,i,f,.M eY [] O]) 20 (.P (S.length+4) 0) q.aq=J ([],S++[g,h,i,f,.M q.cs [] O]):=λg h i f=>by rw[stO (cr S _ 4) hz2];simp
 have ldq:∀g h i f e,aX (S++[g,h,i,f,.M q.cs [] O,e]) (.A 20) (.P (S.length+4) 0)=J q.aq:=λg h i f e=>ldO (cr S _ 4);simp only[eY]at P;unfold aa3;rw[LB aGW];simp only[ab3];cases hok:(zq m).2 with
 |false=>
  rw[hok]at dq tq;generalize R (j.take 32)=EF,R (j.drop 32)=EG,R m=EK,R j=ES,pQ l=d at*;have c1:(AV.A EK).cells=EK:=rfl;have c2:(AV.A ES).cells=ES:=rfl;have c3:(AV.A EF).cells=EF:=rfl;have c4:(AV.A EG).cells=EG:=rfl;generalize aK=i at*;simp-implicitDefEqProofs [y,u,pk1,z,v,pk2,E,w,I,x,hz,hf,ht,dq,tq,bF,P,bT, -B, -AV.cells, -aW]
 |true=>
  rw[hok]at dq tq;by_cases hb:dp (j.drop 32)<qN
  ·rw[decide_eq_true hb]at fb⊢
   have lm:(j.take 32++(m++cx l)).length=32+32+(cx l).length:=by grind
   have gaF:∀g h A a b,bG (S++[g,h,.M (R (j.take 32)) [] O,A,a,b]) (.cg (S.length+2) 0 32 32 1)=J (.sl (.iq (S.length+2)) 1 (cE (j.take 32))):=λg h A a b=>EW (l:=[g,h,.M (R (j.take 32)) [] O,A,a,b]) (k:=2) rfl lf;have gaK:∀h A a b c,bG (S++[.M (R m) [] O,h,A,a,b,c]) (.cg S.length 0 32 32 1)=J (.sl (.iq S.length) 1 (cE m)):=λh A a b c=>EW (l:=[.M (R m) [] O,h,A,a,b,c]) (k:=0) rfl hk;have lkF:∀g h A a b,bK (S++[g,h,.M (R (j.take 32)) [] O,A,a,b]) (.cg (S.length+2) 0 32 32 1)=S++[g,h,.M (R (j.take 32)) [] G,A,a,b]:=λg h A a b=>C_ (l:=[g,h,.M (R (j.take 32)) [] O,A,a,b]) (k:=2) rfl;have lkK:∀h A a b c,bK (S++[.M (R m) [] O,h,A,a,b,c]) (.cg S.length 0 32 32 1)=S++[.M (R m) [] G,h,A,a,b,c]:=λh A a b c=>C_ (l:=[.M (R m) [] O,h,A,a,b,c]) (k:=0) rfl;have ulF:∀g h A a b X' s n o r,bh (S++[g,h,.M (R (j.take 32)) [] O,A,a,b]) (S++[X',s,.M (R (j.take 32)) [] G,n,o,r]) (.cg (S.length+2) 0 32 32 1)=S++[X',s,.M (R (j.take 32)) [] O,n,o,r]:=λg h A a b X' s n o r=>Da (l:=[g,h,.M (R (j.take 32)) [] O,A,a,b]) (l':=[X',s,.M (R (j.take 32)) [] G,n,o,r]) (k:=2) rfl rfl;have ulK:∀h A a b c s n o r D',bh (S++[.M (R m) [] O,h,A,a,b,c]) (S++[.M (R m) [] G,s,n,o,r,D']) (.cg S.length 0 32 32 1)=S++[.M (R m) [] O,s,n,o,r,D']:=λh A a b c s n o r D'=>Da (l:=[.M (R m) [] O,h,A,a,b,c]) (l':=[.M (R m) [] G,s,n,o,r,D']) (k:=0) rfl rfl;have ha:=Hw (.iq (S.length+2)) (.iq S.length) (.inr ⟨_,rfl⟩) (.inr ⟨_,rfl⟩) (j.take 32) m l (S++[.M (R m) [] G,.M (R j) [] O,.M (R (j.take 32)) [] G,.M (R (j.drop 32)) [] O,.M q.cs [] O,.M aK [] O]) (λp hp=>(hv p hp).more _) hl V;have hkl:=xC (j.take 32++(m++cx l));have fn:=λT=>asd q T;have fB:=λT=>amO (pB (j.take 32++(m++cx l))) (j.drop 32) hkl ls q.neg T;have fy:=λT=>PZ ((q.neg.JA (pB (j.take 32++(m++cx l))) 64 Pt.none).add (Pt.base.JA (j.drop 32) 64 Pt.none)) T;rw[aaI hok hq hkl ls]at fy;have eq:=asI (RS m (pB (j.take 32++(m++cx l))) (j.drop 32)).bytes (j.take 32) (aly _ _ _) lf O;have hl5:(R (pB (j.take 32++(m++cx l)))).length=32:=by rfl
   have hd5:cU (R (pB (j.take 32++(m++cx l)))):=aF _;have pk5:=bA hl5 hd5;have hd6:cU (R (RS m (pB (j.take 32++(m++cx l))) (j.drop 32)).bytes):=aF _;have rn:=Zg l;have rg:=λT=>Zh T l;have rl:=λT=>Zi T l;have ru:=λT T'=>Zj T T' l;generalize ck ((RS m (pB (j.take 32++(m++cx l))) (j.drop 32)).bytes=j.take 32)=ans,R (RS m (pB (j.take 32++(m++cx l))) (j.drop 32)).bytes=EV,(q.neg.JA (pB (j.take 32++(m++cx l))) 64 Pt.none).add (Pt.base.JA (j.drop 32) 64 Pt.none)=PB,R (pB (j.take 32++(m++cx l)))=EH,q.neg=qn,cE (j.take 32)=BF,cE m=BK,R (j.take 32)=EF,R (j.drop 32)=EG,R m=EK,R j=ES,pQ l=d at*;have c1:(AV.A EK).cells=EK:=rfl;have c2:(AV.A ES).cells=ES:=rfl;have c3:(AV.A EF).cells=EF:=rfl;have c4:(AV.A EG).cells=EG:=rfl;have c5:(AV.A EH).cells=EH:=rfl;generalize aK=i at*;try simp at ha
   simp-implicitDefEqProofs [y,u,pk1,z,v,pk2,E,w,pk3,I,x,aCM,hz,hf,ht,dq,tq,bF,P,bT,fb,qq,gaF,gaK,lkF,lkK,ulF,ulK,rF,rn,rg,rl,ru,cQ,b_,ha,hl5,hd5,pk5,ldq,fn,fB,fy,eq,hd6, -B, -AV.cells, -aW]
  ·rw[decide_eq_false hb]at fb⊢
   generalize R (j.take 32)=EF,R (j.drop 32)=EG,R m=EK,R j=ES,pQ l=d at*;have c1:(AV.A EK).cells=EK:=rfl;have c2:(AV.A ES).cells=ES:=rfl;have c3:(AV.A EF).cells=EF:=rfl;have c4:(AV.A EG).cells=EG:=rfl;generalize aK=i at*;simp-implicitDefEqProofs [y,u,pk1,z,v,pk2,E,w,I,x,aCM,hz,hf,ht,dq,tq,bF,P,bT,fb, -B, -AV.cells, -aW]
def uz(s m:X):X:=pB (j_ s++m)
def kX(s m:X):X:=gX (uz s m)
def FE(s m:X):X:=pB (kX s m++(gX (cq s)++m))
def zd(s m:X):X:=ig 32 ((dp (FE s m)*dp (cq s)+dp (uz s m))%qN)
def Ad(s m:X):X:=kX s m++zd s m
def GH(s m:X):(Ad s m).length=64:=by simp[Ad,kX,zd,sM]
def af_:bw=R (fg 32 0)++(R (fg 32 0)++[]):=rfl
def aeg{S:Z}{l:List de}{k k' off c a:Nat}{cs:K}{b:X}{bt:bV}{q:Bool}(h:l[k]? =J (.M cs [] O))(d:l[k']? =J (.M (R b) bt q))(f:b.length=32)(g:off+32<=cs.length):
 uX S.length (S++l) 1 (.cg (S.length+k) off 32 c 1) (.cg (S.length+k') 0 32 a 1)=J (.I Y 32,S++l.set k (.M (aQ cs off (R b)) [] O)):=by
 have e:=Bb (S:=S) (off:=0) (n:=32) (c:=a) d V
 grind [uX,B8,xG,GD]
def aIB(i:Nat):qq 64 1 (.P i 0) D (J (.I Y 32))=J (.cg i 0 32 64 1):=rfl
def aIC(i:Nat):qq 64 1 (.P i 0) (J (.I Y 32)) D=J (.cg i 32 32 32 1):=rfl
def aID(i:Nat):qq 32 1 (.P i 0) D D=J (.cg i 0 32 32 1):=rfl
def Yp(s:X)(hs:s.length=32)(l:List (Q × X))(S:Z)(hv:∀p∈l,IY S p)(hl:l.length<900)(hlen:(cx l).length<=900000):
 W N nk 18 [.A (R s),pQ l] S=J (.A (R (Ad s (cx l))),S):=by
 have sp:=λS=>Lc s hs S;have tk:=λt=>aqN t (cq s) (j_ s);have pu:=λS=>IP s hs S;have fb:=U4;have lN:=xB s;have lS:=MD s;have lK:=sM (cq s);have lR:(uz s (cx l)).length=32:=xC _;have r:(kX s (cx l)).length=32:=sM _;have lH:(FE s (cx l)).length=32:=xC _;have lZ:(zd s (cx l)).length=32:=qC _ _;have fm:=λS=>Bv Pt.base (uz s (cx l)) lR S;have fy:=λS=>PZ (Pt.base.JA (uz s (cx l)) 64 Pt.none) S;rw[Tu lR,show gX (uz s (cx l))=kX s (cx l)from rfl]at fy;have h1:=Hw (.iq (S.length+3)) .N (.inr ⟨_,rfl⟩) (.inl rfl) (j_ s) [] l (S++[.M (R s) [] O,.M bw [] O,.M (R (cq s)) [] O,.M (R (j_ s)) [] G,.M (R (gX (cq s))) [] O]) (λp hp=>(hv p hp).more _) hl (by grind);rw[Br,show pB (j_ s++cx l)=uz s (cx l)from rfl]at h1;have h2:=Hw (.iq (S.length+6)) (.iq (S.length+4)) (.inr ⟨_,rfl⟩) (.inr ⟨_,rfl⟩) (kX s (cx l)) (gX (cq s)) l (S++[.M (R s) [] O,.M bw [] O,.M (R (cq s)) [] O,.M (R (j_ s)) [] O,.M (R (gX (cq s))) [] G,.M (R (uz s (cx l))) [] O,.M (R (kX s (cx l))) [] G,.M aK [] O]) (λp hp=>(hv p hp).more _) hl V;rw[show pB (kX s (cx l)++(gX (cq s)++cx l))=FE s (cx l)from rfl]at h2;have ma:=λT=>QI (FE s (cx l)) (cq s) (uz s (cx l)) lH lN lR T;rw[show ig 32 ((dp (FE s (cx l))*dp (cq s)+dp (uz s (cx l)))%qN)=zd s (cx l)from rfl]at ma;have y:(R s).length=32:=by simp[hs]
 have u:cU (R s):=aF _;have pk1:=bA y u;have z:(R (cq s)).length=32:=by simp[lN]
 have v:cU (R (cq s)):=aF _;have pk2:=bA z v;have hl3:(R (j_ s)).length=32:=by simp[lS]
 have hd3:cU (R (j_ s)):=aF _;have hl4:(R (gX (cq s))).length=32:=by simp[lK]
 have hd4:cU (R (gX (cq s))):=aF _;have I:(R (uz s (cx l))).length=32:=by rfl
 have w:cU (R (uz s (cx l))):=aF _;have pk5:=bA I w;have hl6:(R (kX s (cx l))).length=32:=by simp[r]
 have hd6:cU (R (kX s (cx l))):=aF _;have hd7:cU (R (FE s (cx l))):=aF _;have hl8:(R (zd s (cx l))).length=32:=by rfl
 have hd8:cU (R (zd s (cx l))):=aF _;have P:(R (Ad s (cx l))).length=64:=by simp[GH]
 have x:cU (R (Ad s (cx l))):=aF _;have pk9:=bA P x;have hz:aK.length=32:=rfl;have hz2:bw.length=64:=rfl;have gaS:∀A B C a,bG (S++[A,B,C,.M (R (j_ s)) [] O,a]) (.cg (S.length+3) 0 32 32 1)=J (.sl (.iq (S.length+3)) 1 (cE (j_ s))):=λA B C a=>EW (l:=[A,B,C,.M (R (j_ s)) [] O,a]) (k:=3) rfl lS;have ic:∀A B C a,bK (S++[A,B,C,.M (R (j_ s)) [] O,a]) (.cg (S.length+3) 0 32 32 1)=S++[A,B,C,.M (R (j_ s)) [] G,a]:=λA B C a=>C_ (l:=[A,B,C,.M (R (j_ s)) [] O,a]) (k:=3) rfl;have ulS:∀A B C a i B' j m,bh (S++[A,B,C,.M (R (j_ s)) [] O,a]) (S++[i,B',j,.M (R (j_ s)) [] G,m]) (.cg (S.length+3) 0 32 32 1)=S++[i,B',j,.M (R (j_ s)) [] O,m]:=λA B C a i B' j m=>Da (l:=[A,B,C,.M (R (j_ s)) [] O,a]) (l':=[i,B',j,.M (R (j_ s)) [] G,m]) (k:=3) rfl rfl;have gaF:∀A B C a E b c,bG (S++[A,B,C,a,E,b,.M (R (kX s (cx l))) [] O,c]) (.cg (S.length+6) 0 32 32 1)=J (.sl (.iq (S.length+6)) 1 (cE (kX s (cx l)))):=λA B C a E b c=>EW (l:=[A,B,C,a,E,b,.M (R (kX s (cx l))) [] O,c]) (k:=6) rfl r;have gaK:∀A B C a b c d,bG (S++[A,B,C,a,.M (R (gX (cq s))) [] O,b,c,d]) (.cg (S.length+4) 0 32 32 1)=J (.sl (.iq (S.length+4)) 1 (cE (gX (cq s)))):=λA B C a b c d=>EW (l:=[A,B,C,a,.M (R (gX (cq s))) [] O,b,c,d]) (k:=4) rfl lK;have lkF:∀A B C a E b c,bK (S++[A,B,C,a,E,b,.M (R (kX s (cx l))) [] O,c]) (.cg (S.length+6) 0 32 32 1)=S++[A,B,C,a,E,b,.M (R (kX s (cx l))) [] G,c]:=λA B C a E b c=>C_ (l:=[A,B,C,a,E,b,.M (R (kX s (cx l))) [] O,c]) (k:=6) rfl;have lkK:∀A B C a b c d,bK (S++[A,B,C,a,.M (R (gX (cq s))) [] O,b,c,d]) (.cg (S.length+4) 0 32 32 1)=S++[A,B,C,a,.M (R (gX (cq s))) [] G,b,c,d]:=λA B C a b c d=>C_ (l:=[A,B,C,a,.M (R (gX (cq s))) [] O,b,c,d]) (k:=4) rfl;have ulF:∀A B C a E b c i B' j m E' n o,bh (S++[A,B,C,a,E,b,.M (R (kX s (cx l))) [] O,c]) (S++[i,B',j,m,E',n,.M (R (kX s (cx l))) [] G,o]) (.cg (S.length+6) 0 32 32 1)=S++[i,B',j,m,E',n,.M (R (kX s (cx l))) [] O,o]:=λA B C a E b c i B' j m E' n o=>Da (l:=[A,B,C,a,E,b,.M (R (kX s (cx l))) [] O,c]) (l':=[i,B',j,m,E',n,.M (R (kX s (cx l))) [] G,o]) (k:=6) rfl rfl;have ulK:∀A B C a b c d i B' j m n o H',bh (S++[A,B,C,a,.M (R (gX (cq s))) [] O,b,c,d]) (S++[i,B',j,m,.M (R (gX (cq s))) [] G,n,o,H']) (.cg (S.length+4) 0 32 32 1)=S++[i,B',j,m,.M (R (gX (cq s))) [] O,n,o,H']:=λA B C a b c d i B' j m n o H'=>Da (l:=[A,B,C,a,.M (R (gX (cq s))) [] O,b,c,d]) (l':=[i,B',j,m,.M (R (gX (cq s))) [] G,n,o,H']) (k:=4) rfl rfl;have k1:aQ bw 0 (R (kX s (cx l)))=R (kX s (cx l))++(R (fg 32 0)++[]):=by rw[af_];have:=yg (A:=[]) (B:=R (fg 32 0)) (C:=R (fg 32 0)++[]) (off:=0) (B':=R (kX s (cx l))) rfl (by simp[r]);simp_all
 have k2:aQ (R (kX s (cx l))++(R (fg 32 0)++[])) 32 (R (zd s (cx l)))=R (Ad s (cx l)):=by have:=yg (A:=R (kX s (cx l))) (B:=R (fg 32 0)) (C:=[]) (off:=32) (B':=R (zd s (cx l))) (by simp[r]) (by simp[lZ]);simp_all[Ad,R]
 have q:∀A B C a E b c d,uX S.length (S++[A,B,C,a,E,b,.M (R (kX s (cx l))) [] O,c,.M bw [] O]) 1 (.cg (S.length+8) 0 32 64 1) (.cg (S.length+6) 0 32 32 1)=J (.I Y 32,S++[A,B,C,a,E,b,.M (R (kX s (cx l))) [] O,c,.M (R (kX s (cx l))++(R (fg 32 0)++[])) [] O]):=λA B C a E b c(d:Nat)=>by rw[<-k1];exact aeg (l:=[A,B,C,a,E,b,.M (R (kX s (cx l))) [] O,c,.M bw [] O]) (k:=8) (k':=6) rfl rfl r V
 have q:=λA B C a E b c=>q A B C a E b c 0;have cp2:∀A B C a E b c,uX S.length (S++[A,B,C,a,E,b,c,.M (R (zd s (cx l))) [] O,.M (R (kX s (cx l))++(R (fg 32 0)++[])) [] O]) 1 (.cg (S.length+8) 32 32 32 1) (.cg (S.length+7) 0 32 32 1)=J (.I Y 32,S++[A,B,C,a,E,b,c,.M (R (zd s (cx l))) [] O,.M (R (Ad s (cx l))) [] O]):=λA B C a E b c=>by rw[<-k2];exact aeg (l:=[A,B,C,a,E,b,c,.M (R (zd s (cx l))) [] O,.M (R (kX s (cx l))++(R (fg 32 0)++[])) [] O]) (k:=8) (k':=7) rfl rfl lZ (by simp[r])
 have rn:=Zg l;have rg:=λT=>Zh T l;have rl:=λT=>Zi T l;have ru:=λT T'=>Zj T T' l;have nn:dT .aw=.sl .N 1 (cE []):=rfl;have ng:∀T,bG T .aw=J .aw:=λ_=>rfl;have nl:∀T,bK T .aw=T:=λ_=>rfl;have nu:∀T T',bh T T' .aw=T':=λ_ _=>rfl;clear k1 k2;generalize R (kX s (cx l))++(R (fg 32 0)++[])=EQ at*;generalize R (Ad s (cx l))=EB at*;generalize R (zd s (cx l))=EZ at*;generalize R (FE s (cx l))=EH at*;generalize R (kX s (cx l))=EF at*;generalize R (uz s (cx l))=ER at*;generalize Pt.base.JA (uz s (cx l)) 64 Pt.none=f at*;generalize Pt.base=B at*;generalize R (gX (cq s))=EK at*;generalize R (cq s)=EN at*;generalize R (j_ s)=ES at*;generalize R s=E at*;generalize cE (kX s (cx l))=BF at*;generalize cE (gX (cq s))=BK at*;generalize cE (j_ s)=BS at*;generalize cE []=B0 at*;generalize pQ l=e at*;have c1:(AV.A E).cells=E:=rfl;have c2:(AV.A EN).cells=EN:=rfl;have c3:(AV.A ES).cells=ES:=rfl;have c4:(AV.A EK).cells=EK:=rfl;have c5:(AV.A ER).cells=ER:=rfl;have c6:(AV.A EF).cells=EF:=rfl;have c8:(AV.A EZ).cells=EZ:=rfl;have c9:(AV.A EB).cells=EB:=rfl;rw[jN aGT];try simp only[ab3]
 generalize hZ:aK=h,hY:bw=g at*;try simp at h1
 try simp at h2
 simp-implicitDefEqProofs [sp,tk,bF,pu,fb,fm,fy,y,u,pk1,z,v,pk2,hl3,hd3,hl4,hd4,I,w,pk5,hl6,hd6,hd7,hl8,hd8,P,x,pk9,hz,hz2,aIB,aIC,aID,gaS,ic,ulS,gaF,gaK,lkF,lkK,ulF,ulK,rF,nn,ng,nl,nu,rn,rg,rl,ru,cQ,b_,h1,h2,ma,q,cp2, -au, -AV.cells, -aW]
def Gt(e:bd)(q:e.Wf)(S:Z):∀d i,e.aN.length<=i+d->1<=i->i<=e.aN.length+1->
 DC N C (.L vm) ⟨[(1,.P S.length 0),(3,.I Y (i:Nat))],[],S.length⟩ (S++[.M e.aq [] O])=
  if CT (e.aN.drop (i -1))=G then J (.E 0,⟨[(1,.P S.length 0)],[],S.length⟩,S++[.M e.aq [] O])else J (.R,⟨[(2,.B O)],[],S.length⟩,S++[.M e.aq [] O]):=by
 have A:=q.toOk;have z:=q.RW;have r:=A.aN;intro d;induction d with
 |zero=>
  intro i x j u;rw[aj,aO dt];have:=Yc (l:=e.aN) (i:=i -1) V;simp[(V:¬i<e.aN.length),this,A]
 |succ d y=>
  intro i x j u;by_cases p:i<e.aN.length;rotate_left;·grind
  have t:=aR (i:=i) V;have m:=TA j V;have⟨a,h,v⟩:=aS (l:=e.aN) (i:=i -1) V;have⟨b,w,f⟩:=aS (l:=e.aN) (i:=i) V;have k:e.aN[i -1+1]? =J b:=by simp_all
  have s:=Tz h k;rw[Nat.sub_add_cancel j]at s;have c:=y (i+1) V V V;rw[Nat.add_sub_cancel]at c;have n:=r a (gM h);have o:=r b (gM w);have g:=Ia a b n o (S++[.M e.aq [] O]);rw[aj,aO dt,s];simp at t m c;rcases(show bl a b=O\/bl a b=G by simp)with hx|hx
  ·rw[hx]at g
   simp[p,m,h,f,n,o,g,hx,bT,A]
  ·rw[hx]at g
   simp[p,m,h,f,n,o,g,hx,bT,A];rw[ab dt];simp[t,c]
structure bd.Flat(e:bd):Prop where
 op:e.op.value.depth<=12
 eD:e.eD.depth<=8
 deep:e.eD.Deep
def Gu(e:bd)(c:e.Wf)(g:e.Flat)(S:Z):W N C 7 [.A e.aq] S=J (.B e.cM,S):=by
 have A:=c.toOk;have h:=Gt e c S e.aN.length 1 V V V;have d:=Gv e.op c.op (by have:=g.op;omega) (S++[.M e.aq [] O]);have f:=Gw e.eD c.eD (by have:=g.eD;omega) g.deep (S++[.M e.aq [] O]);rw[jC e_7];unfold bd.cM;simp at h;rcases(show CT e.aN=O\/CT e.aN=G by simp)with hx|hx
 ·simp only[hx]at h⊢
  simp[A];rw[ab dt];simp[h]
 simp only[hx]at h⊢;by_cases b:e.aN.length<=4;rotate_left
 ·have:(4:Int)<(e.aN.length:Int):=V
  simp[A];rw[ab dt];simp[h,A,b,this]
 have a:¬(4:Int)<(e.aN.length:Int):=V;by_cases i:e.ak=1
 ·rcases(show Nf e.op=O\/Nf e.op=G by simp)with hy|hy
  ·simp only[hy]at d⊢
   simp[A];rw[ab dt];simp[h,A,b,a,i,d]
  ·simp only[hy]at d⊢
   simp[A];rw[ab dt];simp[h,A,b,a,i,d,dk,acU,acV,acW,Ty,zP e.eD afh c.mm.eD Jj (S++[.M e.aq [] O])]
 by_cases j:e.ak=2
 ·rcases(show e.eD.bB 5=O\/e.eD.bB 5=G by simp)with hy|hy
  ·simp only[hy]at f⊢
   simp[A];rw[ab dt];simp[mQ,h,A,b,a,j,f]
  ·simp only[hy]at f⊢
   simp[A];rw[ab dt];simp[mQ,h,A,b,a,j,f,dk,acR,acS,acT,Tx,zQ e.op zOp c.op.mm LM (S++[.M e.aq [] O])]
 simp[A];rw[ab dt];simp[mQ,h,A,b,a,i,j]
def Gx(e:bd)(a:e.Wf)(S:Z):∃r,W N C 4 [.A e.aq] S=J (.B r,S)/\(r=O->e.Flat):=by
 have A:=a.toOk;rw[jC e_4];have⟨j,b,i⟩:=Gy e.op a.op (S++[.M e.aq [] O]);have⟨f,g,c⟩:=Gz e.eD a.eD (S++[.M e.aq [] O]);by_cases h:(20:Int)<(e.aN.length:Int);·exact⟨G,by simp[mR,A,h],by simp⟩
 cases j with
 |true=>exact⟨G,by simp[mR,A,h,b],by simp⟩
 |false=>
  refine⟨f,by cases f<;>simp[mR,A,h,b,g],λd=>?_⟩;exact⟨i rfl,(c d).1,(c d).2⟩
def abO{n:Nat}(h:n<128):dh L (n:Int)=(((cw n).toNat:Nat):Int)/\cJ n=[cw n]:=by refine⟨?_,V9 h⟩;rfl
def YV(p:List fC)(hs:∀s∈p,s.Wf)(hr:zV p=G)(S:Z):∃r,Ib r (og p)/\W N C 126 [fT p] S=J (r,S):=by
 have g:=hr;unfold zV at g;simp only[mz,decide_eq_true_eq]at g;have fl:=Eg p hs g.2;have⟨w0,n0⟩:=abO (n:=p.length) V;have A:∀d i(f:Q)(c:bV)(s:X),i+d=p.length->ml f c s->s.length+((p.drop i).flatMap nJ).length+100<=2^30->
  ∃b a,ml b a (s++(p.drop i).flatMap nJ)/\DC N C (.L vE) ⟨[(0,fT p),(3,f),(4,.I Y (i:Nat))],c,S.length⟩ S=J (.E 0,⟨[(3,b)],a,S.length⟩,S):=by
  intro d;induction d with
  |zero=>
   intro i f c s hi ho j;have e3:=jM V;refine⟨f,c,by simp_all, ?_⟩;rw[aj,aO gi];simp[(V:¬i<p.length)]
  |succ d ih=>
   intro i f c s hi ho j;have h3:i<p.length:=V;have⟨y,hy,k⟩:=aS (l:=p) (i:=i) V;have v:=aR (i:=i) V;have m:=hs y (gM hy);have e0:y.aq[0]? =J (.S y.name):=rfl;have e1:y.aq[1]? =J (.I U y.id):=rfl;rw[bf hy,EI]at j⊢;simp only[AK]at j;have lb:(nJ y).length=(a_ y.name).length+(if y.name=[]then cJ y.id.toNat else[]).length:=by unfold nJ;simp
   have la:y.name.length<=(a_ y.name).length:=by unfold a_;simp
   have⟨ra,E,h⟩:=uO y.name S V;have⟨o1,t1,o2,t2,P,T,a3⟩:=ho.call E V S;have w:=Hj (s:=y.name) V;by_cases hn:y.name=[]
   ·have x:nJ y=a_ y.name++cJ y.id.toNat:=by unfold nJ;simp_all
    rw[x]at j⊢;simp only[AK]at j;have⟨rb,I,q⟩:=xv y.id.toNat (by have:=m.id1;omega) S;rw[(by have:=m.id0;omega:((y.id.toNat:Nat):Int)=y.id)]at q;have⟨o3,t3,o4,t4,b1,b2,b3⟩:=a3.call I (by grind) S;have⟨b,a,z,e⟩:=ih (i+1) o4 t4 _ V b3 (by grind);refine⟨b,a,by simp_all, ?_⟩;rw[aj,aO gi];rw[hn]at w h e0;simp at v e;simp[h3,k,hn,w,t_,ua,oR,oE,h,P,T,q,b1,b2];rw[ab gi];simp[v,e]
   ·have x:nJ y=a_ y.name:=by unfold nJ;simp_all
    rw[x]at j⊢;have⟨b,a,z,e⟩:=ih (i+1) o2 t2 _ V a3 (by grind);refine⟨b,a,by simp_all, ?_⟩;rw[aj,aO gi];simp at v e;simp[h3,k,(by simp_all:y.name.isEmpty=false),w,t_,ua,oR,oE,h,P,T];rw[ab gi];simp[v,e]
 have⟨o,t,g1,g2⟩:=A p.length 0 _ [] _ V (ml.new (cw p.length) []) (by grind);have⟨r,t',f1,f2,f3,f4,f5⟩:=g1.fin;have eb:og p=[cw p.length]++(p.drop 0).flatMap nJ:=by unfold og;grind
 refine⟨r,by simp_all, ?_⟩;rw[jC azx];generalize cw p.length=u at*;simp at g2;simp[w0];rw[ab gi];simp[g2,f1,f2,f3,f4]
def YW(v:bQ)(hv:v.Lk)(h5:v.ak=5->v.ar.length=v.aL.length)(S:Z)(nb:Nat)
 (hF:∀x∈v.ar,∀S,∃r,Ib r x.bytes/\W N C 130 [.A x.aq] S=J (r,S)):
 ∀d i(c:Q)(ag:bV)(s:X),i+d=v.aL.length->ml c ag s->s.length+(v.cY i).length+100<=1073741824->
 ∃b aT,ml b aT (s++v.cY i)/\DC N C (.L vG) ⟨[(1,.P S.length 0),(3,c),(4,.I Y (i:Nat))],ag,nb⟩ (S++[.M v.aq [] O])=J (.E 0,⟨[(1,.P S.length 0),(3,b)],aT,nb⟩,S++[.M v.aq [] O]):=by
 have hl:=hv.aL;intro d;induction d with
 |zero=>
  intro i c ag s hi p hb;have e3:v.aL.drop i=[]:=jM V;have w:v.cY i=[]:=by grind [bQ.cY,bQ.eO]
  refine⟨c,ag,by simp_all, ?_⟩;simp[aj,aO dV,(V:¬i<v.aL.length)]
 |succ d E=>
  intro i c ag s hi p hb;have z:i<v.aL.length:=V;have⟨a,ha,h⟩:=aS (l:=v.aL) (i:=i) V;have k:=aR (i:=i) V;have la:a.length<=(a_ a).length:=by unfold a_;simp
  by_cases I:v.ak=5
  ·have⟨y,A,hy'⟩:=aS (l:=v.ar) (i:=i) V
   have⟨ry,q,t⟩:=hF y (gM A) (S++[.M v.aq [] O]);have w:v.cY i=a_ a++(y.bytes++v.cY (i+1)):=by unfold bQ.cY;simp_all[bf,bQ.eO]
   have lb:(a_ a).length+(y.bytes.length+(v.cY (i+1)).length)=(v.cY i).length:=by grind
   have bs:=Hj (s:=a) V;have⟨ra,e,f⟩:=uO a (S++[.M v.aq [] O]) V;have⟨o1,t1,P,T,m,g,n⟩:=p.call e V (S++[.M v.aq [] O]);have⟨o3,t3,o4,t4,b1,u,b3⟩:=n.call q (by grind) (S++[.M v.aq [] O]);have⟨b,aT,o,j⟩:=E (i+1) o4 t4 (s++a_ a++y.bytes) V b3 (by grind);refine⟨b,aT,by grind, ?_⟩;rw[aj,aO dV];simp at k j g u;simp[z,A,I,h,bs,t_,ua,oR,oE,f,m,g,t,b1,u];rw[ab dV];simp[k,j]
  ·have w:v.cY i=a_ a++v.cY (i+1):=by simp_all[bQ.cY,bf]
   have lb:(a_ a).length+(v.cY (i+1)).length=(v.cY i).length:=by grind
   have⟨ra,e,f⟩:=uO a (S++[.M v.aq [] O]) V;have⟨o1,t1,P,T,m,g,n⟩:=p.call e V (S++[.M v.aq [] O]);have⟨b,aT,o,j⟩:=E (i+1) P T (s++a_ a) V n (by grind);refine⟨b,aT,by grind, ?_⟩;rw[aj,aO dV];simp at k j g;simp[z,I,h,Hj (s:=a) V,t_,ua,oR,oE,f,m,g];rw[ab dV];simp[k,j]
def Nt:∀(d:Nat)(v:bQ),v.Wf->v.bB d=G->d<=5->∀S,∃r,Ib r v.bytes/\W N C 130 [.A v.aq] S=J (r,S):=by
 intro d;induction d with
 |zero=>nofun
 |succ d ih=>
  intro v hv h hd S;have a:=bQ.ie h;have c:=bQ.tF (d+1) v h;have h13:13^(d+1)<=13^5:=ya fE hd;have e13:13^5=371293:=fE;have lb:=v.o_;have kr:=a.ak;have wk0:=DU (k:=v.ak) V V;have A:=ml.new (cw v.ak.toNat) [];have f:=YW v hv.one;have z:∀x∈v.ar,∀S,∃r,Ib r x.bytes/\W N C 130 [.A x.aq] S=J (r,S):=λx o S=>ih x (hv.all x o) (a.all x o) V S;rw[jC azB];by_cases p:v.ak=1\/v.ak=2\/v.ak=3
  ·have⟨I,hp0⟩:=a.k13 p
   have eb:v.bytes=[cw v.ak.toNat]:=by grind [bQ.gE]
   have n6:¬v.ak=6:=V;have y:v.cY 0=[]:=by grind [bQ.cY]
   have⟨o3,t3,e,b⟩:=f (λg=>by omega) S S.length z v.aL.length 0 _ [] _ V A (by grind);rw[y,F8]at e;have⟨r,t,i,j,l,m,f5⟩:=e.fin;refine⟨r,by simp_all, ?_⟩;generalize cw v.ak.toNat=u at*;simp at b;simp[wk0,(V:¬v.ak=4),(V:¬v.ak=5)];rw[ab dV];simp[b,n6,i,j,l,m]
  by_cases T:v.ak=6
  ·have⟨I,E⟩:=a.k6 T
   have⟨x,o⟩:=F7.1 E;have eb:v.bytes=[cw v.ak.toNat]++x.bytes:=by grind [bQ.gE]
   have y:v.cY 0=[]:=by grind [bQ.cY]
   rw[eb]at c;simp at c;have⟨o3,t3,e,b⟩:=f (λg=>by omega) S S.length z v.aL.length 0 _ [] _ V A (by grind);rw[y,F8]at e;have⟨ry,ry1,ry2⟩:=z x (by grind) (S++[.M v.aq [] O]);have⟨o4,t4,o5,t5,b1,b2,b3⟩:=e.call ry1 (by grind) (S++[.M v.aq [] O]);have⟨r,t,i,j,l,m,f5⟩:=b3.fin;have P:=AS v.ar Y 0;rw[o]at P;refine⟨r,by simp_all, ?_⟩;have s:dh L 6=(((cw v.ak.toNat).toNat:Nat):Int):=by simp_all
   generalize cw v.ak.toNat=u at*;simp at b P;simp[s,T];rw[ab dV];simp[b,T,o,P,ry2,b1,b2,i,j,l,m]
  have q:v.ak=4\/v.ak=5:=V;have hw8:v.aL.length<=8:=by
   rcases q with k|k;·exact(a.k4 k).2.1
   ·exact(a.k5 k).2.1
  have⟨w0,n0⟩:=abO (n:=v.aL.length) V;have y:v.cY 0=if v.ak=4 then v.aL.flatMap a_ else if v.ak=5 then bQ.eO v.aL v.ar else bQ.gE v.ar:=by grind [bQ.cY]
  rw[(by simp_all:v.bytes=[UInt8.ofNat v.ak.toNat]++[UInt8.ofNat v.aL.length]++v.cY 0)]at c;simp at c;have⟨o2,t2,a1,a2⟩:=A.one (cw v.aL.length) ca (S++[.M v.aq [] O]);have⟨o3,t3,e,b⟩:=f (λg=>(a.k5 g).2.2) S S.length z v.aL.length 0 _ _ _ V a2 (by grind);have⟨r,t,i,j,l,m,f5⟩:=e.fin;refine⟨r,by simp_all, ?_⟩;rcases q with k|k
  ·have s:dh L 4=(((cw v.ak.toNat).toNat:Nat):Int):=by simp_all
   generalize cw v.ak.toNat=u,cw v.aL.length=w at*;simp at b;simp[s,w0,k,a1];rw[ab dV];simp[b,k,i,j,l,m]
  ·have s:dh L 5=(((cw v.ak.toNat).toNat:Nat):Int):=by simp_all
   generalize cw v.ak.toNat=u,cw v.aL.length=w at*;simp at b;simp[s,w0,k,a1];rw[ab dV];simp[b,k,i,j,l,m]
def Ym(o:tu)(a:o.Wf)(y:Nf o=G)(S:Z):∃r,Ib r (zy o)/\W N C 64 [.A o.aq] S=J (r,S):=by
 have kr:=QT y;have hle:=Vo a y;have wk0:=DU (k:=o.ak) V V;have pl:=QU a.fR (Dh y);have b1:=gN (n:=o.id.toNat) (by have:=a.id1;omega);have b2:=gN (n:=o.after.toNat) (by have:=a.af1;omega);have hb:=ml.new (cw o.ak.toNat) [];have⟨rp,rp1,f⟩:=YV o.fR a.fR (Dh y) (S++[.M o.aq [] O]);have⟨o1,t1,o2,t2,A,E,I⟩:=hb.call rp1 (by grind) (S++[.M o.aq [] O]);have⟨ri,s,d⟩:=xv o.id.toNat (by have:=a.id1;omega) (S++[.M o.aq [] O]);have⟨ra,z,q⟩:=xv o.after.toNat (by have:=a.af1;omega) (S++[.M o.aq [] O]);rw[(by have:=a.id0;omega:((o.id.toNat:Nat):Int)=o.id)]at d;rw[(by have:=a.af0;omega:((o.after.toNat:Nat):Int)=o.after)]at q;have b:=wX o.ak (S++[.M o.aq [] O]);rw[jC aHf];rcases kr with k|k|k|k
 ·have c:=HV y (.inl k)
  have vl:=bu.oO a.value c;have⟨rv,v,w⟩:=sI 5 o.value a.value c V (S++[.M o.aq [] O]);have⟨o3,t3,o4,t4,g,h,i⟩:=I.call v (by grind) (S++[.M o.aq [] O]);have⟨r,t,j,l,m,p,f5⟩:=i.fin;have e:zy o=[cw o.ak.toNat]++og o.fR++o.value.bytes:=by unfold zy;simp[k]
  refine⟨r,by simp_all, ?_⟩;have x:dh L 1=(((cw o.ak.toNat).toNat:Nat):Int):=by simp_all
  rw[k]at b;generalize cw o.ak.toNat=u at*;simp at b;simp[x,k,f,A,E,b,w,g,h,j,l,m,p]
 ·have c:=HV y (.inr k)
  have vl:=bu.oO a.value c;have⟨o3,t3,o4,t4,g,h,i⟩:=I.call s (by grind) (S++[.M o.aq [] O]);have⟨o5,t5,o6,t6,P,T,d3⟩:=i.call z (by grind) (S++[.M o.aq [] O]);have⟨rv,v,w⟩:=sI 5 o.value a.value c V (S++[.M o.aq [] O]);have⟨o7,t7,o8,t8,e1,e2,e3⟩:=d3.call v (by grind) (S++[.M o.aq [] O]);have⟨r,t,j,l,m,p,f5⟩:=e3.fin;have e:zy o=[cw o.ak.toNat]++og o.fR++cJ o.id.toNat++cJ o.after.toNat++o.value.bytes:=by unfold zy;simp[k]
  refine⟨r,by simp_all, ?_⟩;have x:dh L 2=(((cw o.ak.toNat).toNat:Nat):Int):=by simp_all
  rw[k]at b;generalize cw o.ak.toNat=u at*;simp at b;simp[x,k,f,A,E,b,d,g,h,q,P,T,w,e1,e2,j,l,m,p]
 ·have⟨o3,t3,o4,t4,g,h,i⟩:=I.call s (by grind) (S++[.M o.aq [] O])
  have⟨r,t,j,l,m,p,f5⟩:=i.fin;have e:zy o=[cw o.ak.toNat]++og o.fR++cJ o.id.toNat:=by unfold zy;simp[k]
  refine⟨r,by simp_all, ?_⟩;have x:dh L 3=(((cw o.ak.toNat).toNat:Nat):Int):=by simp_all
  rw[k]at b;generalize cw o.ak.toNat=u at*;simp at b;simp[x,k,f,A,E,b,d,g,h,j,l,m,p]
 ·have⟨o3,t3,o4,t4,g,h,i⟩:=I.call s (by grind) (S++[.M o.aq [] O])
  have⟨o5,t5,o6,t6,P,T,d3⟩:=i.call z (by grind) (S++[.M o.aq [] O]);have⟨r,t,j,l,m,p,f5⟩:=d3.fin;have e:zy o=[cw o.ak.toNat]++og o.fR++cJ o.id.toNat++cJ o.after.toNat:=by unfold zy;simp[k]
  refine⟨r,by simp_all, ?_⟩;have x:dh L 4=(((cw o.ak.toNat).toNat:Nat):Int):=by simp_all
  rw[k]at b;generalize cw o.ak.toNat=u at*;simp at b;simp[x,k,f,A,E,b,d,g,h,q,P,T,j,l,m,p]
def bU.tF:∀(d:Nat)(l:bU),l.Wf->l.bB d=G->l.bytes.length<=149000000+100*d:=by
 intro d;induction d with
 |zero=>nofun
 |succ d j=>
  intro l g h;have f:=bU.ie h;have m:=kz (iu f.a) V;have n:(if wo l.ak=G then a_ l.b else[]).length<=22:=by
   split;·rename_i k;exact kz (iu (f.b1 k).1) V
   ·simp
  have p:(if uw l.ak=G then l.type.bytes++l.base.bytes else[]).length<=148517200:=by
   split
   ·rename_i k
    have r:=qW (f.t1 k);have:=bu.oO g.one.base r.1;have:=bQ.oO r.2
    grind
   ·simp
  have o:(if xo l.ak=G then l.back.bytes++(cJ l.bj.length++l.bj.flatMap nO)else[]).length<=2000:=by
   split
   ·rename_i k
    have⟨a,b,c,e⟩:=f.y1 k;have s:=As g.one.back b;have t:=Gc l.type a l.bj g.one.pair e
    grind [gN]
   ·simp
  simp[bU.A9];cases i:ze l.ak;·rw[f.i0 i];simp[bU.gE];omega
  ·have⟨x,q⟩:=F7.1 (f.i1 i)
   have:=j x (g.all x (by grind)) (f.all x (by grind))
   grind [uw,xo,ze,bU.gE]
def YX(l:bU)(hl:l.bj.length<=8)(hw:∀p∈l.bj,p.x.Sr/\p.y.Sr)(S:Z)(nb:Nat):
 ∀d i(b:Q)(ag:bV)(s:X),i+d=l.bj.length->ml b ag s->s.length+((l.bj.drop i).flatMap nO).length+100<=1073741824->
 ∃a aT,ml a aT (s++(l.bj.drop i).flatMap nO)/\DC N C (.L qP) ⟨[(1,.P S.length 0),(3,b),(4,.I Y (i:Nat))],ag,nb⟩ (S++[.M l.aq [] O])=J (.E 0,⟨[(1,.P S.length 0),(3,a)],aT,nb⟩,S++[.M l.aq [] O]):=by
 intro d;induction d with
 |zero=>
  intro i b ag s z r f;have T:=jM V;refine⟨b,ag,by simp_all, ?_⟩;simp[aj,aO mV,(V:¬i<l.bj.length)]
 |succ d E=>
  intro i b ag s z r f;have⟨y,t,g⟩:=aS (l:=l.bj) (i:=i) V;have c:=aR (i:=i) V;have e:=hw y (gM t);rw[bf t,EI]at f⊢;simp only[AK]at f;have ep:(nO y).length=y.x.bytes.length+y.y.bytes.length:=by simp[nO]
  have⟨ra,h,j⟩:=sI 5 y.x e.1.wf e.1.right V (S++[.M l.aq [] O]);have⟨rb,k,m⟩:=sI 5 y.y e.2.wf e.2.right V (S++[.M l.aq [] O]);have⟨o1,t1,o2,t2,u,n,v⟩:=r.call h V (S++[.M l.aq [] O]);have⟨o3,t3,I,P,w,o,x⟩:=v.call k (by grind) (S++[.M l.aq [] O]);have⟨a,aT,A,q⟩:=E (i+1) I P (s++y.x.bytes++y.y.bytes) V x (by grind);refine⟨a,aT,by grind [nO], ?_⟩;rw[aj,aO mV];simp at c q n o;simp[(V:i<l.bj.length),g,j,u,n,m,w,o];rw[ab mV];simp[c,q]
def Yn:∀(d:Nat)(l:bU),l.Wf->l.bB d=G->d<=5->∀S,∃r,Ib r l.bytes/\W N C 65 [.A l.aq] S=J (r,S):=by
 intro d;induction d with
 |zero=>nofun
 |succ d ih=>
  intro l e h hd S;have a:=bU.ie h;have hle:=bU.tF (d+1) l e h;have lb:=l.A9;have k1:=a.k1;have k10:=a.k10;have wk:=DU (k:=l.ak) V V;have la:=iu a.a;have ea:=kz la V;have ho:=ml.new (cw l.ak.toNat) [];have f:=Hj (s:=l.a) V;have⟨ra,ra1,g⟩:=uO l.a (S++[.M l.aq [] O]) V;have⟨o1,t1,o2,t2,a1,a2,a3⟩:=ho.call ra1 (by grind) (S++[.M l.aq [] O]);have p:=yB l.ak (S++[.M l.aq [] O]);have q:=yC l.ak (S++[.M l.aq [] O]);rw[jC aHg];rcases(adK a.k1 a.k10)with⟨z,A,uy⟩|⟨z,A,uy⟩|⟨z,A,uy⟩|⟨z,A,uy⟩
  ·have y:¬l.ak=8/\¬8<l.ak:=by unfold wo at z;grind
   have hi:=a.i0 (by grind [ze]);have lbb:=iu (a.b1 z).1;have ebb:=kz lbb V;have⟨rb,b,c⟩:=uO l.b (S++[.M l.aq [] O]) V;have⟨o3,t3,o4,t4,I,P,T⟩:=a3.call b (by grind) (S++[.M l.aq [] O]);have⟨r,t,i,j,m,o,f5⟩:=T.fin;have eb:l.bytes=[cw l.ak.toNat]++a_ l.a++a_ l.b:=by grind [bU.gE]
   refine⟨r,by simp_all, ?_⟩;rw[z]at p;rw[A]at q;generalize cw l.ak.toNat=u at*;simp[wk,f,t_,ua,oR,oE,g,a1,a2,p,q,y.1,y.2,Hj (s:=l.b) V,c,I,P,i,j,m,o]
  ·have y:¬l.ak=8/\¬8<l.ak:=by grind [uw,xo]
   have hi:=a.i0 (by grind [ze]);have v:=qW (a.t1 A);have s1:=bQ.oO v.2;have s2:=bu.oO e.one.base v.1;have⟨rb,b,c⟩:=Nt 5 l.type e.one.type v.2 V (S++[.M l.aq [] O]);have⟨o3,t3,o4,t4,I,P,T⟩:=a3.call b (by grind) (S++[.M l.aq [] O]);have⟨rc,rc1,rc2⟩:=sI 5 l.base e.one.base v.1 V (S++[.M l.aq [] O]);have⟨o5,t5,o6,t6,c1,c2,c3⟩:=T.call rc1 (by grind) (S++[.M l.aq [] O]);have⟨r,t,i,j,m,o,f5⟩:=c3.fin;have eb:l.bytes=[cw l.ak.toNat]++a_ l.a++l.type.bytes++l.base.bytes:=by grind [bU.gE]
   refine⟨r,by simp_all, ?_⟩;rw[z]at p;rw[A]at q;generalize cw l.ak.toNat=u at*;simp[wk,f,t_,ua,oR,oE,g,a1,a2,p,q,y.1,y.2,c,I,P,rc2,c1,c2,i,j,m,o]
  ·rw[z]at p
   rw[A]at q;have E:¬l.ak=8:=by unfold xo at uy;simp_all
   cases hu:ze l.ak
   ·have y:¬8<l.ak:=by unfold ze at hu;grind
    have hi:=a.i0 hu;have⟨r,t,i,j,m,o,f5⟩:=a3.fin;have eb:l.bytes=[cw l.ak.toNat]++a_ l.a:=by grind [bU.gE]
    refine⟨r,by simp_all, ?_⟩;generalize cw l.ak.toNat=u at*;simp[wk,f,t_,ua,oR,oE,g,a1,a2,p,q,E,y,i,j,m,o]
   ·have y:8<l.ak:=by unfold ze at hu;grind
    have⟨x,hx⟩:=F7.1 (a.i1 hu);have hxl:=bU.tF d x (e.all x (by grind)) (a.all x (by grind));have⟨rb,b,c⟩:=ih x (e.all x (by grind)) (a.all x (by grind)) V (S++[.M l.aq [] O]);have⟨o3,t3,o4,t4,I,P,T⟩:=a3.call b (by grind) (S++[.M l.aq [] O]);have⟨r,t,i,j,m,o,f5⟩:=T.fin;have eb:l.bytes=[cw l.ak.toNat]++a_ l.a++x.bytes:=by grind [bU.gE]
    have ix:=DR l.bW Y 0;rw[hx]at ix;simp at ix;refine⟨r,by simp_all, ?_⟩;generalize cw l.ak.toNat=u at*;simp[wk,f,t_,ua,oR,oE,g,a1,a2,p,q,E,y,hx,ix,c,I,P,i,j,m,o]
  ·have E:l.ak=8:=by unfold xo at uy;simp_all
   have hi:=a.i0 (by rw[E];decide);have v:=qW (a.t1 A);have s1:=bQ.oO v.2;have s2:=bu.oO e.one.base v.1;have⟨q1,q2,q3,q4⟩:=a.y1 uy;have s3:=As e.one.back q2;have s4:=Gc l.type q1 l.bj e.one.pair q4;have q2':=q2;unfold kh at q2';simp at q2';have⟨w0,n0⟩:=abO (n:=l.bj.length) V;have⟨rb,b,c⟩:=Nt 5 l.type e.one.type v.2 V (S++[.M l.aq [] O]);have⟨o3,t3,o4,t4,I,P,T⟩:=a3.call b (by grind) (S++[.M l.aq [] O]);have⟨rc,rc1,rc2⟩:=sI 5 l.base e.one.base v.1 V (S++[.M l.aq [] O]);have⟨o5,t5,o6,t6,c1,c2,c3⟩:=T.call rc1 (by grind) (S++[.M l.aq [] O]);have⟨rd,rd1,rd2⟩:=sI 5 l.back e.one.back q2'.1 V (S++[.M l.aq [] O]);have⟨o7,t7,o8,t8,d1,d2,d3⟩:=c3.call rd1 (by grind) (S++[.M l.aq [] O]);have⟨o9,t9,e1,e2⟩:=d3.one (cw l.bj.length) (by simp;omega) (S++[.M l.aq [] O]);have⟨oA,tA,g1,g2⟩:=YX l q3 (bU.QV e a uy) S S.length l.bj.length 0 o9 t9 _ V e2 (by grind);have⟨r,t,i,j,m,o,f5⟩:=g1.fin;have eb:l.bytes=[cw l.ak.toNat]++a_ l.a++l.type.bytes++l.base.bytes++l.back.bytes++[cw l.bj.length]++(l.bj.drop 0).flatMap nO:=by grind [bU.gE]
   refine⟨r,by simp_all, ?_⟩;rw[z,E]at p;rw[A,E]at q;have wk:dh L 8=(((cw l.ak.toNat).toNat:Nat):Int):=by simp_all
   generalize cw l.ak.toNat=u,cw l.bj.length=w at*;simp at g2;simp[wk,w0,f,t_,ua,oR,oE,g,a1,a2,p,q,E,c,I,P,rc2,c1,c2,rd2,d1,d2,e1];rw[ab mV];simp[g2,E,i,j,m,o]
def ml.arr{a:Q}{ag:bV}{s b:X}(h:ml a ag s){x:Q}{S:Z}(j:bZ S x=J (1,cE b))(i:b≠[])(k:s.length+b.length<=1073741824):
 ∃c d,eK 1 ag S a x=J (c,d,S)/\ml c d (s++b):=by
 have⟨c,d,g,f⟩:=d_.ast h (xs:=cE b) (λe=>i ((tW _).1 e)) (by simp;omega) j;rw[<-Ot]at f;exact⟨c,d,g,f⟩
def Rz(S:Z)(e:bd)(G:List de):Z:=S++(.M e.aq [] O::G)
def ahZ(S:Z)(e:bd)(a:List de):(Rz S e a)[S.length]? =J (.M e.aq [] O):=by have:=cr S (.M e.aq [] O::a) 0;trivial
def ax6(S:Z)(e:bd)(a:List de)(k:Nat):(Rz S e a)[S.length+(k+1)]? =a[k]? :=cr S _ (k+1)
def ac2(S:Z)(e:bd)(a:List de):(Rz S e a).length=S.length+(a.length+1):=by simp[Rz]
def Vn(S:Z)(e:bd)(a b:List de):Rz S e a++b=Rz S e (a++b):=by simp[Rz]
def Yl(S:Z)(e:bd)(a:List de):(Rz S e a).take S.length=S:=PS rfl
def LR(S:Z)(e:bd)(a:List de)(b:Sh)(off:Nat):aX (Rz S e a) b (.P S.length off)=dG b e.aq off:=bL (ahZ ..) b off
def aa2(e:bd)(r:e.Wf)(P:e.aN.length<=4)(S:Z):∀d i(a:List de)(s:X)(f:Q)(ag:bV),i+d=e.aN.length->s.length+32*d<=1000->ml f ag s->
 ∃h c aT,DC N C (.L wH) ⟨[(1,.P S.length 0),(3,f),(4,.I Y (i:Nat))],ag,S.length⟩ (Rz S e a)=
  J (.E 0,⟨[(1,.P S.length 0),(3,c)],aT,S.length⟩,Rz S e h)/\ml c aT (s++(e.aN.drop i).flatten):=by
 have A:=r.toOk;intro d;induction d with
 |zero=>
  intro i a s f ag t u k;have I:=jM V;refine⟨a,f,ag, ?_,by simp_all⟩;simp[aj,aO iV,(V:¬i<e.aN.length),LR,A]
 |succ d w=>
  intro i a s f ag t u k;have⟨y,v,j⟩:=aS (l:=e.aN) (i:=i) V;have m:=aR (i:=i) V;have g:=A.aN y (gM v);have q:bZ (Rz S e (a++[.M (R y) [] O])) (.cg (S.length+(a.length+1)) 0 32 32 1)=J (1,cE y):=Au (cs:=R y) (bt:=[]) (b:=O) (by rw[ax6];simp) (by simp_all[sub,oL]) g (by simp[g]);have⟨x,E,o,p⟩:=k.arr q (by grind) V;have⟨h,c,aT,n,T⟩:=w (i+1) (a++[.M (R y) [] O]) (s++y) x E V (by grind) p;refine⟨h,c,aT, ?_,by simp_all[bf]⟩;rw[aj,aO iV];have z:∀ag,ba ag S.length (Rz S e (a++[.M aK [] O])) 32 (.P (S.length+(a.length+1)) 0) (.A (R y))=J (ag,Rz S e (a++[.M (R y) [] O])):=λag=>by rw[<-Vn,<-Vn,<-ac2 S e a,vh (lj (aF y))];simp_all
  simp at m n;simp[(V:i<e.aN.length),j,g,A,LR,Vn,ac2,z,qq,o];rw[ab iV];simp[m,n]
def Qh(e:bd)(g:e.Wf)(y:e.cM=G)(S:Z):∃r,Ib r e.dH/\W N C 25 [.A e.aq] S=J (r,S):=by
 have A:=g.toOk;unfold bd.cM at y;simp at y;obtain⟨⟨h4,hri⟩,hk⟩:=y;have f:=A.aZ;have z:=A.gg;have kn:e.gg≠[]:=by grind
 have wk0:=DU (k:=e.ak) V V;have hn:cJ e.aN.length=[cw e.aN.length]:=by rw[cJ,ifP]
 have wn:dh L (e.aN.length:Int)=((cw e.aN.length).toNat:Int):=by rfl
 have w0:S++[de.M e.aq [] O]=Rz S e []:=rfl;have hb:=ml.new (cw e.ak.toNat) [];have ev:∀a,bZ (Rz S e a) (.cg S.length 1 32 32 1)=J (1,cE e.aZ):=λa=>Au (ahZ ..) (bd.s1 A) f (by simp[A]);have T:∀a,bZ (Rz S e a) (.cg S.length 64 32 32 1)=J (1,cE e.gg):=λa=>Au (ahZ ..) (bd.s64 A) z (by simp[A]);have⟨o1,t1,I,a2⟩:=hb.arr (ev []) (by grind) (by simp[f]);have⟨o2,t2,P,b2⟩:=a2.one (cw e.aN.length) (by simp[f]) (Rz S e []);have⟨a,o3,t3,i,l2⟩:=aa2 e g h4 S e.aN.length 0 [] _ o2 t2 V (by grind) b2;have OY:=LN A;have aL8:([cw e.ak.toNat]++e.aZ++[cw e.aN.length]++(e.aN.drop 0).flatten).length=34+32*e.aN.length:=by grind
 have b:(e.ak=1/\Nf e.op=G/\e.part=zy e.op)\/(e.ak=2/\e.eD.bB 5=G/\e.part=e.eD.bytes):=by grind [bd.part]
 have eb:∀p,[cw e.ak.toNat]++e.aZ++[cw e.aN.length]++(e.aN.drop 0).flatten++p++e.gg=cw e.ak.toNat::(e.aZ++(cJ e.aN.length++(e.aN.flatten++(p++e.gg)))):=λp=>by simp[hn]
 rw[jC aFA];rcases b with⟨k,h,ep⟩|⟨k,h,ep⟩
 ·have x:=Vo g.op h
  have⟨rp,c,d⟩:=Ym e.op g.op h (Rz S e a);have⟨o4,t4,o5,t5,j,l,m⟩:=l2.call c V (Rz S e a);have⟨o6,t6,n,o⟩:=m.arr (T a) kn (by grind);have⟨r,t,q,s,v,w,f5⟩:=o.fin;refine⟨r,by grind [bd.dH], ?_⟩;have E:dh L 1=(((cw e.ak.toNat).toNat:Nat):Int):=by simp_all
  generalize cw e.ak.toNat=u,cw e.aN.length=pu at*;simp at i;simp[w0,A,k,E,wn,LR,qq,I,P];rw[ab iV];simp[i,A,k,LR,d,j,l,qq,n,q,s,v,w,Yl]
 ·have x:=bU.tF 5 e.eD g.eD h
  have⟨rp,c,d⟩:=Yn 5 e.eD g.eD h V (Rz S e a);have⟨o4,t4,o5,t5,j,l,m⟩:=l2.call c V (Rz S e a);have⟨o6,t6,n,o⟩:=m.arr (T a) kn (by grind);have⟨r,t,q,s,v,w,f5⟩:=o.fin;refine⟨r,by grind [bd.dH], ?_⟩;have E:dh L 2=(((cw e.ak.toNat).toNat:Nat):Int):=by simp_all
  generalize cw e.ak.toNat=u,cw e.aN.length=pu at*;simp at i;simp[w0,A,k,E,wn,LR,qq,I,P];rw[ab iV];simp[i,A,k,LR,d,j,l,qq,n,q,s,v,w,Yl]
def Ni(e:bd)(a:e.Wf)(v:e.cM=G)(w:e.dH.length<=1000000000)(S:Z):∃r,Ib r e.bytes/\W N C 8 [.A e.aq] S=J (r,S):=by have A:=a.toOk;have⟨r,s,u⟩:=Qh e a v (S++[.M e.aq [] O]);have⟨o,t,c,d⟩:=s.1.take [];have f:ml o t e.dH:=d;have j:bZ (S++[.M e.aq [] O]) (.cg S.length 96 64 64 1)=J (1,cE e.je):=Au (x:=e.je) (bt:=[]) (b:=O) ca (bd.s96 A) A.je (by simp[A]);have⟨y,E,g,i⟩:=f.arr j (by intro h;have:=A.je;simp_all) (by rw[A.je];omega);have⟨q,z,k,l,m,n,p⟩:=i.fin;refine⟨q,p, ?_⟩;simp[jC e_8,A,u,c,qq,g,k,l,m,n]
section
def m5(k:Int)(IN:K)(row:Q)(ops Jk gg je:K):K:=.I Y k::(IN++(row::(ops++(Jk++(gg++je)))))
abbrev Dy:K:=fg 32 (.I L 0)
abbrev EO:K:=fg 64 (.I L 0)
set_option maxRecDepth 20000 in
def ahU(k:Int):dk bH [(0,1,.I Y k)]=J (m5 k Dy .aw aU aE Dy EO):=rfl
section
variable{k:Int}{IN ops Jk gg je:K}{row:Q}(h1:IN.length=32)(h2:ops.length=10)(h3:Jk.length=20)(h4:gg.length=32)(h5:je.length=64)
include h1 h2 h3 h4 h5 in
theorem tZ:(m5 k IN row ops Jk gg je).length=160:=by simp[m5,h1,h2,h3,h4,h5]
include h1 in
theorem ass{d:K}(h:d.length=32):aQ (m5 k IN row ops Jk gg je) 1 d=m5 k d row ops Jk gg je:=mE (a:=[.I Y k]) (b:=IN) rfl rfl V
include h1 in
theorem am_{d:Q}:aQ (m5 k IN row ops Jk gg je) 33 [d]=m5 k IN d ops Jk gg je:=
 (mE (l:=m5 k IN row ops Jk gg je) (off:=33) (b':=[d]) (a:=.I Y k::IN) (b:=[row]) (c:=ops++(Jk++(gg++je))) rfl (by simp[h1]) rfl).trans rfl
include h1 h2 in
theorem ana{d:K}(h:d.length=10):aQ (m5 k IN row ops Jk gg je) 34 d=m5 k IN row d Jk gg je:=
 (mE (l:=m5 k IN row ops Jk gg je) (off:=34) (b':=d) (a:=.I Y k::(IN++[row])) (b:=ops) (c:=Jk++(gg++je)) (by simp[m5]) (by simp[h1]) V).trans (by simp[m5])
include h1 h2 h3 in
theorem anb{d:K}(h:d.length=20):aQ (m5 k IN row ops Jk gg je) 44 d=m5 k IN row ops d gg je:=
 (mE (l:=m5 k IN row ops Jk gg je) (off:=44) (b':=d) (a:=.I Y k::(IN++(row::ops))) (b:=Jk) (c:=gg++je) (by simp[m5]) (by grind) V).trans (by simp[m5])
include h1 h2 h3 h4 in
theorem acZ{d:K}(h:d.length=32):aQ (m5 k IN row ops Jk gg je) 64 d=m5 k IN row ops Jk d je:=
 (mE (l:=m5 k IN row ops Jk gg je) (off:=64) (b':=d) (a:=.I Y k::(IN++(row::(ops++Jk)))) (b:=gg) (c:=je) (by simp[m5]) (by simp_all) V).trans (by simp[m5])
include h1 h2 h3 h4 h5 in
theorem ac0{d:K}(h:d.length=64):aQ (m5 k IN row ops Jk gg je) 96 d=m5 k IN row ops Jk gg d:=
 (mE (l:=m5 k IN row ops Jk gg je) (off:=96) (b':=d) (a:=.I Y k::(IN++(row::(ops++(Jk++gg))))) (b:=je) (c:=[]) (by simp[m5]) (by simp_all) V).trans (by simp[m5])
end
def Ox(f:Q->Q)(a:∀k,f (.I Y k)=.I Y k){k:Int}{IN ops Jk gg je:K}{row:Q}:(m5 k IN row ops Jk gg je).map f=m5 k (IN.map f) (f row) (ops.map f) (Jk.map f) (gg.map f) (je.map f):=by simp[m5,a]
def LQ{k:Int}{IN ops Jk gg je:K}{row:Q}(h1:dJ IN=G)(h2:br row=G)(h3:dJ ops=G)(h4:dJ Jk=G)(h5:dJ gg=G)(a:dJ je=G):dJ (m5 k IN row ops Jk gg je)=G:=by rw[AR]at*;intro x hx;unfold m5 at hx;simp at hx;rcases hx with rfl|hx|rfl|hx|hx|hx|hx;all_goals simp_all
def Fs(S:Z)(z:K)(r:Rd)(c:K)(bt:bV):Z:=S++[.M z [] O,fY (S.length+1) r,.M c bt O]
section
variable(S:Z)(z:K)(r:Rd)(c:K)(bt:bV)
def xI:(Fs S z r c bt)[S.length+1]? =J (fY (S.length+1) r):=cr S _ 1
def Bx(a:Rd):(Fs S z r c bt).set (S.length+1) (fY (S.length+1) a)=Fs S z a c bt:=AI S _ 1 _
theorem GF:(Fs S z r c bt)[S.length+2]? =J (.M c bt O):=cr S _ 2
theorem Kh(a:K)(bt':bV):(Fs S z r c bt).set (S.length+2) (.M a bt' O)=Fs S z r a bt':=AI S _ 2 _
def ahV:(Fs S z r c bt)[S.length]? =J (.M z [] O):=by have:=cr S [.M z [] O,fY (S.length+1) r,.M c bt O] 0;trivial
theorem Vl(a:Sh)(off:Nat):aX (Fs S z r c bt) a (.P (S.length+2) off)=dG a c off:=bL (GF ..) a off
theorem ac1(a:Sh)(off:Nat):aX (Fs S z r c bt) a (.P S.length off)=dG a z off:=bL (ahV ..) a off
def Yi:(Fs S z r c bt).take S.length=S:=PS rfl
end
def Qg{S:Z}{z:K}{r:Rd}{c a:K}{bt:bV}{v:Q}(f:yc v)(off n:Nat)(d:v.cells.length=n)(e:off+n<=c.length)(b:aQ c off v.cells=a)(ag:bV):
 ba ag S.length (Fs S z r c bt) n (.P (S.length+2) off) v=J (ag,Fs S z r a bt):=by
 grind [eH,GF,Kh]
def ahW{S:Z}{z:K}{r:Rd}{c C:K}{bt:bV}(a:dJ C=G)(h1:z.length=160)(h2:C.length=160)(ag:bV):
 ba ag S.length (Fs S z r c bt) 160 (.P S.length 0) (.A C)=J (ag,Fs S C r c bt):=by
 have:=Bu (S:=S) rfl a [.M z [] O,fY (S.length+1) r,.M c bt O] 0 ag S.length 160;refine this.trans ?_;simp only[Tn];rw[if_pos ⟨h2,by omega⟩,dX V];rfl
def r_.end_{r:Rd}(h:r_ r []):r.aa1=D:=by unfold Rd.aa1;have h1:=h.hl;unfold Rd.left at h1;have:=List.drop_eq_nil_iff.1 h1;rw[uB,h.he]
def ahX{S:Z}{j:Nat}{r:Rd}(a:S[j]? =J (fY j r))(h:r_ r []):W N C 55 [.P j 0] S=J (.dj,S):=by rw[Vm a h.ho h.hb,h.end_];rfl
def afj(e:bd)(he:e.Wf)(hs:e.cM=G)(hl:e.bytes.length<=4096)(S:Z):W N nk 19 [dw e.bytes] S=J (.cV [.A e.aq,.dj],S):=by
 have A:=he.toOk;unfold bd.cM at hs;simp only[mz,Bool.or_eq_true,decide_eq_true_eq]at hs;obtain⟨⟨h4,hri⟩,hk⟩:=hs;have d:=A.aZ;have l:=A.gg;have g:=A.je;have sn:e.je≠[]:=by grind
 have eb:e.bytes=cw e.ak.toNat::(e.aZ++(cJ e.aN.length++(e.aN.flatten++(e.part++(e.gg++(e.je++[])))))):=by simp[bd.bytes,bd.dH]
 have lb:∀s,fG (dw s)=J (.I Y (s.length:Int)):=λs=>by simp
 have FJ:((4096:Int)<(e.bytes.length:Int))=False:=eq_false V;have c0:=Yj e.bytes V (S++[.M bH [] O]);have R0:r_ ⟨e.bytes,0,D⟩ (cw e.ak.toNat::(e.aZ++(cJ e.aN.length++(e.aN.flatten++(e.part++(e.gg++(e.je++[]))))))):=⟨rfl,by grind,xZ _,by trivial⟩;generalize hZ:bH=a at*;have Zl:a.length=160:=by rw[<-hZ];rfl
 have hg:(S++[.M a [] O]++[fY (S.length+1) ⟨e.bytes,0,D⟩])[S.length+1]? =J (fY (S.length+1) ⟨e.bytes,0,D⟩):=by simp
 have u:=Ki hg R0;have R1:=R0.go1;have aq8:∀r,(S++[de.M a [] O]++[fY (S.length+1) ⟨e.bytes,0,D⟩]).set (S.length+1) (fY (S.length+1) r)=S++[de.M a [] O,fY (S.length+1) r]:=λr=>by simp
 rw[aq8]at u;have ef:dk a [(0,1,.I Y e.ak)]=J (m5 e.ak Dy .aw aU aE Dy EO):=by rw[<-hZ];exact ahU _
 have zp:dJ (m5 e.ak Dy .aw aU aE Dy EO)=G:=LQ rfl rfl rfl rfl rfl rfl;have q:∀r,ba [] S.length (S++[.M a [] O,fY (S.length+1) r,.M a [] O]) 160 (.P (S.length+2) 0) (.A (m5 e.ak Dy .aw aU aE Dy EO))=J ([],Fs S a r (m5 e.ak Dy .aw aU aE Dy EO) []):=λr=>by rw[PW (S:=S) rfl zp];simp only[Tn,XW];rw[if_pos ⟨tZ rfl rfl rfl rfl rfl,by omega⟩,dX (by rw[tZ rfl rfl rfl rfl rfl,Zl])];rfl
 have kk:((cw e.ak.toNat).toNat:Int)=e.ak:=by rw[qE];omega
 rw[kk]at u;have wk:dh Y e.ak=e.ak:=cF V;have l0:∀r,aX (Fs S a r (m5 e.ak Dy .aw aU aE Dy EO) []) .C (.P (S.length+2) 0)=J (.I Y e.ak):=λr=>Vl ..;have w:=Ow d (xI S a _ (m5 e.ak Dy .aw aU aE Dy EO) []) R1;rw[Bx]at w;have s2:∀r b,ba b S.length (Fs S a r (m5 e.ak Dy .aw aU aE Dy EO) []) 32 (.P (S.length+2) 1) (.A (R e.aZ))=J (b,Fs S a r (m5 e.ak (R e.aZ) .aw aU aE Dy EO) []):=λr b=>Qg (lj (aF e.aZ)) 1 32 (by simp_all) (by rw[tZ rfl rfl rfl rfl rfl];omega) (ass rfl (by simp_all)) b;have R2:=R1.go;rw[d]at R2;have x:=aaZ e.aN A.aN h4 hri (xI S a _ (m5 e.ak (R e.aZ) .aw aU aE Dy EO) []) R2;rw[Bx]at x;have P:r_ (((((⟨e.bytes,0,D⟩:Rd).go 1).go 32).go ((cJ e.aN.length).length+e.aN.flatten.length))) (e.part++(e.gg++(e.je++[]))):=by
  have:=R2.go.go
  grind [Rd.go]
 have⟨v3,t3,t4,p1,p⟩:=ahY (sz:=32) (o:=33) (xD e.aN) [] [] (GF S a (((⟨e.bytes,0,D⟩:Rd).go 1).go 32|>.go ((cJ e.aN.length).length+e.aN.flatten.length)) (m5 e.ak (R e.aZ) .aw aU aE Dy EO) []) (by simp_all[tZ]) (LO _) S.length V;rw[Kh,am_ (by simp[d])]at p;generalize hbt:(if xD e.aN=[]then([]:bV)else[]++[J (xD e.aN).length])=bt at p;have hl0:([]:bV).length=0:=rfl;rw[hl0]at p;generalize RZ:bO (S.length+2) 0 32 (xD e.aN)=row at*;have hrs:aV row=fc 32 (xD e.aN):=by rw[<-RZ];exact sw ..
 have q1:=p8 (sz:=32) (LO e.aN);have m:∀r k,aX (Fs S a r (m5 k (R e.aZ) row aU aE Dy EO) bt) .C (.P (S.length+2) 0)=J (.I Y k):=λr k=>Vl ..;have fl:((cE e.je).take 64).flatten=R e.je:=by simp_all[oL,GD]
 rcases hk with⟨k,hr,hz⟩|⟨k,hr,hz⟩
 ·
   have ep:e.part=zy e.op:=by unfold bd.part;grind
   rw[ep]at P;have y:=ax4 e.op he.op hr (xI S a ((((⟨e.bytes,0,D⟩:Rd).go 1).go 32).go ((cJ e.aN.length).length+e.aN.flatten.length)) (m5 1 (R e.aZ) row aU aE Dy EO) bt) P;simp only[Bx]at y;have T:=P.go;have s4:∀r b,ba b S.length (Fs S a r (m5 1 (R e.aZ) row aU aE Dy EO) bt) 10 (.P (S.length+2) 34) (.A e.op.aq)=J (b,Fs S a r (m5 1 (R e.aZ) row e.op.aq aE Dy EO) bt):=λr b=>Qg (lj (tu.jh e.op)) 34 10 ca (by simp_all[tZ]) (ana (by simp[d]) rfl ca) b;have n:=λr(h:r_ r (e.gg++(e.je++[])))=>Ow l (xI S a r (m5 1 (R e.aZ) row e.op.aq aE Dy EO) bt) h;simp only[Bx]at n;have n:=n _ T;have s5:∀r b,ba b S.length (Fs S a r (m5 1 (R e.aZ) row e.op.aq aE Dy EO) bt) 32 (.P (S.length+2) 64) (.A (R e.gg))=J (b,Fs S a r (m5 1 (R e.aZ) row e.op.aq aE (R e.gg) EO) bt):=λr b=>Qg (lj (aF e.gg)) 64 32 (by simp_all) (by simp_all[tZ]) (acZ (by simp[d]) ca rfl rfl (by simp_all)) b;have v:=T.go;rw[l]at v;have E:=aaY (xI S a _ (m5 1 (R e.aZ) row e.op.aq aE (R e.gg) EO) bt) 64 g V v;rw[Bx,g,Vk sn]at E;have R7:=v.go;rw[g]at R7;have cp:∀r,uX S.length (Fs S a r (m5 1 (R e.aZ) row e.op.aq aE (R e.gg) EO) bt) 1 (.cg (S.length+2) 96 64 64 1) (.sl .N 1 (cE e.je))=J (.I Y 64,Fs S a r (m5 1 (R e.aZ) row e.op.aq aE (R e.gg) (R e.je)) bt):=λr=>by simp_all[uX,bZ,B8,GF,tZ,Kh,ac0]
   have f:=ahX (xI S a _ (m5 1 (R e.aZ) row e.op.aq aE (R e.gg) (R e.je)) bt) R7;have I:aE.map eE=e.eD.aq:=by have e1:=qc.1 hz;rw[e1];rfl
   have CL:(m5 1 (R e.aZ) (fc 32 (xD e.aN)) e.op.aq aE (R e.gg) (R e.je)).length=160:=tZ (by simp[d]) ca rfl (by simp[l]) (by simp[g]);have WK:∀j,aV j=fc 32 (xD e.aN)->(m5 1 (R e.aZ) j e.op.aq aE (R e.gg) (R e.je)).map aV=(m5 1 (R e.aZ) (fc 32 (xD e.aN)) e.op.aq aE (R e.gg) (R e.je)):=λj h=>by rw[Ox aV (λ_=>rfl),h,(aF e.aZ).jg,(aF e.gg).jg,(aF e.je).jg,show e.op.aq.map aV=e.op.aq from(tu.jh e.op).jg,show aE.map aV=aE from rfl]
   have lA:∀r,aX (Fs S a r (m5 1 (R e.aZ) row e.op.aq aE (R e.gg) (R e.je)) bt) (.A 160) (.P (S.length+2) 0)=J (.A (m5 1 (R e.aZ) (fc 32 (xD e.aN)) e.op.aq aE (R e.gg) (R e.je))):=λr=>by grind [Vl,fW]
   have sZ:=λr b=>ahW (S:=S) (z:=a) (r:=r) (c:=(m5 1 (R e.aZ) row e.op.aq aE (R e.gg) (R e.je))) (bt:=bt) (C:=(m5 1 (R e.aZ) (fc 32 (xD e.aN)) e.op.aq aE (R e.gg) (R e.je))) (LQ (aF _).br q1.2 (tu.jh e.op).br rfl (aF _).br (aF _).br) Zl CL b;have lZ:∀r,aX (Fs S (m5 1 (R e.aZ) (fc 32 (xD e.aN)) e.op.aq aE (R e.gg) (R e.je)) r (m5 1 (R e.aZ) row e.op.aq aE (R e.gg) (R e.je)) bt) (.A 160) (.P S.length 0)=J (.A (m5 1 (R e.aZ) (fc 32 (xD e.aN)) e.op.aq aE (R e.gg) (R e.je))):=λr=>by grind [ac1,fW]
   have hn:cj (.A (m5 1 (R e.aZ) (fc 32 (xD e.aN)) e.op.aq aE (R e.gg) (R e.je)))=.A e.aq:=by show AV.A ((m5 1 (R e.aZ) (fc 32 (xD e.aN)) e.op.aq aE (R e.gg) (R e.je)).map eE)=_;rw[Ox eE (λ_=>rfl),(aF e.aZ).xi,(aF e.gg).xi,(aF e.je).xi,sx,show e.op.aq.map eE=e.op.aq from(tu.jh e.op).xi,show aE.map eE=e.eD.aq from I];unfold bd.aq;rw[k];rfl
   have rs:∀r b,dv 19 b [.A (m5 1 (R e.aZ) (fc 32 (xD e.aN)) e.op.aq aE (R e.gg) (R e.je)),.dj] S (Fs S (m5 1 (R e.aZ) (fc 32 (xD e.aN)) e.op.aq aE (R e.gg) (R e.je)) r (m5 1 (R e.aZ) row e.op.aq aE (R e.gg) (R e.je)) bt)=J (.cV [.A e.aq,.dj],S):=λr b=>by have gb:∀t,bm t .dj=(.dj,t):=λ_=>rfl;have ga:bm b (.A e.aq)=(.A e.aq,b):=rfl;have n2:cj .dj=.dj:=rfl;simp[uY,hn,n2,ga,gb,cI,Yi,aG,br,(bd.jh e).br]
   have zI:∀i:Nat,dh Y (64:Int)=64:=λ_=>rfl;have m:=λr=>m r 1;rw[jC ax5];rw[k]at u wk ef q l0 w s2 x p;generalize hC0:m5 1 Dy .aw aU aE Dy EO=C0,hC1:m5 1 (R e.aZ) .aw aU aE Dy EO=C1,hC2:m5 1 (R e.aZ) row aU aE Dy EO=C2,hC3:m5 1 (R e.aZ) row e.op.aq aE Dy EO=C3,hC4:m5 1 (R e.aZ) row e.op.aq aE (R e.gg) EO=C4,hC5:(m5 1 (R e.aZ) row e.op.aq aE (R e.gg) (R e.je))=C5,hC6:(m5 1 (R e.aZ) (fc 32 (xD e.aN)) e.op.aq aE (R e.gg) (R e.je))=C6 at*;have tn:∀b,aY b (.sl .N 1 (cE e.je))=(.sl .N 1 (cE e.je),b):=λ_=>rfl;have tq:∀b i o,aY b (.P i o)=(.P i o,b):=λ_ _ _=>rfl;have b0:ec .neq (.kv fV) G .dj .dj=J (.B O):=rfl;simp[-List.length_flatten]at c0 u w x y n E f p;simp[lb,FJ,hZ,tq,c0,u,wk,ef,q,l0,w,s2,x,p1,p,m,y,s4,n,s5,qq,E,tn,cp,f,b0,lA,sZ,lZ,rs, -List.length_flatten]
 ·
   have ep:e.part=e.eD.bytes:=by simp_all[bd.part]
   rw[ep]at P;have y:=Yk e.eD he.eD hr (xI S a ((((⟨e.bytes,0,D⟩:Rd).go 1).go 32).go ((cJ e.aN.length).length+e.aN.flatten.length)) (m5 2 (R e.aZ) row aU aE Dy EO) bt) P;simp only[Bx]at y;have T:=P.go;have s4:∀r b,ba b S.length (Fs S a r (m5 2 (R e.aZ) row aU aE Dy EO) bt) 20 (.P (S.length+2) 44) (.A e.eD.aq)=J (b,Fs S a r (m5 2 (R e.aZ) row aU e.eD.aq Dy EO) bt):=λr b=>Qg (lj (bU.jh e.eD)) 44 20 ca (by simp_all[tZ]) (anb (by simp[d]) rfl rfl ca) b;have n:=λr(h:r_ r (e.gg++(e.je++[])))=>Ow l (xI S a r (m5 2 (R e.aZ) row aU e.eD.aq Dy EO) bt) h;simp only[Bx]at n;have n:=n _ T;have s5:∀r b,ba b S.length (Fs S a r (m5 2 (R e.aZ) row aU e.eD.aq Dy EO) bt) 32 (.P (S.length+2) 64) (.A (R e.gg))=J (b,Fs S a r (m5 2 (R e.aZ) row aU e.eD.aq (R e.gg) EO) bt):=λr b=>Qg (lj (aF e.gg)) 64 32 (by simp_all) (by simp_all[tZ]) (acZ (by simp[d]) rfl ca rfl (by simp_all)) b;have v:=T.go;rw[l]at v;have E:=aaY (xI S a _ (m5 2 (R e.aZ) row aU e.eD.aq (R e.gg) EO) bt) 64 g V v;rw[Bx,g,Vk sn]at E;have R7:=v.go;rw[g]at R7;have cp:∀r,uX S.length (Fs S a r (m5 2 (R e.aZ) row aU e.eD.aq (R e.gg) EO) bt) 1 (.cg (S.length+2) 96 64 64 1) (.sl .N 1 (cE e.je))=J (.I Y 64,Fs S a r (m5 2 (R e.aZ) row aU e.eD.aq (R e.gg) (R e.je)) bt):=λr=>by simp_all[uX,bZ,B8,GF,tZ,Kh,ac0]
   have f:=ahX (xI S a _ (m5 2 (R e.aZ) row aU e.eD.aq (R e.gg) (R e.je)) bt) R7;have I:aU.map eE=e.op.aq:=by have e1:=qc.1 hz;rw[e1];rfl
   have CL:(m5 2 (R e.aZ) (fc 32 (xD e.aN)) aU e.eD.aq (R e.gg) (R e.je)).length=160:=tZ (by simp[d]) rfl ca (by simp[l]) (by simp[g]);have WK:∀j,aV j=fc 32 (xD e.aN)->(m5 2 (R e.aZ) j aU e.eD.aq (R e.gg) (R e.je)).map aV=(m5 2 (R e.aZ) (fc 32 (xD e.aN)) aU e.eD.aq (R e.gg) (R e.je)):=λj h=>by rw[Ox aV (λ_=>rfl),h,(aF e.aZ).jg,(aF e.gg).jg,(aF e.je).jg,show aU.map aV=aU from rfl,show e.eD.aq.map aV=e.eD.aq from(bU.jh e.eD).jg]
   have lA:∀r,aX (Fs S a r (m5 2 (R e.aZ) row aU e.eD.aq (R e.gg) (R e.je)) bt) (.A 160) (.P (S.length+2) 0)=J (.A (m5 2 (R e.aZ) (fc 32 (xD e.aN)) aU e.eD.aq (R e.gg) (R e.je))):=λr=>by grind [Vl,fW]
   have sZ:=λr b=>ahW (S:=S) (z:=a) (r:=r) (c:=(m5 2 (R e.aZ) row aU e.eD.aq (R e.gg) (R e.je))) (bt:=bt) (C:=(m5 2 (R e.aZ) (fc 32 (xD e.aN)) aU e.eD.aq (R e.gg) (R e.je))) (LQ (aF _).br q1.2 rfl (bU.jh e.eD).br (aF _).br (aF _).br) Zl CL b;have lZ:∀r,aX (Fs S (m5 2 (R e.aZ) (fc 32 (xD e.aN)) aU e.eD.aq (R e.gg) (R e.je)) r (m5 2 (R e.aZ) row aU e.eD.aq (R e.gg) (R e.je)) bt) (.A 160) (.P S.length 0)=J (.A (m5 2 (R e.aZ) (fc 32 (xD e.aN)) aU e.eD.aq (R e.gg) (R e.je))):=λr=>by grind [ac1,fW]
   have hn:cj (.A (m5 2 (R e.aZ) (fc 32 (xD e.aN)) aU e.eD.aq (R e.gg) (R e.je)))=.A e.aq:=by show AV.A ((m5 2 (R e.aZ) (fc 32 (xD e.aN)) aU e.eD.aq (R e.gg) (R e.je)).map eE)=_;rw[Ox eE (λ_=>rfl),(aF e.aZ).xi,(aF e.gg).xi,(aF e.je).xi,sx,show aU.map eE=e.op.aq from I,show e.eD.aq.map eE=e.eD.aq from(bU.jh e.eD).xi];unfold bd.aq;rw[k];rfl
   have rs:∀r b,dv 19 b [.A (m5 2 (R e.aZ) (fc 32 (xD e.aN)) aU e.eD.aq (R e.gg) (R e.je)),.dj] S (Fs S (m5 2 (R e.aZ) (fc 32 (xD e.aN)) aU e.eD.aq (R e.gg) (R e.je)) r (m5 2 (R e.aZ) row aU e.eD.aq (R e.gg) (R e.je)) bt)=J (.cV [.A e.aq,.dj],S):=λr b=>by have gb:∀t,bm t .dj=(.dj,t):=λ_=>rfl;have ga:bm b (.A e.aq)=(.A e.aq,b):=rfl;have n2:cj .dj=.dj:=rfl;simp[uY,hn,n2,ga,gb,cI,Yi,aG,br,(bd.jh e).br]
   have zI:∀i:Nat,dh Y (64:Int)=64:=λ_=>rfl;have m:=λr=>m r 2;rw[jC ax5];rw[k]at u wk ef q l0 w s2 x p;generalize hC0:m5 2 Dy .aw aU aE Dy EO=C0,hC1:m5 2 (R e.aZ) .aw aU aE Dy EO=C1,hC2:m5 2 (R e.aZ) row aU aE Dy EO=C2,hC3:m5 2 (R e.aZ) row aU e.eD.aq Dy EO=C3,hC4:m5 2 (R e.aZ) row aU e.eD.aq (R e.gg) EO=C4,hC5:(m5 2 (R e.aZ) row aU e.eD.aq (R e.gg) (R e.je))=C5,hC6:(m5 2 (R e.aZ) (fc 32 (xD e.aN)) aU e.eD.aq (R e.gg) (R e.je))=C6 at*;have tn:∀b,aY b (.sl .N 1 (cE e.je))=(.sl .N 1 (cE e.je),b):=λ_=>rfl;have tq:∀b i o,aY b (.P i o)=(.P i o,b):=λ_ _ _=>rfl;have b0:ec .neq (.kv fV) G .dj .dj=J (.B O):=rfl;simp[-List.length_flatten]at c0 u w x y n E f p;simp[lb,FJ,hZ,tq,c0,u,wk,ef,q,l0,w,s2,x,p1,p,m,y,s4,n,s5,qq,E,tn,cp,f,b0,lA,sZ,lZ,rs, -List.length_flatten]
end
def ac3(t:bV)(s:X)(e:Q)(a:∀t,dx t e=(e,t)):aY t (.cV [.sl .gF 1 (cE s),e])=(.cV [.sl (.fr t.length) 1 (cE s),e],t++[J s.length]):=by show(match dx (t++[J (cE s).length]) e with|(v',t')=>((.cV [.sl (.fr t.length) 1 (cE s),v']:Q),t'))=_;simp_all
noncomputable def bd.HS(e:bd):Bool:=(e.cM&&ck (e.bytes.length<=4096))&&aa3 e.gg e.je e.dH
def bd.ac4{e:bd}(b:e.Wf)(f:e.cM=G):e.dH.length<=1000000000:=by
 have A:=b.toOk;have a:=f;unfold bd.cM at a;simp at a;obtain⟨⟨g,_⟩,d⟩:=a;have c:(cJ e.aN.length).length=1:=by grind [cJ]
 have i:e.part.length<=149000500:=by
  rcases d with⟨k,h,_⟩|⟨k,h,_⟩
  ·have:=Vo b.op h
   unfold bd.part
   grind
  ·have:=bU.tF 5 e.eD b.eD h
   grind [bd.part]
 unfold bd.dH;simp only[CJ,AK,A.aZ,A.gg,c,LN A];omega
def GG(e:bd)(g:e.Wf)(S:Z):W N C 11 [.A e.aq] S=J (.B e.HS,S):=by
 have A:=g.toOk;have o:=λT=>RY e g T;unfold bd.HS;rw[jC aFB];cases h:(e.cM&&ck (e.bytes.length<=4096))with
 |false=>
  simp_all[bT]
 |true=>
  rw[h]at o;simp only[mz,decide_eq_true_eq]at h;have⟨x,E⟩:=h;have z:=bd.Av A;have⟨y,w,n,b⟩:=DT e g x (S++[.M e.aq [] O]);have v:=b V;rw[v]at n w;have r:=ac3 [] e.dH (.B (ck (e.dH.length+64<=4096))) (λ_=>rfl);rw[List.length_nil,Br]at r;have m:fh 1 (fg 1 [AV.aw]) [(0,.sl (.fr 0) 1 (cE e.dH))]=J [[.sl .N 1 (cE e.dH)]]:=rfl;have u:AV.sl .N 1 [[.sl .N 1 (cE e.dH)]]=pQ [(dw e.dH,e.dH)]:=by rfl
  have s:=R6 e.gg e.je A.gg A.je [(dw e.dH,e.dH)] (S++[.M e.aq [] O]) (λp I=>by grind [Nj]) ca (by simp[cx];omega);rw[<-u,show cx [(dw e.dH,e.dH)]=e.dH from by simp[cx]]at s;have c:∀T,bG T (.sl .X 1 [[.sl .N 1 (cE e.dH)]])=J (.sl .X 1 [[.sl .N 1 (cE e.dH)]]):=λ_=>rfl;have i:∀T,bK T (.sl .X 1 [[.sl .N 1 (cE e.dH)]])=T:=λ_=>rfl;have k:∀T l,bh T l (.sl .X 1 [[.sl .N 1 (cE e.dH)]])=l:=λ_ _=>rfl;have j:dT (.sl .X 1 [[.sl .N 1 (cE e.dH)]])=.sl .N 1 [[.sl .N 1 (cE e.dH)]]:=rfl;have d:cU (R e.gg):=aF _;have f:cU (R e.je):=aF _;try simp at m
  generalize aa3 e.gg e.je e.dH=t,ck (e.dH.length+64<=4096)=q,cE e.dH=a at*;simp-implicitDefEqProofs [A,o,bT,n,r,bF,d,f,m,c,i,k,j,cQ,b_,s, -B]
end Go.Proofs.YtefopednbffpaaaGreatDoor.am
