/- Parts. No condition. -/
import Derived.Scope
import Derived.Test.YtampclodiifalaaGreatDoorQB
set_option linter.all false
namespace Go.Proofs.YtampclodiifalaaGreatDoor.am
open Go Go.RowKit
section
section
variable{P:Program}{base:Nat}{bc:Nat->Prop}{aa aG:List (Option Nat)}{S S1:St}{w w':World}{mu nG:Nat->Option Nat}{hw pd:Nat->Nat}{ti JD:Id->TI}{n0:Nat}
theorem ac0(I:Inv base bc aa S w mu hw ti):Sy (fun i=>∃b,mu i=some b) S.length (fun _=>true) S:=by intro i cs bt l hi ⟨b,hb⟩ hS;obtain⟨vs,el,p,q⟩:=I.qU i _ b hS hb;rw[tF];intro x hx;obtain⟨j,hj⟩:=zV hx;obtain⟨_,y,_,hr⟩:=q.2 j x hj;exact hr.amF (fun i b h=>(I.iX i b h).1) fun _ _ _ _=>rfl
theorem ac1{CB tr:List (Option Nat)}{ks:List Nat}{asj:List (Option Nat)}(I1:Inv base bc CB S1 w' nG pd JD)(lv:g9 (ba [] S mu) ti (ba CB S1 nG) JD)(T:KW CB asj tr ks):
 Inv base bc tr S1 w' nG pd (xC JD ks)/\g9 (ba [] S mu) ti (ba tr S1 nG) (xC JD ks):=by
 have kind:∀id L,ba tr S1 nG id=some (some L)->∃mo,ba CB S1 nG mo=some (some L)/\xC JD ks id=JD mo/\((∃i j,id=.bx i j/\mo=.bx i j)\/∃m k,id=.fr m/\mo=.fr k/\ks[m]? =some k):=by
  intro id L h;cases id with
  |fr m=>
   obtain⟨k,a,b,_⟩:=T.from_ m L h;exact⟨.fr k,b,by simp[xC,a],.inr ⟨m,k,rfl,rfl,a⟩⟩
  |bx i j=>exact⟨.bx i j,h,rfl,.inl ⟨i,j,rfl,rfl⟩⟩
 refine⟨⟨I1.qU,fun i cells bt l b h1 h2 vs el h3 j x y hx hy=>?_,I1.vZ,I1.iX,I1.zj,fun id L Fk=>?_,fun id mo L L' h1 h2 hb=>?_,I1.lJ,I1.mP,I1.AW⟩,fun id o ho=>?_⟩
 ·obtain⟨p,q⟩:=I1.qL i cells bt l b h1 h2 vs el h3 j x y hx hy
  refine⟨p, ?_⟩;cases x with
  |sl rr sz es=>
   cases rr with
   |fr n=>simp[Hb]at p
   |fresh=>simp[Hb]at p
   |bx i' j'=>exact q
   |_=>exact q
  |cT vs=>exact q
  |_=>trivial
 ·obtain⟨mo,h1,h2,_⟩:=kind id L Fk
  rw[h2];exact I1.v8 mo L h1
 ·obtain⟨i1,a1,a2,a3⟩:=kind id L h1
  obtain⟨i2,b1,b2,b3⟩:=kind mo L' h2;rw[a2,b2]at hb;have:=I1.oQ i1 i2 L L' a1 b1 hb;subst this;rcases a3 with⟨i,j,rfl,rfl⟩|⟨m,k,rfl,rfl,hk⟩<;>rcases b3 with⟨i',j',rfl,h⟩|⟨m',k',rfl,h,KS⟩;·cases h;rfl
  ·cases h
  ·cases h
  ·cases h
   rw[T.inj m m' k hk KS]
 ·cases id with
  |fr n=>simp[ba]at ho
  |bx i j=>exact lv _ o ho
noncomputable def settle(w:World)(n:Nat)(mu:Nat->Option Nat)(hw:Nat->Nat)(b:Nat):Nat:=
 open Classical in if∃i,n<=i/\mu i=some b then(match w.heap[b]? with|some (.cells vs _ _)=>vs.size|_=>0)else hw b
theorem CC{n b:Nat}(h:∀i,n<=i->mu i≠some b):settle w n mu hw b=hw b:=by unfold settle;rw[if_neg];rintro⟨i,a,c⟩;exact h i a c
theorem S5{n b i:Nat}{vs:Array Value}{el:TypeId}{fr:Nat × Nat}(h:n<=i)(hm:mu i=some b)(hb:w.heap[b]? =some (.cells vs el fr)):settle w n mu hw b=vs.size:=by unfold settle;rw[if_pos ⟨i,h,hm⟩,hb]
theorem JH{n b:Nat}(I:Inv base bc aa S w mu hw ti):hw b<=settle w n mu hw b:=by
 by_cases h:∃i,n<=i/\mu i=some b
 ·obtain⟨i,_,hm⟩:=h
  rw[(I.iX i b hm).2.2.2.1];exact sU _
 ·rw[CC fun i a c=>h ⟨i,a,c⟩]
  exact eJ _
theorem ahO{tr:List (Option Nat)}(I:Inv base bc [] S w mu hw ti)(I1:Inv base bc tr S1 w' nG pd JD)(e:Ext base bc S w mu hw S1 w' nG pd)
 (lv:g9 (ba [] S mu) ti (ba tr S1 nG) JD) (hole:∀i,mu i=none->i<S.length->S1[i]? =S[i]?/\nG i=none) (K:eK S.length S S1):
 Inv base bc tr (S1.take S.length) w' mu (settle w' S.length nG pd) JD/\Ext base bc S w mu hw (S1.take S.length) w' mu (settle w' S.length nG pd)/\g9 (ba [] S mu) ti (ba tr (S1.take S.length) mu) JD/\
  (∀r v,lt S.length (fun _=>true) r=true->RV w' nG pd (fO S1 nG) r v->RV w' mu (settle w' S.length nG pd) (fO (S1.take S.length) mu) r v)/\
  (∀id,(∀i j,id=.bx i j->i<S.length)->ba tr (S1.take S.length) mu id=ba tr S1 nG id)/\∀i,mu i=none->i<S.length->(S1.take S.length)[i]? =S[i]? :=by
 have Bd:∀i b,i<S.length->nG i=some b->mu i=some b:=by
  intro i b hi h;cases hm:mu i with
  |none=>rw[(hole i hm hi).2]at h;cases h
  |some b'=>rw[e.X0 i b' hm]at h;exact h
 have aws:∀i,i<S.length->mu i=nG i:=by
  intro i hi;cases hm:mu i with
  |none=>exact(hole i hm hi).2.symm
  |some b'=>exact(e.X0 i b' hm).symm
 have Hp:∀(i:Nat),i<S.length->(S1.take S.length)[i]? =S1[i]? :=fun i hi=>WH hi;have LC:∀(i:Nat)(bx:cF),(S1.take S.length)[i]? =some bx->i<S.length/\S1[i]? =some bx:=by
  intro i bx h;have hi:i<S.length:=by have:=bQ h;simp at this;omega
  exact⟨hi,by rw[<-Hp i hi];exact h⟩
 have KN:∀i b,i<S.length->nG i=some b->fO S1 nG b->fO (S1.take S.length) mu b:=by rintro i b hi hm ⟨i',cs,bt,h1,h2⟩;have:=I1.vZ i' i b h2 hm;subst this;exact⟨i',cs,bt,by rw[Hp i' hi];exact h1,Bd i' b hi hm⟩
 have uE:=K.uE (fun i=>∃b,mu i=some b) S.length (fun _=>true) (eJ _) (ac0 I);have G2:∀b o,o<pd b->o<settle w' S.length nG pd b:=fun b o h=>Bg h (JH I1)
 have WG:∀x y,lt S.length (fun _=>true) x=true->RV w' nG pd (fO S1 nG) x y->RV w' mu (settle w' S.length nG pd) (fO (S1.take S.length) mu) x y:=
  fun x y hl h=>(h.restrict Bd (fun i b hi _ hm hb=>KN i b hi hm hb) hl).mono (fun _ _ h=>h) G2 (fun _ h=>h) (fun _ _ _ _ h=>h)
 have qO:∀id,(∀i j,id=.bx i j->i<S.length)->ba tr (S1.take S.length) mu id=ba tr S1 nG id:=by
  intro id Fk;cases id with
  |fr n=>rfl
  |bx i j=>
   have hi:=Fk i j rfl;simp only[ba,aws i hi,Hp i hi]
 have PZ:∀t i j L,ba t (S1.take S.length) mu (.bx i j)=some (some L)->i<S.length:=by
  intro t i j L h;cases hm:mu i with
  |none=>simp[ba,hm]at h
  |some b=>exact(I.iX i b hm).1
 have up:∀id L,ba tr (S1.take S.length) mu id=some (some L)->ba tr S1 nG id=some (some L):=by intro id L h;rw[<-h];refine(qO id fun i j e=>?_).symm;subst e;exact PZ tr i j L h
 have anY:∀i b,i<S.length->nG i=some b->settle w' S.length nG pd b=pd b:=by intro i b hi hm;refine CC fun i' h DP=>?_;have:=I1.vZ i i' b hm DP;omega
 refine⟨⟨fun i bx b h1 h2=>?_,fun i cells bt l b h1 h2 vs el h3 j x y hx hy=>?_,I.vZ,fun i b hi=>?_,fun b hb=>?_,fun id L Fk=>?_,fun id mo L L' h1 h2 hb=>I1.oQ id mo L L' (up _ _ h1) (up _ _ h2) hb,I1.lJ,I1.mP,I1.AW.mono (fun b=>JH I1) (fun _ _ _ _ h=>h)⟩, ?_, ?_,WG,qO,fun i hi hl=>?_⟩
 ·obtain⟨hi,hS⟩:=LC i bx h1
  have:=I1.qU i bx b hS (e.X0 i b h2);cases bx with
  |mem cs bt l=>
   obtain⟨vs,el,p,q⟩:=this;exact⟨vs,el,p,q.1,fun j x hj=>by obtain⟨a,y,c,d⟩:=q.2 j x hj;exact⟨a,y,c,WG x y (qy (uE i cs bt l hi ⟨b,h2⟩ hS) hj) d⟩⟩
  |iter s pos=>exact this
 ·obtain⟨hi,hS⟩:=LC i _ h1
  obtain⟨p,q⟩:=I1.qL i cells bt l b hS (e.X0 i b h2) vs el h3 j x y hx hy;have hxl:=qy (uE i cells bt l hi ⟨b,h2⟩ hS) hx;refine⟨p, ?_⟩;cases x with
  |sl rr sz es=>
   cases rr with
   |fr n=>simp[Hb]at p
   |fresh=>simp[Hb]at p
   |bx i' j'=>
    obtain⟨o,a,b⟩:=q;have MP:i'<S.length:=by simp only[lt,JW,dk,decide_eq_true_eq]at hxl;exact hxl.1
    exact⟨o,by rw[qO _ fun i0 j0 e0=>by cases e0;exact MP];exact a,b⟩
   |_=>exact q
  |cT vs=>exact q
  |_=>trivial
 ·obtain⟨a,b',c,d,f⟩:=I1.iX i b (e.X0 i b hi)
  have hi2:=(I.iX i b hi).1;exact⟨by simp;omega,b',c,by rw[anY i b hi2 (e.X0 i b hi)];exact d,f⟩
 ·rw[CC fun i _ hm=>by have:=(I1.iX i b hm).2.2.1;omega]
  exact I1.zj b hb
 ·obtain⟨a,b,c⟩:=I1.v8 id L (up id L Fk)
  exact⟨a.aN (CC fun i _=>c i) rfl,b,fun i hi=>c i (e.X0 i _ hi)⟩
 ·refine⟨fun _ _ h=>h,fun b=>yq (e.ehw b) (JH I1),fun b hb=>?_,e.Sz,fun b hb=>⟨(e.ME b hb).1, ?_⟩,e.Ot,by have:=e.QJ;simp;omega⟩
  ·obtain⟨i,cs,bt,h1,h2⟩:=hb
   exact KN i b (I.iX i b h2).1 (e.X0 i b h2) (e.elk b ⟨i,cs,bt,h1,h2⟩)
  ·rw[CC fun i _ hm=>(I1.iX i b hm).2.2.2.2 hb]
   exact(e.ME b hb).2
 ·intro id o ho
  cases id with
  |fr n=>simp[ba]at ho
  |bx i j=>
   have hi:i<S.length:=by
    cases hm:mu i with
    |none=>simp[ba,hm]at ho
    |some b=>exact(I.iX i b hm).1
   obtain⟨o',h1,h2⟩:=lv _ o ho;exact⟨o',by rw[qO _ fun i' j' e0=>by cases e0;exact hi];exact h1,h2⟩
 ·rw[Hp i hl];exact(hole i hi hl).1
theorem ahQ{mu2:Nat->Option Nat}{zm:Nat->Nat}{lk lk2:Nat->Prop}(G2:∀b o,o<hw b->o<zm b){a:AV}{v:Value}(hp:aS a=true)(h:RV w mu hw lk a v):RV w mu2 zm lk2 a v:=by have h1:RV w mu2 hw lk2 a v:=h.restrict (m:=0) (q:=fun _=>false) (fun i b h=>by omega) (fun i b h=>by omega) (CD 0 _ a hp);exact h1.mono (fun _ _ h=>h) G2 (fun _ h=>h) (fun _ _ _ _ h=>h)
theorem pA{α β:Type}{f:α->Option β}{l:List α}{r:List β}(h:l.mapM f=some r):r.length=l.length/\∀(j:Nat)(y:β),r[j]? =some y->∃x,l[j]? =some x/\f x=some y:=Sw f l r h
theorem WU:∀{r:List AV},(∀x∈r,aS x=true)->ck r=true
 |[],_=>rfl
 |a::r,h=>by simp[ck,h a (by simp),WU (r:=r) fun x hx=>h x (by simp[hx])]
theorem S6:∀{r:List (List AV)},(∀x∈r,ck x=true)->ct r=true
 |[],_=>rfl
 |a::r,h=>by simp[ct,h a (by simp),S6 (r:=r) fun x hx=>h x (by simp[hx])]
theorem zJ:∀(d:Nat)(v v':AV),Oa S1 n0 d v=some v'->aS v'=true/\(nf v=true->nf v'=true):=by
 intro d;induction d with
 |zero=>intro v v' h;simp[Oa]at h
 |succ d ih=>
  intro v v' h;have cells:∀(l r:List AV),l.mapM (Oa S1 n0 d)=some r->ck r=true:=by
   intro l r h;obtain⟨_,h2⟩:=pA h;have:∀x∈r,aS x=true:=by intro x hx;obtain⟨j,hj⟩:=zV hx;obtain⟨y,_,hy⟩:=h2 j x hj;exact(ih y x hy).1
   exact WU this
  have rows:∀(es r:List (List AV)),(es.mapM fun(l:List AV)=>l.mapM (Oa S1 n0 d))=some r->ct r=true:=by
   intro es r h;obtain⟨_,h2⟩:=pA h;have:∀x∈r,ck x=true:=by intro x hx;obtain⟨j,hj⟩:=zV hx;obtain⟨y,_,hy⟩:=h2 j x hj;exact cells y x hy
   exact S6 this
  unfold Oa at h;split at h;·rename_i hp;simp at h;subst h;exact⟨hp,id⟩
  ·split at h
   ·split at h
    ·simp at h
    split at h
    ·simp only[cx]at h
     obtain⟨r,hr,rfl⟩:=h;exact⟨rows _ r hr,fun _=>rfl⟩
    ·simp at h
   ·split at h
    ·simp at h
    split at h
    ·simp only[cx]at h
     obtain⟨r,hr,rfl⟩:=h;refine⟨?_,fun _=>rfl⟩;rename_i cs _ _ _;refine cells (cs.map aB) r ?_;rw[<-hr,List.mapM_map];rfl
    ·simp at h
   ·simp only[cx]at h
    obtain⟨r,hr,rfl⟩:=h;exact⟨rows _ r hr,fun _=>rfl⟩
   ·simp only[cx]at h
    obtain⟨r,hr,rfl⟩:=h;exact⟨rows _ r hr,fun _=>rfl⟩
   ·simp only[cx]at h
    obtain⟨r,hr,rfl⟩:=h;exact⟨(ih _ _ hr).1,fun _=>rfl⟩
   ·simp only[cx]at h
    obtain⟨r,hr,rfl⟩:=h;exact⟨cells _ r hr,fun h=>by simp[nf]at h⟩
   ·simp at h
theorem aob{a:AV}(h:nf a=true):Oh a=true:=by cases a<;>first|rfl|exact h
set_option maxHeartbeats 1000000 in
theorem aoc{tr:List (Option Nat)}{mu2:Nat->Option Nat}{lk2:Nat->Prop}(I1:Inv base bc tr S1 w' nG pd JD):∀(d:Nat)(v v':AV)(x:Value),RV w' nG pd (fO S1 nG) v x->Oa S1 n0 d v=some v'->RV w' mu2 (settle w' n0 nG pd) lk2 v' x:=by
 have G2:∀b o,o<pd b->o<settle w' n0 nG pd b:=fun b o h=>Bg h (JH I1);intro d;induction d with
 |zero=>intro v v' x _ h;simp[Oa]at h
 |succ d ih=>
  intro v v' x hr h;have box:∀(i off len cap sz b:Nat)(es:List (List AV))(z:Nat),¬i<n0->nG i=some b->len<=cap->sz≠0->
   (match S1[i]? with
    |some (.mem cs _ _)=>if off+len*sz<=cs.length/\sz≠0 then some (sz,(List.range len).map fun k=>(sub cs (off+k*sz) sz).map aB)else none
    |_=>none)=some (z,es)->∀G8,(es.mapM fun(l:List AV)=>l.mapM (Oa S1 n0 d))=some G8->
   RV w' mu2 (settle w' n0 nG pd) lk2 (.sl .none sz G8) (.slice (some ⟨b,off,none⟩) len cap):=by
   intro i off len cap sz b es z hi hm h0 ky qM G8 S7;split at qM;case h_2=>simp at qM
   rename_i cs bt l hS;split at qM;case isFalse=>simp at qM
   rename_i hc;simp at qM;obtain⟨rfl,rfl⟩:=qM;obtain⟨vs,el,DB,Vu⟩:=I1.qU i _ b hS hm;have ahR:=S5 (n:=n0) (hw:=pd) (Oy hi) hm DB;obtain⟨l1,l2⟩:=pA S7;have get:∀(i':Nat)(c':List AV),G8[i']? =some c'->i'<len/\(((sub cs (off+i'*sz) sz).map aB).mapM (Oa S1 n0 d))=some c'/\off+i'*sz+sz<=cs.length:=by
    intro i' c' MP;obtain⟨c,Vp,hc2⟩:=l2 i' c' MP;have cV:i'<len:=by have:=bQ Vp;simpa using this
    simp[cV]at Vp;have:(i'+1)*sz<=len*sz:=uN sz cV;rw[zT]at this;exact⟨cV,Vp▸hc2,by omega⟩
   have elem:∀(i':Nat)(c:List AV)(j:Nat)(a:AV),G8[i']? =some c->c[j]? =some a->
    nf a=true/\off+i'*sz+j<settle w' n0 nG pd b/\w'.cell? ⟨b,off+i'*sz+j,none⟩=some (vs.getD (off+i'*sz+j) undef)/\RV w' mu2 (settle w' n0 nG pd) lk2 a (vs.getD (off+i'*sz+j) undef):=by
    intro i' c j a MP hj;obtain⟨g1,g2,g3⟩:=get i' c MP;obtain⟨k1,k2⟩:=pA g2;obtain⟨y,hy1,SR⟩:=k2 j a hj;obtain⟨p,u,hu,hru⟩:=(Vu.aho (off+i'*sz) sz g3).2 j y hy1;have hjl:j<sz:=by have:=bQ hy1;simp[sub]at this;omega
    have hu':vs[off+i'*sz+j]? =some u:=by
     rw[Cv]at hu;split at hu;·exact hu
     ·cases hu
    have eg:vs.getD (off+i'*sz+j) undef=u:=by simp[m_,hu']
    rw[eg];exact⟨(zJ d y a SR).2 p,by rw[ahR];exact nC hu',by rw[eM DB,hu'],ih y a u hru SR⟩
   refine .sl .none sz G8 b off len cap (fun i' j=>vs.getD (off+i'*sz+j) undef) ⟨by rw[l1];simp,h0,ky⟩ (by simp) (by simp) (by simp) (fun i' c MP=>?_) (fun i' c j a MP hj=>?_) (fun i' c j a MP hj=>(elem i' c j a MP hj).2.2.2)
   ·obtain⟨g1,g2,g3⟩:=get i' c MP
    rw[(pA g2).1];simp[sub];omega
   ·obtain⟨e1,e2,e3,_⟩:=elem i' c j a MP hj
    exact⟨e1,e2,e3⟩
  have slc:∀(r:jQ)(sz:Nat)(es G8:List (List AV)),(r=.none\/r=.exact)->RV w' nG pd (fO S1 nG) (.sl r sz es) x->(es.mapM fun(l:List AV)=>l.mapM (Oa S1 n0 d))=some G8->RV w' mu2 (settle w' n0 nG pd) lk2 (.sl .none sz G8) x:=by
   intro r sz es G8 hrr hr S7;obtain⟨l1,l2⟩:=pA S7;cases hr with
   |emp _ p cap=>
    obtain rfl:G8=[]:=by simpa using S7.symm
    exact .emp sz p cap
   |zg _ p=>
    obtain rfl:G8=[]:=by simpa using S7.symm
    exact .emp sz p 0
   |sl _ _ _ b o len cap f h0 hrx hb hl hs h1 h2=>
    refine .sl .none sz G8 b o len cap f ⟨by rw[l1];exact h0.1,h0.2⟩ (by simp) (by simp) (by simp) (fun i c hi=>?_) (fun i c j a hi hj=>?_) (fun i c j a hi hj=>?_)
    ·obtain⟨c0,Vp,hc2⟩:=l2 i c hi
     rw[(pA hc2).1];exact hs i c0 Vp
    ·obtain⟨c0,Vp,hc2⟩:=l2 i c hi
     obtain⟨y,hy1,SR⟩:=(pA hc2).2 j a hj;obtain⟨p,q,z⟩:=h1 i c0 j y Vp hy1;refine⟨(zJ d y a SR).2 p, ?_,z⟩;rcases hrr with rfl|rfl<;>exact G2 _ _ q
    ·obtain⟨c0,Vp,hc2⟩:=l2 i c hi
     obtain⟨y,hy1,SR⟩:=(pA hc2).2 j a hj;exact ih y a _ (h2 i c0 j y Vp hy1) SR
  unfold Oa at h;split at h;·rename_i hp;simp at h;subst h;exact ahQ G2 hp hr
  ·split at h
   ·rename_i i off len cap sz _
    split at h;·simp at h
    rename_i hi;split at h;case h_2=>simp at h
    rename_i z es qM;simp only[cx]at h;obtain⟨G8,S7,rfl⟩:=h;cases hr with
    |aref _ _ _ _ _ b hb h0=>exact box i off len cap sz b es z hi hb h0.1 h0.2 qM G8 S7
   ·rename_i i off _
    split at h;·simp at h
    rename_i hi;split at h;case h_2=>simp at h
    rename_i cs bt l hS;simp only[cx]at h;obtain⟨r_,aod,rfl⟩:=h;cases hr with
    |ptr _ _ b hb=>
     obtain⟨vs,el,DB,Vu⟩:=I1.qU i _ b hS hb;have ahR:=S5 (n:=n0) (hw:=pd) (Oy hi) hb DB;have elem:∀(j:Nat)(a:AV),r_[j]? =some a->nf a=true/\j<settle w' n0 nG pd b/\w'.cell? ⟨b,j,none⟩=some (vs.getD j undef)/\RV w' mu2 (settle w' n0 nG pd) lk2 a (vs.getD j undef):=by
      intro j a hj;obtain⟨y,hy1,SR⟩:=(pA aod).2 j a hj;obtain⟨p,u,hu,hru⟩:=Vu.2 j y hy1;have eg:vs.getD j undef=u:=by simp[m_,hu]
      rw[eg];exact⟨(zJ d _ a SR).2 p,by rw[ahR];exact nC hu,by rw[eM DB,hu],ih _ a u hru.aB SR⟩
     have:=RV.ec (w:=w') (mu:=mu2) (hw:=settle w' n0 nG pd) (lk:=lk2) .none r_ off b 0 (fun j=>vs.getD j undef) (.inl rfl) (fun j a hj=>by obtain⟨e1,e2,e3,_⟩:=elem j a hj;exact⟨e1,by simpa[ahS]using e2,by simpa using e3⟩) (fun j a hj=>(elem j a hj).2.2.2);simpa using this
   ·simp only[cx]at h
    obtain⟨G8,S7,rfl⟩:=h;exact slc .none _ _ _ (.inl rfl) hr S7
   ·simp only[cx]at h
    obtain⟨G8,S7,rfl⟩:=h;exact slc .exact _ _ _ (.inr rfl) hr S7
   ·rename_i t a _
    simp only[cx]at h;obtain⟨a',JY,rfl⟩:=h;cases hr with
    |iL _ _ y h1 h2=>
     refine .iL t a' y ?_ (ih a a' y h2 JY);cases a with
     |agg cs=>
      cases d with
      |zero=>simp[Oa]at JY
      |succ d=>
       unfold Oa at JY;split at JY;·simp at JY;subst JY;rfl
       ·simp only[cx]at JY
        obtain⟨_,_,rfl⟩:=JY;rfl
     |_=>
      exact aob ((zJ d _ a' JY).2 h1)
   ·rename_i cs _
    simp only[cx]at h;obtain⟨r_,aod,rfl⟩:=h;cases hr with
    |agg _ f h1 h2=>
     obtain⟨l1,l2⟩:=pA aod;rw[<-l1];refine .agg r_ f (fun j a hj=>?_) (fun j a hj=>?_)
     ·obtain⟨y,hy1,SR⟩:=l2 j a hj
      exact(zJ d y a SR).2 (h1 j y hy1)
     ·obtain⟨y,hy1,SR⟩:=l2 j a hj
      exact ih y a _ (h2 j y hy1) SR
   ·simp at h
theorem S8(aa:List (Option Nat))(x:AV)(h:bu x=true):bu (a9 aa x).1=true:=by
 cases x with
 |sl r sz es=>cases r<;>first|rfl|(simp only[a9];split<;>rfl)
 |cT vs=>simp[bu]at h
 |iC vs=>simp[bu]at h
 |_=>rfl
theorem S9(u:List (Option Nat))(x:AV)(h:bu x=true):bu (cA u x).1=true:=by
 cases x with
 |sl r sz es=>cases r<;>rfl
 |cT vs=>simp[bu]at h
 |iC vs=>simp[bu]at h
 |_=>rfl
theorem cU.of1{lv:aa3}{x:AV}{v:Value}(h:cX lv ti x v):cU lv ti x v:=by
 cases x with
 |cT vs=>exact h.elim
 |iC vs=>exact h.elim
 |sl r sz es=>exact h
 |_=>trivial
theorem cU.to1{lv:aa3}{x:AV}{v:Value}(h:cU lv ti x v)(hn:bu x=true):cX lv ti x v:=by
 cases x with
 |cT vs=>simp[bu]at hn
 |iC vs=>simp[bu]at hn
 |sl r sz es=>exact h
 |_=>trivial
end
end
mutual
theorem LJ:∀(a b:AV),nA a b=true->a=b
 |.undef,b,h=>by cases b<;>simp_all[nA]
 |.bool _,b,h=>by cases b<;>simp_all[nA]
 |.int _ _,b,h=>by cases b<;>simp_all[nA]
 |.str _,b,h=>by cases b<;>simp_all[nA]
 |.kF,b,h=>by cases b<;>simp_all[nA]
 |.ptr _ _,b,h=>by cases b<;>simp_all[nA]
 |.ec r cs o,b,h=>by cases b<;>simp[nA]at h;rename_i r' r_ o';obtain⟨⟨rfl,rfl⟩,h⟩:=h;rw[nh cs r_ h]
 |.ah,b,h=>by cases b<;>simp_all[nA]
 |.sl r sz es,b,h=>by cases b<;>simp[nA]at h;rename_i r' pj G8;obtain⟨⟨rfl,rfl⟩,h⟩:=h;rw[MM es G8 h]
 |.aref _ _ _ _ _,b,h=>by cases b<;>simp_all[nA]
 |.fn f x y,b,h=>by cases b<;>simp[nA]at h;rename_i f' x' y';obtain⟨⟨rfl,h1⟩,h2⟩:=h;rw[nh x x' h1,nh y y' h2]
 |.ly,b,h=>by cases b<;>simp_all[nA]
 |.iL t v,b,h=>by cases b<;>simp[nA]at h;rename_i t' v';obtain⟨rfl,h⟩:=h;rw[LJ v v' h]
 |.bP,b,h=>by cases b<;>simp_all[nA]
 |.agg cs,b,h=>by cases b<;>simp[nA]at h;rename_i r_;rw[nh cs r_ h]
 |.iC cs,b,h=>by cases b<;>simp[nA]at h;rename_i r_;rw[nh cs r_ h]
 |.cT cs,b,h=>by cases b<;>simp[nA]at h;rename_i r_;rw[nh cs r_ h]
theorem nh:∀(a b:List AV),Cq a b=true->a=b
 |[],b,h=>by cases b<;>simp_all[Cq]
 |x::r,b,h=>by cases b<;>simp[Cq]at h;rename_i y s;rw[LJ x y h.1,nh r s h.2]
theorem MM:∀(a b:List (List AV)),Lz a b=true->a=b
 |[],b,h=>by cases b<;>simp_all[Lz]
 |x::r,b,h=>by cases b<;>simp[Lz]at h;rename_i y s;rw[nh x y h.1,MM r s h.2]
end
theorem WR{ρ ρ':Operand->AV}{ps:Array (Nat × Operand)}(h:∀x∈ps.toList.map (·.2),ρ x=ρ' x):(ps.toList.map fun x=>(x.1,ρ x.2))=ps.toList.map fun x=>(x.1,ρ' x.2):=
 SO fun x hx=>by rw[h x.2 (List.mem_map_of_mem hx)]
theorem aar{ρ ρ':Operand->AV}{ps:Array Operand}(h:∀x∈ps,ρ x=ρ' x):ps.toList.map ρ=ps.toList.map ρ':=
 SO fun x hx=>h x (by simpa using hx)
theorem X_{P:Program}{ρ ρ':Operand->AV}{o:Op}(h:∀x∈o.operands,ρ x=ρ' x):cz P ρ o=cz P ρ' o:=by
 cases o with
 |move x=>simp[cz,h x (by simp[Op.operands])]
 |assign x=>simp[cz,h x (by simp[Op.operands])]
 |pick c a b=>simp only[cz,h c (by simp[Op.operands]),h a (by simp[Op.operands]),h b (by simp[Op.operands])]
 |build t ps=>simp only[cz,WR (ρ:=ρ) (ρ':=ρ') (ps:=ps) fun x hx=>h x (by simpa[Op.operands]using hx)]
 |nilCheck x=>simp only[cz,h x (by simp[Op.operands])]
 |binOp op t x y yt=>simp only[cz,h x (by simp[Op.operands]),h y (by simp[Op.operands])]
 |unOp op t x=>simp only[cz,h x (by simp[Op.operands])]
 |convert s d x=>simp only[cz,h x (by simp[Op.operands])]
 |makeInterface t x=>simp only[cz,h x (by simp[Op.operands])]
 |makeFunc fn first caps=>
  cases fn with
  |func f=>
   simp only[cz];have hs:∀(l:Array Operand),(∀x∈l,ρ x=ρ' x)->(l.toList.map fun x=>aB (ρ x))=l.toList.map fun x=>aB (ρ' x):=by intro l hl;exact SO fun x hx=>by rw[hl x (by simpa using hx)]
   rw[hs first fun x hx=>h x (by simp[Op.operands];exact .inl hx),hs caps fun x hx=>h x (by simp[Op.operands];exact .inr hx)]
  |_=>rfl
 |slice t x lo hi mx=>
  simp only[cz,h x (by simp[Op.operands])];have hm:∀(o:Option Operand),(∀y,o=some y->ρ y=ρ' y)->o.map ρ=o.map ρ':=by
   intro o ho;cases o with
   |none=>rfl
   |some y=>simp[ho y rfl]
  rw[hm lo fun y hy=>h y (by subst hy;simp[Op.operands]),hm hi fun y hy=>h y (by subst hy;simp[Op.operands]),hm mx fun y hy=>h y (by subst hy;simp[Op.operands])]
 |fieldAddr t x f=>simp only[cz,h x (by simp[Op.operands])]
 |field t x f=>simp only[cz,h x (by simp[Op.operands])]
 |indexAddr t x i=>simp only[cz,h x (by simp[Op.operands]),h i (by simp[Op.operands])]
 |index t x i=>simp only[cz,h x (by simp[Op.operands]),h i (by simp[Op.operands])]
 |extract x i=>simp only[cz,h x (by simp[Op.operands])]
 |typeAssert x t u ok=>simp only[cz,h x (by simp[Op.operands])]
 |call c=>
  obtain⟨callee,args,ts⟩:=c;cases callee with
  |builtin b=>
   have ha:∀x∈args,ρ x=ρ' x:=fun x hx=>h x (by simp[Op.operands,Call.operands];exact hx);cases b with
   |len=>
    simp only[cz];cases ht:ts[0]? with
    |none=>rfl
    |some t=>
     cases hx:args[0]? with
     |none=>rfl
     |some x=>simp only[ha x (MN hx)]
   |max=>simp only[cz,aar ha]
   |_=>rfl
  |_=>rfl
 |_=>rfl
theorem aas{P:Program}{ρ ρ':Operand->AV}{o:Op}(h:∀x∈o.operands,ρ x=ρ' x):oO P ρ o=oO P ρ' o:=by
 cases o with
 |buildSlice t n ps=>simp only[oO,WR (ρ:=ρ) (ρ':=ρ') (ps:=ps) fun x hx=>h x (by simpa[Op.operands]using hx)]
 |convert s d x=>simp only[oO,h x (by simp[Op.operands])]
 |_=>rfl
theorem aat{P:Program}{E E':Env}(ht:E.aa=E'.aa)(hn:E.nb=E'.nb){S:St}{o:Op}(h:∀x∈o.operands,E.ev x=E'.ev x):j6 P E E.ev S o=j6 P E' E'.ev S o:=by
 cases o with
 |alloc t=>simp only[j6,ht]
 |box t x=>simp only[j6,ht,h x (by simp[Op.operands])]
 |load t p=>simp only[j6,ht,h p (by simp[Op.operands])]
 |store t p x=>simp only[j6,lD,ht,hn,h p (by simp[Op.operands]),h x (by simp[Op.operands])]
 |call c=>
  obtain⟨callee,args,ts⟩:=c;cases callee with
  |builtin b=>
   have ha:∀x∈args,E.ev x=E'.ev x:=fun x hx=>h x (by simp[Op.operands,Call.operands];exact hx);cases b with
   |append=>
    simp only[j6,ht];cases h0:args[0]? with
    |none=>rfl
    |some s=>
     cases h1:args[1]? with
     |none=>rfl
     |some x=>simp only[ha s (MN h0),ha x (MN h1)]
   |copy=>
    simp only[j6,ht,hn];cases h0:args[0]? with
    |none=>rfl
    |some s=>
     cases h1:args[1]? with
     |none=>rfl
     |some x=>simp only[ha s (MN h0),ha x (MN h1)]
   |_=>rfl
  |_=>rfl
 |range t x=>simp only[j6,ht,h x (by simp[Op.operands])]
 |next p b=>
  cases b with
  |true=>simp only[j6,ht,h p (by simp[Op.operands])]
  |false=>rfl
 |_=>rfl
theorem SP{P:Program}{call:bU}{E E':Env}(ht:E.aa=E'.aa)(hn:E.nb=E'.nb){S:St}{o:Op}(h:∀x∈o.operands,E.ev x=E'.ev x):ny P call E S o=ny P call E' S o:=by
 unfold ny;split
 ·rename_i f args ts
  have hf:E.ev f=E'.ev f:=h f (by simp[Op.operands,Call.operands]);have ha:∀x∈args,E.ev x=E'.ev x:=fun x hx=>h x (by simp[Op.operands,Call.operands];exact .inr hx);have hm:(args.toList.map fun x=>E.ev x)=args.toList.map fun x=>E'.ev x:=aar ha;simp only[Ly,callee,hf,hm,ht]
 ·rw[X_ h,aas h,aat ht hn h,ht]
theorem aao{P:Program}{call:bU}{E E':Env}(ht:E.aa=E'.aa)(hn:E.nb=E'.nb){S:St}{o:Oper}(h:∀x∈o.op.operands,E.ev x=E'.ev x):lE P call E S o=lE P call E' S o:=by exact SP ht hn h
theorem afU{P:Program}{call:bU}{E:Env}{S:St}{t:TypeId}{p:Operand}:ny P call E S (.load t p)=(xy P S t (E.ev p)).map fun v=>(v,E.aa,S):=rfl
theorem SC{P:Program}{call:bU}{E:Env}{S:St}{o:Oper}{t:TypeId}{p:Operand}(h:o.op=.load t p):lE P call E S o=(xy P S t (E.ev p)).map fun v=>(v,E.aa,S):=by unfold lE;rw[h];exact afU
theorem SQ{P:Program}{call:bU}{E:Env}{S:St}{o:Oper}(h:dD o=false):lE P call E S o=ny P call E S o.op:=rfl
theorem WK{o:Oper}(h:dD o=false):∀t x,o.op≠.box t x:=fun t x e=>by simp[dD,e]at h
theorem aam{P:Program}{call:bU}{E:Env}{S S':St}{o:Oper}{v:AV}{aa:List (Option Nat)}(he:dD o=false)(ha:cG o=false)(hb:∀t x,o.op≠.box t x)(hl:G9 o=false)
 (h:lE P call E S o=some (v,aa,S')):aa=E.aa/\S'=S/\∀S2,lE P call E S2 o=some (v,E.aa,S2):=by
 rw[SQ he]at h;suffices aa=E.aa/\S'=S/\∀S2,ny P call E S2 o.op=some (v,E.aa,S2)by
  refine⟨this.1,this.2.1,fun S2=>?_⟩;rw[SQ he];exact this.2.2 S2
 obtain⟨dst,op,type,pos,after,guard⟩:=o;simp only[dD,cG,G9]at he ha hl;simp only at hb h;have hm:∀S,j6 P E E.ev S op=none:=by intro S;unfold j6;split<;>first|rfl|(simp at he;done)|(simp at ha;done)|(simp at hl;done)|exact absurd rfl (hb _ _)
 unfold ny at h;split at h;·simp at he
 ·rename_i nV
  split at h
  ·rename_i y hy
   simp at h;obtain⟨rfl,rfl,rfl⟩:=h;refine⟨rfl,rfl,fun S2=>?_⟩;unfold ny;split;·rename_i heq;exact(nV _ _ _ heq).elim
   ·rw[hy]
  ·rename_i hy
   split at h
   ·rename_i y SR
    simp at h;obtain⟨rfl,rfl,rfl⟩:=h;refine⟨rfl,rfl,fun S2=>?_⟩;unfold ny;split;·rename_i heq;exact(nV _ _ _ heq).elim
    ·rw[hy,SR]
   ·rw[hm]at h;cases h
theorem afS{P:Program}{call:bU}{E E2:Env}{S S':St}{o:Oper}{v:AV}{aa:List (Option Nat)}(he:dD o=false)(ha:cG o=false)(hb:∀t x,o.op≠.box t x)(hl:G9 o=false)
 (h:lE P call E S o=some (v,aa,S')) (hx:∀x∈o.op.operands,E.ev x=E2.ev x) (S2:St):lE P call E2 S2 o=some (v,E2.aa,S2):=by
 obtain⟨_,_,h3⟩:=aam he ha hb hl h;have h4:=h3 S2;rw[SQ he]at h4⊢;have hc:=SP (P:=P) (call:=call) (E:=⟨E.br,E2.aa,E2.nb⟩) (E':=E2) rfl rfl (S:=S2) (o:=o.op) hx;rw[<-hc];obtain⟨dst,op,type,pos,after,guard⟩:=o;simp only[dD,cG,G9]at he ha hl;simp only at hb h4⊢;have hm:∀(E:Env) S,j6 P E E.ev S op=none:=by intro E S;unfold j6;split<;>first|rfl|(simp at he;done)|(simp at ha;done)|(simp at hl;done)|exact absurd rfl (hb _ _)
 unfold ny at h4⊢;split at h4;·simp at he
 ·have e1:Env.ev ⟨E.br,E2.aa,E2.nb⟩=Env.ev E:=by funext x;cases x<;>rfl
  rw[e1];cases hp:cz P E.ev op with
  |some y=>
   rw[hp]at h4;simp at h4;simp[h4]
  |none=>
   rw[hp]at h4;cases hq:oO P E.ev op with
   |some y=>
    rw[hq]at h4;simp at h4;simp[h4]
   |none=>
    rw[hq]at h4;simp only at h4;rw[hm]at h4;cases h4
def JX(ops:Array Oper)(i:Nat):Nat:=((ops.toList.take i).filter dD).length
theorem WL{ops:Array Oper}{i:Nat}{o:Oper}(h:ops[i]? =some o):JX ops (i+1)=JX ops i+(if dD o then 1 else 0):=by
 have h':ops.toList[i]? =some o:=by simpa using h
 have:ops.toList.take (i+1)=ops.toList.take i++[o]:=by rw[sW,h'];rfl
 unfold JX;rw[this,List.filter_append,gP];congr 1;cases he:dD o<;>simp[he]
structure Be(P:Program)(call:bU)(ops:Array Oper)(k:Nat)(E:Env)(S:St)(E':Env)(S':St)(xA:List St)(yj:List AT)(sn:Nat->Env × St):Prop where
 zero:sn k=(E,S)
 last:sn ops.size=(E',S')
 step:∀(i:Nat)(o:Oper),k<=i->ops[i]? =some o->cG o=true->sn (i+1)=sn i
 run:∀(i:Nat)(o:Oper),k<=i->ops[i]? =some o->cG o=false->kD ops (sn i).1 o=true/\
  ((lF ops (sn i).1 o=true/\∃v aa S1,lE P call (sn i).1 (sn i).2 o=some (v,aa,S1)/\sn (i+1)=((sn i).1.put o.dst v aa,S1)/\(∀t p,o.op=.load t p->(⟨i,t,(sn i).1.ev p,v⟩:AT)∈yj))\/
   (lF ops (sn i).1 o=false/\sn (i+1)=((sn i).1.put o.dst (.cT []) (sn i).1.aa,(sn i).2)))
 eff:∀(i:Nat)(o:Oper),k<=i->ops[i]? =some o->cG o=false->dD o=true->xA[JX ops i+1]? =some (sn (i+1)).2
theorem P4{P:Program}{call:bU}{ops:Array Oper}:∀(l:List Oper)(k:Nat)(E:Env)(S:St)(ss:List St)(ls:List AT)(E':Env)(S':St)(xA:List St)(yj:List AT),
 (∀j,l[j]? =ops[k+j]?)->k+l.length=ops.size->ss.length=JX ops k+1->(∀o∈l,cG o=true->dD o=false)->sa P call ops (l.zipIdx k) E S ss ls=some (E',S',xA,yj)->
 (∃t,xA=ss++t)/\(∀x∈ls,x∈yj)/\∃sn,Be P call ops k E S E' S' xA yj sn:=by
 intro l;induction l with
 |nil=>
  intro k E S ss ls E' S' xA yj hl hk Xg _ h;simp[sa]at h;obtain⟨rfl,rfl,rfl,rfl⟩:=h;simp at hk;have none_:∀i,k<=i->ops[i]? =none:=fun i hi=>yh (by omega);refine⟨⟨[],by simp⟩,fun _ h=>h,fun _=>(E,S),rfl,rfl,fun i o hi ho=>?_,fun i o hi ho=>?_,fun i o hi ho=>?_⟩<;>rw[none_ i hi]at ho<;>cases ho
 |cons o l ih=>
  intro k E S ss ls E' S' xA yj hl hk Xg hae h;have G3:ops[k]? =some o:=by have:=hl 0;simpa using this.symm
  have tC:∀j,l[j]? =ops[k+1+j]? :=fun j=>by have:=hl (j+1);rw[Xh]at this;rw[this];congr 1;omega
  have KS:k+1+l.length=ops.size:=by simp at hk;omega
  have qM:=WL G3;simp only[List.zipIdx_cons,sa]at h;have join:∀(E1:Env)(S1:St)(sn:Nat->Env × St),Be P call ops (k+1) E1 S1 E' S' xA yj sn->
   (cG o=true->(E1,S1)=(E,S))->
   (cG o=false->kD ops E o=true/\
    ((lF ops E o=true/\∃v aa S2,lE P call E S o=some (v,aa,S2)/\(E1,S1)=(E.put o.dst v aa,S2)/\(∀t p,o.op=.load t p->(⟨k,t,E.ev p,v⟩:AT)∈yj))\/
     (lF ops E o=false/\(E1,S1)=(E.put o.dst (.cT []) E.aa,S))))->
   (cG o=false->dD o=true->xA[JX ops k+1]? =some S1)->
   ∃sn,Be P call ops k E S E' S' xA yj sn:=by
   intro E1 S1 sn hs h1 h2 h3;refine⟨fun i=>if i=k then(E,S)else sn i,by simp,by show(if ops.size=k then(E,S)else sn ops.size)=_;rw[if_neg (by omega)];exact hs.last,fun i o' hi ho ha=>?_,fun i o' hi ho ha=>?_,fun i o' hi ho ha he=>?_⟩
   ·by_cases e:i=k
    ·subst e
     rw[G3]at ho;cases ho;simp only[if_true];rw[if_neg (by omega),hs.zero];exact h1 ha
    ·simp only[if_neg e]
     rw[if_neg (by omega)];exact hs.step i o' (by omega) ho ha
   ·by_cases e:i=k
    ·subst e
     rw[G3]at ho;cases ho;simp only[if_true];rw[if_neg (by omega),hs.zero];exact h2 ha
    ·simp only[if_neg e]
     rw[if_neg (by omega)];exact hs.run i o' (by omega) ho ha
   ·by_cases e:i=k
    ·subst e
     rw[G3]at ho;cases ho;rw[if_neg (by omega),hs.zero];exact h3 ha he
    ·rw[if_neg (by omega)]
     exact hs.eff i o' (by omega) ho ha he
  split at h
  ·rename_i ha
   have nV:=hae o (by simp) ha;obtain⟨t1,t2,sn,hs⟩:=ih (k+1) E S ss ls E' S' xA yj tC KS (by rw[qM,nV];simpa using Xg) (fun o' Vo=>hae o' (by simp[Vo])) h;exact⟨t1,t2,join E S sn hs (fun _=>rfl) (fun hf=>by rw[ha]at hf;cases hf) (fun hf=>by rw[ha]at hf;cases hf)⟩
  rename_i ha;have ha:cG o=false:=by simpa using ha
  split at h;case isFalse=>simp at h
  rename_i ht;have more:∀(S1:St)(t:List St),xA=(if dD o then ss++[S1]else ss)++t->(∃t,xA=ss++t)/\(dD o=true->xA[JX ops k+1]? =some S1):=by
   intro S1 t e;by_cases he:dD o=true
   ·rw[if_pos he]at e
    refine⟨⟨[S1]++t,by rw[e,fB]⟩,fun _=>?_⟩;rw[e,<-Xg,fB,oR (eJ _)];simp
   ·rw[if_neg he]at e
    exact⟨⟨t,e⟩,fun h=>absurd h he⟩
  have hlen:∀S1:St,(if dD o then ss++[S1]else ss).length=JX ops (k+1)+1:=by
   intro S1;rw[qM];by_cases he:dD o=true;·simp[he,Xg]
   ·simp[he,Xg]
  split at h
  ·rename_i apa
   split at h;case h_2=>simp at h
   rename_i v aa S1 h1;obtain⟨⟨t,t1⟩,t2,sn,hs⟩:=ih (k+1) _ S1 _ _ E' S' xA yj tC KS (hlen S1) (fun o' Vo=>hae o' (by simp[Vo])) h;obtain⟨m1,m2⟩:=more S1 t t1;refine⟨m1,fun x hx=>t2 x ?_,join _ _ sn hs (fun hf=>by rw[ha]at hf;cases hf) (fun _=>⟨ht,.inl ⟨apa,v,aa,S1,h1,rfl,fun t p e=>t2 _ ?_⟩⟩) fun _ he=>m2 he⟩
   ·split
    ·exact Yp _ hx
    ·exact hx
   ·rw[e];simp
  ·rename_i apa
   obtain⟨⟨t,t1⟩,t2,sn,hs⟩:=ih (k+1) _ S _ _ E' S' xA yj tC KS (hlen S) (fun o' Vo=>hae o' (by simp[Vo])) h;obtain⟨m1,m2⟩:=more S t t1;exact⟨m1,t2,join _ _ sn hs (fun hf=>by rw[ha]at hf;cases hf) (fun _=>⟨ht,.inr ⟨by simpa using apa,rfl⟩⟩) fun _ he=>m2 he⟩
theorem agl(acc:Array Nat)(j:Nat):∀(l:List Edge)(s:Nat),(l.foldl (fun s e=>if Region.binds .any e then s|||2^e.on|||acc.getD e.on 0 else s) s).testBit j=true->
 s.testBit j=true\/∃e∈l,Region.binds .any e=true/\(e.on=j\/(acc.getD e.on 0).testBit j=true):=by
 intro l;induction l with
 |nil=>intro s h;exact .inl h
 |cons e l ih=>
  intro s h;rw[List.foldl_cons]at h;rcases ih _ h with h|⟨e',h1,h2⟩
  ·by_cases hb:Region.binds .any e=true
   ·rw[if_pos hb]at h
    simp only[Nat.testBit_or,P1,Nat.testBit_two_pow,decide_eq_true_eq]at h;rcases h with(h|h)|h;·exact .inl h
    ·exact .inr ⟨e,by simp,hb,.inl h⟩
    ·exact .inr ⟨e,by simp,hb,.inr h⟩
   ·rw[if_neg hb]at h
    exact .inl h
  ·exact .inr ⟨e',by simp[h1],h2⟩
def kJ(acc:Array Nat)(o:Oper):Array Nat:=acc.push (o.after.foldl (fun s e=>if Region.binds .any e then s|||2^e.on|||acc.getD e.on 0 else s) 0)
theorem agm(ops:Array Oper):Region.before ops=ops.toList.foldl kJ #[]:=by unfold Region.before;rw[<-YB];rfl
def M0(p:List Oper)(acc:Array Nat):Prop:=acc.size=p.length/\∀i j,(acc.getD i 0).testBit j=true->∃o,p[i]? =some o/\∃e∈o.after,Region.binds .any e=true/\(e.on=j\/e.on<i/\(acc.getD e.on 0).testBit j=true)
theorem YC{p:List Oper}{acc:Array Nat}(h:M0 p acc)(o:Oper):M0 (p++[o]) (kJ acc o):=by
 refine⟨by simp[kJ,h.1],fun i j hij=>?_⟩;have uE:∀k,k<acc.size->(kJ acc o).getD k 0=acc.getD k 0:=by intro k hk;simp[kJ,m_,acU,Nat.ne_of_lt hk]
 rcases iI i acc.size with hi|hi
 ·rw[uE i hi]at hij
  obtain⟨o',h1,e,h2,h3,h4⟩:=h.2 i j hij;refine⟨o',by rw[kP (by rw[<-h.1];exact hi)];exact h1,e,h2,h3,h4.imp id fun⟨h5,h6⟩=>⟨h5,by rw[uE _ (by omega)];exact h6⟩⟩
 ·by_cases he:i=acc.size
  ·subst he
   have hv:(kJ acc o).getD acc.size 0=o.after.foldl (fun s e=>if Region.binds .any e then s|||2^e.on|||acc.getD e.on 0 else s) 0:=by simp[kJ,m_]
   rw[hv,<-YB]at hij;rcases agl acc j _ _ hij with h0|⟨e,h1,h2,h3⟩;·simp at h0
   ·refine⟨o,by rw[h.1];simp,e,by simpa using h1,h2,h3.imp id fun h3=>?_⟩
    have cV:e.on<acc.size:=by
     rcases iI e.on acc.size with hl|hl;·exact hl
     ·simp[m_,yh hl]at h3
    exact⟨cV,by rw[uE _ cV];exact h3⟩
  ·have:(kJ acc o).getD i 0=0:=by rw[m_,yh (by simp[kJ];omega)];rfl
   rw[this]at hij;simp at hij
theorem YD:∀(l p:List Oper)(acc:Array Nat),M0 p acc->M0 (p++l) (l.foldl kJ acc):=by
 intro l;induction l with
 |nil=>intro p acc h;simpa using h
 |cons o l ih=>
  intro p acc h;have:=ih (p++[o]) (kJ acc o) (YC h o);simpa using this
theorem YE(ops:Array Oper):M0 ops.toList (Region.before ops):=by rw[agm];have:=YD ops.toList [] #[] ⟨rfl,fun i j h=>by simp at h⟩;simpa using this
theorem Vy{ops:Array Oper}{aH:Array Bool}(hd:∀(i:Nat)(o:Oper),ops[i]? =some o->aH.getD i false=true->∀e∈o.after,Region.binds .any e=true->aH.getD e.on false=true):
 ∀(n i j:Nat),i<n->((Region.before ops).getD i 0).testBit j=true->(∀o,ops[i]? =some o->∀e∈o.after,Region.binds .any e=true->aH.getD e.on false=true)->aH.getD j false=true:=by
 intro n;induction n with
 |zero=>intro i j hi;omega
 |succ n ih=>
  intro i j hi hb hr;obtain⟨o,h1,e,h2,h3,h4⟩:=(YE ops).2 i j hb;have ho:ops[i]? =some o:=by simpa using h1
  have hl:=hr o ho e h2 h3;rcases h4 with rfl|⟨h5,h6⟩;·exact hl
  ·exact ih e.on j (by omega) h6 fun o' Vo=>hd e.on o' Vo hl
theorem Qf:∀{l:List Nat},XV l=true->l.Nodup
 |[],_=>List.nodup_nil
 |a::r,h=>by simp only[XV,dk,P3,adr,decide_eq_false_iff_not]at h;exact Ol.2 ⟨h.1,Qf h.2⟩
structure He(ops:Array Oper):Prop where
 back:∀(i:Nat)(o:Oper),ops[i]? =some o->∀e∈o.after,Region.binds .any e=true->e.on<i
 nodup:(ops.toList.filterMap (·.dst)).Nodup
 alloc:∀(i:Nat)(o:Oper),ops[i]? =some o->cG o=true->o.guard=none/\∃d,o.dst=some d/\∀(j:Nat)(x:Oper),j<i->ops[j]? =some x->d∉x.looksAt ops
 pair:∀(i j:Nat)(o x:Oper),ops[i]? =some o->ops[j]? =some x->j<i->((Region.before ops).getD i 0).testBit j=true\/(Oper.apart ops x o=true/\¬(dD x=true/\dD o=true))
theorem KQ{ops:Array Oper}(h:zS ops=true):He ops:=by
 unfold zS at h;simp only[dk,j7]at h;obtain⟨h0,h⟩:=h;have get:∀(i:Nat)(o:Oper),ops[i]? =some o->(o,i)∈ops.toList.zipIdx:=by intro i o ho;rw[acJ];simpa using ho
 refine⟨fun i o ho e he hb=>?_,Qf h0,fun i o ho ha=>?_,fun i j o x ho hx hji=>?_⟩
 ·have:=(h _ (get i o ho)).1.1.1
  simp only[SG]at this;have:=this e he;simpa[hb]using this
 ·have:=(h _ (get i o ho)).1.2
  simp only[ha,Oz,X8,dk]at this;obtain⟨⟨g1,g2⟩,g3⟩:=this;cases hd:o.dst with
  |none=>simp[hd]at g2
  |some d=>
   refine⟨by simpa using g1,d,rfl,fun j x hji hx=>?_⟩;rw[j7]at g3;have:=g3 x (by
    rw[List.mem_take_iff_getElem];have kM:ops.toList[j]? =some x:=by simpa using hx
    obtain⟨hl,e⟩:=fI.1 kM;exact⟨j,by omega,e⟩)
   simpa[hd]using this
 ·have:=(h _ (get i o ho)).2 _ (get j x hx)
  simp only[P1,P3,decide_eq_false_iff_not,dk]at this;rcases this with(g|g)|g;·exact absurd hji g
  ·exact .inl g
  ·refine .inr ⟨g.1,fun hh=>?_⟩
   simp[hh.1,hh.2]at g
section
section
variable{P:Program}{base:Nat}{bc:Nat->Prop}{aa:List (Option Nat)}{S:St}{w:World}{mu:Nat->Option Nat}{hw:Nat->Nat}{ti:Id->TI}
theorem ahx(I:Inv base bc aa S w mu hw ti){i:Nat}{z:List AV}{vs:Array Value}{el:TypeId}(hz:RL w mu hw (fO S mu) z vs)(hS:S[i]? =some (.mem z [] false))(hm:mu i=none):
 Inv base bc aa S (w.alloc (.cells vs el)) (DU mu i (some w.heap.size)) hw ti/\Ext base bc S w mu hw S (w.alloc (.cells vs el)) (DU mu i (some w.heap.size)) hw/\
  ba aa S (DU mu i (some w.heap.size))=ba aa S mu:=by
 have h0:hw w.heap.size=0:=I.zj _ (eJ _);have Bd:∀j b,mu j=some b->DU mu i (some w.heap.size) j=some b:=by intro j b h;rw[iz _ _ _ _ (fun e=>by subst e;rw[hm]at h;cases h)];exact h
 have KN:∀b,fO S mu b->fO S (DU mu i (some w.heap.size)) b:=by rintro b ⟨k,cs,bt,h1,h2⟩;exact⟨k,cs,bt,h1,Bd k b h2⟩
 have e:Ext base bc S w mu hw S (w.alloc (.cells vs el)) (DU mu i (some w.heap.size)) hw:=by refine⟨Bd,fun _=>eJ _,KN,fun b o' v _ h=>?_,fun b h=>⟨heap_alloc _ _ _ (I.lJ b h),rfl⟩,(BK.refl _ _).alloc I.mP _,eJ _⟩;rw[World.cell?_alloc_lt _ _ _ (World.block_lt_of_cell? w _ h)];exact h
 have DQ:ba aa S (DU mu i (some w.heap.size))=ba aa S mu:=by
  funext id;cases id with
  |fr n=>rfl
  |bx k j=>
   by_cases hk:k=i;·subst hk;simp[ba,eh,hm,hS]
   ·simp[ba,iz _ _ _ _ hk]
 refine⟨⟨fun k bx b h1 h2=>?_,fun k cells bt l b h1 h2 DA el' h3=>?_,fun k j b h1 h2=>?_,fun k b h=>?_,fun b h=>?_,fun id L h=>?_,fun id mo L L' h h'=>?_,fun b h=>?_, ?_,e.glb I.AW⟩,e,DQ⟩
 ·by_cases hk:k=i
  ·subst hk
   rw[eh]at h2;obtain rfl:=eL h2;rw[hS]at h1;obtain rfl:=eL h1;exact⟨vs,el,heap_alloc_new _ _,e.rb hz.rb⟩
  ·rw[iz _ _ _ _ hk]at h2
   exact(I.qU k bx b h1 h2).ext e (heap_alloc _ _ _ (I.iX k b h2).2.2.1)
 ·rw[DQ]
  by_cases hk:k=i
  ·subst hk
   rw[hS]at h1;obtain⟨rfl,rfl,rfl⟩:z=cells/\[]=bt/\false=l:=by simpa using h1
   intro j x y hx _;have:=(hz.2 j x hx).1;exact⟨Ya this,cX.CA this⟩
  ·rw[iz _ _ _ _ hk]at h2
   exact I.qL k cells bt l b h1 h2 DA el' (by rw[<-heap_alloc w (.cells vs el) b (I.iX k b h2).2.2.1];exact h3)
 ·by_cases hk:k=i<;>by_cases hj:j=i
  ·rw[hk,hj]
  ·subst hk
   rw[eh]at h1;obtain rfl:=eL h1;rw[iz _ _ _ _ hj]at h2;have:=(I.iX j _ h2).2.2.1;omega
  ·subst hj
   rw[eh]at h2;obtain rfl:=eL h2;rw[iz _ _ _ _ hk]at h1;have:=(I.iX k _ h1).2.2.1;omega
  ·rw[iz _ _ _ _ hk]at h1
   rw[iz _ _ _ _ hj]at h2;exact I.vZ k j b h1 h2
 ·by_cases hk:k=i
  ·subst hk
   rw[eh]at h;obtain rfl:=eL h;exact⟨bQ hS,I.mP,by simp,h0,fun hp=>by have:=I.lJ _ hp;omega⟩
  ·rw[iz _ _ _ _ hk]at h
   obtain⟨a,b',c,d,f⟩:=I.iX k b h;exact⟨a,b',by simp;omega,d,f⟩
 ·exact I.zj b (by have:w.heap.size+1<=b:=(by simpa using h);omega)
 ·rw[DQ]at h
  obtain⟨a,b,c⟩:=I.v8 id L h;refine⟨a.aN rfl (heap_alloc _ _ _ a.lt),b,fun k hk=>?_⟩;by_cases KS:k=i
  ·subst KS
   rw[eh]at hk;have:=a.lt;have:=eL hk;omega
  ·rw[iz _ _ _ _ KS]at hk
   exact c k hk
 ·rw[DQ]at h h'
  exact I.oQ id mo L L' h h'
 ·have:=I.lJ b h;simp;omega
 ·have:=I.mP;simp;omega
end
end
def Ob(l:List Oper)(j:Nat):Nat:=((l.take j).filter cG).length
theorem aab(o:Oper)(l:List Oper)(j:Nat):Ob (o::l) (j+1)=(if cG o then 1 else 0)+Ob l j:=by simp only[Ob,Sq,List.filter_cons];cases cG o<;>simp<;>omega
theorem vY{o:Oper}:cG o=true↔∃t,o.op=.alloc t:=by
 unfold cG;constructor
 ·intro h;split at h
  ·exact⟨_,by assumption⟩
  ·simp at h
 ·rintro⟨t,h⟩;simp[h]
theorem g8(l:List AV)(d:Option Tmp)(v:AV):(cW l d v).length=l.length:=by cases d<;>simp[cW]
theorem LA(l:List AV)(d:Option Tmp)(v:AV)(t:Tmp)(h:d≠some t):(cW l d v).getD t .undef=l.getD t .undef:=by
 cases d with
 |none=>rfl
 |some d=>
  have:d≠t:=fun e=>h (by rw[e]);simp[cW,tE,lG this]
theorem Sr(l:List AV)(v:AV)(t:Tmp)(h:t<l.length):(cW l (some t) v).getD t .undef=v:=by simp[cW,tE,h]
theorem PY{P:Program}:∀(l:List Oper)(E:Env)(S:St)(E':Env)(S':St),pq P l E S=some (E',S')->(l.filterMap (·.dst)).Nodup->
 E'.aa=E.aa/\E'.nb=E.nb/\E'.br.length=E.br.length/\(∃bs,S'=S++bs)/\
 (∀(j:Nat)(o:Oper)(t:TypeId),l[j]? =some o->o.op=.alloc t->∃z,zeroOf P t=some z/\S'[S.length+Ob l j]? =some (.mem z [] false)/\(∀d,o.dst=some d->d<E.br.length->E'.br.getD d .undef=.ptr (S.length+Ob l j) 0))/\
 (∀d,(∀(o:Oper),o∈l->cG o=true->o.dst≠some d)->E'.br.getD d .undef=E.br.getD d .undef):=by
 intro l;induction l with
 |nil=>
  intro E S E' S' h _;simp[pq]at h;obtain⟨rfl,rfl⟩:=h;exact⟨rfl,rfl,rfl,⟨[],by simp⟩,fun j o t hj=>by simp at hj,fun _ _=>rfl⟩
 |cons o l ih=>
  intro E S E' S' h hn
  have Cr:(l.filterMap (·.dst)).Nodup:=by
   rw[XW]at hn;split at hn;·exact hn
   ·exact(Ol.1 hn).2
  have hnd:∀d,o.dst=some d->∀x∈l,x.dst≠some d:=by intro d hd x hx e;rw[XW,hd]at hn;exact(Ol.1 hn).1 (acA.2 ⟨x,hx,e⟩)
  unfold pq at h;split at h
  ·rename_i t ht
   have QI:cG o=true:=vY.2 ⟨t,ht⟩;split at h;case h_2=>simp at h
   rename_i z hz;obtain⟨a1,a2,a3,⟨bs,a4⟩,a5,a6⟩:=ih _ _ E' S' h Cr;refine⟨a1,a2,by rw[a3];simp[Env.put,g8],⟨[.mem z [] false]++bs,by rw[a4,fB]⟩,fun j o' t' hj Vo=>?_,fun d hd=>?_⟩
   ·cases j with
    |zero=>
     simp at hj;subst hj;rw[ht]at Vo;cases Vo;refine⟨z,hz,by rw[a4];simp[Ob],fun d hd cV=>?_⟩;rw[a6 d fun x hx _=>hnd d hd x hx];simp only[Env.put,hd];rw[Sr _ _ _ cV];simp[Ob]
    |succ j=>
     have hj':l[j]? =some o':=by simpa using hj
     obtain⟨z',b1,b2,b3⟩:=a5 j o' t' hj' Vo;have e:S.length+Ob (o::l) (j+1)=(S++[cF.mem z [] false]).length+Ob l j:=by rw[aab,QI];simp;omega
     rw[e];exact⟨z',b1,b2,fun d hd cV=>b3 d hd (by simpa[Env.put,g8]using cV)⟩
   ·rw[a6 d fun x hx hx2=>hd x (by simp[hx]) hx2]
    exact LA _ _ _ _ (hd o (by simp) QI)
  ·rename_i AU
   have QI:cG o=false:=by
    cases ha:cG o with
    |false=>rfl
    |true=>obtain⟨t,ht⟩:=vY.1 ha;exact absurd ht (AU t)
   obtain⟨a1,a2,a3,a4,a5,a6⟩:=ih E S E' S' h Cr;refine⟨a1,a2,a3,a4,fun j o' t' hj Vo=>?_,fun d hd=>a6 d fun x hx hx2=>hd x (by simp[hx]) hx2⟩;cases j with
   |zero=>
    simp at hj;subst hj;exact absurd Vo (AU t')
   |succ j=>
    rw[aab,QI];simpa using a5 j o' t' (by simpa using hj) Vo
section
section
variable{P:Program}{call:bU}{ops:Array Oper}{E0 E':Env}{S0 S':St}{xA:List St}{yj:List AT}{sn:Nat->Env × St}
theorem aal(R:He ops)(H:Be P call ops 0 E0 S0 E' S' xA yj sn){i:Nat}{o:Oper}(ho:ops[i]? =some o)(he:dD o=false):(sn (i+1)).1.aa=(sn i).1.aa/\(sn (i+1)).2=(sn i).2:=by
 by_cases ha:cG o=true;·rw[H.step i o (sU _) ho ha];exact⟨rfl,rfl⟩
 have ha:cG o=false:=by simpa using ha
 obtain⟨_,⟨_,v,aa,S1,h1,h2,_⟩|⟨_,h2⟩⟩:=H.run i o (sU _) ho ha
 ·rw[h2]
  by_cases hl:G9 o=true
  ·have:∃t p,o.op=.load t p:=by
    unfold G9 at hl;split at hl;·exact⟨_,_,by assumption⟩
    ·simp at hl
   obtain⟨t,p,LH⟩:=this;rw[SC LH]at h1;simp only[cx,g_]at h1;obtain⟨_,_,rfl,rfl,rfl⟩:=h1;exact⟨rfl,rfl⟩
  ·obtain⟨a,b,_⟩:=aam he ha (WK he) (by simpa using hl) h1
   exact⟨a,b⟩
 ·rw[h2];exact⟨rfl,rfl⟩
theorem acP(R:He ops)(H:Be P call ops 0 E0 S0 E' S' xA yj sn):∀(n i:Nat),i+n<=ops.size->(∀j o,i<=j->j<i+n->ops[j]? =some o->dD o=false)->(sn (i+n)).1.aa=(sn i).1.aa/\(sn (i+n)).2=(sn i).2:=by
 intro n;induction n with
 |zero=>intro i _ _;exact⟨rfl,rfl⟩
 |succ n ih=>
  intro i hi h;obtain⟨a,b⟩:=ih i (by omega) fun j o h1 h2=>h j o h1 (by omega);have cV:i+n<ops.size:=by omega
  obtain⟨c,d⟩:=aal R H (i:=i+n) (nd cV) (h (i+n) _ (by omega) (by omega) (nd cV));exact⟨c.trans a,d.trans b⟩
theorem Hf(R:He ops)(H:Be P call ops 0 E0 S0 E' S' xA yj sn){m i:Nat}(hm:m<=ops.size)(hi:i<=ops.size)(h:∀(j:Nat)(o:Oper),ops[j]? =some o->dD o=true->(j<m↔j<i)):(sn m).1.aa=(sn i).1.aa/\(sn m).2=(sn i).2:=by
 have key:∀a b,a<=b->b<=ops.size->(∀j o,ops[j]? =some o->dD o=true->(j<a↔j<b))->(sn b).1.aa=(sn a).1.aa/\(sn b).2=(sn a).2:=by
  intro a b hab hb hh
  have:=acP R H (b -a) a (by omega) fun j o h1 h2 ho=>by
   cases he:dD o with
   |false=>rfl
   |true=>have:=hh j o ho he;omega
  rwa [SA hab]at this
 rcases Nat.le_total m i with hle|hle
 ·obtain⟨a,b⟩:=key m i hle hi h
  exact⟨a.symm,b.symm⟩
 ·exact key i m hle hm fun j o ho he=>(h j o ho he).symm
theorem Ow:JX ops 0=0:=by simp[JX]
theorem arW(R:He ops)(H:Be P call ops 0 E0 S0 E' S' xA yj sn)(h0:xA[0]? =some S0)(hae:∀(i:Nat)(o:Oper),ops[i]? =some o->cG o=true->dD o=false):∀i,i<=ops.size->xA[JX ops i]? =some (sn i).2:=by
 intro i;induction i with
 |zero=>intro _;rw[Ow,h0,H.zero]
 |succ i ih=>
  intro hi;have cV:i<ops.size:=by omega
  have ho:ops[i]? =some ops[i]:=nd cV;rw[WL ho];by_cases he:dD ops[i]=true
  ·rw[if_pos he]
   have ha:cG ops[i]=false:=by
    cases hx:cG ops[i]with
    |false=>rfl
    |true=>have:=hae i _ ho hx;rw[he]at this;cases this
   exact H.eff i _ (sU _) ho ha he
  ·have he:dD ops[i]=false:=by simpa using he
   rw[he];rw[(aal R H ho he).2];exact ih (by omega)
theorem Bf{o:Oper}(h:cG o=true):dD o=false:=by obtain⟨t,ht⟩:=vY.1 h;simp[dD,ht]
theorem X5(H:Be P call ops 0 E0 S0 E' S' xA yj sn){i:Nat}{o:Oper}(ho:ops[i]? =some o){t:Tmp}(h:cG o=false->o.dst≠some t):(sn (i+1)).1.br.getD t .undef=(sn i).1.br.getD t .undef:=by
 by_cases ha:cG o=true;·rw[H.step i o (sU _) ho ha]
 have ha:cG o=false:=by simpa using ha
 obtain⟨_,⟨_,v,aa,S1,_,h2,_⟩|⟨_,h2⟩⟩:=H.run i o (sU _) ho ha;·rw[h2];exact LA _ _ _ _ (h ha)
 ·rw[h2];exact LA _ _ _ _ (h ha)
theorem DO(H:Be P call ops 0 E0 S0 E' S' xA yj sn){t:Tmp}:∀(n i:Nat),i+n<=ops.size->(∀(j:Nat)(o:Oper),i<=j->j<i+n->ops[j]? =some o->cG o=false->o.dst≠some t)->
 (sn (i+n)).1.br.getD t .undef=(sn i).1.br.getD t .undef:=by
 intro n;induction n with
 |zero=>intro i _ _;rfl
 |succ n ih=>
  intro i hi h;have cV:i+n<ops.size:=by omega
  have ho:ops[i+n]? =some ops[i+n]:=nd cV;exact(X5 H ho (h (i+n) _ (by omega) (by omega) ho)).trans (ih i (by omega) fun j o h1 h2=>h j o h1 (by omega))
theorem Ox(H:Be P call ops 0 E0 S0 E' S' xA yj sn):∀i,i<=ops.size->(sn i).1.br.length=E0.br.length/\(sn i).1.nb=E0.nb:=by
 intro i;induction i with
 |zero=>intro _;rw[H.zero];exact⟨rfl,rfl⟩
 |succ i ih=>
  intro hi;have cV:i<ops.size:=by omega
  have ho:ops[i]? =some ops[i]:=nd cV;have:=ih (by omega);by_cases ha:cG ops[i]=true;·rw[H.step i _ (sU _) ho ha];exact this
  have ha:cG ops[i]=false:=by simpa using ha
  obtain⟨_,⟨_,v,aa,S1,_,h2,_⟩|⟨_,h2⟩⟩:=H.run i _ (sU _) ho ha;·rw[h2];exact⟨by simp[Env.put,g8,this.1],by simp[Env.put,this.2]⟩
  ·rw[h2];exact⟨by simp[Env.put,g8,this.1],by simp[Env.put,this.2]⟩
end
end
section
theorem MG{ops:Array Oper}(h:(ops.toList.filterMap (·.dst)).Nodup){i j:Nat}{o x:Oper}{d:Tmp}(hi:ops[i]? =some o)(hj:ops[j]? =some x)(ho:o.dst=some d)(hx:x.dst=some d):i=j:=by
 have key:∀(l:List Oper),(l.filterMap (·.dst)).Nodup->∀(i j:Nat)(o x:Oper),l[i]? =some o->l[j]? =some x->o.dst=some d->x.dst=some d->i=j:=by
  intro l;induction l with
  |nil=>intro _ i j o x hi;simp at hi
  |cons a l ih=>
   intro hn i j o x hi hj ho hx
   have Cr:(l.filterMap (·.dst)).Nodup:=by
    rw[XW]at hn;split at hn;·exact hn
    ·exact(Ol.1 hn).2
   have AU:∀(y:Oper),y∈l->a.dst=some d->y.dst≠some d:=by intro y hy ha e;rw[XW,ha]at hn;exact(Ol.1 hn).1 (acA.2 ⟨y,hy,e⟩)
   cases i with
   |zero=>
    simp at hi;subst hi;cases j with
    |zero=>rfl
    |succ j=>exact absurd hx (AU x (eT (by simpa using hj)) ho)
   |succ i=>
    cases j with
    |zero=>
     simp at hj;subst hj;exact absurd ho (AU o (eT (by simpa using hi)) hx)
    |succ j=>rw[ih Cr i j o x (by simpa using hi) (by simpa using hj) ho hx]
 exact key ops.toList h i j o x (by simpa using hi) (by simpa using hj) ho hx
structure SX(ops:Array Oper)(aH:Array Bool)(E E':Env)(S:St)(w:World)(mu:Nat->Option Nat)(hw:Nat->Nat)(lv:aa3)(ti:Id->TI)(tmps:Array Value):Prop where
 len:E.br.length=tmps.size
 done:∀(t:Tmp)(i:Nat)(o:Oper),ops[i]? =some o->o.dst=some t->aH.getD i false=true->RV w mu hw (fO S mu) (E'.br.getD t .undef) (tmps.getD t undef)/\cU lv ti (E'.br.getD t .undef) (tmps.getD t undef)
 todo:∀(t:Tmp),(∀(i:Nat)(o:Oper),ops[i]? =some o->o.dst=some t->aH.getD i false=false)->RV w mu hw (fO S mu) (E.br.getD t .undef) (tmps.getD t undef)/\cU lv ti (E.br.getD t .undef) (tmps.getD t undef)
def Hg(ops:Array Oper)(aH:Array Bool):Prop:=∀(i:Nat)(o:Oper),ops[i]? =some o->aH.getD i false=true->∀e∈o.after,Region.binds .any e=true->aH.getD e.on false=true
section
variable{P:Program}{call:bU}{ops:Array Oper}{E E0 E':Env}{S S0 S':St}{xA:List St}{yj:List AT}{sn:Nat->Env × St}{aH:Array Bool}{w:World}{mu:Nat->Option Nat}{hw:Nat->Nat}{lv:aa3}{ti:Id->TI}{tmps:Array Value}
theorem kz(hc:Hg ops aH){i j:Nat}(hb:((Region.before ops).getD i 0).testBit j=true)(h:aH.getD i false=true\/∀o,ops[i]? =some o->∀e∈o.after,Region.binds .any e=true->aH.getD e.on false=true):aH.getD j false=true:=
 Vy hc (i+1) i j (by omega) hb (h.elim (fun h o ho=>hc i o ho h) id)
theorem akL(R:He ops)(H:Be P call ops 0 E0 S0 E' S' xA yj sn)(hA:∀d,(∀(o:Oper),o∈ops.toList->cG o=true->o.dst≠some d)->E0.br.getD d .undef=E.br.getD d .undef)
 (hc:Hg ops aH) (X:SX ops aH E E' S w mu hw lv ti tmps) {i:Nat} {o:Oper} (ho:ops[i]? =some o) (QI:cG o=false) (DD:aH.getD i false=false)
 (hr:∀o,ops[i]? =some o->∀e∈o.after,Region.binds .any e=true->aH.getD e.on false=true) {t:Tmp} (ht:t∈o.looksAt ops):
 RV w mu hw (fO S mu) ((sn i).1.br.getD t .undef) (tmps.getD t undef)/\cU lv ti ((sn i).1.br.getD t .undef) (tmps.getD t undef):=by
 have Hh:i<ops.size:=(MH.1 ho).1;by_cases hw':∃(j:Nat)(x:Oper),ops[j]? =some x/\x.dst=some t/\aH.getD j false=true
 ·obtain⟨j,x,hj,hx,hl⟩:=hw'
  have hji:j<i:=by
   rcases X6 j i with h|h|h;·exact h
   ·subst h;rw[DD]at hl;cases hl
   ·exfalso
    rcases R.pair j i x o hj ho h with hb|⟨ha,_⟩
    ·have:=kz hc hb (.inl hl)
     rw[DD]at this;cases this
    ·exact(Oper.apart_spec ha).2.2 t hx ht
  have:=DO H (t:=t) (ops.size -i) i (by omega) fun k y h1 h2 hy _ e=>by have:=MG R.nodup hj hy hx e;omega
  rw[SA (by omega),H.last]at this;rw[<-this];exact X.done t j x hj hx hl
 ·have AU:∀(j:Nat)(x:Oper),ops[j]? =some x->x.dst=some t->aH.getD j false=false:=by
   intro j x hj hx;cases hl:aH.getD j false with
   |false=>rfl
   |true=>exact absurd ⟨j,x,hj,hx,hl⟩ hw'
  have G2:∀(j:Nat)(x:Oper),ops[j]? =some x->x.dst=some t->i<=j:=by
   intro j x hj hx;rcases iI j i with h|h
   ·exfalso
    rcases R.pair i j o x ho hj h with hb|⟨ha,_⟩
    ·have:=kz hc hb (.inr hr)
     rw[AU j x hj hx]at this;cases this
    ·exact(Oper.apart_spec ha).1 t hx ht
   ·exact h
  have:=DO H (t:=t) i 0 (by omega) fun k y h1 h2 hy _ e=>by have:=G2 k y hy e;omega
  rw[yo,H.zero]at this;rw[this];simp only;rw[hA t fun x hx hxa e=>?_];·exact X.todo t AU
  ·obtain⟨j,hj⟩:=zV hx
   have hj:ops[j]? =some x:=by simpa using hj
   have hij:=G2 j x hj e;have nV:i≠j:=by intro h;subst h;rw[ho]at hj;cases hj;rw[QI]at hxa;cases hxa
   obtain⟨_,d,hd,amL⟩:=R.alloc j x hj hxa;rw[hd]at e;cases e;exact amL i o (by omega) ho ht
end
end
theorem LG:∀(l:List Oper)(k m:Nat),((l.take m).filter dD).length=(l.zipIdx k).countP (fun x=>dD x.1&&decide (x.2<k+m)):=by
 intro l;induction l with
 |nil=>intro k m;simp
 |cons o l ih=>
  intro k m;cases m with
  |zero=>
   simp only[Ou,List.filter_nil,Ov,sR];symm;rw[acH];intro x hx;have:=List.mem_zipIdx hx;simp;intro _;omega
  |succ m=>
   rw[Sq,List.zipIdx_cons,List.countP_cons,List.filter_cons];have:=ih (k+1) m;have e:(fun(x:Oper × Nat)=>dD x.1&&decide (x.2<k+1+m))=fun x=>dD x.1&&decide (x.2<k+(m+1)):=by funext x;congr 2;apply propext;omega
   rw[e]at this;rw[<-this];have hk:decide (k<k+(m+1))=true:=by simp
   cases ho:dD o<;>simp
theorem acI{α:Type}(p q r:α->Bool):∀(l:List α),(∀x∈l,p x=true->q x=true->False)->(∀x∈l,p x=true->r x=true)->(∀x∈l,q x=true->r x=true)->l.countP p+l.countP q<=l.countP r:=by
 intro l;induction l with
 |nil=>intro _ _ _;simp
 |cons a l ih=>
  intro h1 h2 h3;have:=ih (fun x hx=>h1 x (by simp[hx])) (fun x hx=>h2 x (by simp[hx])) (fun x hx=>h3 x (by simp[hx]));simp only[List.countP_cons];have a1:=h1 a (by simp);have a2:=h2 a (by simp);have a3:=h3 a (by simp);cases hp:p a<;>cases hq:q a<;>cases hr:r a<;>simp_all<;>omega
theorem aht{ops:Array Oper}{o:Oper}{j:Nat}(h:(o,j)∈ops.toList.zipIdx):ops[j]? =some o:=by rw[acJ]at h;simpa using h
theorem afO{ops:Array Oper}{i m:Nat}(h:∀(j:Nat)(o:Oper),ops[j]? =some o->dD o=true->((Region.before ops).getD i 0).testBit j=true->j<m):lowest ops (Region.before ops) i<=JX ops m:=by unfold lowest JX;rw[LG _ 0 m,<-List.countP_eq_length_filter];refine List.countP_mono_left fun x hx hp=>?_;obtain⟨o,j⟩:=x;simp only[dk]at hp;have:=h j o (aht hx) hp.1 hp.2;simp[hp.1,this]
theorem acK{ops:Array Oper}{i m:Nat}(h:∀(j:Nat)(o:Oper),ops[j]? =some o->dD o=true->((Region.before ops).getD j 0).testBit i=true->m<=j):JX ops m<=DN ops (Region.before ops) i:=by
 unfold DN
 have total:(ops.toList.filter dD).length=ops.toList.zipIdx.countP (fun x=>dD x.1):=by
  have:=LG ops.toList 0 ops.toList.length;rw[Hd]at this;rw[this];refine List.countP_congr fun x hx=>?_;have:=List.mem_zipIdx hx;have h2:ops.toList.length=ops.size:=by simp
  simp;intro _;omega
 have e:JX ops m=ops.toList.zipIdx.countP (fun x=>dD x.1&&decide (x.2<0+m)):=LG ops.toList 0 m;rw[total,e,<-List.countP_eq_length_filter];show _<=_ -List.countP (fun(x:Oper × Nat)=>dD x.1&&((Region.before ops).getD x.2 0).testBit i) ops.toList.zipIdx
 have:=acI (fun(x:Oper × Nat)=>dD x.1&&decide (x.2<0+m)) (fun x=>dD x.1&&((Region.before ops).getD x.2 0).testBit i) (fun x=>dD x.1) ops.toList.zipIdx
  (fun x hx hp hq=>by simp only[dk,decide_eq_true_eq]at hp hq;have:=h x.2 x.1 (aht hx) hq.1 hq.2;omega)
  (fun x _ hp=>by simp only[dk]at hp;exact hp.1) (fun x _ hp=>by simp only[dk]at hp;exact hp.1)
 omega
theorem akK{P:Program}{call:bU}{ops:Array Oper}{E0 E':Env}{S0 S':St}{xA:List St}{yj:List AT}{sn:Nat->Env × St}(R:He ops)(H:Be P call ops 0 E0 S0 E' S' xA yj sn)(h0:xA[0]? =some S0)
 (hl:Mz P ops xA yj=true) {l:AT} (LC:l∈yj) {m:Nat} (hm:m<=ops.size)
 (h1:∀(j:Nat)(o:Oper),ops[j]? =some o->dD o=true->((Region.before ops).getD l.idx 0).testBit j=true->j<m)
 (h2:∀(j:Nat)(o:Oper),ops[j]? =some o->dD o=true->((Region.before ops).getD j 0).testBit l.idx=true->m<=j):∃v,xy P (sn m).2 l.type l.at_=some v/\nA v l.val=true:=by
 unfold Mz at hl;simp only[j7]at hl;have hs:=arW R H h0 (fun _ _ _ h=>Bf h) m hm;have a:=afO h1;have b:=acK h2;have:=hl l LC (sn m).2 (by refine eT (i:=JX ops m -lowest ops (Region.before ops) l.idx) ?_;rw[MF,SA a,WH (by omega)];exact hs);split at this;·rename_i v hv;exact⟨v,hv,this⟩
 ·cases this
section
theorem ahv{l:List Oper}{i j:Nat}{o:Oper}(hi:l[i]? =some o)(ha:cG o=true)(h:i<j):Ob l i<Ob l j:=by
 have h1:Ob l (i+1)=Ob l i+1:=by unfold Ob;rw[sW,hi];simp[ha]
 have h2:Ob l (i+1)<=Ob l j:=by
  unfold Ob;have:(l.take j).take (i+1)=l.take (i+1):=by rw[List.take_take];congr 1;omega
  rw[<-this];exact List.Sublist.length_le (List.Sublist.filter _ (List.take_sublist _ _))
 omega
theorem akM{l:List Oper}{i j:Nat}{o x:Oper}(hi:l[i]? =some o)(ha:cG o=true)(hj:l[j]? =some x)(hx:cG x=true)(h:Ob l i=Ob l j):i=j:=by
 rcases X6 i j with h1|h1|h1;·have:=ahv hi ha h1;omega
 ·exact h1
 ·have:=ahv hj hx h1;omega
structure DS(P:Program)(ops:Array Oper)(E E':Env)(S:St)(sn:Nat->Env × St)(base:Nat)(bc:Nat->Prop)(RM:St)(WM:World)(AY:Nat->Option Nat)(Cx:Nat->Nat)(Cy:Id->TI)
 (m:Nat) (mu:Nat->Option Nat) (hw:Nat->Nat) (ti:Id->TI) (aH:Array Bool) (a:Act) (w:World):Prop where
 mle:m<=ops.size
 eff:∀(j:Nat)(o:Oper),ops[j]? =some o->dD o=true->(aH.getD j false=true↔j<m)
 I:Inv base bc (sn m).1.aa (sn m).2 w mu hw ti
 X:SX ops aH E E' (sn m).2 w mu hw (ba (sn m).1.aa (sn m).2 mu) ti a.tmps
 ext:Ext base bc RM WM AY Cx (sn m).2 w mu hw
 lv:g9 (ba [] RM AY) Cy (ba (sn m).1.aa (sn m).2 mu) ti
 amM:∀(j:Nat)(o:Oper)(t:TypeId),ops[j]? =some o->o.op=.alloc t->aH.getD j false=false->mu (S.length+Ob ops.toList j)=none/\∃z,zeroOf P t=some z/\(sn m).2[S.length+Ob ops.toList j]? =some (.mem z [] false)
 uE:∀i,AY i=none->i<RM.length->(sn m).2[i]? =RM[i]?/\mu i=none
 arY:RM.length<=S.length
 defers:a.defers=[]
 closed:Hg ops aH
 SD:aH.size=ops.size
theorem Hi{l:Array Bool}{i j:Nat}(h:i<l.size):(l.setIfInBounds i true).getD j false=if i=j then true else l.getD j false:=by
 rw[m_,m_,Hj];by_cases e:i=j;·subst e;simp[h]
 ·simp[e]
section
variable{P:Program}{call:bU}{ops:Array Oper}{E E0 E':Env}{S S0 S':St}{xA:List St}{yj:List AT}{sn:Nat->Env × St}{aH:Array Bool}{w:World}{mu:Nat->Option Nat}{hw:Nat->Nat}{ti:Id->TI}
 {base:Nat} {bc:Nat->Prop} {RM:St} {WM:World} {AY:Nat->Option Nat} {Cx:Nat->Nat} {Cy:Id->TI} {m:Nat} {a:Act}
theorem DS.next(R:He ops)(D:DS P ops E E' S sn base bc RM WM AY Cx Cy m mu hw ti aH a w){i:Nat}{o:Oper}(ho:ops[i]? =some o)(DD:aH.getD i false=false)
 (hr:∀e∈o.after,Region.binds .any e=true->aH.getD e.on false=true) {m':Nat} {v:Value} {x:AV} {w':World} {mu':Nat->Option Nat} {hw':Nat->Nat} {ti':Id->TI}
 (DP:m'<=ops.size) (av0:∀(j:Nat)(o':Oper),ops[j]? =some o'->dD o'=true->((j=i\/aH.getD j false=true)↔j<m'))
 (I':Inv base bc (sn m').1.aa (sn m').2 w' mu' hw' ti') (e:Ext base bc (sn m).2 w mu hw (sn m').2 w' mu' hw') (l:g9 (ba (sn m).1.aa (sn m).2 mu) ti (ba (sn m').1.aa (sn m').2 mu') ti')
 (rv:RV w' mu' hw' (fO (sn m').2 mu') x v) (fl:cU (ba (sn m').1.aa (sn m').2 mu') ti' x v) (hx:∀d,o.dst=some d->d<E.br.length->E'.br.getD d .undef=x) (hlen:E'.br.length=E.br.length)
 (aN:∀k,mu k=none->k<(sn m).2.length->(cG o=true->k≠S.length+Ob ops.toList i)->(sn m').2[k]? =(sn m).2[k]?/\mu' k=none):
 DS P ops E E' S sn base bc RM WM AY Cx Cy m' mu' hw' ti' (aH.setIfInBounds i true) (a.put o.dst v) w':=by
 have Hh:i<ops.size:=(MH.1 ho).1;have hil:i<aH.size:=by rw[D.SD];exact Hh
 have gs:∀j,(aH.setIfInBounds i true).getD j false=if i=j then true else aH.getD j false:=fun j=>Hi hil
 have hX:=D.X;have amN:∀t,o.dst≠some t->(a.put o.dst v).tmps.getD t undef=a.tmps.getD t undef:=by
  intro t ht;cases hd:o.dst with
  |none=>rfl
  |some d=>
   have:d≠t:=fun e=>ht (by rw[hd,e]);simp[Act.put,m_,this]
 refine⟨DP,fun j o' hj he=>?_,I',⟨?_,fun t j o' hj hd hl=>?_,fun t nX=>?_⟩,D.ext.trans e,D.lv.trans l,fun j o' t hj LH hl=>?_,fun k hk cV=>?_,D.arY,by rw[put_defers];exact D.defers,fun j o' hj hl e' he hb=>?_,by simp[D.SD]⟩
 ·rw[gs j,<-av0 j o' hj he]
  by_cases e:i=j;·subst e;simp
  ·rw[if_neg e]
   constructor;·exact .inr
   ·rintro(h|h)
    ·exact absurd h.symm e
    ·exact h
 ·have:=hX.len
  cases hd:o.dst with
  |none=>exact this
  |some d=>simp[Act.put];exact this
 ·by_cases e0:i=j
  ·subst e0
   rw[ho]at hj;obtain rfl:=eL hj;by_cases cV:t<E.br.length
   ·rw[hx t hd cV]
    have:(a.put o.dst v).tmps.getD t undef=v:=by
     have h2:t<a.tmps.size:=by rw[<-hX.len];exact cV
     simp[hd,Act.put,m_,h2]
    rw[this];exact⟨rv,fl⟩
   ·have:E'.br.getD t .undef=.undef:=by rw[tE,kR (by rw[hlen];exact Oy cV)];rfl
    rw[this];exact⟨.undef _,trivial⟩
  ·rw[gs j,if_neg e0]at hl
   have nV:o.dst≠some t:=fun h=>e0 (MG R.nodup ho hj h hd);rw[amN t nV];obtain⟨p,q⟩:=hX.done t j o' hj hd hl;exact⟨e.rv p,q.mono l⟩
 ·have nV:o.dst≠some t:=fun h=>by have:=nX i o ho h;rw[gs i,if_pos rfl]at this;cases this
  rw[amN t nV]
  obtain⟨p,q⟩:=hX.todo t fun j o' hj hd=>by
   have:=nX j o' hj hd;rw[gs j]at this;split at this;·cases this
   ·exact this
  exact⟨e.rv p,q.mono l⟩
 ·rw[gs j]at hl
  split at hl;·cases hl
  rename_i nV;obtain⟨p,z,hz,q⟩:=D.amM j o' t hj LH hl;have cV:S.length+Ob ops.toList j<(sn m).2.length:=bQ q;obtain⟨k1,k2⟩:=aN _ p cV fun ha heq=>nV (akM (l:=ops.toList) (by simpa using ho) ha (by simpa using hj) (vY.2 ⟨t,LH⟩) (by omega));exact⟨k2,z,hz,k1.trans q⟩
 ·obtain⟨p,q⟩:=D.uE k hk cV
  have an2:=Bg cV D.ext.QJ;obtain⟨k1,k2⟩:=aN k q an2 fun _ heq=>by have:=D.arY;omega
  exact⟨k1.trans p,k2⟩
 ·rw[gs j]at hl
  rw[gs e'.on];by_cases h0:i=e'.on;·rw[if_pos h0]
  ·rw[if_neg h0]
   by_cases e0:i=j
   ·subst e0
    rw[ho]at hj;obtain rfl:=eL hj;exact hr e' he hb
   ·rw[if_neg e0]at hl
    exact D.closed j o' hj hl e' he hb
end
end
section
def MI(looks:List Tmp)(E:Env)(aa:List (Option Nat)):Env:=⟨(List.range E.br.length).map fun t=>if looks.contains t then E.br.getD t .undef else .undef,aa,E.nb⟩
theorem SE{looks:List Tmp}{E:Env}{aa:List (Option Nat)}{t:Tmp}:(MI looks E aa).br.getD t .undef=if t∈looks then E.br.getD t .undef else .undef:=by
 simp only[MI,tE,gx];rcases iI t E.br.length with h|h
 ·rw[Fl h]
  simp
 ·rw[kR (by simpa using h),kR h]
  simp
theorem X7{ops:Array Oper}{o:Oper}{E:Env}{aa:List (Option Nat)}:∀x∈o.op.operands,E.ev x=(MI (o.looksAt ops) E aa).ev x:=by
 intro x hx;cases x with
 |tmp t=>
  have:t∈o.looksAt ops:=by unfold Oper.looksAt;rw[MJ];refine .inl (acA.2 ⟨.tmp t,by simpa using hx,rfl⟩)
  show E.br.getD t .undef=(MI (o.looksAt ops) E aa).br.getD t .undef;rw[SE,if_pos this]
 |_=>rfl
theorem acQ{ops:Array Oper}{o:Oper}{E:Env}{aa:List (Option Nat)}:kD ops (MI (o.looksAt ops) E aa) o=kD ops E o/\lF ops (MI (o.looksAt ops) E aa) o=lF ops E o:=by
 unfold kD lF;cases hg:o.guard with
 |none=>exact⟨rfl,rfl⟩
 |some g=>
  obtain⟨j,want⟩:=g;simp only;cases hd:(ops[j]?).bind (·.dst)with
  |none=>exact⟨rfl,rfl⟩
  |some d=>
   have:d∈o.looksAt ops:=by unfold Oper.looksAt;rw[MJ];refine .inr ?_;rw[hg];simp[hd]
   have e:(MI (o.looksAt ops) E aa).br.getD d .undef=E.br.getD d .undef:=by rw[SE,if_pos this]
   simp only;rw[e];exact⟨rfl,rfl⟩
section
variable{P:Program}{call:bU}{ops:Array Oper}{E E0 E':Env}{S S0 S':St}{xA:List St}{yj:List AT}{sn:Nat->Env × St}{aH:Array Bool}{w:World}{mu:Nat->Option Nat}{hw:Nat->Nat}{ti:Id->TI}
 {base:Nat} {bc:Nat->Prop} {RM:St} {WM:World} {AY:Nat->Option Nat} {Cx:Nat->Nat} {Cy:Id->TI} {m:Nat} {a:Act}
structure Reg(P:Program)(call:bU)(ops:Array Oper)(E E0:Env)(S S0:St)(E':Env)(S':St)(xA:List St)(yj:List AT)(sn:Nat->Env × St):Prop where
 R:He ops
 H:Be P call ops 0 E0 S0 E' S' xA yj sn
 h0:xA[0]? =some S0
 ahw:Mz P ops xA yj=true
 hA:∀d,(∀(o:Oper),o∈ops.toList->cG o=true->o.dst≠some d)->E0.br.getD d .undef=E.br.getD d .undef
 hB:∀(j:Nat)(o:Oper)(t:TypeId),ops[j]? =some o->o.op=.alloc t->∃z,zeroOf P t=some z/\S0[S.length+Ob ops.toList j]? =some (.mem z [] false)/\(∀d,o.dst=some d->d<E.br.length->E0.br.getD d .undef=.ptr (S.length+Ob ops.toList j) 0)
 hlen:E0.br.length=E.br.length
 amO:E0.aa=E.aa
theorem WN(G:Reg P call ops E E0 S S0 E' S' xA yj sn)(zW:lH P call)(hold:jq call)(hN:Cw P)(D:DS P ops E E' S sn base bc RM WM AY Cx Cy m mu hw ti aH a w)
 {i:Nat} (hi:i∈Region.ready .any ops aH) {Q:Exit->Act->World->Prop} {K:Act->World->Prop}
 (hK:∀m' mu' hw' ti' a' w',DS P ops E E' S sn base bc RM WM AY Cx Cy m' mu' hw' ti' (aH.setIfInBounds i true) a' w'->K a' w'):wpOp P ops Q i K a w:=by
 have R:=G.R;have H:=G.H;unfold Region.ready at hi;rw[P2]at hi;obtain⟨hi1,hi2⟩:=hi;have Hh:i<ops.size:=by simpa using hi1
 have ho:ops[i]? =some ops[i]:=nd Hh;generalize ops[i]=o at ho;rw[ho]at hi2;simp only[dk,P3,qJ,SF]at hi2;obtain⟨hi3,hi4⟩:=hi2;have DD:aH.getD i false=false:=by
  have:i<aH.size:=by rw[D.SD];exact Hh
  simpa[m_,this]using hi3
 have hr:∀e∈o.after,Region.binds .any e=true->aH.getD e.on false=true:=by intro e he hb;rw[SG]at hi4;have:=hi4 e he;simpa[hb]using this
 have Co:∀o',ops[i]? =some o'->∀e∈o'.after,Region.binds .any e=true->aH.getD e.on false=true:=by intro o' Vo;rw[ho]at Vo;obtain rfl:=eL Vo;exact hr
 have SH:E'.br.length=E.br.length:=by have:=(Ox H ops.size (eJ _)).1;rw[H.last]at this;exact this.trans G.hlen
 unfold wpOp;simp only[ho];have an5:dD o=true->∀(j:Nat)(x:Oper),ops[j]? =some x->dD x=true->(j<m↔j<i):=by
  intro he j x hj hx;rw[<-D.eff j x hj hx];constructor
  ·intro hl
   rcases X6 j i with h|h|h;·exact h
   ·subst h;rw[DD]at hl;cases hl
   ·exfalso
    rcases R.pair j i x o hj ho h with hb|⟨_,hb⟩
    ·have:=kz D.closed hb (.inl hl)
     rw[DD]at this;cases this
    ·exact hb ⟨he,hx⟩
  ·intro h
   rcases R.pair i j o x ho hj h with hb|⟨_,hb⟩;·exact kz D.closed hb (.inr Co)
   ·exact absurd ⟨hx,he⟩ hb
 by_cases QI:cG o=true
 ·
   obtain⟨t,ht⟩:=vY.1 QI;obtain⟨hg,d,hd,amL⟩:=R.alloc i o ho QI;obtain⟨hm0,z,hz,hS⟩:=D.amM i o t ho ht DD;obtain⟨vz,z1,z2⟩:=u_ (P:=P) (w:=w) (mu:=mu) (hw:=hw) (lk:=fO (sn m).2 mu) hz;obtain⟨I',e,DQ⟩:=ahx (el:=t) D.I z2 hS hm0;have aan:Region.wanted o (yielded ops a.tmps)=true:=by simp[Region.wanted,hg]
   rw[if_pos aan];refine .inl ?_;unfold Oper.wp;have zX:(execOp a.eval o).run P w=.ok (.value (.pointer (some ⟨w.heap.size,0,none⟩))) (w.alloc (.cells vz.cells t)):=by simp[execOp,ht,Instr.alloc,z1,newVar,newRow]
   rw[zX,Oper.upon_value];have nV:=Bf QI;refine hK m _ _ _ _ _ (D.next R ho DD hr (x:=.ptr (S.length+Ob ops.toList i) 0) D.mle (fun j o' hj he=>?_) I' e (by rw[DQ];exact g9.refl _ _) (.ptr _ _ _ (eh _ _ _)) trivial (fun d' hd' cV=>?_) SH fun k hk cV ahy=>⟨rfl, ?_⟩)
   ·rw[<-D.eff j o' hj he]
    constructor
    ·rintro(h|h)
     ·subst h;rw[ho]at hj;obtain rfl:=eL hj;rw[nV]at he;cases he
     ·exact h
    ·exact .inr
   ·obtain⟨z',_,_,b3⟩:=G.hB i o t ho ht
    rw[<-b3 d' hd' cV];have:=DO H (t:=d') ops.size 0 (by omega) fun k y _ _ hy hya hyd=>by have:=MG R.nodup ho hy hd' hyd;subst this;rw[ho]at hy;obtain rfl:=eL hy;rw[QI]at hya;cases hya
    rw[yo,H.zero,H.last]at this;exact this
   ·rw[iz _ _ _ _ (ahy QI)];exact hk
 have QI:cG o=false:=by simpa using QI
 obtain⟨ahz,yk⟩:=Ox H i (by omega);have akN:(sn i).1.br.length=a.tmps.size:=by rw[ahz,G.hlen];exact D.X.len
 generalize hEM:MI (o.looksAt ops) (sn i).1 (sn m).1.aa=EM;have acR:EM.aa=(sn m).1.aa:=by rw[<-hEM];rfl
 have SL:sV (sn m).2 w mu hw (ba EM.aa (sn m).2 mu) ti EM.br a.tmps:=by
  refine⟨by rw[<-hEM];simp[MI];exact akN,fun t=>?_⟩;rw[acR,<-hEM,SE];split
  ·rename_i av4
   exact akL R H G.hA D.closed D.X ho QI DD Co av4
  ·exact⟨.undef _,trivial⟩
 have IM:Inv base bc EM.aa (sn m).2 w mu hw ti:=by rw[acR];exact D.I
 obtain⟨ht,ar2⟩:=H.run i o (sU _) ho QI;have mg:=acQ (ops:=ops) (o:=o) (E:=(sn i).1) (aa:=(sn m).1.aa);rw[hEM]at mg;have hgw:=aak SL (by rw[mg.1];exact ht);rw[hgw,mg.2];have aez:∀d y,o.dst=some d->d<E.br.length->(sn (i+1)).1.br=cW (sn i).1.br o.dst y->E'.br.getD d .undef=y:=by
  intro d y hd cV hs;have:=DO H (t:=d) (ops.size -(i+1)) (i+1) (by omega) fun k z h1 h2 hz _ hzd=>by have:=MG R.nodup ho hz hd hzd;omega
  rw[SA (by omega),H.last]at this;simp only at this;rw[this,hs,hd];exact Sr _ _ _ (by rw[ahz,G.hlen];exact cV)
 have ar3:dD o=true->∀(j:Nat)(o':Oper),ops[j]? =some o'->dD o'=true->((j=i\/aH.getD j false=true)↔j<i+1):=by intro he j o' hj LI;rw[D.eff j o' hj LI,an5 he j o' hj LI];omega
 have ar4:dD o=false->∀(j:Nat)(o':Oper),ops[j]? =some o'->dD o'=true->((j=i\/aH.getD j false=true)↔j<m):=by
  intro he j o' hj LI;rw[<-D.eff j o' hj LI];constructor
  ·rintro(h|h)
   ·subst h;rw[ho]at hj;obtain rfl:=eL hj;rw[he]at LI;cases LI
   ·exact h
  ·exact .inr
 have azv:∀{p:Prop},cG o=true->p:=by intro p h;rw[QI]at h;cases h
 rcases ar2 with⟨G3,v,aa,S1,h1,h2,h3⟩|⟨G3,h2⟩
 ·rw[if_pos G3]
  refine .inl ?_;by_cases he:dD o=true
  ·obtain⟨st,sS⟩:=Hf R H D.mle (by omega) (an5 he)
   have hev:lE P call EM (sn m).2 o=some (v,aa,S1):=by rw[sS,<-h1];exact(aao (by rw[acR];exact st.symm) (by rw[<-hEM];rfl) (by rw[<-hEM];exact X7)).symm
   refine acM zW hold hN IM SL hev fun y w1 hs=>?_;obtain⟨nG,pd,JD,I1,e1,l1,r1,f1,n1⟩:=hs;have t1:(sn (i+1)).1.aa=aa:=by rw[h2];rfl
   have s1:(sn (i+1)).2=S1:=by rw[h2]
   rw[acR]at l1
   refine hK (i+1) nG pd JD _ w1 (D.next R ho DD hr (x:=v) (by omega) (ar3 he) (by rw[t1,s1];exact I1) (by rw[s1];exact e1) (by rw[t1,s1];exact l1) (by rw[s1];exact r1) (by rw[t1,s1];exact f1)
    (fun d hd cV=>aez d v hd cV (by rw[h2];rfl)) SH fun k hk cV _=>by rw[s1];exact n1 k hk cV)
  ·have he:dD o=false:=by simpa using he
   have hev:lE P call EM (sn m).2 o=some (v,(sn m).1.aa,(sn m).2):=by
    by_cases hl:G9 o=true
    ·have:∃t p,o.op=.load t p:=by
      unfold G9 at hl;split at hl;·exact⟨_,_,by assumption⟩
      ·simp at hl
     obtain⟨t,p,LH⟩:=this
     obtain⟨v',hv',heq⟩:=akK R H G.h0 G.ahw (h3 t p LH) D.mle (fun j x hj hx hb=>(D.eff j x hj hx).1 (kz D.closed hb (.inr Co))) (fun j x hj hx hb=>by
      rcases iI j m with h|h
      ·exfalso
       have:=kz D.closed hb (.inl ((D.eff j x hj hx).2 h));rw[DD]at this;cases this
      ·exact h)
     have:=LJ _ _ heq;simp only at this hv';subst this;have hp:EM.ev p=(sn i).1.ev p:=by rw[<-hEM];exact(X7 (o:=o) p (by rw[LH];simp[Op.operands])).symm
     rw[SC LH,hp,hv',acR];rfl
    ·rw[<-acR]
     exact afS he QI (WK he) (by simpa using hl) h1 (by rw[<-hEM];exact X7) _
   refine acM zW hold hN IM SL hev fun y w1 hs=>?_;obtain⟨nG,pd,JD,I1,e1,l1,r1,f1,n1⟩:=hs;rw[acR]at l1;exact hK m nG pd JD _ w1 (D.next R ho DD hr (x:=v) D.mle (ar4 he) I1 e1 l1 r1 f1 (fun d hd cV=>aez d v hd cV (by rw[h2];rfl)) SH fun k hk cV _=>n1 k hk cV)
 ·rw[if_neg (by rw[G3];simp)]
  have und:RV w mu hw (fO (sn m).2 mu) (.cT []) undef:=by have:=RV.cT (w:=w) (mu:=mu) (hw:=hw) (lk:=fO (sn m).2 mu) [] (fun _=>undef) (by simp);simpa[undef]using this
  have fu:∀lv:aa3,cU lv ti (.cT []) undef:=by intro lv arr _ j x y hx;simp at hx
  by_cases he:dD o=true
  ·obtain⟨st,sS⟩:=Hf R H D.mle (by omega) (an5 he)
   have t1:(sn (i+1)).1.aa=(sn m).1.aa:=by rw[h2,st];rfl
   have s1:(sn (i+1)).2=(sn m).2:=by rw[h2,sS]
   exact hK (i+1) mu hw ti _ w (D.next R ho DD hr (x:=.cT []) (by omega) (ar3 he) (by rw[t1,s1];exact D.I) (by rw[s1];exact Ext.refl _ _ _ _ _ _) (by rw[t1,s1];exact g9.refl _ _) (by rw[s1];exact und) (fu _)
    (fun d hd cV=>aez d _ hd cV (by rw[h2];rfl)) SH fun k hk cV _=>by rw[s1];exact⟨rfl,hk⟩)
  ·have he:dD o=false:=by simpa using he
   exact hK m mu hw ti _ w (D.next R ho DD hr (x:=.cT []) D.mle (ar4 he) D.I (Ext.refl _ _ _ _ _ _) (g9.refl _ _) und (fu _) (fun d hd cV=>aez d _ hd cV (by rw[h2];rfl)) SH fun k hk cV _=>⟨rfl,hk⟩)
end
end
section
section
variable{P:Program}{call:bU}{ops:Array Oper}{E E0 E':Env}{S S0 S':St}{xA:List St}{yj:List AT}{sn:Nat->Env × St}{aH:Array Bool}{w:World}{mu:Nat->Option Nat}{hw:Nat->Nat}{ti:Id->TI}
 {base:Nat} {bc:Nat->Prop} {RM:St} {WM:World} {AY:Nat->Option Nat} {Cx:Nat->Nat} {Cy:Id->TI} {m:Nat} {a:Act} {aa:List (Option Nat)}
theorem WO(qz:∀i b,mu i=some b->i<S.length)(bs:St):fO (S++bs) mu=fO S mu:=by
 funext b;apply propext;constructor
 ·rintro⟨i,cs,bt,h1,h2⟩
  exact⟨i,cs,bt,by rw[kP (qz i b h2)]at h1;exact h1,h2⟩
 ·rintro⟨i,cs,bt,h1,h2⟩
  exact⟨i,cs,bt,by rw[kP (qz i b h2)];exact h1,h2⟩
theorem sw(qz:∀i b,mu i=some b->i<S.length)(bs:St):ba aa (S++bs) mu=ba aa S mu:=by
 funext id;cases id with
 |fr n=>rfl
 |bx i j=>
  simp only[ba];cases h:mu i with
  |none=>rfl
  |some b=>rw[kP (qz i b h)]
theorem WQ(I:Inv base bc aa S w mu hw ti)(bs:St):Inv base bc aa (S++bs) w mu hw ti/\Ext base bc S w mu hw (S++bs) w mu hw:=by
 have qz:∀i b,mu i=some b->i<S.length:=fun i b h=>(I.iX i b h).1;refine⟨⟨fun i bx b h1 h2=>?_,fun i cells bt l b h1 h2=>?_,I.vZ,fun i b h=>?_,I.zj, ?_, ?_,I.lJ,I.mP,I.AW⟩,⟨fun _ _ h=>h,fun _=>eJ _,fun b h=>by rw[WO qz];exact h,fun _ _ _ _ h=>h,fun _ _=>⟨rfl,rfl⟩,BK.refl _ _,by simp⟩⟩
 ·rw[kP (qz i b h2)]at h1
  rw[WO qz];exact I.qU i bx b h1 h2
 ·rw[kP (qz i b h2)]at h1
  rw[sw qz];exact I.qL i cells bt l b h1 h2
 ·obtain⟨p,q⟩:=I.iX i b h
  exact⟨by simp;omega,q⟩
 ·rw[sw qz];exact I.v8
 ·rw[sw qz];exact I.oQ
theorem afT(R:He ops)(hs:aH.size=ops.size)(h:Region.ready .any ops aH=[]):∀(n i:Nat),i<n->i<ops.size->aH.getD i false=true:=by
 intro n;induction n with
 |zero=>intro i hi;omega
 |succ n ih=>
  intro i hi cV;cases hc:aH.getD i false with
  |true=>rfl
  |false=>
   exfalso;have ho:ops[i]? =some ops[i]:=nd cV;have:i∈Region.ready .any ops aH:=by
    unfold Region.ready;rw[P2];refine⟨by simpa using cV, ?_⟩;have h1:aH.getD i true=false:=by
     have h2:i<aH.size:=by omega
     rw[m_]at hc⊢;rw[nd h2]at hc⊢;exact hc
    rw[h1,ho];simp only[LD,qJ,SF,MK];rw[SG];intro e he;cases hb:Region.binds .any e with
    |false=>rfl
    |true=>
     have h3:=R.back i _ ho e he hb;simp only[Oz,X8];exact ih e.on (by omega) (by omega)
   rw[h]at this;cases this
theorem ML(hs:aH.size=ops.size)(h:∀i,i<ops.size->aH.getD i false=true):Region.ready .any ops aH=[]:=by
 unfold Region.ready;rw[List.filter_eq_nil_iff];intro i hi;have cV:i<ops.size:=by simpa using hi
 have h1:aH.getD i true=true:=by
  have h0:=h i cV;have h2:i<aH.size:=by omega
  rw[m_]at h0⊢;rw[nd h2]at h0⊢;exact h0
 simp[h1]
theorem DS.fin(G:Reg P call ops E E0 S S0 E' S' xA yj sn)(D:DS P ops E E' S sn base bc RM WM AY Cx Cy m mu hw ti aH a w)(h:∀i,i<ops.size->aH.getD i false=true):
 Z8 base bc RM WM AY Cx Cy E' S' a w:=by
 have H:=G.H;obtain⟨st,sS⟩:=Hf G.R H D.mle (eJ _) (fun j o hj he=>by have cV:j<ops.size:=(MH.1 hj).1;have:=(D.eff j o hj he).1 (h j cV);exact⟨fun _=>cV,fun _=>this⟩);rw[H.last]at st sS;have st:(sn m).1.aa=E'.aa:=st;have sS:(sn m).2=S':=sS;have I:=D.I;have X:=D.X;have ext:=D.ext;have lv:=D.lv;have uE:=D.uE;rw[st,sS]at I X lv;rw[sS]at ext uE;have SH:E'.br.length=E.br.length:=by have:=(Ox H ops.size (eJ _)).1;rw[H.last]at this;exact this.trans G.hlen
 refine⟨mu,hw,ti,I,⟨SH.trans X.len,fun t=>?_⟩,ext,lv,D.defers,uE⟩;by_cases hw':∃(j:Nat)(x:Oper),ops[j]? =some x/\x.dst=some t
 ·obtain⟨j,x,hj,hx⟩:=hw'
  exact X.done t j x hj hx (h j (MH.1 hj).1)
 ·have AU:∀(j:Nat)(x:Oper),ops[j]? =some x->x.dst≠some t:=fun j x hj hx=>hw' ⟨j,x,hj,hx⟩
  have:=DO H (t:=t) ops.size 0 (by omega) fun k y _ _ hy _=>AU k y hy;rw[yo,H.zero,H.last]at this;have this:E'.br.getD t .undef=E0.br.getD t .undef:=this;rw[this,G.hA t fun x hx _ e=>?_];·exact X.todo t fun j x hj hx=>absurd hx (AU j x hj)
  ·obtain⟨j,hj⟩:=zV hx
   exact AU j x (by simpa using hj) e
theorem ahA(G:Reg P call ops E E0 S S0 E' S' xA yj sn)(zW:lH P call)(hold:jq call)(hN:Cw P){Q:Exit->Act->World->Prop}
 (hQ:∀a' w',Z8 base bc RM WM AY Cx Cy E' S' a' w'->Q .normal a' w'):∀(fuel m:Nat)(mu:Nat->Option Nat)(hw:Nat->Nat)(ti:Id->TI)(aH:Array Bool)(a:Act)(w:World),
  DS P ops E E' S sn base bc RM WM AY Cx Cy m mu hw ti aH a w->aH.toList.countP (!·)<=fuel->wpAny P .any ops Q fuel aH a w:=by
 intro fuel;induction fuel with
 |zero=>
  intro m mu hw ti aH a w D hc;have nX:∀i,i<ops.size->aH.getD i false=true:=by
   intro i hi;have hl:i<aH.size:=by rw[D.SD];exact hi
   have h0:aH.toList.countP (!·)=0:=by omega
   rw[acH]at h0;have:=h0 aH[i] (by simp);rw[m_,nd hl];simpa using this
  exact⟨ML D.SD nX,hQ a w (D.fin G nX)⟩
 |succ fuel ih=>
  intro m mu hw ti aH a w D hc;refine⟨fun h=>hQ a w (D.fin G fun i hi=>afT G.R D.SD h (i+1) i (by omega) hi),fun i hi=>?_⟩;refine WN G zW hold hN D hi fun m' mu' hw' ti' a' w' D'=>ih m' mu' hw' ti' _ a' w' D' ?_;unfold Region.ready at hi;rw[P2]at hi;obtain⟨hi1,hi2⟩:=hi;have cV:i<ops.size:=by simpa using hi1
  have hl:i<aH.toList.length:=by have:=D.SD;simp;omega
  simp only[dk,P3]at hi2;have h3:aH.toList[i]=false:=by have h2:=hi2.1;rw[m_,nd (by simpa using hl)]at h2;simpa using h2
  rw[Array.toList_setIfInBounds,List.countP_set hl,h3];simp only[LD,if_true,Oz,rL,if_false,sR];have LF:0<aH.toList.countP (!·):=by rw[List.countP_pos_iff];exact⟨aH.toList[i],List.getElem_mem hl,by rw[h3];rfl⟩
  omega
end
theorem akO{P:Program}{call:bU}(hm:P.follows .mixedOrders=true)(hN:Cw P)(zW:lH P call)(hold:jq call):akP P call:=by
 intro id ops E S E' S' Hk h base bc RM WM AY Cx Cy a w Q Rn hQ;have R:=KQ Hk;unfold G_ at h;split at h;·simp at h
 rename_i E0 S0 QI;split at h;·simp at h
 rename_i E1 S1 ss ls htr;split at h;case isFalse=>simp at h
 rename_i acS;simp only[jB,g_]at h;obtain⟨rfl,rfl⟩:=h;obtain⟨a1,a2,a3,⟨bs,rfl⟩,a5,a6⟩:=PY _ _ _ _ _ QI R.nodup;obtain⟨⟨t,ht⟩,_,sn,H⟩:=P4 ops.toList 0 E0 (S++bs) [S++bs] [] _ _ ss ls (fun j=>by simp) (by simp) (by simp[Ow]) (fun o _ ha=>Bf ha) htr;have G:Reg P call ops E E0 S (S++bs) E1 S1 ss ls sn:={
  R:=R
  H:=H
  h0:=by rw[ht];rfl
  ahw:=acS
  hA:=a6
  hB:=fun j o t hj ho=>a5 j o t (by simpa using hj) ho
  hlen:=a3
  amO:=a1}
 refine wp_region_any hm ?_;obtain⟨mu,hw,ti,I,SL,e,lv,hd,uE⟩:=Rn;obtain⟨I1,e1⟩:=v9 I;obtain⟨I2,e2⟩:=WQ I1 bs;have qz:∀i b,mu i=some b->i<S.length:=fun i b h=>(I.iX i b h).1;refine ahA G zW hold hN hQ ops.size 0 mu hw ti _ a _ ?_ ?_
 ·refine⟨sU _,fun j o hj he=>?_, ?_,⟨SL.1,fun t i o hi ho hl=>?_,fun t _=>?_⟩, ?_, ?_,fun j o t hj LH _=>?_,fun i hi cV=>?_,e.QJ,hd,fun i o hi hl=>?_,by simp⟩
  ·have:(Array.replicate ops.size false).getD j false=false:=by rw[m_,aap];split<;>rfl
   rw[this];simp
  ·rw[H.zero]
   show Inv base bc E0.aa (S++bs) _ mu hw ti;rw[a1];exact I2
  ·exfalso
   rw[m_,aap]at hl;split at hl<;>simp at hl
  ·rw[H.zero]
   show RV _ mu hw (fO (S++bs) mu) _ _/\cU (ba E0.aa (S++bs) mu) ti _ _;rw[a1,sw qz];exact⟨e2.rv (e1.rv (SL.2 t).1),(SL.2 t).2⟩
  ·rw[H.zero]
   exact(e.trans e1).trans e2
  ·rw[H.zero]
   show g9 _ _ (ba E0.aa (S++bs) mu) ti;rw[a1,sw qz];exact lv
  ·obtain⟨z,b1,b2,_⟩:=G.hB j o t hj LH
   refine⟨?_,z,b1,by rw[H.zero];exact b2⟩;cases Bd:mu (S.length+Ob ops.toList j)with
   |none=>rfl
   |some b=>have:=qz _ _ Bd;omega
  ·obtain⟨p,q⟩:=uE i hi cV
   refine⟨?_,q⟩;rw[H.zero];show(S++bs)[i]? =_;rw[kP (Bg cV e.QJ)];exact p
  ·exfalso
   rw[m_,aap]at hl;split at hl<;>simp at hl
 ·have h1:(Array.replicate ops.size false).toList.length=ops.size:=by simp
  have h2:(Array.replicate ops.size false).toList.countP (!·)<=(Array.replicate ops.size false).toList.length:=List.countP_le_length;omega
end
section
theorem Vz(w:World)(vs:Array Value)(e:TypeId)(o:Nat)(v:Value):(w.alloc (.cells vs e)).setCell ⟨w.heap.size,o,none⟩ v=w.alloc (.cells (vs.setIfInBounds o v) e):=by
 unfold World.setCell World.alloc;simp only;congr 1;apply KT;intro k;simp only[SS,acU];by_cases h:w.heap.size=k;·subst h;simp
 ·have h':¬k=w.heap.size:=fun e=>h e.symm
  simp[h,h']
theorem Hm(w:World)(e:TypeId):∀(l:List Value)(A B C:Array Value),B.size=l.length->(w.alloc (.cells (A++B++C) e)).setCells w.heap.size A.size l=w.alloc (.cells (A++l.toArray++C) e):=by
 intro l;induction l with
 |nil=>
  intro A B C h;have:B= #[]:=by apply Array.eq_empty_of_size_eq_zero;simpa using h
  subst this;rfl
 |cons v l ih=>
  intro A B C h;show((w.alloc (.cells (A++B++C) e)).setCell ⟨w.heap.size,A.size,none⟩ v).setCells w.heap.size (A.size+1) l=_;rw[Vz];have h2:0<B.size:=by simp at h;omega
  have e1:(A++B++C).setIfInBounds A.size v=(A.push v)++(B.extract 1 B.size)++C:=by
   apply KT;intro k;simp only[Hj,Array.getElem?_append,Yb,Array.size_push,Array.size_extract,acU,Cv];by_cases hk:A.size=k
   ·subst hk
    rw[if_pos rfl,if_pos (by omega),if_pos (by omega),if_pos (by omega),if_pos rfl]
   ·rw[if_neg hk]
    by_cases h3:k<A.size;·simp[h3,show k<A.size+B.size by omega,show k<A.size+1 by omega,show k<A.size+1+(B.size -1)by omega,show¬k=A.size by omega]
    ·by_cases h4:k<A.size+B.size
     ·simp[h3,h4,show¬k<A.size+1 by omega,show k<A.size+1+(B.size -1)by omega]
      rw[if_pos (by omega)];congr 1;omega
     ·simp[h4,show¬k<A.size+1+(B.size -1)by omega]
      congr 1;omega
  rw[e1];have:=ih (A.push v) (B.extract 1 B.size) C (by simp at h⊢;omega);simp only[Array.size_push]at this;rw[this];congr 2;simp[Array.append_assoc]
section
variable{P:Program}{base:Nat}{bc:Nat->Prop}{aa aG:List (Option Nat)}{S S':St}{w w':World}{mu:Nat->Option Nat}{hw:Nat->Nat}{ti:Id->TI}
def an7(P:Program)(base:Nat)(bc:Nat->Prop)(aa:List (Option Nat))(S:St)(w:World)(mu:Nat->Option Nat)(hw:Nat->Nat)(ti:Id->TI)(aG:List (Option Nat))(S':St)(ts:Array TypeId)(ty:TypeId)(args:Array Value)
 (sz:Nat) (cv:Array Value) (v:Value) (r:AV):Prop:=
 ∃b o n cap w1,(∃a c0,v=.slice a n c0)/\(Builtin.append_ ts ty args).run P w=.ok (.slice (some ⟨b,o,none⟩) (n+1) cap) w1/\n+1<=cap/\
  (∃vs el,w1.heap[b]? =some (.cells vs el (0,0))/\o+n*sz+sz<=vs.size)/\(∀i,mu i≠some b)/\(∀k,k≠b->k<w.heap.size->w1.heap[k]? =w.heap[k]?)/\
  Step base bc aa S w mu hw ti aG S' (w1.setCells b (o+n*sz) cv.toList) r (.slice (some ⟨b,o,none⟩) (n+1) cap)
theorem ar_(I:Inv base bc aa S w mu hw ti)(hs:zY S S'){id:Id}{es:List (List AV)}{zc cells:List AV}{cv:Array Value}{sz:Nat}{ts:Array TypeId}{ty e:TypeId}(ha:G5 P ts=some (e,sz))
 {args:Array Value} {x:AV} {v vx:Value} (h0:args[0]? =some v) (h1:args[1]? =some vx) (hv:RV w mu hw (fO S mu) (.sl (P7 id) sz es) v) (hf:cU (ba aa S mu) ti (.sl (P7 id) sz es) v)
 (hx:RV w mu hw (fO S mu) x vx) (he:bL S x=some (sz,[zc])) (Yc:ES w mu hw (fO S mu) sz [cells] cv) (zi:es.length+1<=1073741824)
 (qO:ba aa S mu id=some (some es.length))
 (hl:∀x,ba aG S' mu x=if x=id then some (some (es.length+1))else ba aa S mu x)
 (hk:∀i,mu i=none->S'[i]? =S[i]?) (PZ:∀i j,id=.bx i j->∃b,mu i=some b):
 an7 P base bc aa S w mu hw ti aG S' ts ty args sz cv v (.sl (P7 id) sz (es++[cells])):=by
 have ht:afV (ti id) sz es.length v:=by
  have:DW (ba aa S mu) ti id sz es.length v:=by cases id<;>exact hf
  obtain⟨o,t1,t2⟩:=this;rw[qO]at t1;obtain rfl:=eL t1;exact(t2 _ rfl).2 rfl
 obtain⟨_,_,_,_,_,_,_,_,_,_,_,_,_,_,_,ky⟩:=nD ha;have ahC:v=.slice (some ⟨(ti id).b,(ti id).o,none⟩) es.length (ti id).cap:=ht.1;obtain⟨l1,l2⟩:=jR (P:=P) I hx he ky (fun _=>rfl);have Sx:cv.size=sz:=by have:=Yc.size;simpa using this
 obtain⟨av_,_,awa⟩:=I.v8 id _ qO;obtain⟨t1,t2,t3,t4,vs,el,t5,t6⟩:=av_;rw[ht.2]at t1 t3 t6;by_cases hc:es.length+1<=(ti id).cap
 ·obtain⟨new,n1,n2⟩:=l2 1 (eJ _)
  rw[show[zc].take 1=[zc]from rfl]at n2;have Bc:(es.length+1)*sz<=(ti id).cap*sz:=uN sz hc;rw[zT,SN]at Bc;have hns:new.size=sz:=by have:=n2.size;simpa using this
  obtain⟨⟨DA,s1,s2,s3⟩,s4,s5,s6,s7,s8⟩:=om (ti id).b el (0,0) new.toList ((ti id).o+es.length*sz) w vs t5 (by simp;omega);obtain⟨⟨vs2,q1,q2,q3⟩,q4,q5,q6,q7,q8⟩:=om (ti id).b el (0,0) cv.toList ((ti id).o+es.length*sz) (w.setCells (ti id).b ((ti id).o+es.length*sz) new.toList) DA s1 (by simp;omega);have py:(storeCells ⟨(ti id).b,(ti id).o+es.length*sz,none⟩ new.toList).run P w=.ok () (w.setCells (ti id).b ((ti id).o+es.length*sz) new.toList):=by
   have:=run_storeCells_cells (P:=P) (ti id).b ((ti id).o+es.length*sz) new.toList 0 w
    (fun j hj=>by rw[eM t5];simp at hj;simp;omega)
    (fun j _=>by simp[World.frozen?,t5])
    (fun y hy=>by
     obtain⟨k,hk⟩:=zV hy;have KS:new[k]? =some y:=by simpa using hk
     have asa:=nC KS;have hp:0<sz:=by omega
     have hj:k<zc.length:=by rw[n2.len 0 zc rfl];omega
     obtain⟨p,y',gg,hr⟩:=n2.cell 0 zc k _ rfl (Ct hj);rw[Nat.zero_mul,yo,KS]at gg;obtain rfl:=eL gg;exact hr.one p)
   simpa using this
  refine⟨_,_,es.length,_,_,⟨_,_,ahC⟩,P0 ha (by rw[h0,ahC]) h1 l1 n1 hc py,hc,⟨DA,el,s1,by rw[s2];omega⟩,awa,fun k hk _=>s4 k hk, ?_⟩;refine aau (xs:=[cells]) I hs hv ht qO Yc (by simp) hc t5 q1 (fun k hk=>(q4 k hk).trans (s4 k hk)) (q5.trans s5) ⟨q6.trans s6,q7.trans s7,q8.1.trans s8.1,yq s8.2 q8.2⟩ (q2.trans s2) (fun k=>?_) hl hk PZ;rw[q3 k,s3 k];simp only[WB,Sx,hns];split;·simp
  ·rfl
 ·obtain⟨Id1,ed1⟩:=v9 I
  obtain⟨_,l2'⟩:=jR (P:=P) Id1 (ed1.rv hx) he ky (fun _=>rfl);obtain⟨new,n1,n2⟩:=l2' 1 (eJ _);rw[show[zc].take 1=[zc]from rfl]at n2;have hns:new.size=sz:=by have:=n2.size;simpa using this
  obtain⟨_,o2⟩:=jR (P:=P) (x:=.sl (P7 id) sz es) Id1 (ed1.rv hv) rfl ky (fun _=>rfl);obtain⟨uE,o1,o3⟩:=o2 es.length (eJ _);rw[Hd]at o3;rw[ahC]at o1;obtain⟨newCap,rest,c1,c2,c3⟩:=zh (ty:=ty) ha (by rw[h0,ahC]) h1 l1 o1 n1 hc zi;have WS:uE.size=es.length*sz:=o3.size;have hES:ES w mu hw (fO S mu) sz (es++[cells]) (uE++cv):=(o3.OC).append Yc;have hwd:w.drew.heap.size=w.heap.size:=rfl;have e1:(w.drew.alloc (.cells (uE++new++rest) e)).setCells w.heap.size (0+es.length*sz) cv.toList=w.drew.alloc (.cells (uE++cv++rest) e):=by have:=Hm w.drew e cv.toList uE new rest (by simp[hns,Sx]);rw[hwd,WS]at this;rw[yo,this]
  refine⟨w.heap.size,0,es.length,newCap,_,⟨_,_,ahC⟩,c3,c1,⟨_,e,heap_alloc_new _ _, ?_⟩,fun i hi=>by have:=(I.iX i _ hi).2.2.1;omega,fun k _ hk=>heap_alloc _ _ _ hk, ?_⟩;·simp only[Yb,WS,hns];omega
  ·rw[e1]
   have:=JF (aG:=aG) (S':=S') (newCap:=newCap) (rest:=rest) (el:=e) (id:=id) I hs hES ky (by simpa using c1) (by simpa using c2) (by simpa using hl) (.inr ⟨_,qO,by simp⟩) hk PZ;simpa using this
theorem akR(I:Inv base bc aa S w mu hw ti){s:AV}{es:List (List AV)}{zc cells:List AV}{cv:Array Value}{sz:Nat}{ts:Array TypeId}{ty e:TypeId}(ha:G5 P ts=some (e,sz))
 {args:Array Value} {x:AV} {a:Option Addr} {len cap:Nat} {vx:Value} (h0:args[0]? =some (.slice a len cap)) (h1:args[1]? =some vx) (hv:RV w mu hw (fO S mu) s (.slice a len cap)) (hse:∃z,bL S s=some (z,es)/\(es.length≠0->z=sz)) (hlen:len=es.length)
 (hx:RV w mu hw (fO S mu) x vx) (he:bL S x=some (sz,[zc])) (Yc:ES w mu hw (fO S mu) sz [cells] cv) (AU:cap<len+1) (zi:es.length+1<=1073741824):
 an7 P base bc aa S w mu hw ti (aa++[some (es.length+1)]) S ts ty args sz cv (.slice a len cap) (.sl (.fr aa.length) sz (es++[cells])):=by
 subst hlen;obtain⟨_,_,_,_,_,_,_,_,_,_,_,_,_,_,_,ky⟩:=nD ha;obtain⟨l1,_⟩:=jR (P:=P) I hx he ky (fun _=>rfl);have Sx:cv.size=sz:=by have:=Yc.size;simpa using this
 obtain⟨Id1,ed1⟩:=v9 I;obtain⟨_,l2'⟩:=jR (P:=P) Id1 (ed1.rv hx) he ky (fun _=>rfl);obtain⟨new,n1,n2⟩:=l2' 1 (eJ _);rw[show[zc].take 1=[zc]from rfl]at n2;have hns:new.size=sz:=by have:=n2.size;simpa using this
 obtain⟨zz,hse,hzz⟩:=hse;obtain⟨_,o2⟩:=jR (P:=P) Id1 (ed1.rv hv) hse ky hzz;obtain⟨uE,o1,o3⟩:=o2 es.length (eJ _);rw[Hd]at o3;obtain⟨newCap,rest,c1,c2,c3⟩:=zh (ty:=ty) ha h0 h1 l1 o1 n1 (by simp;omega) zi;have WS:uE.size=es.length*sz:=o3.size;have hES:ES w mu hw (fO S mu) sz (es++[cells]) (uE++cv):=(o3.OC).append Yc;have hwd:w.drew.heap.size=w.heap.size:=rfl;have e1:(w.drew.alloc (.cells (uE++new++rest) e)).setCells w.heap.size (0+es.length*sz) cv.toList=w.drew.alloc (.cells (uE++cv++rest) e):=by have:=Hm w.drew e cv.toList uE new rest (by simp[hns,Sx]);rw[hwd,WS]at this;rw[yo,this]
 refine⟨w.heap.size,0,es.length,newCap,_,⟨_,_,rfl⟩,c3,c1,⟨_,e,heap_alloc_new _ _, ?_⟩,fun i hi=>by have:=(I.iX i _ hi).2.2.1;omega,fun k _ hk=>heap_alloc _ _ _ hk, ?_⟩;·simp only[Yb,WS,hns];omega
 ·rw[e1]
  have:=JF (aG:=aa++[some (es.length+1)]) (S':=S) (newCap:=newCap) (rest:=rest) (el:=e) (id:=.fr aa.length) I (zY.refl S) hES ky (by simpa using c1) (by simpa using c2)
   (by simpa using fun x=>MO (S:=S) (mu:=mu) (aa:=aa) x) (.inl (by simp[ba])) (fun _ _=>rfl) (by simp)
  simpa[P7]using this
end
end
section
section
variable{P:Program}{base:Nat}{bc:Nat->Prop}{aa aG:List (Option Nat)}{S S':St}{w w':World}{mu:Nat->Option Nat}{hw:Nat->Nat}{ti:Id->TI}
theorem acV(I:Inv base bc aa S w mu hw ti){ts:Array TypeId}{ty:TypeId}{args:Array Value}{s x r:AV}{v vx:Value}{zc cells:List AV}{sz:Nat}{cv:Array Value}(h0:args[0]? =some v)(h1:args[1]? =some vx)
 (hv:RV w mu hw (fO S mu) s v) (hf:cU (ba aa S mu) ti s v) (hx:RV w mu hw (fO S mu) x vx) (he:bL S x=some (sz,[zc])) (Yc:ES w mu hw (fO S mu) sz [cells] cv)
 (h:nW P aa S ts s (.sl .exact sz [cells])=some (r,aG,S')):an7 P base bc aa S w mu hw ti aG S' ts ty args sz cv v r:=by
 unfold nW at h;split at h;case h_2=>simp at h
 rename_i e sz0 xz xs ha hxs;obtain⟨rfl,rfl⟩:sz=xz/\[cells]=xs:=by simpa[bL]using hxs
 obtain⟨_,_,_,_,_,_,_,_,_,_,_,_,_,_,_,ky⟩:=nD ha;split at h;·rename_i hx0;simp at hx0
 split at h;·simp at h
 rename_i hxz;have hxz:sz=sz0:=by simpa using hxz
 subst hxz;split at h
 ·split at h
  case isFalse=>simp at h
  rename_i zi;simp at h;obtain⟨rfl,rfl,rfl⟩:=h;cases hv;have:=akR (ty:=ty) (s:=.ah) (es:=[]) I ha h0 h1 .ah ⟨0,rfl,by simp⟩ rfl hx he Yc (by omega) (by simp);simpa using this
 ·rename_i rr pj es
  split at h;·simp at h
  rename_i hc;have hzz:pj=sz:=KU fun e=>hc (.inl e);have zi:es.length+1<=1073741824:=Oy fun e=>hc (.inr e);subst hzz;split at h
  ·simp at h
   obtain⟨rfl,rfl,rfl⟩:=h;have hv':=hv;cases hv with
   |zg _ _=>exact akR I ha h0 h1 hv' ⟨_,rfl,fun _=>rfl⟩ rfl hx he Yc (by omega) zi
   |sl _ _ _ b o len cap f g0 hr hb hl hs g1 g2=>
    have:=hr rfl;exact akR I ha h0 h1 hv' ⟨_,rfl,fun _=>rfl⟩ g0.1 hx he Yc (by omega) zi
  ·rename_i k
   split at h;case isFalse=>simp at h
   rename_i hk;simp at h;obtain⟨rfl,rfl,rfl⟩:=h;exact ar_ (id:=.fr k) I (zY.refl S) ha h0 h1 hv hf hx he Yc zi hk (fun x=>aeA x (bQ hk)) (fun _ _=>rfl) (by simp)
  ·rename_i i j
   split at h;case h_2=>simp at h
   rename_i cs bt hS;split at h;case isFalse=>simp at h
   rename_i hj;simp at h;obtain⟨rfl,rfl,rfl⟩:=h;obtain⟨b,hm⟩:∃b,mu i=some b:=by
    cases hv with
    |sl _ _ _ b o len cap f g0 hr hb hl hs g1 g2=>exact hb i j rfl
   refine ar_ (id:=.bx i j) I (aaw hS) ha h0 h1 hv hf hx he Yc zi (by simp[ba,hm,hS,hj]) (fun x=>aeB x hm hS (bQ hj)) (fun k hk=>?_) (fun i' j' e=>by cases e;exact⟨b,hm⟩);exact lG (fun e=>by subst e;rw[hm]at hk;cases hk)
  ·simp at h
 ·rename_i i off len cap pj
  split at h;·simp at h
  rename_i hc;split at h;case h_2=>simp at h
  rename_i z es qM;simp at h;obtain⟨rfl,rfl,rfl⟩:=h;have hv':=hv;cases hv with
  |aref _ _ _ _ _ b hb g0=>
   have hlen:len=es.length:=by
    simp only[bL]at qM;split at qM
    ·split at qM
     ·simp at qM;rw[<-qM.2];simp
     ·simp at qM
    ·simp at qM
   have hz:z=pj:=by
    simp only[bL]at qM;split at qM
    ·split at qM
     ·simp at qM;exact qM.1.symm
     ·simp at qM
    ·simp at qM
   have hzz:pj=sz:=KU fun e=>hc (.inl e);simp at hc;exact akR I ha h0 h1 hv' ⟨_,qM,fun _=>by omega⟩ hlen hx he Yc (by omega) (by omega)
 ·simp at h
end
end
structure Fz where
 x:Tmp
 z:Tmp
 y:Tmp
 q:Tmp
 v:Tmp
 f:Tmp
 l:Tmp
 g:Tmp
 jl:Nat
 jz:Nat
 ts:Array TypeId
 ti:TypeId
 te:TypeId
 ta:TypeId
 tb:TypeId
 tf:TypeId
 fi:Nat
def n_(ops:Array Oper)(p:Nat):Array Oper:=ops.extract 0 p
def xB(ops:Array Oper)(i:Nat):Option Op:=(ops[i]?).map (·.op)
def mr(ops:Array Oper)(i:Nat):Option Tmp:=(ops[i]?).bind (·.dst)
def asl:Operand->Option Tmp
 |.tmp t=>some t
 |_=>none
def WT(ops:Array Oper):Option Fz:=
 let p:=ops.size -5
 match xB ops p,xB ops (p+1),xB ops (p+2),xB ops (p+3),xB ops (p+4)with
 |some (.call ⟨.builtin .append,args,ts⟩),some (.indexAddr ti (.tmp y) (.tmp l)),some (.store te (.tmp q) (.tmp v)),some (.fieldAddr tf (.tmp g) fi),some (.store ta (.tmp f) (.tmp _))=>
  match args.toList.map asl with
  |[some x,some z]=>
   match(List.range p).find? (fun j=>mr ops j==some l),(List.range p).find? (fun j=>mr ops j==some z)with
   |some jl,some jz=>match xB ops jz with
    |some (.buildSlice tb 1 _)=>some ⟨x,z,y,q,v,f,l,g,jl,jz,ts,ti,te,ta,tb,tf,fi⟩
    |_=>none
   |_,_=>none
  |_=>none
 |_,_,_,_,_=>none
structure ahG(P:Program)(ops:Array Oper)(F:Fz):Prop where
 size:5<=ops.size
 back:∀(i:Nat)(o:Oper),ops[i]? =some o->∀e∈o.after,Region.binds .any e=true->e.on<i
 pre:zS (n_ ops (ops.size -5))=true
 guard:∀o∈ops.toList,o.guard=none
 o0:xB ops (ops.size -5)=some (.call ⟨.builtin .append,#[.tmp F.x,.tmp F.z],F.ts⟩)/\mr ops (ops.size -5)=some F.y
 o1:xB ops (ops.size -5+1)=some (.indexAddr F.ti (.tmp F.y) (.tmp F.l))/\mr ops (ops.size -5+1)=some F.q
 o2:xB ops (ops.size -5+2)=some (.store F.te (.tmp F.q) (.tmp F.v))/\mr ops (ops.size -5+2)=none
 o3:xB ops (ops.size -5+3)=some (.fieldAddr F.tf (.tmp F.g) F.fi)/\mr ops (ops.size -5+3)=some F.f
 o4:xB ops (ops.size -5+4)=some (.store F.ta (.tmp F.f) (.tmp F.y))/\mr ops (ops.size -5+4)=none
 ol:F.jl<ops.size -5/\mr ops F.jl=some F.l/\∃tl,kG P tl≠none/\xB ops F.jl=some (.call ⟨.builtin .len,#[.tmp F.x],#[tl]⟩)
 ox:∀j,F.jl<=j->j<ops.size -5->mr ops j≠some F.x
 oz:F.jz<ops.size -5/\mr ops F.jz=some F.z/\∃ps,xB ops F.jz=some (.buildSlice F.tb 1 ps)
 dsts:∀j,j<ops.size -5->mr ops j≠some F.y/\mr ops j≠some F.q
 neq:F.y≠F.q/\F.y≠F.x/\F.y≠F.z/\F.y≠F.v/\F.y≠F.l/\F.y≠F.f/\F.y≠F.g/\F.q≠F.x/\F.q≠F.z/\F.q≠F.v/\F.q≠F.l/\F.q≠F.f/\F.q≠F.g/\
  F.l≠F.x/\F.l≠F.z/\F.l≠F.v/\F.l≠F.f/\F.l≠F.g/\F.f≠F.x/\F.f≠F.z/\F.f≠F.v/\F.f≠F.g/\F.z≠F.x/\F.z≠F.v
 b0:∀j,j<ops.size -5->((Region.before ops).getD (ops.size -5) 0).testBit j=true
 b1:((Region.before ops).getD (ops.size -5+1) 0).testBit (ops.size -5)=true
 b2:((Region.before ops).getD (ops.size -5+2) 0).testBit (ops.size -5+1)=true
 b3:((Region.before ops).getD (ops.size -5+3) 0).testBit (ops.size -5)=true
 b4:((Region.before ops).getD (ops.size -5+4) 0).testBit (ops.size -5+3)=true
 elem:kG P F.ti=kG P F.tb/\∃e,kG P F.tb=some e/\iK P e=iK P F.te/\iK P F.ta=some 1
def fzB(P:Program)(ops:Array Oper)(F:Fz):Bool:=
 let p:=ops.size -5
 let b:=Region.before ops
 decide (5<=ops.size)&&ops.toList.zipIdx.all (fun(o,i)=>o.after.all fun e=> !Region.binds .any e||decide (e.on<i))&&zS (n_ ops p)&&ops.toList.all (fun o=>o.guard.isNone)&&
 (mr ops p==some F.y)&&(mr ops (p+1)==some F.q)&&(mr ops (p+2)==none)&&(mr ops (p+3)==some F.f)&&(mr ops (p+4)==none)&&
 (match xB ops p with|some (.call ⟨.builtin .append,args,ts⟩)=>(match args.toList with|[.tmp x,.tmp z]=>x==F.x&&z==F.z&&ts==F.ts|_=>false)|_=>false)&&
 (match xB ops (p+1)with|some (.indexAddr t (.tmp y) (.tmp l))=>t==F.ti&&y==F.y&&l==F.l|_=>false)&&
 (match xB ops (p+2)with|some (.store t (.tmp q) (.tmp v))=>t==F.te&&q==F.q&&v==F.v|_=>false)&&
 (match xB ops (p+3)with|some (.fieldAddr t (.tmp g) i)=>t==F.tf&&g==F.g&&i==F.fi|_=>false)&&
 (match xB ops (p+4)with|some (.store t (.tmp f) (.tmp y))=>t==F.ta&&f==F.f&&y==F.y|_=>false)&&
 decide (F.jl<p)&&(mr ops F.jl==some F.l)&&
 (match xB ops F.jl with|some (.call ⟨.builtin .len,args,ts⟩)=>(match args.toList,ts.toList with|[.tmp x],[tl]=>x==F.x&&(kG P tl).isSome|_,_=>false)|_=>false)&&
 decide (F.jz<p)&&(mr ops F.jz==some F.z)&&
 (match xB ops F.jz with|some (.buildSlice t 1 _)=>t==F.tb|_=>false)&&
 (List.range p).all (fun j=>mr ops j !=some F.y&&mr ops j !=some F.q)&&
 decide (F.y≠F.q/\F.y≠F.x/\F.y≠F.z/\F.y≠F.v/\F.y≠F.l/\F.y≠F.f/\F.y≠F.g/\F.q≠F.x/\F.q≠F.z/\F.q≠F.v/\F.q≠F.l/\F.q≠F.f/\F.q≠F.g/\
  F.l≠F.x/\F.l≠F.z/\F.l≠F.v/\F.l≠F.f/\F.l≠F.g/\F.f≠F.x/\F.f≠F.z/\F.f≠F.v/\F.f≠F.g/\F.z≠F.x/\F.z≠F.v)&&
 (List.range p).all (fun j=>(b.getD p 0).testBit j)&&(List.range p).all (fun j=>decide (j<F.jl)||mr ops j !=some F.x)&&
 (b.getD (p+1) 0).testBit p&&(b.getD (p+2) 0).testBit (p+1)&&(b.getD (p+3) 0).testBit p&&(b.getD (p+4) 0).testBit (p+3)&&
 (kG P F.ti==kG P F.tb)&&(match kG P F.tb with|some e=>iK P e==iK P F.te&&iK P F.ta==some 1|none=>false)
def Ye(P:Program)(ops:Array Oper):Option Fz:=(WT ops).bind fun F=>if fzB P ops F=true then some F else none
def postOf(F:Fz):List Oper:=
 [⟨some F.z,.buildSlice F.tb 1 #[(0,.tmp F.v)],0,"",#[],none⟩,⟨some F.y,.call ⟨.builtin .append,#[.tmp F.x,.tmp F.z],F.ts⟩,0,"",#[],none⟩,⟨some F.f,.fieldAddr F.tf (.tmp F.g) F.fi,0,"",#[],none⟩,⟨none,.store F.ta (.tmp F.f) (.tmp F.y),0,"",#[],none⟩,
  ⟨some F.z,.move (.const (.tuple #[])),0,"",#[],none⟩,⟨some F.q,.move (.const (.tuple #[])),0,"",#[],none⟩]
theorem ahF{P:Program}{ops:Array Oper}{F:Fz}(h:fzB P ops F=true):ahG P ops F:=by
 unfold fzB at h;simp only[dk]at h;obtain⟨⟨⟨⟨⟨⟨⟨⟨⟨⟨⟨⟨⟨⟨⟨⟨⟨⟨⟨⟨⟨⟨⟨⟨⟨⟨⟨⟨⟨SU,amS⟩,awd⟩,hguard⟩,d0⟩,d1⟩,d2⟩,d3⟩,d4⟩,o0⟩,o1⟩,o2⟩,o3⟩,o4⟩,jl⟩,dl⟩,ol⟩,jz⟩,dz⟩,oz⟩,hd⟩,awe⟩,Ms⟩,hox⟩,b1⟩,b2⟩,b3⟩,b4⟩,e1⟩,e2⟩:=h;have awf:∀(a:Array Operand)(x z:Tmp),a.toList=[.tmp x,.tmp z]->a= #[.tmp x,.tmp z]:=fun a x z h=>by rw[<-acX (xs:=a),h]
 have awg:∀(a:Array Operand)(x:Tmp),a.toList=[.tmp x]->a= #[.tmp x]:=fun a x h=>by rw[<-acX (xs:=a),h]
 have awh:∀(a:Array TypeId)(x:TypeId),a.toList=[x]->a= #[x]:=fun a x h=>by rw[<-acX (xs:=a),h]
 constructor;case size=>simpa using SU
 case back=>
  intro i o ho e he hb;simp only[j7]at amS;have:=amS (o,i) (by rw[acJ];simpa using ho);simp only[SG]at this;have:=this e he;simpa[hb]using this
 case pre=>exact awd
 case guard=>
  intro o ho;simp only[j7]at hguard;simpa using hguard o ho
 case o0=>
  refine⟨?_,by simpa using d0⟩;split at o0
  ·rename_i args ts he
   split at o0
   ·rename_i x z ha
    simp only[dk,beq_iff_eq]at o0;obtain⟨⟨rfl,rfl⟩,rfl⟩:=o0;rw[he,awf _ _ _ ha]
   ·cases o0
  ·cases o0
 case o1=>
  refine⟨?_,by simpa using d1⟩;split at o1
  ·rename_i t y l he
   simp only[dk,beq_iff_eq]at o1;obtain⟨⟨rfl,rfl⟩,rfl⟩:=o1;exact he
  ·cases o1
 case o2=>
  refine⟨?_,by simpa using d2⟩;split at o2
  ·rename_i t y l he
   simp only[dk,beq_iff_eq]at o2;obtain⟨⟨rfl,rfl⟩,rfl⟩:=o2;exact he
  ·cases o2
 case o3=>
  refine⟨?_,by simpa using d3⟩;split at o3
  ·rename_i t y l he
   simp only[dk,beq_iff_eq]at o3;obtain⟨⟨rfl,rfl⟩,rfl⟩:=o3;exact he
  ·cases o3
 case o4=>
  refine⟨?_,by simpa using d4⟩;split at o4
  ·rename_i t y l he
   simp only[dk,beq_iff_eq]at o4;obtain⟨⟨rfl,rfl⟩,rfl⟩:=o4;exact he
  ·cases o4
 case ol=>
  refine⟨by simpa using jl,by simpa using dl, ?_⟩;split at ol
  ·rename_i args ts he
   split at ol
   ·rename_i x tl ha ht
    simp only[dk,beq_iff_eq]at ol;obtain⟨rfl,h2⟩:=ol;refine⟨tl,(fun e=>by rw[e]at h2;cases h2), ?_⟩;rw[he,awg _ _ ha,awh _ _ ht]
   ·cases ol
  ·cases ol
 case oz=>
  refine⟨by simpa using jz,by simpa using dz, ?_⟩;split at oz
  ·rename_i t ps he
   simp only[beq_iff_eq]at oz;subst oz;exact⟨_,he⟩
  ·cases oz
 case dsts=>
  intro j hj;simp only[j7,Yd,dk,bne_iff_ne]at hd;exact hd j hj
 case neq=>simpa using awe
 case b0=>
  intro j hj;simp only[j7,Yd]at Ms;exact Ms j hj
 case ox=>
  intro j h1 h2;simp only[j7,Yd,P1,decide_eq_true_eq,bne_iff_ne]at hox;exact(hox j h2).resolve_left (by omega)
 case b1=>exact b1
 case b2=>exact b2
 case b3=>exact b3
 case b4=>exact b4
 case elem=>
  refine⟨by simpa using e1, ?_⟩;split at e2
  ·rename_i e he
   simp only[dk,beq_iff_eq]at e2;exact⟨e,he,e2.1,e2.2⟩
  ·cases e2
theorem aax{P:Program}{ops:Array Oper}{F:Fz}(h:Ye P ops=some F):ahG P ops F:=by
 unfold Ye at h;cases hs:WT ops with
 |none=>rw[hs]at h;cases h
 |some F0=>
  rw[hs,SB]at h;split at h
  ·rename_i hb
   cases h;exact ahF hb
  ·cases h
section
theorem SV{ops:Array Oper}{aH:Array Bool}(back:∀(i:Nat)(o:Oper),ops[i]? =some o->∀e∈o.after,Region.binds .any e=true->e.on<i)(hs:aH.size=ops.size)(h:Region.ready .any ops aH=[]):
 ∀(n i:Nat),i<n->i<ops.size->aH.getD i false=true:=by
 intro n;induction n with
 |zero=>intro i hi;omega
 |succ n ih=>
  intro i hi cV;cases hc:aH.getD i false with
  |true=>rfl
  |false=>
   exfalso;have ho:ops[i]? =some ops[i]:=nd cV;have:i∈Region.ready .any ops aH:=by
    unfold Region.ready;rw[P2];refine⟨by simpa using cV, ?_⟩;have h1:aH.getD i true=false:=by
     have h2:i<aH.size:=by omega
     rw[m_]at hc⊢;rw[nd h2]at hc⊢;exact hc
    rw[h1,ho];simp only[LD,qJ,SF,MK];rw[SG];intro e he;cases hb:Region.binds .any e with
    |false=>rfl
    |true=>
     have h3:=back i _ ho e he hb;simp only[Oz,X8];exact ih e.on (by omega) (by omega)
   rw[h]at this;cases this
theorem SW{ops:Array Oper}{aH:Array Bool}(hs:aH.size=ops.size){i:Nat}(hi:i∈Region.ready .any ops aH):
 i<ops.size/\aH.getD i false=false/\∀o,ops[i]? =some o->∀e∈o.after,Region.binds .any e=true->aH.getD e.on false=true:=by
 unfold Region.ready at hi;rw[P2]at hi;obtain⟨hi1,hi2⟩:=hi;have Hh:i<ops.size:=by simpa using hi1
 have ho:ops[i]? =some ops[i]:=nd Hh;rw[ho]at hi2;simp only[dk,P3,qJ,SF]at hi2;obtain⟨hi3,hi4⟩:=hi2;refine⟨Hh, ?_,fun o Vo e he hb=>?_⟩
 ·have:i<aH.size:=by omega
  simpa[m_,this]using hi3
 ·rw[ho]at Vo
  obtain rfl:=eL Vo;rw[SG]at hi4;have:=hi4 e he;simpa[hb]using this
theorem LK{ops:Array Oper}{aH:Array Bool}(hs:aH.size=ops.size){i:Nat}(hi:i<ops.size)(hn:aH.getD i false=false){fuel:Nat}(hc:aH.toList.countP (!·)<=fuel+1):(aH.setIfInBounds i true).toList.countP (!·)<=fuel:=by
 have hl:i<aH.toList.length:=by simp;omega
 have h3:aH.toList[i]=false:=by have h2:=hn;rw[m_,nd (by simpa using hl)]at h2;simpa using h2
 rw[Array.toList_setIfInBounds,List.countP_set hl,h3];simp only[LD,if_true,Oz,rL,if_false,sR];have LF:0<aH.toList.countP (!·):=by rw[List.countP_pos_iff];exact⟨aH.toList[i],List.getElem_mem hl,by rw[h3];rfl⟩
 omega
theorem P8{ops:Array Oper}{aH:Array Bool}(hs:aH.size=ops.size)(hc:aH.toList.countP (!·)<=0):∀i,i<ops.size->aH.getD i false=true:=by
 intro i hi;have hl:i<aH.size:=by omega
 have h0:aH.toList.countP (!·)=0:=by omega
 rw[acH]at h0;have:=h0 aH[i] (by simp);rw[m_,nd hl];simpa using this
theorem Hn{ops:Array Oper}{aH:Array Bool}(hs:aH.size=ops.size)(hc:Hg ops aH){i:Nat}(hi:i<ops.size)(hr:∀o,ops[i]? =some o->∀e∈o.after,Region.binds .any e=true->aH.getD e.on false=true):
 Hg ops (aH.setIfInBounds i true):=by
 intro j o ho hl e he hb;rw[Hi (by omega)]at hl⊢;by_cases h0:i=e.on;·rw[if_pos h0]
 ·rw[if_neg h0]
  by_cases h1:i=j;·subst h1;exact hr o ho e he hb
  ·rw[if_neg h1]at hl
   exact hc j o ho hl e he hb
theorem vF(a:Act)(d:Tmp)(v:Value)(t:Tmp):(a.put (some d) v).tmps.getD t undef=if d=t then(if d<a.tmps.size then v else undef)else a.tmps.getD t undef:=by
 simp only[Act.put,m_,Hj];by_cases h:d=t
 ·subst h
  by_cases h2:d<a.tmps.size<;>simp[h2]
 ·simp[h]
section
variable{P:Program}{ops:Array Oper}{F:Fz}
structure Ph(ops:Array Oper)(F:Fz)(a0:Act)(yv qv fv:Value)(aH:Array Bool)(a:Act):Prop where
 lsz:aH.size=ops.size
 closed:Hg ops aH
 bef:∀j,j<=ops.size -5->aH.getD j false=true
 sz:a.tmps.size=a0.tmps.size
 dfr:a.defers=[]
 br:∀t,t≠F.y->t≠F.q->t≠F.f->a.tmps.getD t undef=a0.tmps.getD t undef
 sy:a.tmps.getD F.y undef=yv
 sq:aH.getD (ops.size -5+1) false=true->a.tmps.getD F.q undef=qv
 sf:aH.getD (ops.size -5+3) false=true->a.tmps.getD F.f undef=fv
theorem an9(H:ahG P ops F){a0:Act}{yv qv fv:Value}{wOf:Bool->Bool->World}(hq:F.q<a0.tmps.size)(hf:F.f<a0.tmps.size)
 (r1:∀w,(Instr.indexAt F.ti yv (a0.tmps.getD F.l undef)).run P w=.ok qv w) (r2:∀c,(Instr.storeAt F.te qv (a0.tmps.getD F.v undef)).run P (wOf false c)=.ok () (wOf true c))
 (r3:∀w,(Instr.fieldAt F.tf (a0.tmps.getD F.g undef) F.fi).run P w=.ok fv w) (r4:∀c,(Instr.storeAt F.ta fv yv).run P (wOf c false)=.ok () (wOf c true))
 {Q:Exit->Act->World->Prop} (hQ:∀aH a,Ph ops F a0 yv qv fv aH a->(∀i,i<ops.size->aH.getD i false=true)->Q .normal a (wOf true true)):
 ∀(fuel:Nat)(aH:Array Bool)(a:Act),Ph ops F a0 yv qv fv aH a->aH.toList.countP (!·)<=fuel->
  wpAny P .any ops Q fuel aH a (wOf (aH.getD (ops.size -5+2) false) (aH.getD (ops.size -5+4) false)):=by
 have h5:=H.size;intro fuel;induction fuel with
 |zero=>
  intro aH a D hc;have nX:=P8 D.lsz hc;refine⟨ML D.lsz nX, ?_⟩;rw[nX _ (by omega),nX _ (by omega)];exact hQ aH a D nX
 |succ fuel ih=>
  intro aH a D hc;refine⟨fun h=>?_,fun i hi=>?_⟩
  ·have nX:=fun i hi=>SV H.back D.lsz h (i+1) i (by omega) hi
   rw[nX _ (by omega),nX _ (by omega)];exact hQ aH a D nX
  obtain⟨Hh,DD,hr⟩:=SW D.lsz hi;have hc':=LK D.lsz Hh DD hc;have tv:=Hn D.lsz D.closed Hh hr;have gs:∀j,(aH.setIfInBounds i true).getD j false=if i=j then true else aH.getD j false:=fun j=>Hi (by have:=D.lsz;omega)
  have cV:ops.size -5<i:=by
   rcases iI (ops.size -5) i with h|h;·exact h
   ·rw[D.bef i h]at DD;cases DD
  have akU:∀j,j<=ops.size -5->(aH.setIfInBounds i true).getD j false=true:=fun j hj=>by
   rw[gs];split;·rfl
   ·exact D.bef j hj
  obtain⟨o,ho⟩:∃o,ops[i]? =some o:=⟨_,nd Hh⟩;have hg:o.guard=none:=H.guard o (by simpa using MN ho);have aan:Region.wanted o (yielded ops a.tmps)=true:=by simp[Region.wanted,hg]
  have LH:xB ops i=some o.op:=by simp[xB,ho]
  have hds:mr ops i=o.dst:=by simp[mr,ho]
  obtain⟨n1,n2,n3,n4,n5,n6,n7,n8,n9,n10,n11,n12,n13,n14,n15,n16,n17,n18,n19,n20,n21,n22,n23,n24⟩:=H.neq;have ev:∀t,t≠F.y->t≠F.q->t≠F.f->a.eval (.tmp t)=a0.tmps.getD t undef:=fun t h1 h2 h3=>D.br t h1 h2 h3;have evy:a.eval (.tmp F.y)=yv:=D.sy;unfold wpOp;rw[ho];simp only;rw[if_pos aan];refine .inl ?_;unfold Oper.wp;have h4:i=ops.size -5+1\/i=ops.size -5+2\/i=ops.size -5+3\/i=ops.size -5+4:=by omega
  rcases h4 with rfl|rfl|rfl|rfl
  ·have e1:o.op=.indexAddr F.ti (.tmp F.y) (.tmp F.l):=by have:=H.o1.1;rw[LH]at this;exact eL this
   have e2:o.dst=some F.q:=by rw[<-hds];exact H.o1.2
   have run:=r1 (wOf (aH.getD (ops.size -5+2) false) (aH.getD (ops.size -5+4) false));have zX:(execOp a.eval o).run P (wOf (aH.getD (ops.size -5+2) false) (aH.getD (ops.size -5+4) false))=.ok (.value qv) (wOf (aH.getD (ops.size -5+2) false) (aH.getD (ops.size -5+4) false)):=by simp[execOp,e1,evy,ev F.l (Ne.symm n5) (Ne.symm n11) n17,run, -Array.getD_eq_getD_getElem?]
   rw[zX,Oper.upon_value,e2]
   have:=ih (aH.setIfInBounds (ops.size -5+1) true) (a.put (some F.q) qv) ⟨by simp[D.lsz],tv,akU,by simp[Act.put,D.sz],D.dfr,fun t h1 h2 h3=>by rw[vF,if_neg (Ne.symm h2)];exact D.br t h1 h2 h3,
    by rw[vF,if_neg (Ne.symm n1)];exact D.sy,fun _=>by rw[vF,if_pos rfl,if_pos (by rw[D.sz];exact hq)],fun h=>by rw[vF,if_neg n12];exact D.sf (by rw[gs,if_neg (by omega)]at h;exact h)⟩ hc'
   rw[gs,gs,if_neg (by omega),if_neg (by omega)]at this;exact this
  ·have e1:o.op=.store F.te (.tmp F.q) (.tmp F.v):=by have:=H.o2.1;rw[LH]at this;exact eL this
   have e2:o.dst=none:=by rw[<-hds];exact H.o2.2
   have hlq:aH.getD (ops.size -5+1) false=true:=kz D.closed H.b2 (.inr hr);have evq:a.eval (.tmp F.q)=qv:=D.sq hlq;rw[DD];have run:=r2 (aH.getD (ops.size -5+4) false);have zX:(execOp a.eval o).run P (wOf false (aH.getD (ops.size -5+4) false))=.ok .skip (wOf true (aH.getD (ops.size -5+4) false)):=by simp[execOp,e1,evq,ev F.v (Ne.symm n4) (Ne.symm n10) (Ne.symm n21),run, -Array.getD_eq_getD_getElem?]
   rw[zX,Oper.upon_skip,e2];have:=ih (aH.setIfInBounds (ops.size -5+2) true) (a.put none undef) ⟨by simp[D.lsz],tv,akU,D.sz,D.dfr,D.br,D.sy,fun h=>D.sq hlq,fun h=>D.sf (by rw[gs,if_neg (by omega)]at h;exact h)⟩ hc';rw[gs,gs,if_pos rfl,if_neg (by omega)]at this;exact this
  ·have e1:o.op=.fieldAddr F.tf (.tmp F.g) F.fi:=by have:=H.o3.1;rw[LH]at this;exact eL this
   have e2:o.dst=some F.f:=by rw[<-hds];exact H.o3.2
   have run:=r3 (wOf (aH.getD (ops.size -5+2) false) (aH.getD (ops.size -5+4) false));have zX:(execOp a.eval o).run P (wOf (aH.getD (ops.size -5+2) false) (aH.getD (ops.size -5+4) false))=.ok (.value fv) (wOf (aH.getD (ops.size -5+2) false) (aH.getD (ops.size -5+4) false)):=by simp[execOp,e1,ev F.g (Ne.symm n7) (Ne.symm n13) (Ne.symm n22),run, -Array.getD_eq_getD_getElem?]
   rw[zX,Oper.upon_value,e2]
   have:=ih (aH.setIfInBounds (ops.size -5+3) true) (a.put (some F.f) fv) ⟨by simp[D.lsz],tv,akU,by simp[Act.put,D.sz],D.dfr,fun t h1 h2 h3=>by rw[vF,if_neg (Ne.symm h3)];exact D.br t h1 h2 h3,
    by rw[vF,if_neg (Ne.symm n6)];exact D.sy,fun h=>by rw[vF,if_neg (Ne.symm n12)];exact D.sq (by rw[gs,if_neg (by omega)]at h;exact h),fun _=>by rw[vF,if_pos rfl,if_pos (by rw[D.sz];exact hf)]⟩ hc'
   rw[gs,gs,if_neg (by omega),if_neg (by omega)]at this;exact this
  ·have e1:o.op=.store F.ta (.tmp F.f) (.tmp F.y):=by have:=H.o4.1;rw[LH]at this;exact eL this
   have e2:o.dst=none:=by rw[<-hds];exact H.o4.2
   have hlf:aH.getD (ops.size -5+3) false=true:=kz D.closed H.b4 (.inr hr);have evf:a.eval (.tmp F.f)=fv:=D.sf hlf;rw[DD];have run:=r4 (aH.getD (ops.size -5+2) false);have zX:(execOp a.eval o).run P (wOf (aH.getD (ops.size -5+2) false) false)=.ok .skip (wOf (aH.getD (ops.size -5+2) false) true):=by simp[execOp,e1,evf,evy,run, -Array.getD_eq_getD_getElem?]
   rw[zX,Oper.upon_skip,e2];have:=ih (aH.setIfInBounds (ops.size -5+4) true) (a.put none undef) ⟨by simp[D.lsz],tv,akU,D.sz,D.dfr,D.br,D.sy,fun h=>D.sq (by rw[gs,if_neg (by omega)]at h;exact h),fun h=>D.sf hlf⟩ hc';rw[gs,gs,if_neg (by omega),if_pos rfl]at this;exact this
end
end
section
theorem Yf(w:World){b b':Nat}(h:b≠b')(o o':Nat)(v v':Value):(w.setCell ⟨b,o,none⟩ v).setCell ⟨b',o',none⟩ v'=(w.setCell ⟨b',o',none⟩ v').setCell ⟨b,o,none⟩ v:=by
 unfold World.setCell;simp only;congr 1;apply KT;intro k;simp only[SS];by_cases h1:b'=k;·subst h1;simp[h]
 ·by_cases h2:b=k
  ·subst h2;simp[h1]
  ·simp[h1,h2]
theorem OD(b b':Nat)(h:b≠b')(o:Nat)(v:Value):∀(l:List Value)(o':Nat)(w:World),(w.setCell ⟨b,o,none⟩ v).setCells b' o' l=(w.setCells b' o' l).setCell ⟨b,o,none⟩ v:=by
 intro l;induction l with
 |nil=>intro o' w;rfl
 |cons x l ih=>
  intro o' w;show((w.setCell ⟨b,o,none⟩ v).setCell ⟨b',o',none⟩ x).setCells b' (o'+1) l=((w.setCell ⟨b',o',none⟩ x).setCells b' (o'+1) l).setCell ⟨b,o,none⟩ v;rw[Yf _ h,ih]
theorem hH(l:List AV)(d:Tmp)(v:AV)(t:Tmp):(cW l (some d) v).getD t .undef=if d=t then(if d<l.length then v else .undef)else l.getD t .undef:=by
 simp only[cW,tE,SY];by_cases h:d=t
 ·subst h
  by_cases h2:d<l.length<;>simp[h2]
 ·simp[h]
section
variable{P:Program}{call:bU}{F:Fz}
theorem afW{QK:Array Oper}{E1 E4:Env}{S1 S4:St}(h:vX P call QK (postOf F) E1 S1=some (E4,S4)):
 ∃x' r aG S2 fp ahI,iD P F.tb 1 [(0,E1.br.getD F.v .undef)]=some x'/\
  nW P E1.aa S1 F.ts ((cW E1.br (some F.z) x').getD F.x .undef) ((cW E1.br (some F.z) x').getD F.z .undef)=some (r,aG,S2)/\
  lC P F.tf ((cW (cW E1.br (some F.z) x') (some F.y) r).getD F.g .undef) F.fi=some fp/\
  lD P ⟨cW (cW (cW E1.br (some F.z) x') (some F.y) r) (some F.f) fp,aG,E1.nb⟩ S2 F.ta ((cW (cW (cW E1.br (some F.z) x') (some F.y) r) (some F.f) fp).getD F.f .undef)
   ((cW (cW (cW E1.br (some F.z) x') (some F.y) r) (some F.f) fp).getD F.y .undef)=some (ahI,S4)/\
  E4=⟨cW (cW (cW (cW (cW E1.br (some F.z) x') (some F.y) r) (some F.f) fp) (some F.z) .undef) (some F.q) .undef,ahI,E1.nb⟩:=by
 have step:∀{o:Oper}{r:List Oper}{E:Env}{S:St}{E':Env}{S':St},o.guard=none->vX P call QK (o::r) E S=some (E',S')->∃v aa S1,lE P call E S o=some (v,aa,S1)/\vX P call QK r (E.put o.dst v aa) S1=some (E',S'):=by
  intro o r E S E' S' hg h;simp only[vX,kD,lF,hg,if_true]at h;split at h;·rename_i v aa S1 h1;exact⟨v,aa,S1,h1,h⟩
  ·cases h
 unfold postOf at h;obtain⟨v1,t1,Sa,e1,h⟩:=step rfl h;obtain⟨v2,t2,Sb,e2,h⟩:=step rfl h;obtain⟨v3,t3,Sc,e3,h⟩:=step rfl h;obtain⟨v4,t4,Sd,e4,h⟩:=step rfl h;obtain⟨v5,t5,Se,e5,h⟩:=step rfl h;obtain⟨v6,t6,Sf,e6,h⟩:=step rfl h;simp only[vX,jB,g_]at h;obtain⟨rfl,rfl⟩:=h;have q1:iD P F.tb 1 [(0,E1.br.getD F.v .undef)]=some v1/\t1=E1.aa/\Sa=S1:=by
  simp only[lE,ny,cz,oO]at e1;split at e1
  ·rename_i v hv
   simp at e1;obtain⟨rfl,rfl,rfl⟩:=e1;exact⟨by simpa[Env.ev]using hv,rfl,rfl⟩
  ·simp[j6]at e1
 obtain⟨q1,rfl,rfl⟩:=q1;have q2:nW P E1.aa Sa F.ts ((cW E1.br (some F.z) v1).getD F.x .undef) ((cW E1.br (some F.z) v1).getD F.z .undef)=some (v2,t2,Sb):=by simpa[lE,ny,cz,oO,j6,Env.ev,Env.put]using e2
 have q3:lC P F.tf ((cW (cW E1.br (some F.z) v1) (some F.y) v2).getD F.g .undef) F.fi=some v3/\t3=t2/\Sc=Sb:=by
  simp only[lE,ny,cz,oO]at e3;split at e3
  ·rename_i v hv
   simp at e3;obtain⟨rfl,rfl,rfl⟩:=e3;exact⟨by simpa[Env.ev,Env.put]using hv,rfl,rfl⟩
  ·simp[j6]at e3
 obtain⟨q3,rfl,rfl⟩:=q3;have q4:∃S',lD P ⟨cW (cW (cW E1.br (some F.z) v1) (some F.y) v2) (some F.f) v3,t3,E1.nb⟩ Sc F.ta ((cW (cW (cW E1.br (some F.z) v1) (some F.y) v2) (some F.f) v3).getD F.f .undef)
  ((cW (cW (cW E1.br (some F.z) v1) (some F.y) v2) (some F.f) v3).getD F.y .undef)=some (t4,S')/\Sd=S':=by
  simp only[lE,ny,cz,oO,j6,cx,g_]at e4;obtain⟨rr,hr,_,rfl,rfl⟩:=e4;exact⟨rr.2,by simpa[Env.ev,Env.put]using hr,rfl⟩
 obtain⟨_,q4,rfl⟩:=q4;have hu:acv (.tuple #[])=.undef:=by rfl
 simp only[lE,ny,cz,Env.ev,hu,jB,g_]at e5;obtain⟨rfl,rfl,rfl⟩:=e5;simp only[lE,ny,cz,Env.ev,hu,jB,g_]at e6;obtain⟨rfl,rfl,rfl⟩:=e6;exact⟨_,_,_,_,_,_,q1,q2,q3,q4,rfl⟩
end
end
section
theorem acY{sz:Nat}:∀(ps:List (Nat × AV))(es G8:List (List AV)),e_ sz es ps=some G8->G8.length=es.length:=by
 intro ps;induction ps with
 |nil=>intro es G8 h;simp only[e_,jB]at h;rw[h]
 |cons x r ih=>
  intro es G8 h;obtain⟨i,v⟩:=x;simp only[e_]at h;split at h;·have:=ih _ _ h;simpa using this
  ·cases h
theorem afX{P:Program}{tb:TypeId}{ps:List (Nat × AV)}{x:AV}(h:iD P tb 1 ps=some x):∃e sz zc,kG P tb=some e/\iK P e=some sz/\sz≠0/\x=.sl .exact sz [zc]:=by
 unfold iD at h;split at h;case h_2=>cases h
 rename_i e he;split at h;case h_2=>cases h
 rename_i sz z hs hz;split at h;case isFalse=>cases h
 rename_i hc;simp only[cx]at h;obtain⟨es,h1,rfl⟩:=h;have:=acY _ _ _ h1;match es,this with
 |[zc],_=>exact⟨e,sz,zc,he,hs,hc.1,rfl⟩
 |[],h=>simp at h
 |_::_::_,h=>simp at h
theorem afY{P:Program}{tb:TypeId}{v x:AV}(h:iD P tb 1 [(0,v)]=some x):∃e sz,kG P tb=some e/\iK P e=some sz/\sz≠0/\aaq v=true/\v.cells.length=sz/\x=.sl .exact sz [(aB v).cells]:=by
 unfold iD at h;split at h;case h_2=>cases h
 rename_i e he;split at h;case h_2=>cases h
 rename_i sz z hs hz;split at h;case isFalse=>cases h
 rename_i hc;simp only[cx]at h;obtain⟨es,h1,rfl⟩:=h;simp only[e_]at h1;split at h1
 ·rename_i h2
  simp at h1;subst h1;exact⟨e,sz,he,hs,hc.1,by simpa using h2.1,h2.2.1,rfl⟩
 ·cases h1
theorem Yg{P:Program}{aa:List (Option Nat)}{S:St}{ts:Array TypeId}{s:AV}:nW P aa S ts s .undef=none:=by unfold nW;simp[bL]
theorem aay{P:Program}{E:Env}{S:St}{t:TypeId}{p:AV}:lD P E S t p .undef=none:=by
 unfold lD;repeat' split
 all_goals simp_all[aaq]
theorem afZ{P:Program}{E:Env}{S:St}{t:TypeId}{p x:AV}{r:List (Option Nat) × St}(h:lD P E S t p x=some r):
 ∃i off n cs bt,p=.ptr i off/\iK P t=some n/\S[i]? =some (.mem cs bt false)/\off+n<=cs.length:=by
 unfold lD at h;split at h;case h_2=>cases h
 rename_i i off n hn;split at h;case h_2=>cases h
 rename_i cs bt hS;split at h;case isFalse=>cases h
 rename_i hc;exact⟨i,off,n,cs,bt,rfl,hn,hS,hc.2.2.1⟩
section
variable{P:Program}{base:Nat}{bc:Nat->Prop}{S:St}{w:World}{mu:Nat->Option Nat}{hw:Nat->Nat}{lk:Nat->Prop}
theorem an_{tl:TypeId}{x l:AV}{a:Option Addr}{n c:Nat}(ht:kG P tl≠none)(h:PX P tl x=some l)(hv:RV w mu hw lk x (.slice a n c)):l=.int .i64 n:=by
 have hu:∃e,P.underlying tl=some (.slice e):=by
  unfold kG at ht;split at ht;·exact⟨_,by assumption⟩
  ·exact absurd rfl ht
 obtain⟨e,hu⟩:=hu;unfold PX at h;rw[hu]at h;cases hv with
 |undef=>simp at h
 |ah=>simpa using h.symm
 |sl r sz es b o len cap f h0=>simp at h;rw[<-h,h0.1]
 |emp=>simpa using h.symm
 |zg=>simpa using h.symm
 |aref=>simpa using h.symm
theorem af2{t e:TypeId}{sz b o n cap:Nat}(he:kG P t=some e)(hs:iK P e=some sz)(w:World):
 (Instr.indexAt t (.slice (some ⟨b,o,none⟩) (n+1) cap) (.int .i64 n)).run P w=.ok (.pointer (some ⟨b,o+n*sz,none⟩)) w:=by
 have hu:P.underlying t=some (.slice e):=by
  unfold kG at he;split at he;·rename_i e' hx;cases he;exact hx
  ·cases he
 unfold Instr.indexAt;simp only[Sem.run_bind,nE,Result.andThen_ok,cL hu,Sem.run_pure];rw[if_pos ⟨by omega,by omega⟩];simp[ey hs,pw]
end
end
section
section
variable{P:Program}{call:bU}{ops:Array Oper}{F:Fz}{base:Nat}{bc:Nat->Prop}{RM:St}{WM:World}{AY:Nat->Option Nat}{Cx:Nat->Nat}{Cy:Id->TI}
theorem ahJ(H:ahG P ops F){E1 E4:Env}{S1 S4:St}{QK:Array Oper}(hT:vX P call QK (postOf F) E1 S1=some (E4,S4))(hq:F.q<E1.br.length)
 (hz:F.z<E1.br.length->∃ps,iD P F.tb 1 ps=some (E1.br.getD F.z .undef)) (hl:∃tl,kG P tl≠none/\PX P tl (E1.br.getD F.x .undef)=some (E1.br.getD F.l .undef))
 {a:Act} {w:World} (Rn:Z8 base bc RM WM AY Cx Cy E1 S1 a w) {Q:Exit->Act->World->Prop} (hQ:∀a' w',Z8 base bc RM WM AY Cx Cy E4 S4 a' w'->Q .normal a' w')
 {fuel:Nat} {aH:Array Bool} (hs:aH.size=ops.size) (tv:Hg ops aH) (nX:∀j,j<ops.size -5->aH.getD j false=true) (AU:∀j,ops.size -5<=j->aH.getD j false=false)
 (hr:∀o,ops[ops.size -5]? =some o->∀e∈o.after,Region.binds .any e=true->aH.getD e.on false=true) (hc:aH.toList.countP (!·)<=fuel+1):
 wpOp P ops Q (ops.size -5) (wpAny P .any ops Q fuel (aH.setIfInBounds (ops.size -5) true)) a w:=by
 have h5:=H.size;obtain⟨n1,n2,n3,n4,n5,n6,n7,n8,n9,n10,n11,n12,n13,n14,n15,n16,n17,n18,n19,n20,n21,n22,n23,n24⟩:=H.neq;obtain⟨x',r,aG,S2,fp,ahI,t1,t2,t3,t4,rfl⟩:=afW hT;obtain⟨mu,hw,ti,I,SL,ext,lv,hd,uE⟩:=Rn;obtain⟨af3,hSL⟩:=SL;have hzl:F.z<E1.br.length:=by apply KU;intro hn;rw[hH E1.br F.z x' F.z,if_pos rfl,if_neg hn,Yg]at t2;cases t2
 rw[hH E1.br F.z x' F.z,if_pos rfl,if_pos hzl,hH E1.br F.z x' F.x,if_neg n23]at t2;have hyl:F.y<E1.br.length:=by apply KU;intro hn;rw[hH _ F.f fp F.y,if_neg (Ne.symm n6),hH _ F.y r F.y,if_pos rfl,if_neg (by rw[g8];exact hn),aay]at t4;cases t4
 obtain⟨i,off,nn,cs,bt,hp,JG,hS2,hle⟩:=afZ t4;have hfl:F.f<E1.br.length:=by apply KU;intro hn;rw[hH _ F.f fp F.f,if_pos rfl,if_neg (by rw[g8,g8];exact hn)]at hp;cases hp
 rw[hH _ F.f fp F.f,if_pos rfl,if_pos (by rw[g8,g8];exact hfl)]at hp;subst hp;rw[hH _ F.f _ F.f,if_pos rfl,if_pos (by rw[g8,g8];exact hfl),hH _ F.f _ F.y,if_neg (Ne.symm n6),hH _ F.y r F.y,if_pos rfl,if_pos (by rw[g8];exact hyl)]at t4;rw[hH _ F.y r F.g,if_neg n7,hH _ F.z x' F.g]at t3;obtain⟨e,sz,he,hse,ky,BL,hlen,rfl⟩:=afY t1;have t3':lC P F.tf (E1.br.getD F.g .undef) F.fi=some (.ptr i off):=by
  by_cases hzg:F.z=F.g
  ·rw[if_pos hzg,if_pos hzl]at t3
   unfold lC at t3;repeat' split at t3
   all_goals simp_all
  ·rw[if_neg hzg]at t3;exact t3
 have hg:∃o0,E1.br.getD F.g .undef=.ptr i o0:=by
  generalize E1.br.getD F.g .undef=g at t3';unfold lC at t3';split at t3';case h_2=>cases t3'
  split at t3';case h_2=>cases t3'
  split at t3'<;>simp at t3';exact⟨_,by rw[t3'.1]⟩
 obtain⟨o0,hg⟩:=hg;have rg:=(hSL F.g).1;rw[hg]at rg t3';obtain⟨b',hm,hgv⟩:∃b',mu i=some b'/\a.tmps.getD F.g undef=.pointer (some ⟨b',o0,none⟩):=by
  generalize a.tmps.getD F.g undef=gv at rg;cases rg with
  |ptr _ _ b' hm=>exact⟨b',hm,rfl⟩
 have r3:∀w,(Instr.fieldAt F.tf (a.tmps.getD F.g undef) F.fi).run P w=.ok (.pointer (some ⟨b',off,none⟩)) w:=by
  intro w;obtain⟨v',h1,h2,_⟩:=Fo (P:=P) (w:=w) (mu:=mu) (hw:=hw) (lk:=fun _=>False) (RV.ptr i o0 b' hm) t3';rw[hgv,h1];cases h2 with
  |ptr _ _ b2 hm2=>rw[hm]at hm2;obtain rfl:=eL hm2;rfl
 obtain⟨ps,hzv⟩:=hz hzl;obtain⟨e1,sz1,zc,he1,asc,_,hzv⟩:=afX hzv;rw[he]at he1;obtain rfl:=eL he1;rw[hse]at asc;obtain rfl:=eL asc;have vc:=SZ (hSL F.v).1 BL;have asd:(aB (E1.br.getD F.v .undef)).cells.length=sz:=by rw[nZ];exact hlen
 have Sx:(a.tmps.getD F.v undef).cells.size=sz:=by rw[<-vc.1];exact asd
 have Yc:ES w mu hw (fO S1 mu) sz [(aB (E1.br.getD F.v .undef)).cells] (a.tmps.getD F.v undef).cells:=RL.es (by simpa using vc) (fun k cs hk=>by
  match k,hk with
  |0,hk=>simp at hk;subst hk;exact asd
  |k+1,hk=>simp at hk)
 have aoa:∀y∈(a.tmps.getD F.v undef).cells.toList,y.oneCell'=true:=by
  intro y hy;obtain⟨j,hj⟩:=zV hy;have hj':(a.tmps.getD F.v undef).cells[j]? =some y:=by simpa using hj
  have cV:j<(aB (E1.br.getD F.v .undef)).cells.length:=by rw[vc.1];exact nC hj'
  obtain⟨a1,y',gg,Co⟩:=vc.2 j _ (Ct cV);rw[hj']at gg;obtain rfl:=eL gg;exact Co.one a1
 obtain⟨o,ho⟩:∃o,ops[ops.size -5]? =some o:=⟨_,nd (by omega)⟩;have LH:o.op=.call ⟨.builtin .append,#[.tmp F.x,.tmp F.z],F.ts⟩:=by have:=H.o0.1;simpa[xB,ho]using this
 have hds:o.dst=some F.y:=by have:=H.o0.2;simpa[mr,ho]using this
 obtain⟨b,of,n,cap,w1,⟨xa,xc,hxv⟩,zX,Om,⟨vs1,el1,ahL,Bc⟩,yk,azL,ase⟩:=acV (P:=P) (ty:=o.type) (args:=(#[Operand.tmp F.x,.tmp F.z]).map a.eval) (v:=a.tmps.getD F.x undef) (vx:=a.tmps.getD F.z undef) (zc:=zc) I
  (by rw[X3];rfl) (by rw[X3];rfl) (hSL F.x).1 (hSL F.x).2 (hSL F.z).1 (by rw[hzv];rfl) Yc t2
 have hbb:b'≠b:=fun e=>yk i (e▸hm);obtain⟨tl,htl,DQ⟩:=hl;have rx:=(hSL F.x).1;rw[hxv]at rx;have hlA:=an_ htl DQ rx;have rl:=(hSL F.l).1;rw[hlA]at rl;have hlV:a.tmps.getD F.l undef=.int .i64 n:=by generalize a.tmps.getD F.l undef=y at rl;cases rl;rfl
 obtain⟨heq,e2,he2,hte,hta⟩:=H.elem;rw[he]at he2;obtain rfl:=eL he2;have r1:∀w,(Instr.indexAt F.ti (.slice (some ⟨b,of,none⟩) (n+1) cap) (a.tmps.getD F.l undef)).run P w=.ok (.pointer (some ⟨b,of+n*sz,none⟩)) w:=by intro w;rw[hlV];exact af2 (by rw[heq];exact he) hse w
 obtain⟨mu2,zm,ti2,I2,e2,l2,rv2,fl2,k2⟩:=ase;obtain⟨⟨azP,s1,s2,s3⟩,s4,_⟩:=om b el1 (0,0) (a.tmps.getD F.v undef).cells.toList (of+n*sz) w1 vs1 ahL (by rw[WB,Sx];exact Bc);have hm2:=e2.X0 i b' hm;obtain⟨vs2,el2,asf,awl⟩:=I2.qU i _ b' hS2 hm2;have asg:w1.heap[b']? =some (.cells vs2 el2 (0,0)):=by rw[<-s4 b' hbb];exact asf
 have hnn:nn=1:=by rw[hta]at JG;exact(eL JG).symm
 have awm:off+1<=vs2.size:=by have:=awl.1;omega
 let yv:Value:=.slice (some ⟨b,of,none⟩) (n+1) cap
 let X:Bool->World:=fun c=>if c=true then w1.setCells b (of+n*sz) (a.tmps.getD F.v undef).cells.toList else w1
 let wOf:Bool->Bool->World:=fun c2 c4=>if c4=true then(X c2).setCell ⟨b',off,none⟩ yv else X c2
 have r2:∀c,(Instr.storeAt F.te (.pointer (some ⟨b,of+n*sz,none⟩)) (a.tmps.getD F.v undef)).run P (wOf false c)=.ok () (wOf true c):=by
  intro c;have Ms:(wOf false c).heap[b]? =some (.cells vs1 el1 (0,0)):=by
   cases c with
   |false=>exact ahL
   |true=>exact(Below.heap_setCell _ _ _ _ (Ne.symm hbb)).trans ahL
  have:=Bh (P:=P) (t:=F.te) (n:=sz) (by rw[<-hte];exact hse) Sx aoa Ms Bc;rw[this];cases c with
  |false=>rfl
  |true=>
   congr 1;exact OD b' b hbb off yv _ _ _
 have r4:∀c,(Instr.storeAt F.ta (.pointer (some ⟨b',off,none⟩)) yv).run P (wOf c false)=.ok () (wOf c true):=by
  intro c;have Ms:(wOf c false).heap[b']? =some (.cells vs2 el2 (0,0)):=by
   cases c with
   |false=>exact asg
   |true=>exact asf
  exact Bh (P:=P) (t:=F.ta) (n:=1) (x:=yv) hta rfl (by simp[yv,Value.cells,Value.oneCell']) Ms awm
 have gs:∀j,(aH.setIfInBounds (ops.size -5) true).getD j false=if ops.size -5=j then true else aH.getD j false:=fun j=>Hi (by omega)
 have hg0:o.guard=none:=H.guard o (by simpa using MN ho);have aan:Region.wanted o (yielded ops a.tmps)=true:=by simp[Region.wanted,hg0]
 unfold wpOp;rw[ho];simp only;rw[if_pos aan];refine .inl ?_;unfold Oper.wp;have hex:(execOp a.eval o).run P w=.ok (.value yv) w1:=by simp[execOp,LH,resolve,invoke,builtin]at zX⊢;rw[zX];rfl
 rw[hex,Oper.upon_value,hds];have hph:Ph ops F a yv (.pointer (some ⟨b,of+n*sz,none⟩)) (.pointer (some ⟨b',off,none⟩)) (aH.setIfInBounds (ops.size -5) true) (a.put (some F.y) yv):=by
  refine⟨by simp[hs],Hn hs tv (by omega) hr,fun j hj=>?_,by simp[Act.put],hd,fun t h1 h2 h3=>by rw[vF,if_neg (Ne.symm h1)], ?_,fun h=>?_,fun h=>?_⟩
  ·rw[gs]
   split;·rfl
   ·exact nX j (by omega)
  ·rw[vF,if_pos rfl,if_pos (by rw[<-af3];exact hyl)]
  ·rw[gs,if_neg (by omega),AU _ (by omega)]at h;cases h
  ·rw[gs,if_neg (by omega),AU _ (by omega)]at h;cases h
 have:=an9 H (wOf:=wOf) (by rw[<-af3];exact hq) (by rw[<-af3];exact hfl) r1 r2 r3 r4 (Q:=Q) (fun auP a' D ash=>?_) fuel _ _ hph (LK hs (by omega) (AU _ (eJ _)) hc)
 ·rw[gs,gs,if_neg (by omega),if_neg (by omega),AU _ (by omega),AU _ (by omega)]at this
  exact this
 refine hQ a' _ ?_;obtain⟨w3,asi,py⟩:=Ho (P:=P) I2 rfl (RV.ptr i off b' hm2) rv2 fl2 t4;have hw3:w3=wOf true true:=by have h1:=r4 true;have h2:(Instr.storeAt F.ta (.pointer (some ⟨b',off,none⟩)) yv).run P (wOf true false)=.ok () w3:=asi;rw[h1]at h2;cases h2;rfl
 subst hw3;obtain⟨mu3,hw3,ti3,I3,e3,l3,_,_,k3⟩:=py undef;refine⟨mu3,hw3,ti3,I3,⟨?_,fun t=>?_⟩,(ext.trans e2).trans e3,(lv.trans l2).trans l3,D.dfr,fun k hk cV=>?_⟩;·simp only[g8];rw[af3,D.sz]
 ·simp only[hH,g8]
  by_cases hqt:F.q=t
  ·rw[if_pos hqt]
   split<;>exact⟨.undef _,trivial⟩
  rw[if_neg hqt];by_cases hzt:F.z=t
  ·rw[if_pos hzt]
   split<;>exact⟨.undef _,trivial⟩
  rw[if_neg hzt];by_cases hft:F.f=t
  ·subst hft
   rw[if_pos rfl,if_pos hfl,D.sf (ash _ (by omega))];exact⟨.ptr i off b' (e3.X0 _ _ hm2),trivial⟩
  rw[if_neg hft];by_cases hyt:F.y=t
  ·subst hyt
   rw[if_pos rfl,if_pos hyl,D.sy];exact⟨e3.rv rv2,fl2.mono l3⟩
  rw[if_neg hyt,if_neg hzt,D.br t (Ne.symm hyt) (Ne.symm hqt) (Ne.symm hft)];exact⟨e3.rv (e2.rv (hSL t).1),((hSL t).2.mono l2).mono l3⟩
 ·obtain⟨p1,p2⟩:=uE k hk cV
  have P6:k<S1.length:=Bg cV ext.QJ;obtain⟨p3,p4⟩:=k2 k p2 P6;obtain⟨p5,p6⟩:=k3 k p4 (Bg P6 e2.QJ);exact⟨p5.trans (p3.trans p1),p6⟩
end
end
section
theorem acy{l:Array Bool}{p k:Nat}(h:p<=l.size)(d:Bool):(l.extract 0 p).getD k d=if k<p then l.getD k d else d:=by
 rw[m_,Cv];by_cases hk:k<p;·rw[if_pos hk,if_pos (by omega),m_,yo]
 ·rw[if_neg hk,if_neg (by omega)];rfl
theorem akW{l:Array Bool}{p i:Nat}(h:p<=l.size)(hi:i<p):(l.setIfInBounds i true).extract 0 p=(l.extract 0 p).setIfInBounds i true:=by
 apply KT;intro k;simp only[Cv,Hj,Array.size_setIfInBounds,Array.size_extract,yo];by_cases hk:k<p
 ·rw[if_pos (by omega)]
  by_cases e:i=k
  ·subst e
   rw[if_pos rfl,if_pos (by omega),if_pos rfl,if_pos (by omega)]
  ·rw[if_neg e,if_neg e,if_pos (by omega)]
 ·rw[if_neg (by omega),if_neg (by omega),if_neg (by omega)]
section
variable{P:Program}{call:bU}{ops:Array Oper}{F:Fz}{base:Nat}{bc:Nat->Prop}{RM:St}{WM:World}{AY:Nat->Option Nat}{Cx:Nat->Nat}{Cy:Id->TI}
theorem aeF{p k:Nat}(h:p<=ops.size):(n_ ops p)[k]? =if k<p then ops[k]? else none:=by
 unfold n_;rw[Cv];by_cases hk:k<p;·rw[if_pos hk,if_pos (by omega),yo]
 ·rw[if_neg hk,if_neg (by omega)]
theorem ahM{p:Nat}(h:p<=ops.size):(n_ ops p).size=p:=by unfold n_;simp;omega
theorem aeG{af4:Array Oper}{E0 E1:Env}{S0 S1:St}{ss:List St}{ls:List AT}{sn:Nat->Env × St}(R:He af4)(H:Be P call af4 0 E0 S0 E1 S1 ss ls sn){j:Nat}{o:Oper}{d:Tmp}(ho:af4[j]? =some o)(ha:cG o=false)
 (hg:o.guard=none) (hd:o.dst=some d) (cV:d<E1.br.length):∃aa S',lE P call (sn j).1 (sn j).2 o=some (E1.br.getD d .undef,aa,S'):=by
 have hj:j<af4.size:=(MH.1 ho).1;have P6:=(Ox H af4.size (eJ _)).1;have hl2:=(Ox H j (by omega)).1;rw[H.last]at P6;have P6:E1.br.length=E0.br.length:=P6;obtain⟨_,⟨_,v,aa,S',h1,h2,_⟩|⟨hk,_⟩⟩:=H.run j o (sU _) ho ha
 ·refine⟨aa,S', ?_⟩
  have h3:=DO H (t:=d) (af4.size -(j+1)) (j+1) (by omega) fun k y _ _ hy _ hyd=>by have:=MG R.nodup ho hy hd hyd;omega
  rw[SA (by omega),H.last,h2]at h3;have h3:E1.br.getD d .undef=(cW (sn j).1.br o.dst v).getD d .undef:=h3;rw[hd,hH,if_pos rfl,if_pos (by rw[hl2,<-P6];exact cV)]at h3;rw[h3];exact h1
 ·simp[lF,hg]at hk
theorem acZ(hm:P.follows .mixedOrders=true)(hN:Cw P)(zW:lH P call)(hold:jq call){id:Nat}(H:ahG P ops F){E E1 E4:Env}{S S1 S4:St}{QK:Array Oper}
 (hA:G_ P call (n_ ops (ops.size -5)) E S=some (E1,S1)) (hT:vX P call QK (postOf F) E1 S1=some (E4,S4)) (hq:F.q<E.br.length) (hlq:F.l<E.br.length)
 {a:Act} {w:World} (Rn:Z8 base bc RM WM AY Cx Cy E S a w) {Q:Exit->Act->World->Prop} (hQ:∀a' w',Z8 base bc RM WM AY Cx Cy E4 S4 a' w'->Q .normal a' w'):
 (Code.region id ops true).wp P Q a w:=by
 have h5:=H.size;have hp:ops.size -5<=ops.size:=by omega
 have ky:=ahM hp;have OE:∀k,k<ops.size -5->(n_ ops (ops.size -5))[k]? =ops[k]? :=fun k hk=>by rw[aeF hp,if_pos hk]
 have R:=KQ H.pre;unfold G_ at hA;split at hA;·simp at hA
 rename_i E0 S0 QI;split at hA;·simp at hA
 rename_i E1' S1' ss ls htr;split at hA;case isFalse=>simp at hA
 rename_i acS;simp only[jB,g_]at hA;obtain⟨rfl,rfl⟩:=hA;obtain⟨a1,a2,a3,⟨bs,rfl⟩,a5,a6⟩:=PY _ _ _ _ _ QI R.nodup;obtain⟨⟨t,ht⟩,_,sn,HS⟩:=P4 (n_ ops (ops.size -5)).toList 0 E0 (S++bs) [S++bs] [] _ _ ss ls (fun j=>by simp) (by simp) (by simp[Ow]) (fun o _ ha=>Bf ha) htr;have G:Reg P call (n_ ops (ops.size -5)) E E0 S (S++bs) E1' S1' ss ls sn:={
  R:=R
  H:=HS
  h0:=by rw[ht];rfl
  ahw:=acS
  hA:=a6
  hB:=fun j o t hj ho=>a5 j o t (by simpa using hj) ho
  hlen:=a3
  amO:=a1}
 have aai:E1'.br.length=E.br.length:=by have:=(Ox HS (n_ ops (ops.size -5)).size (eJ _)).1;rw[HS.last]at this;exact this.trans a3
 have hz:F.z<E1'.br.length->∃ps,iD P F.tb 1 ps=some (E1'.br.getD F.z .undef):=by
  intro hzl;obtain⟨hj,hd,ps,LH⟩:=H.oz;obtain⟨o,ho⟩:∃o,ops[F.jz]? =some o:=⟨_,nd (by omega)⟩;have LH:o.op=.buildSlice F.tb 1 ps:=by simpa[xB,ho]using LH
  have hd:o.dst=some F.z:=by simpa[mr,ho]using hd
  obtain⟨aa,S',h⟩:=aeG R HS (by rw[OE _ hj];exact ho) (by simp[cG,LH]) (H.guard o (by simpa using MN ho)) hd hzl;simp only[lE,LH,ny,cz,oO]at h;split at h
  ·rename_i v hv
   simp only[jB,g_]at h;exact⟨_,hv.trans (congrArg some h.1)⟩
  ·simp[j6]at h
 have hl:∃tl,kG P tl≠none/\PX P tl (E1'.br.getD F.x .undef)=some (E1'.br.getD F.l .undef):=by
  obtain⟨hj,hd,tl,htl,LH⟩:=H.ol;obtain⟨o,ho⟩:∃o,ops[F.jl]? =some o:=⟨_,nd (by omega)⟩;have LH:o.op=.call ⟨.builtin .len,#[.tmp F.x],#[tl]⟩:=by simpa[xB,ho]using LH
  have hd:o.dst=some F.l:=by simpa[mr,ho]using hd
  obtain⟨aa,S',h⟩:=aeG R HS (by rw[OE _ hj];exact ho) (by simp[cG,LH]) (H.guard o (by simpa using MN ho)) hd (by rw[aai];exact hlq)
  have hx:=DO HS (t:=F.x) ((n_ ops (ops.size -5)).size -F.jl) F.jl (by omega) fun k y h1 h2 hy _ hyd=>by
   rw[aeF hp]at hy;split at hy
   ·rename_i hk
    have:=H.ox k h1 hk;rw[mr,hy]at this;exact this hyd
   ·cases hy
  rw[SA (by omega),HS.last]at hx;have hx:E1'.br.getD F.x .undef=(sn F.jl).1.br.getD F.x .undef:=hx;refine⟨tl,htl, ?_⟩;rw[hx];simp only[lE,LH,ny,cz]at h;split at h
  ·rename_i v hv
   simp only[jB,g_]at h;rw[h.1]at hv;simpa[Env.ev]using hv
  ·simp[oO,j6]at h
 have main:∀(fuel m:Nat)(mu:Nat->Option Nat)(hw:Nat->Nat)(ti:Id->TI)(aH:Array Bool)(a:Act)(w:World),aH.size=ops.size->Hg ops aH->(∀j,ops.size -5<=j->aH.getD j false=false)->
  DS P (n_ ops (ops.size -5)) E E1' S sn base bc RM WM AY Cx Cy m mu hw ti (aH.extract 0 (ops.size -5)) a w->aH.toList.countP (!·)<=fuel->wpAny P .any ops Q fuel aH a w:=by
  intro fuel;induction fuel with
  |zero=>
   intro m mu hw ti aH a w hs _ AU _ hc;have:=P8 hs hc (ops.size -5) (by omega);rw[AU _ (eJ _)]at this;cases this
  |succ fuel ih=>
   intro m mu hw ti aH a w hs tv AU D hc;refine⟨fun h=>?_,fun i hi=>?_⟩
   ·have:=SV H.back hs h (ops.size -5+1) (ops.size -5) (by omega) (by omega)
    rw[AU _ (eJ _)]at this;cases this
   obtain⟨Hh,DD,hr⟩:=SW hs hi;have hc':=LK hs Hh DD hc;have awr:=Hn hs tv Hh hr;rcases X6 i (ops.size -5)with cV|heq|hgt
   ·have MP:i∈Region.ready .any (n_ ops (ops.size -5)) (aH.extract 0 (ops.size -5)):=by
     unfold Region.ready;rw[P2];refine⟨by rw[ky];simpa using cV, ?_⟩;have ho:ops[i]? =some ops[i]:=nd Hh;rw[OE i cV,ho,acy (by omega),if_pos cV];have h1:aH.getD i true=false:=by
      have h2:i<aH.size:=by omega
      rw[m_]at DD⊢;rw[nd h2]at DD⊢;exact DD
     rw[h1];simp only[LD,qJ,SF,MK];rw[SG];intro e he;cases hb:Region.binds .any e with
     |false=>rfl
     |true=>
      have h3:=H.back i _ ho e he hb;simp only[Oz,X8];rw[acy (by omega),if_pos (by omega)];exact hr _ ho e he hb
    have step:=WN (Q:=Q) G zW hold hN D MP (K:=wpAny P .any ops Q fuel (aH.setIfInBounds i true)) fun m' mu' hw' ti' a' w' D'=>by
     refine ih m' mu' hw' ti' (aH.setIfInBounds i true) a' w' (by simp[hs]) awr (fun j hj=>?_) ?_ hc';·rw[Hi (by omega),if_neg (by omega)];exact AU j hj
     ·rw[akW (by omega) cV];exact D'
    have ho:ops[i]? =some ops[i]:=nd Hh;have hg0:ops[i].guard=none:=H.guard _ (by simp);have pd:Region.wanted ops[i] (yielded ops a.tmps)=true:=by simp[Region.wanted,hg0]
    have zm:Region.wanted ops[i] (yielded (n_ ops (ops.size -5)) a.tmps)=true:=by simp[Region.wanted,hg0]
    unfold wpOp at step⊢;rw[OE i cV,ho]at step;rw[ho];simp only at step⊢;rw[if_pos zm]at step;rw[if_pos pd];exact step
   ·subst heq
    have nX:∀j,j<ops.size -5->aH.getD j false=true:=fun j hj=>kz tv (H.b0 j hj) (.inr hr);have fin:=D.fin G fun k hk=>by rw[ky]at hk;rw[acy (by omega),if_pos hk];exact nX k hk
    exact ahJ H hT (by rw[aai];exact hq) hz hl fin hQ hs tv nX AU hr hc
   ·exfalso
    have h4:i=ops.size -5+1\/i=ops.size -5+2\/i=ops.size -5+3\/i=ops.size -5+4:=by omega
    have bad:∀j,ops.size -5<=j->((Region.before ops).getD i 0).testBit j=true->False:=fun j hj hb=>by have:=kz tv hb (.inr hr);rw[AU j hj]at this;cases this
    rcases h4 with rfl|rfl|rfl|rfl;·exact bad _ (eJ _) H.b1
    ·exact bad _ (by omega) H.b2
    ·exact bad _ (eJ _) H.b3
    ·exact bad _ (by omega) H.b4
 refine wp_region_any hm ?_;obtain⟨mu,hw,ti,I,SL,e,lv,hd,uE⟩:=Rn;obtain⟨I1,e1⟩:=v9 I;obtain⟨I2,e2⟩:=WQ I1 bs;have qz:∀i b,mu i=some b->i<S.length:=fun i b h=>(I.iX i b h).1;have r0:∀n j:Nat,(Array.replicate n false).getD j false=false:=fun n j=>by rw[m_,aap];split<;>rfl
 have hex:(Array.replicate ops.size false).extract 0 (ops.size -5)=Array.replicate (n_ ops (ops.size -5)).size false:=by
  rw[ky];apply KT;intro k;simp only[Cv,aap,Array.size_replicate];by_cases hk:k<ops.size -5;·rw[if_pos (by omega),if_pos (by omega),if_pos hk]
  ·rw[if_neg (by omega),if_neg hk]
 refine main ops.size 0 mu hw ti _ a _ (by simp) (fun i o hi hl=>by rw[r0]at hl;cases hl) (fun j _=>r0 _ j) ?_ ?_
 ·rw[hex]
  refine⟨sU _,fun j o hj he=>?_, ?_,⟨SL.1,fun t i o hi ho hl=>?_,fun t _=>?_⟩, ?_, ?_,fun j o t hj LH _=>?_,fun i hi cV=>?_,e.QJ,hd,fun i o hi hl=>?_,by simp⟩;·rw[r0];simp
  ·rw[HS.zero]
   show Inv base bc E0.aa (S++bs) _ mu hw ti;rw[a1];exact I2
  ·rw[r0]at hl;cases hl
  ·rw[HS.zero]
   show RV _ mu hw (fO (S++bs) mu) _ _/\cU (ba E0.aa (S++bs) mu) ti _ _;rw[a1,sw qz];exact⟨e2.rv (e1.rv (SL.2 t).1),(SL.2 t).2⟩
  ·rw[HS.zero]
   exact(e.trans e1).trans e2
  ·rw[HS.zero]
   show g9 _ _ (ba E0.aa (S++bs) mu) ti;rw[a1,sw qz];exact lv
  ·obtain⟨z,b1,b2,_⟩:=G.hB j o t hj LH
   refine⟨?_,z,b1,by rw[HS.zero];exact b2⟩;cases Bd:mu (S.length+Ob (n_ ops (ops.size -5)).toList j)with
   |none=>rfl
   |some b=>have:=qz _ _ Bd;omega
  ·obtain⟨p,q⟩:=uE i hi cV
   refine⟨?_,q⟩;rw[HS.zero];show(S++bs)[i]? =_;rw[kP (Bg cV e.QJ)];exact p
  ·rw[r0]at hl;cases hl
 ·have h1:(Array.replicate ops.size false).toList.length=ops.size:=by simp
  have h2:(Array.replicate ops.size false).toList.countP (!·)<=(Array.replicate ops.size false).toList.length:=List.countP_le_length;omega
end
end
inductive KV where
 |t (n:Nat)
 |c (v:AV)
abbrev KE:=List (Nat × AV)
def KE.get:KE->Nat->AV
 |[],_=>.undef
 |x::r,t=>if x.1=t then x.2 else KE.get r t
def KE.ev(E:KE):KV->AV
 |.t n=>KE.get E n
 |.c v=>v
structure bw where
 sl:KE
 aa:List (Option Nat)
 nb:Nat
def bw.put(K:bw)(d:Option Nat)(v:AV)(aa:List (Option Nat)):bw:=
 match d with
 |some d=>⟨(d,v)::K.sl,aa,K.nb⟩
 |none=>⟨K.sl,aa,K.nb⟩
inductive Sh where
 |cell
 |agg (n:Nat)
def fC:Sh->List AV->Nat->Option AV
 |.agg n,l,off=>if off+n<=l.length then some (.agg ((sub l off n).map aB))else none
 |.cell,l,off=>l[off]?
def aY(S:St)(sh:Sh)(p:AV):Option AV:=
 match deref S p with
 |some (cs,off)=>fC sh cs off
 |none=>none
inductive EqK where
 |bool|ptr|iL (ts:List TypeId)|slc|fn|agg (ks:List Kd)|no
def kS:EqK->AV->AV->Option Bool
 |.bool,.bool a,.bool b=>some (a==b)
 |.ptr,.kF,.kF=>some true
 |.ptr,.kF,.ptr _ _=>some false
 |.ptr,.ptr _ _,.kF=>some false
 |.ptr,.kF,.ec _ _ _=>some false
 |.ptr,.ec _ _ _,.kF=>some false
 |.iL _,.bP,.iL _ _=>some false
 |.iL _,.iL _ _,.bP=>some false
 |.iL ts,.iL s (.int k m),.iL u (.int k' n)=>if s≠u then some false else if ts.contains s=true/\k=k' then some (m==n)else none
 |.slc,.ah,.ah=>some true
 |.slc,.ah,.sl r _ es=>if es.length=0/\(r=.none\/r=.exact)then none else some false
 |.slc,.sl r _ es,.ah=>if es.length=0/\(r=.none\/r=.exact)then none else some false
 |.slc,.ah,.aref _ _ _ _ _=>some false
 |.slc,.aref _ _ _ _ _,.ah=>some false
 |.fn,.ly,.ly=>some true
 |.fn,.ly,.fn _ _ _=>some false
 |.fn,.fn _ _ _,.ly=>some false
 |.agg ks,.agg a,.agg b=>JC ks a b
 |_,_,_=>none
def bH(op:BinOp)(k:IntKind)(a:Int)(k':IntKind)(b:Int):Option AV:=
 match op with
 |.shl=>if b<0 then none else some (.int k (k.wrap (a*2^(min b.toNat k.bits))))
 |.shr=>if b<0 then none else some (.int k (a.fdiv (2^(min b.toNat k.bits))))
 |_=>if k≠k' then none else
  match op with
  |.add=>some (.int k (k.wrap (a+b)))
  |.sub=>some (.int k (k.wrap (a -b)))
  |.mul=>some (.int k (k.wrap (a*b)))
  |.quo=>if b=0 then none else some (.int k (k.wrap (a.tdiv b)))
  |.rem=>if b=0 then none else some (.int k (a.tmod b))
  |.and=>some (.int k (k.wrap (BitVec.ofInt k.bits a&&&BitVec.ofInt k.bits b).toNat))
  |.or=>some (.int k (k.wrap (BitVec.ofInt k.bits a|||BitVec.ofInt k.bits b).toNat))
  |.xor=>some (.int k (k.wrap (BitVec.ofInt k.bits a^^^BitVec.ofInt k.bits b).toNat))
  |.andNot=>some (.int k (k.wrap (BitVec.ofInt k.bits a&&& ~~~BitVec.ofInt k.bits b).toNat))
  |.eql=>some (.bool (a==b))
  |.neq=>some (.bool (a !=b))
  |.lss=>some (.bool (decide (a<b)))
  |.leq=>some (.bool (decide (a<=b)))
  |.gtr=>some (.bool (decide (a>b)))
  |.geq=>some (.bool (decide (a≥b)))
  |_=>none
def Yh(op:BinOp)(a b:List UInt8):Option AV:=
 match op with
 |.add=>if a.length+b.length<=1073741824 then some (.str (a++b))else none
 |.eql=>some (.bool (a==b))
 |.neq=>some (.bool (!(a==b)))
 |.lss=>some (.bool (Op.bytesLess a b))
 |.leq=>some (.bool (Op.bytesLess a b||a==b))
 |.gtr=>some (.bool (!(Op.bytesLess a b||a==b)))
 |.geq=>some (.bool (!(Op.bytesLess a b)))
 |_=>none
def du(op:BinOp)(q:EqK)(nc:Bool)(x y:AV):Option AV:=
 match x,y with
 |.bP,.bP=>if nc then
  match q,op with
  |.iL _,.eql=>some (.bool true)
  |.iL _,.neq=>some (.bool false)
  |_,_=>none
  else none
 |.int _ _,.int _ _=>none
 |.str _,.str _=>none
 |x,y=>match op with
  |.eql=>(kS q x y).map .bool
  |.neq=>(kS q x y).map fun b=>.bool (!b)
  |_=>none
def dr:List AV->List (Nat × Nat × AV)->Option (List AV)
 |cs,[]=>some cs
 |cs,(off,n,v)::r=>if aaq v/\v.cells.length=n/\off+n<=cs.length then dr (aL cs off ((aB v).cells)) r else none
def LL:List AV->List (Nat × Nat × AV)->Option (List AV)
 |cs,[]=>some cs
 |cs,(off,n,v)::r=>if aaq v/\v.cells.length=n/\off+n<=cs.length then LL (aL cs off v.cells) r else none
inductive KP where
 |mov (x:KV)|pick (c a b:KV)|bld (z:List AV) (ps:List (Nat × Nat × KV))|akY (z:List AV) (ps:List (Nat × Nat × KV))|aoe (x:KV)
 |Ta (op:BinOp) (x y:KV)|Tb (op:BinOp) (x y:KV)|Hq (op:BinOp) (q:EqK) (nc:Bool) (x y:KV)
 |un (op:UnOp) (x:KV)|cvI (k:IntKind) (x:KV)|cvS (x:KV)|cvB (x:KV)|cvR (x:KV)
 |mki (t:TypeId) (x:KV)|mkf (f:FuncId) (a b:List KV)
 |slS (x:KV) (lo hi:Option KV)|slL (sz:Nat) (x:KV) (lo hi:Option KV)|slA (n sz:Nat) (x:KV) (lo hi:Option KV)
 |fad (off:Nat) (x:KV)|fld (sh:Sh) (off:Nat) (x:KV)
 |ixL (sz:Nat) (x i:KV)|ixA (n sz:Nat) (x i:KV)|ixS (x i:KV)|ixG (n sz:Nat) (sh:Sh) (x i:KV)
 |ext (x:KV) (i:Nat)|asr (u:TypeId) (z:Option AV) (x:KV)
 |aof (x:KV)|aog (x:KV)|asq (n:Nat)|akZ (l:List KV)
def ass(s:AV)(lo hi:Option AV):Option AV:=
 match s with
 |.str s=>match aav hi s.length s.length with
  |some h=>match aav lo 0 h with
   |some l=>some (.str ((s.take h).drop l))
   |none=>none
  |none=>none
 |_=>none
def zn(pj:Nat)(x:AV)(lo hi:Option AV):Option AV:=
 match x with
 |.ah=>match aav hi 0 0,aav lo 0 0 with
  |some _,some _=>some .ah
  |_,_=>none
 |.sl r sz es=>if pj≠sz/\es.length≠0 then none else
  match aav hi es.length es.length with
  |some h=>match aav lo 0 h with
   |some l=>if l=0/\h=es.length then some (.sl r sz es)else some (.sl (vW r) sz ((es.take h).drop l))
   |none=>none
  |none=>none
 |.aref i off len cap sz=>if pj≠sz then none else
  match aav hi len len with
  |some h=>match aav lo 0 h with
   |some l=>some (.aref i (if cap=l then off else off+l*sz) (h -l) (cap -l) sz)
   |none=>none
  |none=>none
 |_=>none
def xD(n sz:Nat)(x:AV)(lo hi:Option AV):Option AV:=
 match x with
 |.ptr i off=>match aav hi n n with
  |some h=>match aav lo 0 h with
   |some l=>if sz=0 then none else some (.aref i (if n=l then off else off+l*sz) (h -l) (n -l) sz)
   |none=>none
  |none=>none
 |_=>none
def ak0(off:Nat):AV->Option AV
 |.ptr i o=>some (.ptr i (o+off))
 |.ec r cs o=>some (.ec r cs (o+off))
 |_=>none
def aoh(sh:Sh)(off:Nat):AV->Option AV
 |.agg cs=>fC sh cs off
 |_=>none
def oa(pj:Nat)(x ix:AV):Option AV:=
 match ix with
 |.int _ i=>if i<0 then none else
  match x with
  |.sl r sz es=>if pj=sz then(es[i.toNat]?).map fun cs=>.ec (vW r) cs 0 else none
  |.aref b off len _ sz=>if pj=sz/\i.toNat<len then some (.ptr b (off+i.toNat*sz))else none
  |_=>none
 |_=>none
def CE(n sz:Nat)(x ix:AV):Option AV:=
 match ix with
 |.int _ i=>if i<0 then none else
  match x with
  |.ptr b off=>if i.toNat<n then some (.ptr b (off+i.toNat*sz))else none
  |.ec r cs off=>if i.toNat<n then some (.ec r cs (off+i.toNat*sz))else none
  |_=>none
 |_=>none
def aoi(x ix:AV):Option AV:=
 match ix with
 |.int _ i=>if i<0 then none else
  match x with
  |.str s=>(s[i.toNat]?).map fun b=>.int .u8 b.toNat
  |_=>none
 |_=>none
def af7(n sz:Nat)(sh:Sh)(x ix:AV):Option AV:=
 match ix with
 |.int _ i=>if i<0 then none else
  match x with
  |.agg cs=>if i.toNat<n then fC sh cs (i.toNat*sz)else none
  |_=>none
 |_=>none
def Hr(k:IntKind):AV->Option AV
 |.int _ n=>some (.int k (k.wrap n))
 |_=>none
def aoj:AV->Option AV
 |.str s=>some (.str s)
 |_=>none
def ast:AV->Option AV
 |.int _ n=>some (.str (Utf8.encode n).data.toList)
 |_=>none
def aok:AV->Option AV
 |.ah=>some (.str [])
 |.sl _ sz es=>if sz=1 then(DK es).map .str else none
 |_=>none
def aol(u:TypeId)(z:Option AV)(x:AV):Option AV:=
 match x with
 |.iL t v=>if t=u then(match z with|some _=>some (.cT [v,.bool true])|none=>some v)
  else match z with|some z=>some (.cT [z,.bool false])|none=>none
 |.bP=>match z with|some z=>some (.cT [z,.bool false])|none=>none
 |_=>none
def ahV:AV->Option AV
 |.str s=>some (.int .i64 s.length)
 |_=>none
def gj:AV->Option AV
 |.ah=>some (.int .i64 0)
 |.sl _ _ es=>some (.int .i64 es.length)
 |.aref _ _ len _ _=>some (.int .i64 len)
 |_=>none
def ahW(c a b:AV):Option AV:=
 match c with
 |.bool true=>some a
 |.bool false=>some b
 |_=>none
def bS(op:BinOp)(x y:AV):Option AV:=
 match x,y with
 |.int k a,.int k' b=>bH op k a k' b
 |_,_=>none
def ahX(op:BinOp)(x y:AV):Option AV:=
 match x,y with
 |.str a,.str b=>Yh op a b
 |_,_=>none
def ahY(less:Int->Int->Bool)(l:List AV):Option AV:=
 match l with
 |.int k n::r=>DL less k n r
 |_=>none
def ac4(t:TypeId)(x:AV):Option AV:=if aaq x then some (.iL t (aB x))else none
def ow(ρ:KV->AV):KP->Option AV
 |.mov x=>some (ρ x)
 |.pick c a b=>ahW (ρ c) (ρ a) (ρ b)
 |.bld z ps=>(dr z (ps.map fun x=>(x.1,x.2.1,ρ x.2.2))).map .agg
 |.akY z ps=>(LL z (ps.map fun x=>(x.1,x.2.1,ρ x.2.2))).map .iC
 |.aoe x=>dh (ρ x)
 |.Ta op x y=>bS op (ρ x) (ρ y)
 |.Tb op x y=>ahX op (ρ x) (ρ y)
 |.Hq op q nc x y=>du op q nc (ρ x) (ρ y)
 |.un op x=>bF op (ρ x)
 |.cvI k x=>Hr k (ρ x)
 |.cvS x=>aoj (ρ x)
 |.cvB x=>aok (ρ x)
 |.cvR x=>ast (ρ x)
 |.mki t x=>ac4 t (ρ x)
 |.mkf f a b=>some (.fn f (a.map fun x=>aB (ρ x)) (b.map fun x=>aB (ρ x)))
 |.slS x lo hi=>ass (ρ x) (lo.map ρ) (hi.map ρ)
 |.slL sz x lo hi=>zn sz (ρ x) (lo.map ρ) (hi.map ρ)
 |.slA n sz x lo hi=>xD n sz (ρ x) (lo.map ρ) (hi.map ρ)
 |.fad off x=>ak0 off (ρ x)
 |.fld sh off x=>aoh sh off (ρ x)
 |.ixL sz x i=>oa sz (ρ x) (ρ i)
 |.ixA n sz x i=>CE n sz (ρ x) (ρ i)
 |.ixS x i=>aoi (ρ x) (ρ i)
 |.ixG n sz sh x i=>af7 n sz sh (ρ x) (ρ i)
 |.ext x i=>cK (ρ x) i
 |.asr u z x=>aol u z (ρ x)
 |.aof x=>ahV (ρ x)
 |.aog x=>gj (ρ x)
 |.asq n=>some (.int .i64 n)
 |.akZ l=>ahY (fun a b=>decide (b>a)) (l.map ρ)
inductive JZ where
 |p (k:KP)
 |alloc (z:List AV)|box (n:Nat) (x:KV)|load (sh:Sh) (p:KV)|store (n:Nat) (p x:KV)
 |app (sz:Nat) (s x:KV)|cpy (sz:Nat) (d x:KV)
 |bsl (sz:Nat) (z:List AV) (len:Nat) (ps:List (Nat × KV))|byt (x:KV)
 |call (f:KV) (args:List KV)
 |rng (x:KV)|nxt (p:KV)|bad
def bg(aa:List (Option Nat))(nb:Nat)(S:St)(n:Nat)(p v:AV):Option (List (Option Nat) × St):=
 match p with
 |.ptr i off=>match S[i]? with
  |some (.mem cs bt false)=>
   if aaq v/\v.cells.length=n/\off+n<=cs.length/\(nb<=i\/aS (aB v)=true)then
    match dU aa i bt v with
    |(v',aG,bt')=>some (aG,S.set i (.mem (aL cs off v'.cells) bt' false))
   else none
  |_=>none
 |_=>none
def cb(sz:Nat)(aa:List (Option Nat))(S:St)(s x:AV):Option (AV × List (Option Nat) × St):=
 match bL S x with
 |some (xz,xs)=>
  if xs.length=0 then(match s with|.ah=>some (.ah,aa,S)|.sl r pj es=>some (.sl r pj es,aa,S)|_=>none)else
  if xz≠sz then none else
   match s with
   |.ah=>if xs.length<=1073741824 then some (.sl (.fr aa.length) sz xs,aa++[some xs.length],S)else none
   |.sl r pj es=>if pj≠sz\/es.length+xs.length>1073741824 then none else
    match r with
    |.exact=>some (.sl (.fr aa.length) sz (es++xs),aa++[some (es.length+xs.length)],S)
    |.fr k=>if aa[k]? =some (some es.length)then some (.sl (.fr k) sz (es++xs),aa.set k (some (es.length+xs.length)),S)else none
    |.bx i j=>match S[i]? with
     |some (.mem cs bt false)=>if bt[j]? =some (some es.length)then some (.sl (.bx i j) sz (es++xs),aa,S.set i (.mem cs (bt.set j (some (es.length+xs.length))) false))else none
     |_=>none
    |_=>none
   |.aref i off len cap pj=>if pj≠sz\/len+xs.length<=cap\/len+xs.length>1073741824 then none else
    match bL S (.aref i off len cap pj)with
    |some (_,es)=>some (.sl (.fr aa.length) sz (es++xs),aa++[some (es.length+xs.length)],S)
    |none=>none
   |_=>none
 |none=>none
def CF(nb:Nat)(S:St)(sz:Nat)(d x:AV):Option (AV × St):=
 match bL S x,G6 d with
 |some (xz,xs),some (i,off,len,dz)=>
  if sz=0\/dz≠sz\/(xs.length≠0/\xz≠sz)then none else
  match S[i]? with
  |some (.mem cs bt false)=>if off+len*sz<=cs.length/\(nb<=i\/ct xs=true)then
   some (.int .i64 (min xs.length len),S.set i (.mem (aL cs off ((xs.take len).flatten)) bt false))else none
  |_=>none
 |_,_=>none
def OF(S:St)(x:AV):Option (AV × St):=
 match x with
 |.str s=>some (.ptr S.length 0,S++[.iter s 0])
 |_=>none
def aaB:AV->Option AV
 |.str s=>if s.length<=1073741824 then some (.sl .none 1 (s.map fun b=>[.int .u8 b.toNat]))else none
 |_=>none
def RN(f:AV)(args:List AV):Option (FuncId × List AV):=
 match f with
 |.fn g first caps=>some (g,first++args++caps)
 |_=>none
def Fp(call:bU)(aa:List (Option Nat))(S:St)(f:AV)(args:List AV):Option (AV × List (Option Nat) × St):=
 match RN f args with
 |none=>none
 |some (f,args)=>if u9 f=true then
  match args.mapM BH with
  |none=>none
  |some mN=>match call f mN S with
   |none=>none
   |some (r,S')=>match aT aa r with
    |(r',aG)=>some (r',aG,S')
  else match args.mapM (bN S)with
  |none=>none
  |some mN=>match call f mN (dW S args)with
   |none=>none
   |some (r,S')=>match aT aa r with
    |(r',aG)=>some (r',aG,dj S S' args)
def mf(call:bU)(K:bw)(S:St):JZ->Option (AV × List (Option Nat) × St)
 |.p k=>(ow (KE.ev K.sl) k).map fun v=>(v,K.aa,S)
 |.alloc z=>some (.ptr S.length 0,K.aa,S++[.mem z [] false])
 |.box n x=>zQ n K.aa S (KE.ev K.sl x)
 |.load sh p=>(aY S sh (KE.ev K.sl p)).map fun v=>(v,K.aa,S)
 |.store n p x=>(bg K.aa K.nb S n (KE.ev K.sl p) (KE.ev K.sl x)).map fun r=>(.undef,r.1,r.2)
 |.app sz s x=>cb sz K.aa S (KE.ev K.sl s) (KE.ev K.sl x)
 |.cpy sz d x=>(CF K.nb S sz (KE.ev K.sl d) (KE.ev K.sl x)).map fun r=>(r.1,K.aa,r.2)
 |.bsl sz z len ps=>(e_ sz (List.replicate len z) (ps.map fun x=>(x.1,KE.ev K.sl x.2))).map fun es=>(.sl .exact sz es,K.aa,S)
 |.byt x=>(aaB (KE.ev K.sl x)).map fun v=>(v,K.aa,S)
 |.call f args=>Fp call K.aa S (KE.ev K.sl f) (args.map (KE.ev K.sl))
 |.rng x=>(OF S (KE.ev K.sl x)).map fun r=>(r.1,K.aa,r.2)
 |.nxt p=>(zR S (KE.ev K.sl p)).map fun r=>(r.1,K.aa,r.2)
 |.bad=>none
structure KO where
 dst:Option Nat
 gd:Option (Nat × Bool)
 op:JZ
def gdK(K:bw)(g:Option (Nat × Bool)):Option Bool:=
 match g with
 |none=>some true
 |some (t,want)=>match KE.get K.sl t with
  |.bool b=>some (b==want)
  |.cT []=>some false
  |_=>none
def MS(call:bU)(K:bw)(S:St)(o:KO):Option (AV × bw × St):=
 match gdK K o.gd with
 |some true=>match mf call K S o.op with
  |some (v,aa,S')=>some (v,K.put o.dst v aa,S')
  |none=>none
 |some false=>some (.undef,K.put o.dst (.cT []) K.aa,S)
 |none=>none
def qV(call:bU):List KO->bw->St->Option (bw × St)
 |[],K,S=>some (K,S)
 |o::r,K,S=>match MS call K S o with
  |some (_,K',S')=>qV call r K' S'
  |none=>none
structure KD where
 o:KO
 eff:Bool
 lo:Nat
 hi:Nat
structure LM where
 lo:Nat
 hi:Nat
 sh:Sh
 at_:AV
 val:AV
def zZ:List (Nat × List AV)->bw->St->bw × St
 |[],K,S=>(K,S)
 |(d,z)::r,K,S=>zZ r (K.put (some d) (.ptr S.length 0) K.aa) (S++[.mem z [] false])
def ldK(K:bw)(d:KD)(v:AV)(ls:List LM):List LM:=
 match gdK K d.o.gd,d.o.op with
 |some true,.load sh p=>⟨d.lo,d.hi,sh,KE.ev K.sl p,v⟩::ls
 |_,_=>ls
def z4(call:bU):List KD->bw->St->List St->List LM->Option (bw × St × List St × List LM)
 |[],K,S,ss,ls=>some (K,S,ss,ls)
 |d::r,K,S,ss,ls=>match MS call K S d.o with
  |some (v,K',S')=>z4 call r K' S' (if d.eff then ss++[S']else ss) (ldK K d v ls)
  |none=>none
def Tc(ss:List St)(ls:List LM):Bool:=
 ls.all fun l=>((ss.take (l.hi+1)).drop l.lo).all fun S=>
  match aY S l.sh l.at_ with
  |some v=>nA v l.val
  |none=>false
def MT(call:bU)(al:List (Nat × List AV))(l:List KD)(K:bw)(S:St):Option (bw × St):=
 match z4 call l (zZ al K S).1 (zZ al K S).2 [(zZ al K S).2] []with
 |none=>none
 |some (K',S',ss,ls)=>if Tc ss ls then some (K',S')else none
def cY:AV->AV
 |.ah=>.sl .none 1 []
 |.sl (.mz i) sz es=>.sl (.mz i) sz es
 |.sl _ _ []=>.sl .none 1 []
 |.sl _ sz es=>.sl .none sz es
 |v=>v
def norm:AV->AV
 |.agg cs=>.agg (cs.map cY)
 |v=>cY v
def yr:AV->AV
 |.ah=>.ah
 |v=>norm v
def bD:AV->AV
 |.agg cs=>.agg (cs.map cY)
 |v=>v
inductive KC where
 |skip|ret|exit (id:Nat)
 |ops (l:List KO)
 |draw (al:List (Nat × List AV)) (l:List KD)
 |seq (a b:KC)|cond (x:KV) (a b:KC)|block (id:Nat) (b:KC)|loop (b:KC)
 |aN (l:List Nat) (k:KC)
 |norm (l:List Nat) (k:KC)
 |scope (b:KC)
 |lab
 |bad
 |VA (al:List (Nat × List AV)) (l:List KD) (k:List KO)
def bw.aN(l:List Nat)(K:bw):bw:=⟨l.map fun t=>(t,KE.get K.sl t),K.aa,K.nb⟩
def bw.norm(l:List Nat)(K:bw):bw:=⟨l.foldl (fun s t=>(t,am.norm (KE.get s t))::s) K.sl,K.aa,K.nb⟩
def dm(call:bU):Nat->KC->bw->St->Option (Out × bw × St)
 |0,_,_,_=>none
 |n+1,c,K,S=>match c with
  |.skip=>some (.normal,K,S)
  |.ret=>some (.ret,K,S)
  |.exit id=>some (.exit id,K,S)
  |.draw al l=>match MT call al l K S with
   |some (K',S')=>some (.normal,K',S')
   |none=>none
  |.ops l=>match qV call l K S with
   |some (K',S')=>some (.normal,K',S')
   |none=>none
  |.seq a b=>match dm call n a K S with
   |some (.normal,K',S')=>dm call n b K' S'
   |r=>r
  |.cond x a b=>match KE.ev K.sl x with
   |.bool true=>dm call n a K S
   |.bool false=>dm call n b K S
   |_=>none
  |.block id b=>match dm call n b K S with
   |some (.exit mo,K',S')=>if mo=id then some (.normal,K',S')else some (.exit mo,K',S')
   |r=>r
  |.loop b=>match dm call n b K S with
   |some (.normal,K',S')=>dm call n (.loop b) K' S'
   |r=>r
  |.aN l k=>dm call n k (K.aN l) S
  |.norm l k=>dm call n k (K.norm l) S
  |.scope b=>dm call n b K S
  |.lab=>some (.normal,K,S)
  |.bad=>none
  |.VA al l k=>dm call n (.seq (.draw al l) (.ops k)) K S
inductive KR where
 |tmp (t:Nat)
 |cell (a:Nat) (sh:Sh)
def FQ(K:bw)(S:St):List KR->Option (List AV)
 |[]=>some []
 |.tmp t::r=>(FQ K S r).map fun l=>KE.get K.sl t::l
 |.cell a sh::r=>match aY S sh (KE.get K.sl a),FQ K S r with
  |some v,some l=>some (v::l)
  |_,_=>none
structure KF where
 nt:Nat
 body:KC
 res:List KR
def tH:Nat->List AV->KE
 |_,[]=>[]
 |n,v::r=>(n,v)::tH (n+1) r
def zK(n:Nat)(S':St):Bool:=
 (S'.drop n).all fun b=>match b with
  |.mem cs _ _=>KI S'.length (fun k=>decide (n<=k)) cs
  |_=>true
def aaC(f:FuncId)(r:AV)(S S':St):Option (AV × St):=
 if aoo f=true then(if iE S'.length (fun k=>decide (S.length<=k)) r=true/\zK S.length S'=true then some (r,S')else none)
 else if iE S.length (fun _=>false) r=true then some (r,S'.take S.length)
 else match afG S' S.length r with
  |some r'=>if aw r'=true then some (r',S'.take S.length)else none
  |none=>none
def cC(f:FuncId)(aa:List (Option Nat))(vs:List AV)(S S':St):Option (AV × St):=
 if vs.all bu=true then
  (if aw (bA (ay aa (vs.map bD)))=true then some (bA (ay aa (vs.map bD)),S'.take S.length)else aaC f (bA (ay aa (vs.map bD))) S S')
 else none
structure NK where
 aN:FuncId->Bool
 rP:FuncId->Option (List AV->St->Option (AV × St))
def lK(nk:NK)(F:bU):bU:=fun f args S=>match nk.rP f with
 |some p=>p args S
 |none=>F f (args.map (if nk.aN f=true then yr else norm)) S
def zo(ax:FuncId->Option KF)(nk:NK):Nat->FuncId->List AV->St->Option (AV × St)
 |0,_,_,_=>none
 |n+1,f,args,S=>match ax f with
  |none=>none
  |some k=>if k.nt<args.length then none else match dm (lK nk (zo ax nk n)) n k.body ⟨tH 0 args,[],S.length⟩ S with
   |some (.exit _,_,_)=>none
   |some (_,K,S')=>match FQ K S' k.res with
    |none=>none
    |some vs=>cC f K.aa vs S S'
   |none=>none
def gN:Operand->KV
 |.tmp t=>.t t
 |.const v=>.c (acv v)
 |.global g=>.c (Oj g)
 |.func f=>.c (.fn f [] [])
def Yi(P:Program)(t:TypeId):Option Sh:=
 match iK P t with
 |none=>none
 |some n=>if DI P t then some (.agg n)else if n=1 then some .cell else none
def ah0(P:Program):List TypeId:=
 (List.range P.types.size).filter fun s=>match P.info? s,P.underlying s with
  |some i,some (.int _)=>i.comparable
  |_,_=>false
def af8(P:Program)(t:TypeId):EqK:=
 match P.underlying t with
 |some .bool=>.bool
 |some (.pointer _)=>.ptr
 |some (.interface _)=>.iL (ah0 P)
 |some (.slice _)=>.slc
 |some (.func _ _ _)=>.fn
 |some (.array _ _)|some (.struct _)=>if P.eqGuardType P.depth t then .no else match tD P 9 t with
  |some ks=>.agg ks
  |none=>.no
 |_=>.no
def tI(place:Nat->Option (Nat × Nat)):List (Nat × Operand)->Option (List (Nat × Nat × KV))
 |[]=>some []
 |(i,x)::r=>match place i,tI place r with
  |some (off,n),some l=>some ((off,n,gN x)::l)
  |_,_=>none
def Yj(P:Program)(t:TypeId)(parts:List (Nat × Operand)):Option JZ:=
 match zeroOf P t,P.underlying t with
 |some z,some (.struct fs)=>match fs.toList.mapM fun f=>(iK P f.type).map fun n=>(f.offset,n)with
  |some places=>(tI (places[·]?) parts).map fun ps=>if amC t=true then .p (.akY z ps)else .p (.bld z ps)
  |none=>none
 |some z,some (.array _ e)=>match iK P e with
  |some sz=>(tI (fun i=>some (i*sz,sz)) parts).map fun ps=>.p (.bld z ps)
  |none=>none
 |_,_=>none
def Yk(P:Program)(t:TypeId)(x:Operand)(lo hi:Option Operand):Option JZ:=
 match P.underlying t with
 |some .string=>some (.p (.slS (gN x) (lo.map gN) (hi.map gN)))
 |some (.slice e)=>(iK P e).map fun sz=>.p (.slL sz (gN x) (lo.map gN) (hi.map gN))
 |some (.array n e)=>(iK P e).map fun sz=>.p (.slA n sz (gN x) (lo.map gN) (hi.map gN))
 |_=>none
def ah1(P:Program)(op:BinOp)(t:TypeId)(x y:Operand):Option JZ:=
 match P.underlying t with
 |some (.int _)=>some (.p (.Ta op (gN x) (gN y)))
 |some .string=>some (.p (.Tb op (gN x) (gN y)))
 |some _=>some (.p (.Hq op (af8 P t) (sv x||sv y) (gN x) (gN y)))
 |none=>none
def ac6(P:Program)(s d:TypeId)(x:Operand):Option JZ:=
 match P.underlying d with
 |some (.int k)=>(P.underlying s).map fun _=>.p (.cvI k (gN x))
 |some .string=>match P.underlying s with
  |some .string=>some (.p (.cvS (gN x)))
  |some (.int _)=>some (.p (.cvR (gN x)))
  |_=>match(kG P s).bind P.underlying with
   |some (.int .u8)=>some (.p (.cvB (gN x)))
   |_=>none
 |some (.slice e)=>match P.underlying s,P.underlying e with
  |some .string,some (.int .u8)=>some (.byt (gN x))
  |_,_=>none
 |_=>none
def lenOf(P:Program)(args:Array Operand)(ts:Array TypeId):Option JZ:=
 match ts[0]?,args[0]? with
 |some t,some x=>match P.underlying t with
  |some .string=>some (.p (.aof (gN x)))
  |some (.slice _)=>some (.p (.aog (gN x)))
  |some (.array n _)=>some (.p (.asq n))
  |_=>none
 |_,_=>none
def aeI(P:Program)(t:TypeId)(len:Nat)(parts:List (Nat × Operand)):Option JZ:=
 match kG P t with
 |some e=>match iK P e,zeroOf P e with
  |some sz,some z=>if sz≠0/\z.length=sz/\len*sz<=16777216 then some (.bsl sz z len (parts.map fun x=>(x.1,gN x.2)))else none
  |_,_=>none
 |none=>none
def ah2(P:Program)(x:Operand)(u:TypeId)(ok:Bool):Option JZ:=
 match P.underlying u with
 |some (.interface _)=>none
 |some _=>if ok then(Mu P u).map fun z=>.p (.asr u (some z) (gN x))else some (.p (.asr u none (gN x)))
 |none=>none
def VB(P:Program):Op->Option JZ
 |.move x|.assign x=>some (.p (.mov (gN x)))
 |.pick c a b=>some (.p (.pick (gN c) (gN a) (gN b)))
 |.build t parts=>Yj P t parts.toList
 |.nilCheck x=>some (.p (.aoe (gN x)))
 |.binOp op t x y _=>ah1 P op t x y
 |.unOp op _ x=>some (.p (.un op (gN x)))
 |.convert s d x=>ac6 P s d x
 |.makeInterface t x=>match P.underlying t with
  |some (.interface _)=>none
  |some _=>some (.p (.mki t (gN x)))
  |none=>none
 |.makeFunc (.func f) first caps=>some (.p (.mkf f (first.toList.map gN) (caps.toList.map gN)))
 |.slice t x lo hi none=>Yk P t x lo hi
 |.fieldAddr t x f=>match Og P t f with
  |some (off,u)=>match iK P u with
   |some (_+1)=>some (.p (.fad off (gN x)))
   |_=>none
  |none=>none
 |.field t x f=>match Og P t f with
  |some (off,u)=>(Yi P u).map fun sh=>.p (.fld sh off (gN x))
  |none=>none
 |.indexAddr t x i=>match P.underlying t with
  |some (.slice e)=>(iK P e).map fun sz=>.p (.ixL sz (gN x) (gN i))
  |some (.array n e)=>(iK P e).map fun sz=>.p (.ixA n sz (gN x) (gN i))
  |_=>none
 |.index t x i=>match P.underlying t with
  |some .string=>some (.p (.ixS (gN x) (gN i)))
  |some (.array n e)=>match iK P e,Yi P e with
   |some sz,some sh=>some (.p (.ixG n sz sh (gN x) (gN i)))
   |_,_=>none
  |_=>none
 |.extract x i=>some (.p (.ext (gN x) i))
 |.typeAssert x _ u ok=>ah2 P x u ok
 |.call ⟨.builtin .len,args,ts⟩=>lenOf P args ts
 |.call ⟨.builtin .max,args,_⟩=>some (.p (.akZ (args.toList.map gN)))
 |.buildSlice t len parts=>aeI P t len parts.toList
 |.alloc t=>(zeroOf P t).map .alloc
 |.box t x=>(iK P t).map fun n=>.box n (gN x)
 |.load t p=>(Yi P t).map fun sh=>.load sh (gN p)
 |.store t p x=>(iK P t).map fun n=>.store n (gN p) (gN x)
 |.call ⟨.builtin .append,args,ts⟩=>match G5 P ts,args[0]?,args[1]? with
  |some (_,sz),some s,some x=>some (.app sz (gN s) (gN x))
  |_,_,_=>none
 |.call ⟨.builtin .copy,args,ts⟩=>match((ts[0]?).bind (kG P)).bind (iK P),args[0]?,args[1]? with
  |some sz,some d,some x=>some (.cpy sz (gN d) (gN x))
  |_,_,_=>none
 |.call ⟨.value f,args,_⟩=>some (.call (gN f) (args.toList.map gN))
 |.range t x=>match P.underlying t with
  |some .string=>some (.rng (gN x))
  |_=>none
 |.next p true=>some (.nxt (gN p))
 |_=>none
def MU(P:Program)(o:Oper):JZ:=
 (VB P o.op).getD .bad
def Td(nt:Nat):Option Tmp->Bool
 |some d=>decide (d<nt)
 |none=>true
def aop(ops:Array Oper)(g:Option (Nat × Bool)):Option (Option (Nat × Bool)):=
 match g with
 |none=>some none
 |some (j,want)=>((ops[j]?).bind (·.dst)).map fun d=>some (d,want)
def Yl(P:Program)(nt:Nat)(ops:Array Oper)(o:Oper):Option KO:=
 if Td nt o.dst=true then
  match aop ops o.guard with
  |some g=>some ⟨o.dst,g,MU P o⟩
  |none=>none
 else none
def KX(P:Program)(nt:Nat):List Oper->Option (List (Nat × List AV))
 |[]=>some []
 |o::r=>match o.op with
  |.alloc t=>match o.dst,zeroOf P t,KX P nt r with
   |some d,some z,some l=>if d<nt then some ((d,z)::l)else none
   |_,_,_=>none
  |_=>KX P nt r
def VC(P:Program)(nt:Nat)(ops:Array Oper)(b:Array Nat):List (Oper × Nat)->Option (List KD)
 |[]=>some []
 |(o,i)::r=>if cG o then VC P nt ops b r else
  match Yl P nt ops o,VC P nt ops b r with
  |some k,some l=>some (⟨k,dD o,lowest ops b i,DN ops b i⟩::l)
  |_,_=>none
def iW(P:Program)(nt:Nat):Code->Option KC
 |.skip=>some .skip
 |.ret=>some .ret
 |.exit id=>some (.exit id)
 |.region _ ops false=>(ops.toList.mapM (Yl P nt ops)).map .ops
 |.region _ ops true=>if zS ops=true then
  match KX P nt ops.toList,VC P nt ops (Region.before ops) ops.toList.zipIdx with
  |some al,some l=>some (.draw al l)
  |_,_=>some .bad
  else match Ye P ops with
   |some F=>if F.q<nt/\F.l<nt then
    match KX P nt (n_ ops (ops.size -5)).toList,VC P nt (n_ ops (ops.size -5)) (Region.before (n_ ops (ops.size -5))) (n_ ops (ops.size -5)).toList.zipIdx,(postOf F).mapM (Yl P nt (postOf F).toArray)with
    |some al,some l,some k=>some (.VA al l k)
    |_,_,_=>some .bad
    else some .bad
   |none=>some .bad
 |.seq a b=>match iW P nt a,iW P nt b with
  |some a,some b=>some (.seq a b)
  |_,_=>none
 |.cond x a b=>match iW P nt a,iW P nt b with
  |some a,some b=>some (.cond (gN x) a b)
  |_,_=>none
 |.block id b=>(iW P nt b).map (.block id)
 |.loop b=>(iW P nt b).map .loop
 |.scope b=>(iW P nt b).map .scope
 |.label _=>some .lab
 |_=>some .bad
def aaz:KC->KC
 |.seq a b=>.seq (aaz a) (aaz b)
 |.cond x a b=>.cond x (aaz a) (aaz b)
 |.block id b=>.block id (aaz b)
 |.loop b=>.loop (aaz b)
 |.scope b=>.scope (aaz b)
 |.aN _ k=>aaz k
 |.norm _ k=>aaz k
 |c=>c
def ah3(P:Program):ResultVar->Option KR
 |.tmp t=>some (.tmp t)
 |.cell a t=>(Yi P t).map fun sh=>.cell a sh
def dw(P:Program)(fn:Func)(k:KF):Prop:=
 fn.ntmps=k.nt/\fn.params.size<=k.nt/\(fn.body.bind (iW P fn.ntmps))=some (aaz k.body)/\fn.results.toList.mapM (ah3 P)=some k.res
section
theorem Tj{P:Program}{t:TypeId}{sh:Sh}(h:Yi P t=some sh)(l:List AV)(off:Nat):part P t l off=fC sh l off:=by
 unfold Yi at h;unfold part;cases hn:iK P t with
 |none=>simp[hn]at h
 |some n=>
  simp only[hn]at h⊢;split at h
  ·rename_i ha
   cases h;simp[fC,ha]
  ·rename_i ha
   split at h
   ·rename_i h1
    cases h;subst h1;simp only[ha,fC];by_cases hl:off+1<=l.length;·simp[hl]
    ·rw[if_neg hl,kR (by omega)]
   ·cases h
theorem Te{P:Program}{t:TypeId}{sh:Sh}(h:Yi P t=some sh)(S:St)(p:AV):xy P S t p=aY S sh p:=by unfold xy aY;split<;>simp[Tj h, *]
theorem adb{P:Program}{s:TypeId}(h:(ah0 P).contains s=true):∃i k,P.info? s=some i/\P.underlying s=some (.int k)/\i.comparable=true:=by
 rw[List.contains_iff_mem]at h;unfold ah0 at h;rw[P2]at h;obtain⟨_,h⟩:=h;split at h;·exact⟨_,_,by assumption,by assumption,h⟩
 ·cases h
theorem aaL{P:Program}{t:TypeId}{x y:AV}{r:Bool}(h:kS (af8 P t) x y=some r):Mw P t x y=some r:=by
 unfold af8 at h;unfold Mw;split at h
 ·rename_i hu
  simp only[hu];unfold kS at h;split at h<;>first|exact h|simp_all
 ·rename_i hu
  simp only[hu];unfold kS at h;split at h<;>first|exact h|simp_all
 ·rename_i hu
  simp only[hu];unfold kS at h;split at h
  all_goals first
   |(simp_all;done)
   |skip
  rename_i ts s k m u k' n e;cases e;split at h
  ·rename_i nV
   show(if s≠u then some false else _)=_;rw[if_pos nV];exact h
  ·rename_i nV
   show(if s≠u then some false else _)=_;rw[if_neg nV];split at h
   ·rename_i hc
    obtain⟨hc,hk⟩:=hc;obtain⟨i,k0,h1,h2,h3⟩:=adb hc;simp only[h1,h2];rw[if_pos ⟨h3,hk⟩];exact h
   ·cases h
 ·rename_i hu
  simp only[hu];unfold kS at h;split at h<;>first|exact h|simp_all
 ·rename_i hu
  simp only[hu];unfold kS at h;split at h<;>first|exact h|simp_all
 ·rename_i hu
  simp only[hu];split at h;·simp[kS]at h
  ·rename_i hg
   split at h
   ·rename_i ks hk
    unfold kS at h;split at h<;>simp_all
   ·simp[kS]at h
 ·rename_i hu
  simp only[hu];split at h;·simp[kS]at h
  ·rename_i hg
   split at h
   ·rename_i ks hk
    unfold kS at h;split at h<;>simp_all
   ·simp[kS]at h
 ·simp[kS]at h
theorem asB(P:Program)(op:BinOp)(t:TypeId)(nc:Bool)(k k':IntKind)(a b:Int):Ba P op t nc (.int k a) (.int k' b)=bH op k a k' b:=rfl
theorem asC(P:Program)(op:BinOp)(t:TypeId)(nc:Bool)(a b:List UInt8):Ba P op t nc (.str a) (.str b)=Yh op a b:=rfl
theorem alg{P:Program}{op:BinOp}{t:TypeId}{nc:Bool}{x y r:AV}(h:du op (af8 P t) nc x y=some r):Ba P op t nc x y=some r:=by
 unfold du at h;split at h
 ·unfold Ba
  simp only;split at h;case isFalse=>cases h
  rename_i hn;rw[if_pos hn];have hq:∀ts,af8 P t=.iL ts->∃ms,P.underlying t=some (.interface ms):=by intro ts e;unfold af8 at e;split at e<;>first|(rename_i hu;exact⟨_,hu⟩)|(simp at e;done)|(split at e<;>first|(simp at e;done)|(split at e<;>simp at e))
  split at h
  ·rename_i e
   obtain⟨ms,hm⟩:=hq _ e;simp only[hm];exact h
  ·rename_i e
   obtain⟨ms,hm⟩:=hq _ e;simp only[hm];exact h
  ·cases h
 ·cases h
 ·cases h
 ·rename_i h1 h2 h3
  have key:∀{o},o=(match op with
   |.eql=>(Mw P t x y).map AV.bool
   |.neq=>(Mw P t x y).map fun b=>.bool (!b)
   |_=>none)->Ba P op t nc x y=o:=by
   rintro o rfl;unfold Ba;split;·exact absurd rfl (h2 _ _ _ _ rfl)
   ·exact absurd rfl (h3 _ _ rfl)
   ·exact absurd rfl (h1 rfl)
   ·cases op<;>rfl
  rw[key rfl];split at h
  ·simp only[cx]at h⊢
   obtain⟨b,hb,rfl⟩:=h;exact⟨b,aaL hb,rfl⟩
  ·simp only[cx]at h⊢
   obtain⟨b,hb,rfl⟩:=h;exact⟨b,aaL hb,rfl⟩
  ·cases h
section
variable{P:Program}{ρ:Operand->AV}{σ:KV->AV}(hρ:∀x,σ (gN x)=ρ x)
include hρ
theorem WY{place:Nat->Option (Nat × Nat)}:∀{parts:List (Nat × Operand)}{ps:List (Nat × Nat × KV)},tI place parts=some ps->∀z,dr z (ps.map fun x=>(x.1,x.2.1,σ x.2.2))=fill place z (parts.map fun x=>(x.1,ρ x.2)):=by
 intro parts;induction parts with
 |nil=>intro ps h z;simp[tI]at h;subst h;simp[dr,fill]
 |cons p parts ih=>
  obtain⟨i,x⟩:=p;intro ps h z;unfold tI at h;split at h
  ·rename_i off n l h1 h2
   cases h;simp only[pz,dr,fill,h1,hρ];split;·exact ih h2 _
   ·rfl
  ·cases h
theorem ade{place:Nat->Option (Nat × Nat)}:∀{parts:List (Nat × Operand)}{ps:List (Nat × Nat × KV)},tI place parts=some ps->∀z,LL z (ps.map fun x=>(x.1,x.2.1,σ x.2.2))=PW place z (parts.map fun x=>(x.1,ρ x.2)):=by
 intro parts;induction parts with
 |nil=>intro ps h z;simp[tI]at h;subst h;simp[LL,PW]
 |cons p parts ih=>
  obtain⟨i,x⟩:=p;intro ps h z;unfold tI at h;split at h
  ·rename_i off n l h1 h2
   cases h;simp only[pz,LL,PW,h1,hρ];split;·exact ih h2 _
   ·rfl
  ·cases h
theorem Ym(o:Option Operand):(o.map gN).map σ=o.map ρ:=by cases o<;>simp[hρ]
theorem ah_(l:List Operand):(l.map gN).map σ=l.map ρ:=by simp[hρ]
theorem alh{o:Op}{k:KP}(h:VB P o=some (.p k)){v:AV}(hv:ow σ k=some v):cz P ρ o=some v:=by
 unfold VB at h;split at h;·cases h;simpa[ow,cz,hρ]using hv
 ·cases h;simpa[ow,cz,hρ]using hv
 ·cases h
  simp only[ow,hρ]at hv;unfold ahW at hv;simp only[cz];split at hv<;>simp_all
 ·rename_i t parts
  unfold Yj at h;simp only[cz,RH];split at h
  ·rename_i z fs hz hu
   split at h;case h_2=>cases h
   rename_i places hp;simp only[cx]at h;obtain⟨ps,hps,he⟩:=h;simp only[hz,hu,hp];split at he<;>cases he<;>rename_i hg<;>simp only[ow]at hv
   ·rw[ade hρ hps]at hv
    rw[if_pos hg];exact hv
   ·rw[WY hρ hps]at hv
    rw[if_neg hg];exact hv
  ·rename_i z n e hz hu
   split at h;case h_2=>cases h
   rename_i sz ky;simp only[cx]at h;obtain⟨ps,hps,he⟩:=h;cases he;simp only[ow]at hv;rw[WY hρ hps]at hv;simp only[hz,hu,ky];exact hv
  ·cases h
 ·cases h;simpa[ow,cz,hρ]using hv
 ·rename_i op t x y ty
  unfold ah1 at h;simp only[cz];split at h
  ·cases h
   simp only[ow,hρ]at hv;unfold bS at hv;split at hv;·rename_i h1 h2;rw[h1,h2];exact hv
   ·cases hv
  ·cases h
   simp only[ow,hρ]at hv;unfold ahX at hv;split at hv;·rename_i h1 h2;rw[h1,h2];exact hv
   ·cases hv
  ·cases h
   simp only[ow,hρ]at hv;exact alg hv
  ·cases h
 ·cases h;simpa[ow,cz,hρ]using hv
 ·rename_i s d x
  unfold ac6 at h;simp only[cz,Cp];split at h
  ·rename_i k0 hd
   simp only[cx]at h;obtain⟨u,hu,he⟩:=h;cases he;simp only[ow,hρ]at hv;unfold Hr at hv;split at hv
   ·rename_i k1 n hx
    rw[hx];simp only[hd,hu];exact hv
   ·cases hv
  ·rename_i hd
   split at h
   ·rename_i hs
    cases h;simp only[ow,hρ]at hv;unfold aoj at hv;split at hv;·rename_i hx;rw[hx];simp only[hd,hs];exact hv
    ·cases hv
   ·rename_i hs
    cases h;simp only[ow,hρ]at hv;unfold ast at hv;split at hv;·rename_i hx;rw[hx];simp only[hd,hs];exact hv
    ·cases hv
   ·split at h
    ·rename_i he
     cases h;simp only[ow,hρ]at hv;unfold aok at hv;split at hv;·rename_i hx;rw[hx];simp only[hd,he];exact hv
     ·rename_i hx
      rw[hx];simp only[hd,he];exact hv
     ·cases hv
    ·cases h
  ·split at h<;>cases h
  ·cases h
 ·rename_i t x
  split at h;·cases h
  ·rename_i hu
   cases h;simp only[ow,hρ,ac4]at hv;simp only[cz,hu];exact hv
  ·cases h
 ·rename_i f first caps
  cases h;simp only[ow]at hv;simp only[cz];rw[<-hv];congr 2<;>simp[Fs,hρ]
 ·rename_i t x lo hi
  unfold Yk at h;simp only[cz,RF,Option.map_none];split at h
  ·rename_i hu
   cases h;simp only[ow,hρ,Ym hρ]at hv;unfold ass at hv;split at hv;·rename_i hx;rw[hx];simp only[hu];exact hv
   ·cases hv
  ·rename_i e hu
   simp only[cx]at h;obtain⟨sz,ky,he⟩:=h;cases he;simp only[ow,hρ,Ym hρ]at hv;have hel:kG P t=some e:=by simp[kG,hu]
   unfold zn at hv;split at hv
   ·rename_i hx;rw[hx];simp only[hel,SB,ky]
    split at hv;·rename_i h1 h2;simp only[h1,h2];exact hv
    ·cases hv
   ·rename_i hx;rw[hx];simp only[hel,ky]
    split at hv;·cases hv
    rename_i hc;rw[if_neg hc];split at hv;case h_2=>cases hv
    rename_i h1 e1;simp only[e1];split at hv;case h_2=>cases hv
    rename_i l1 e2;simp only[e2];exact hv
   ·rename_i hx;rw[hx];simp only[hel]
    split at hv;·cases hv
    rename_i hc;rename_i sz1;have hc':¬iK P e≠some sz1:=by rw[ky];intro hh;exact hc fun e=>hh (by rw[e])
    rw[if_neg hc'];exact hv
   ·cases hv
  ·rename_i n e hu
   simp only[cx]at h;obtain⟨sz,ky,he⟩:=h;cases he;simp only[ow,hρ,Ym hρ]at hv;unfold xD at hv;split at hv
   ·rename_i hx;rw[hx];simp only[hu,ky]
    split at hv;·rename_i h1;simp only[h1];exact hv
    ·cases hv
   ·cases hv
  ·cases h
 ·rename_i t x f
  split at h
  ·rename_i off u hf
   split at h
   ·rename_i n hn
    cases h;simp only[ow,hρ]at hv;simp only[cz,lC,hf,hn];unfold ak0 at hv;split at hv<;>simp_all
   ·cases h
  ·cases h
 ·rename_i t x f
  split at h
  ·rename_i off u hf
   simp only[cx]at h;obtain⟨sh,hsh,he⟩:=h;cases he;simp only[ow,hρ]at hv;unfold aoh at hv;split at hv
   ·rename_i cs hx
    simp only[cz,RI,hf,hx];rw[Tj hsh];exact hv
   ·cases hv
  ·cases h
 ·rename_i t x i
  simp only[cz,Bb];split at h
  ·rename_i e hu
   simp only[cx]at h;obtain⟨sz,ky,he⟩:=h;cases he;simp only[ow,hρ]at hv;unfold oa at hv;split at hv
   ·rename_i k0 n hi
    rw[hi];simp only[hu];split at hv;·cases hv
    rename_i Yn;rw[if_neg Yn];split at hv
    ·rename_i hx
     rw[hx];simp only[ky,jB];exact hv
    ·rename_i hx
     rw[hx];simp only[ky,jB];exact hv
    ·cases hv
   ·cases hv
  ·rename_i n e hu
   simp only[cx]at h;obtain⟨sz,ky,he⟩:=h;cases he;simp only[ow,hρ]at hv;unfold CE at hv;split at hv
   ·rename_i k0 n0 hi
    rw[hi];simp only[hu];split at hv;·cases hv
    rename_i Yn;rw[if_neg Yn];split at hv
    ·rename_i hx
     rw[hx];simp only[ky];exact hv
    ·rename_i hx
     rw[hx];simp only[ky];exact hv
    ·cases hv
   ·cases hv
  ·cases h
 ·rename_i t x i
  simp only[cz,RG];split at h
  ·rename_i hu
   cases h;simp only[ow,hρ]at hv;unfold aoi at hv;split at hv
   ·rename_i k0 n0 hi
    rw[hi];simp only[hu];split at hv;·cases hv
    rename_i Yn;rw[if_neg Yn];split at hv
    ·rename_i hx
     rw[hx];exact hv
    ·cases hv
   ·cases hv
  ·rename_i n e hu
   split at h;case h_2=>cases h
   rename_i sz sh ky hsh;cases h;simp only[ow,hρ]at hv;unfold af7 at hv;split at hv
   ·rename_i k0 n0 hi
    rw[hi];simp only[hu];split at hv;·cases hv
    rename_i Yn;rw[if_neg Yn];split at hv
    ·rename_i hx
     rw[hx];simp only[ky,Tj hsh];exact hv
    ·cases hv
   ·cases hv
  ·cases h
 ·cases h;simpa[ow,cz,hρ]using hv
 ·rename_i x t' u ok
  unfold ah2 at h;simp only[cz,Mx];split at h;·cases h
  ·rename_i d nV hu
   split at h
   ·rename_i G3
    simp only[cx]at h;obtain⟨z,hz,he⟩:=h;cases he;simp only[ow,hρ,aol]at hv;split;·rename_i hh;rw[hu]at hh;cases hh;exact absurd rfl (nV _)
    ·subst G3
     split at hv
     ·rename_i hx;rw[hx]
      simp only[hz,qJ,if_true];exact hv
     ·rename_i hx;rw[hx]
      simp only[hz,qJ,if_true];exact hv
     ·cases hv
    ·rename_i hh;rw[hu]at hh;cases hh
   ·rename_i G3
    cases h;simp only[ow,hρ,aol]at hv;split;·rename_i hh;rw[hu]at hh;cases hh;exact absurd rfl (nV _)
    ·have G3:ok=false:=by simpa using G3
     subst G3;split at hv
     ·rename_i hx;rw[hx]
      simp only[rL,if_false];exact hv
     ·cases hv
     ·cases hv
    ·rename_i hh;rw[hu]at hh;cases hh
  ·cases h
 ·rename_i args ts
  unfold lenOf at h;simp only[cz];split at h;case h_2=>cases h
  rename_i t x ht hx;simp only[ht,hx,PX];split at h
  ·rename_i hu
   cases h;simp only[ow,hρ]at hv;unfold ahV at hv;split at hv;·rename_i kM;rw[kM];simp only[hu];exact hv
   ·cases hv
  ·rename_i hu
   cases h;simp only[ow,hρ]at hv;unfold gj at hv;split at hv;·rename_i kM;rw[kM];simp only[hu];exact hv
   ·rename_i kM;rw[kM];simp only[hu];exact hv
   ·rename_i kM;rw[kM];simp only[hu];exact hv
   ·cases hv
  ·rename_i n e hu
   cases h;simp only[ow]at hv;simp only[hu];exact hv
  ·cases h
 ·rename_i args ts
  cases h;simp only[ow,ah_ hρ,ahY]at hv;simp only[cz];exact hv
 all_goals first
  |(simp[aeI]at h;done)
  |(
   unfold aeI at h;repeat' split at h
   all_goals first|(cases h;done)|(simp at h;done))
  |(simp[cx]at h;done)
  |(
   repeat' split at h
   all_goals first|(cases h;done)|(simp at h;done))
  |(cases h;done)
end
end
section
theorem agd{P:Program}{E:Env}{S:St}{t:TypeId}{n:Nat}(h:iK P t=some n)(p v:AV):lD P E S t p v=bg E.aa E.nb S n p v:=by
 cases p with
 |ptr i off=>simp only[lD,bg,h];rfl
 |_=>simp only[lD,bg]
theorem asD{P:Program}{call:bU}{E:Env}{K:bw}{S:St}(hρ:∀x,KE.ev K.sl (gN x)=E.ev x)(ht:K.aa=E.aa)(hn:K.nb=E.nb){o:Op}{k:JZ}(h:VB P o=some k)
 {r:AV × List (Option Nat) × St} (hr:mf call K S k=some r):ny P call E S o=some r:=by
 have aaM:(∃p,k=.p p)->ny P call E S o=some r:=by
  rintro⟨p,rfl⟩;simp only[mf,cx]at hr;obtain⟨v,hv,rfl⟩:=hr;have:=alh hρ h hv;unfold ny;split;·simp[cz]at this
  ·rw[this,ht]
 by_cases hp:∃p,k=.p p;·exact aaM hp
 clear aaM;have no:∀{p:KP}{x:Prop},some (JZ.p p)=some k->x:=by intro p x e;cases e;exact absurd ⟨_,rfl⟩ hp
 have nom:∀{α:Type}{f:α->KP}{y:Option α}{x:Prop},(y.map fun a=>JZ.p (f a))=some k->x:=by intro α f y x e;simp only[cx]at e;obtain⟨a,_,rfl⟩:=e;exact absurd ⟨_,rfl⟩ hp
 unfold VB at h;split at h;·exact no h
 ·exact no h
 ·exact no h
 ·unfold Yj at h
  split at h
  ·split at h
   ·simp only[cx]at h
    obtain⟨_,_,h⟩:=h;split at h<;>cases h<;>exact absurd ⟨_,rfl⟩ hp
   ·cases h
  ·split at h
   ·exact nom h
   ·cases h
  ·cases h
 ·exact no h
 ·unfold ah1 at h
  split at h;·exact no h
  ·exact no h
  ·exact no h
  ·cases h
 ·exact no h
 ·
   rename_i s d x;unfold ac6 at h;split at h
   ·simp only[cx]at h
    obtain⟨_,_,rfl⟩:=h;exact absurd ⟨_,rfl⟩ hp
   ·split at h
    ·exact no h
    ·exact no h
    ·split at h
     ·exact no h
     ·cases h
   ·rename_i e hd
    split at h
    ·rename_i hs he
     cases h;simp only[mf,hρ,cx]at hr;obtain⟨v,hv,rfl⟩:=hr;unfold aaB at hv;split at hv
     ·rename_i s1 hx
      simp only[ny,cz,Cp,hd,hx,oO,RJ,hs,he];split at hv
      ·rename_i hl
       rw[if_pos hl];cases hv;simp only[ht]
      ·cases hv
     ·cases hv
    ·cases h
   ·cases h
 ·split at h
  ·cases h
  ·exact no h
  ·cases h
 ·exact no h
 ·unfold Yk at h
  split at h;·exact no h
  ·exact nom h
  ·exact nom h
  ·cases h
 ·split at h
  ·split at h
   ·exact no h
   ·cases h
  ·cases h
 ·split at h
  ·exact nom h
  ·cases h
 ·split at h
  ·exact nom h
  ·exact nom h
  ·cases h
 ·split at h
  ·exact no h
  ·split at h
   ·exact no h
   ·cases h
  ·cases h
 ·exact no h
 ·unfold ah2 at h
  split at h;·cases h
  ·split at h
   ·exact nom h
   ·exact no h
  ·cases h
 ·unfold lenOf at h
  split at h
  ·split at h
   ·exact no h
   ·exact no h
   ·exact no h
   ·cases h
  ·cases h
 ·exact no h
 ·
   rename_i t len parts;unfold aeI at h;split at h
   ·rename_i e he
    split at h
    ·rename_i sz z ky hz
     split at h
     ·rename_i hc
      cases h;simp only[mf,cx]at hr;obtain⟨es,qM,rfl⟩:=hr;simp only[ny,cz,oO,iD,he,ky,hz];rw[if_pos hc];have e1:(parts.toList.map fun x=>(x.1,gN x.2)).map (fun x=>(x.1,KE.ev K.sl x.2))=parts.toList.map fun x=>(x.1,E.ev x.2):=by simp[hρ]
      rw[e1]at qM;rw[qM];simp only[qJ,ht]
     ·cases h
    ·cases h
   ·cases h
 ·
   simp only[cx]at h;obtain⟨z,hz,rfl⟩:=h;simp only[mf]at hr;cases hr;simp only[ny,cz,oO,j6,hz,qJ,ht]
 ·rename_i t x
  simp only[cx]at h;obtain⟨n,ky,rfl⟩:=h;simp only[mf,hρ]at hr;simp only[ny,cz,oO,j6,ky,<-ht];exact hr
 ·rename_i t p
  simp only[cx]at h;obtain⟨sh,hsh,rfl⟩:=h;simp only[mf,hρ]at hr;simp only[ny,cz,oO,j6,Te hsh,<-ht];exact hr
 ·rename_i t p x
  simp only[cx]at h;obtain⟨n,ky,rfl⟩:=h;simp only[mf,hρ]at hr;simp only[ny,cz,oO,j6,agd ky,<-ht,<-hn];exact hr
 ·rename_i args ts
  split at h
  ·rename_i e sz s x h1 h2 h3
   cases h;simp only[mf,hρ]at hr;simp only[ny,cz,oO,j6,h2,h3,<-ht];rw[<-hr];simp only[nW,h1,cb];cases bL S (E.ev x)<;>rfl
  ·cases h
 ·rename_i args ts
  split at h
  ·rename_i sz d x h1 h2 h3
   cases h;simp only[mf,hρ]at hr;simp only[ny,cz,oO,j6,h2,h3,<-hn,<-ht];have:Oi P K.nb S ts (E.ev d) (E.ev x)=CF K.nb S sz (E.ev d) (E.ev x):=by
    unfold Oi CF;rw[KL]at h1;obtain⟨e,h4,h5⟩:=h1;simp only[h4,h5];split
    ·rename_i h6 h7 h8
     cases h6;simp only[h7,h8];rfl
    ·rename_i nV
     split
     ·rename_i h7 h8
      exact(nV _ _ _ _ _ _ _ rfl h7 h8).elim
     ·rfl
   rw[this];exact hr
  ·cases h
 ·
   rename_i f args ts;cases h;simp only[mf,hρ]at hr;simp only[ny,Ly,callee];unfold Fp RN at hr;have e1:(args.toList.map gN).map (KE.ev K.sl)=args.toList.map fun x=>E.ev x:=by simp[hρ]
   rw[e1]at hr;cases hf:E.ev f with
   |fn g a b=>
    simp only[hf]at hr;rw[<-ht];exact hr
   |_=>simp only[hf]at hr;cases hr
 ·rename_i t x
  split at h
  ·rename_i hu
   cases h;simp only[mf,hρ]at hr;simp only[ny,cz,oO,j6,<-ht];rw[<-hr];simp only[My,hu,OF];cases E.ev x<;>rfl
  ·cases h
 ·rename_i p
  cases h;simp only[mf,hρ]at hr;simp only[ny,cz,oO,j6,<-ht];exact hr
 ·cases h
theorem aoA{P:Program}{call:bU}{E:Env}{K:bw}{S:St}(hρ:∀x,KE.ev K.sl (gN x)=E.ev x)(ht:K.aa=E.aa)(hn:K.nb=E.nb){o:Oper}
 {r:AV × List (Option Nat) × St} (hr:mf call K S (MU P o)=some r):lE P call E S o=some r:=by
 unfold MU at hr;cases hk:VB P o.op with
 |none=>rw[hk]at hr;simp[mf]at hr
 |some k=>rw[hk]at hr;exact asD hρ ht hn hk hr
def toE(n:Nat)(K:bw):Env:=⟨(List.range n).map (KE.get K.sl),K.aa,K.nb⟩
def J0(n:Nat)(K:bw):Prop:=∀t,n<=t->KE.get K.sl t=.undef
theorem acb{n:Nat}{K:bw}(h:J0 n K)(t:Nat):(toE n K).br.getD t .undef=KE.get K.sl t:=by
 simp only[toE,tE,gx];rcases iI t n with cV|G2;·rw[Fl cV];rfl
 ·rw[kR (by simpa using G2),h t G2];rfl
theorem adv{n:Nat}{K:bw}(h:J0 n K)(x:Operand):KE.ev K.sl (gN x)=(toE n K).ev x:=by
 cases x with
 |tmp t=>exact(acb h t).symm
 |_=>rfl
theorem acz{n:Nat}{K:bw}{d:Option Tmp}(hd:Td n d=true)(v:AV)(aa:List (Option Nat)):toE n (K.put d v aa)=(toE n K).put d v aa:=by
 cases d with
 |none=>rfl
 |some d=>
  have hd:d<n:=by simpa[Td]using hd
  simp only[toE,bw.put,Env.put,cW,Env.mk.injEq,and_true];refine K3 fun i=>?_;rw[SY];simp only[gx,List.length_map,List.length_range];by_cases e:d=i
  ·subst e
   simp[hd,KE.get]
  ·rw[if_neg e]
   rcases iI i n with cV|G2;·rw[Fl cV];simp[KE.get,e]
   ·rw[kR (by simpa using G2)];rfl
theorem adf{n:Nat}{K:bw}(h:J0 n K){d:Option Tmp}(hd:Td n d=true)(v:AV)(aa:List (Option Nat)):J0 n (K.put d v aa):=by
 intro t ht;cases d with
 |none=>exact h t ht
 |some d=>
  have hd:d<n:=by simpa[Td]using hd
  simp only[bw.put,KE.get];rw[if_neg (fun e=>by subst e;exact absurd hd (Nat.not_lt.2 ht))];exact h t ht
theorem amX{n:Nat}{ops:Array Oper}{K:bw}(h:J0 n K){o:Oper}{g:Option (Nat × Bool)}(hg:aop ops o.guard=some g){b:Bool}(hb:gdK K g=some b):kD ops (toE n K) o=true/\lF ops (toE n K) o=b:=by
 unfold aop at hg;unfold kD lF;cases hgd:o.guard with
 |none=>
  rw[hgd]at hg;cases hg;simp only[gdK]at hb;cases hb;exact⟨rfl,rfl⟩
 |some x=>
  obtain⟨j,want⟩:=x;simp only[hgd,cx]at hg;obtain⟨d,hd,rfl⟩:=hg;simp only[hd,acb h];simp only[gdK]at hb;split at hb;·rename_i b' hv;rw[hv];cases hb;exact⟨rfl,rfl⟩
  ·rename_i hv;rw[hv];cases hb;exact⟨rfl,rfl⟩
  ·cases hb
section
variable{P:Program}{call:bU}{n:Nat}{ops:Array Oper}
theorem amZ{o:Oper}{ko:KO}{K K':bw}{S S':St}{v:AV}(h:Yl P n ops o=some ko)(w:J0 n K)(hr:MS call K S ko=some (v,K',S')):
 J0 n K'/\K'.nb=K.nb/\kD ops (toE n K) o=true/\
 ((lF ops (toE n K) o=true/\gdK K ko.gd=some true/\∃aa,lE P call (toE n K) S o=some (v,aa,S')/\toE n K'=(toE n K).put o.dst v aa)\/
  (lF ops (toE n K) o=false/\gdK K ko.gd=some false/\S'=S/\toE n K'=(toE n K).put o.dst (.cT []) (toE n K).aa)):=by
 unfold Yl at h;split at h;case isFalse=>cases h
 rename_i hd;split at h;case h_2=>cases h
 rename_i g hg;cases h;unfold MS at hr;simp only at hr;split at hr
 ·rename_i hgd
  obtain⟨g1,g2⟩:=amX w hg hgd;split at hr;case h_2=>cases hr
  rename_i v1 aa S1 h1;cases hr;refine⟨adf w hd _ _, ?_,g1,.inl ⟨g2,hgd,aa, ?_,acz hd _ _⟩⟩;·cases o.dst<;>rfl
  ·exact aoA (fun x=>adv w x) rfl rfl h1
 ·rename_i hgd
  obtain⟨g1,g2⟩:=amX w hg hgd;cases hr;refine⟨adf w hd _ _, ?_,g1,.inr ⟨g2,hgd,rfl,acz hd _ _⟩⟩;cases o.dst<;>rfl
 ·cases hr
theorem mapM_cons{α β:Type}{f:α->Option β}{a:α}{l:List α}{m:List β}(h:(a::l).mapM f=some m):∃b r,f a=some b/\l.mapM f=some r/\m=b::r:=by
 rw[Hc]at h;cases hf:f a with
 |none=>simp[hf]at h
 |some b=>
  cases hl:l.mapM f with
  |none=>simp[hf,hl]at h
  |some r=>simp[hf,hl]at h;exact⟨b,r,rfl,rfl,h.symm⟩
theorem Yo:∀{l:List Oper}{kl:List KO}{K K':bw}{S S':St},l.mapM (Yl P n ops)=some kl->J0 n K->qV call kl K S=some (K',S')->
 J0 n K'/\K'.nb=K.nb/\vX P call ops l (toE n K) S=some (toE n K',S'):=by
 intro l;induction l with
 |nil=>
  intro kl K K' S S' h w hr;simp at h;subst h;simp only[qV]at hr;cases hr;exact⟨w,rfl,rfl⟩
 |cons o l ih=>
  intro kl K K' S S' h w hr;obtain⟨ko,kr,h1,h2,rfl⟩:=mapM_cons h;simp only[qV]at hr;split at hr;case h_2=>cases hr
  rename_i v K1 S1 h3;obtain⟨w1,nb1,gt,hc⟩:=amZ h1 w h3;obtain⟨w2,nb2,e2⟩:=ih h2 w1 hr;refine⟨w2,nb2.trans nb1, ?_⟩;unfold vX;rw[if_pos gt];rcases hc with⟨g,_,aa,e3,e4⟩|⟨g,_,e3,e4⟩
  ·rw[if_pos g,e3]
   simp only;rw[<-e4];exact e2
  ·rw[g]
   simp only[rL,if_false];rw[<-e4,<-e3];exact e2
theorem aoB:∀{l:List Oper}{al:List (Nat × List AV)}{K:bw}{S:St},KX P n l=some al->J0 n K->
 J0 n (zZ al K S).1/\(zZ al K S).1.nb=K.nb/\pq P l (toE n K) S=some (toE n (zZ al K S).1,(zZ al K S).2):=by
 intro l;induction l with
 |nil=>
  intro al K S h w;simp[KX]at h;subst h;exact⟨w,rfl,rfl⟩
 |cons o l ih=>
  intro al K S h w;unfold KX at h;unfold pq;split at h
  ·rename_i t ht
   simp only[ht];split at h;case h_2=>cases h
   rename_i d z al' hd hz QI;split at h;case isFalse=>cases h
   rename_i cV;cases h;have hd':Td n (some d)=true:=by simpa[Td]using cV
   obtain⟨a,b,c⟩:=ih (K:=K.put (some d) (.ptr S.length 0) K.aa) (S:=S++[.mem z [] false]) QI (adf w hd' _ _);simp only[zZ,hz];refine⟨a,b, ?_⟩;rw[<-c,acz hd',hd];rfl
  ·rename_i AU
   obtain⟨a,b,c⟩:=ih (K:=K) (S:=S) h w;refine⟨a,b, ?_⟩;rw[<-c];split;·rename_i t ht;exact absurd ht (AU t)
   ·rfl
def alj(P:Program)(b:Array Nat)(ops:Array Oper)(ls:List AT)(kls:List LM):Prop:=
 ∀l∈ls,∃k∈kls,k.lo=lowest ops b l.idx/\k.hi=DN ops b l.idx/\Yi P l.type=some k.sh/\k.at_=l.at_/\k.val=l.val
theorem alk{o:Op}{k:JZ}(h:VB P o=some k){t:TypeId}{p:Operand}(ho:o=.load t p):∃sh,Yi P t=some sh/\k=.load sh (gN p):=by subst ho;simp only[VB,cx]at h;obtain⟨sh,h1,rfl⟩:=h;exact⟨sh,h1,rfl⟩
theorem asE:∀{l:List (Oper × Nat)}{kl:List KD}{K K':bw}{S S':St}{ss xA:List St}{kls alm:List LM}{ls:List AT},VC P n ops (Region.before ops) l=some kl->J0 n K->alj P (Region.before ops) ops ls kls->
 z4 call kl K S ss kls=some (K',S',xA,alm)->
 J0 n K'/\K'.nb=K.nb/\∃yj,alj P (Region.before ops) ops yj alm/\sa P call ops l (toE n K) S ss ls=some (toE n K',S',xA,yj):=by
 intro l;induction l with
 |nil=>
  intro kl K K' S S' ss xA kls alm ls h w hl hr;simp[VC]at h;subst h;simp only[z4]at hr;cases hr;exact⟨w,rfl,ls,hl,rfl⟩
 |cons x l ih=>
  obtain⟨o,i⟩:=x;intro kl K K' S S' ss xA kls alm ls h w hl hr;unfold VC at h;unfold sa;split at h
  ·rename_i ha
   obtain⟨a,b,yj,c,d⟩:=ih h w hl hr;exact⟨a,b,yj,c,by rw[if_pos ha];exact d⟩
  ·rename_i ha
   rw[if_neg ha];split at h;case h_2=>cases h
   rename_i ko kr h1 h2;cases h;simp only[z4]at hr;split at hr;case h_2=>cases hr
   rename_i v K1 S1 h3;obtain⟨w1,nb1,gt,hc⟩:=amZ h1 w h3;rw[if_pos gt];have LH:∃g,ko=⟨o.dst,g,MU P o⟩:=by
    unfold Yl at h1;split at h1;case isFalse=>cases h1
    split at h1;case h_2=>cases h1
    rename_i g _;cases h1;exact⟨g,rfl⟩
   obtain⟨g,rfl⟩:=LH;have hko:∀t p,o.op=.load t p->gdK K g=some true->∃k,VB P o.op=some k/\MU P o=k:=by
    intro t p hlo hg;cases hk:VB P o.op with
    |some k=>exact⟨k,rfl,by simp[MU,hk]⟩
    |none=>
     have:MU P o=.bad:=by simp[MU,hk]
     rw[this]at h3;simp[MS,hg,mf]at h3
   generalize MU P o=k at h1 h3 hko hr;rcases hc with⟨g1,g2,aa,e3,e4⟩|⟨g1,g2,e3,e4⟩
   ·rw[if_pos g1,e3]
    have hl2:alj P (Region.before ops) ops (match o.op with|.load t p=>⟨i,t,(toE n K).ev p,v⟩::ls|_=>ls) (ldK K ⟨⟨o.dst,g,k⟩,dD o,lowest ops (Region.before ops) i,DN ops (Region.before ops) i⟩ v kls):=by
     by_cases Od:∃t p,o.op=.load t p
     ·obtain⟨t,p,hlo⟩:=Od
      obtain⟨k',hk,KS⟩:=hko t p hlo g2;subst KS;obtain⟨sh,hsh,rfl⟩:=alk hk hlo;rw[hlo];simp only[ldK,g2];intro x hx;rcases yi.1 hx with rfl|hx;·exact⟨_,adg,rfl,rfl,hsh,adv w p,rfl⟩
      ·obtain⟨y,hy,q⟩:=hl x hx
       exact⟨y,Yp _ hy,q⟩
     ·have e1:(match o.op with|.load t p=>(⟨i,t,(toE n K).ev p,v⟩:AT)::ls|_=>ls)=ls:=by
       split;·rename_i t p he;exact absurd ⟨t,p,he⟩ Od
       ·rfl
      rw[e1];intro x hx;obtain⟨y,hy,q⟩:=hl x hx;refine⟨y, ?_,q⟩;unfold ldK;split;·exact Yp _ hy
      ·exact hy
    obtain⟨a,b,yj,c,d⟩:=ih h2 w1 hl2 hr;refine⟨a,b.trans nb1,yj,c, ?_⟩;simp only;rw[<-e4];exact d
   ·rw[g1]
    simp only[rL,if_false];have hl2:alj P (Region.before ops) ops ls (ldK K ⟨⟨o.dst,g,k⟩,dD o,lowest ops (Region.before ops) i,DN ops (Region.before ops) i⟩ v kls):=by unfold ldK;simp only[g2];exact hl
    obtain⟨a,b,yj,c,d⟩:=ih h2 w1 hl2 hr;refine⟨a,b.trans nb1,yj,c, ?_⟩;rw[<-e4,<-e3];exact d
theorem RQ{al:List (Nat × List AV)}{kl:List KD}{K K':bw}{S S':St}(ha:KX P n ops.toList=some al)(hd:VC P n ops (Region.before ops) ops.toList.zipIdx=some kl)(w:J0 n K)
 (hr:MT call al kl K S=some (K',S')):J0 n K'/\K'.nb=K.nb/\G_ P call ops (toE n K) S=some (toE n K',S'):=by
 unfold MT at hr;split at hr;·cases hr
 rename_i K1 S1 ss ls h1;split at hr;case isFalse=>cases hr
 rename_i G3;cases hr;obtain⟨w0,nb0,e0⟩:=aoB (K:=K) (S:=S) ha w;obtain⟨w1,nb1,yj,hl,e1⟩:=asE hd w0 (ls:=[]) (fun l hl=>by simp at hl) h1;refine⟨w1,nb1.trans nb0, ?_⟩;unfold G_;simp only[e0,e1];rw[if_pos];unfold Mz;simp only[j7];intro l LC x hx;obtain⟨k,hk,a1,a2,a3,a4,a5⟩:=hl l LC;unfold Tc at G3;simp only[j7]at G3;have:=G3 k hk x (by rw[a1,a2];exact hx);rw[Te a3];rw[a4,a5]at this;exact this
end
end
section
section
variable{w:World}{mu:Nat->Option Nat}{hw:Nat->Nat}{lk:Nat->Prop}
theorem RV.cY{a:AV}{v:Value}(h:RV w mu hw lk a v):RV w mu hw lk (cY a) v:=by
 unfold am.cY;split;·cases h;exact .emp 1 none 0
 ·exact h
 ·cases h with
  |emp _ p cap=>exact .emp 1 p cap
  |zg _ p=>exact .emp 1 p 0
  |sl _ _ _ b o len cap f h0 hr hb hl hs h1 h2=>
   exact .sl .none 1 [] b o len cap f ⟨h0.1,h0.2.1,by simp⟩ (by simp) (by simp) (by simp) (by simp) (by simp) (by simp)
 ·rename_i r sz es AU _
  cases h with
  |emp _ p cap=>exact .emp sz p cap
  |zg _ p=>exact .emp sz p 0
  |sl _ _ _ b o len cap f h0 hr hb hl hs h1 h2=>
   refine .sl .none sz es b o len cap f h0 (by simp) (by simp) (by simp) hs (fun i cs j a hi hj=>?_) h2;obtain⟨p,q,z⟩:=h1 i cs j a hi hj;refine⟨p, ?_,z⟩;cases r<;>first|exact absurd rfl (AU _)|exact q
 ·exact h
theorem aia{a:AV}(h:nf a=true):nf (cY a)=true:=by unfold am.cY;split<;>first|rfl|exact h
theorem RV.norm{a:AV}{v:Value}(h:RV w mu hw lk a v):RV w mu hw lk (norm a) v:=by
 unfold am.norm;split
 ·rename_i cs
  cases h with
  |agg _ f h1 h2=>
   have:=RV.agg (w:=w) (mu:=mu) (hw:=hw) (lk:=lk) (cs.map am.cY) f (fun j a hj=>by
    simp only[gx,cx]at hj;obtain⟨y,hy,rfl⟩:=hj;exact aia (h1 j y hy)) (fun j a hj=>by
    simp only[gx,cx]at hj;obtain⟨y,hy,rfl⟩:=hj;exact(h2 j y hy).cY)
   simpa using this
 ·exact h.cY
theorem RV.yr{a:AV}{v:Value}(h:RV w mu hw lk a v):RV w mu hw lk (yr a) v:=by
 unfold am.yr;split;·exact h
 ·exact h.norm
theorem RV.bD{a:AV}{v:Value}(h:RV w mu hw lk a v):RV w mu hw lk (bD a) v:=by
 unfold am.bD;split;·exact h.norm
 ·exact h
theorem cU.cY{lv:aa3}{ti:Id->TI}{a:AV}{v:Value}(h:cU lv ti a v):cU lv ti (am.cY a) v:=by unfold am.cY;split<;>first|trivial|exact h
theorem cU.norm{lv:aa3}{ti:Id->TI}{a:AV}{v:Value}(h:cU lv ti a v):cU lv ti (am.norm a) v:=by
 unfold am.norm;split;·trivial
 ·exact h.cY
theorem cU.yr{lv:aa3}{ti:Id->TI}{a:AV}{v:Value}(h:cU lv ti a v):cU lv ti (am.yr a) v:=by
 unfold am.yr;split;·trivial
 ·exact h.norm
theorem cU.bD{lv:aa3}{ti:Id->TI}{a:AV}{v:Value}(h:cU lv ti a v):cU lv ti (am.bD a) v:=by
 unfold am.bD;split;·trivial
 ·exact h
end
section
variable{P:Program}
structure LN(P:Program)(nk:NK):Prop where
 sim:∀f p,nk.rP f=some p->lH P fun g args S=>if g=f then p args S else none
 uE:∀f p,nk.rP f=some p->jq fun g args S=>if g=f then p args S else none
theorem aaG{F:bU}{nk:NK}(hp:LN P nk)(h:lH P F):lH P (lK nk F):=by
 intro f args S r S' e base bc w mu hw ti rM I hl ha;unfold lK at e;split at e
 ·rename_i p hf
  exact hp.sim f p hf f args S r S' (by simpa using e) base bc w mu hw ti rM I hl ha
 ·refine h f _ S r S' e base bc w mu hw ti rM I (by simpa using hl) fun j a hj=>?_
  simp only[gx,cx]at hj;obtain⟨y,hy,rfl⟩:=hj;obtain⟨v,h1,h2,h3⟩:=ha j y hy;refine⟨v,h1, ?_⟩;split;·exact⟨h2.yr,h3.yr⟩
  ·exact⟨h2.norm,h3.norm⟩
theorem P_{F:bU}{nk:NK}(hp:LN P nk)(h:jq F):jq (lK nk F):=by
 intro f args S r S' e;unfold lK at e;split at e
 ·rename_i p hf
  exact hp.uE f p hf f args S r S' (by simpa using e)
 ·exact h f _ S r S' e
theorem aeN{n:Nat}{c:Code}{l:List KO}(h:iW P n c=some (.ops l)):∃id ops,c=.region id ops false/\ops.toList.mapM (Yl P n ops)=some l:=by
 cases c with
 |region id ops d=>
  cases d with
  |false=>
   simp only[iW,cx]at h;obtain⟨l',h1,h2⟩:=h;cases h2;exact⟨id,ops,rfl,h1⟩
  |true=>
   simp only[iW]at h;repeat' split at h
   all_goals cases h
 |_=>simp only[iW]at h<;>(first|(cases h;done)|((repeat' split at h)<;>cases h)|(simp only[cx]at h;obtain⟨_,_,h⟩:=h;cases h))
theorem aaN{n:Nat}{c:Code}{al:List (Nat × List AV)}{l:List KD}(h:iW P n c=some (.draw al l)):
 ∃id ops,c=.region id ops true/\zS ops=true/\KX P n ops.toList=some al/\VC P n ops (Region.before ops) ops.toList.zipIdx=some l:=by
 cases c with
 |region id ops d=>
  cases d with
  |false=>
   simp only[iW,cx]at h;obtain⟨_,_,h⟩:=h;cases h
  |true=>
   simp only[iW]at h;split at h
   ·rename_i hr
    split at h
    ·rename_i h1 h2
     cases h;exact⟨id,ops,rfl,hr,h1,h2⟩
    ·cases h
   ·repeat' split at h
    all_goals cases h
 |_=>simp only[iW]at h<;>(first|(cases h;done)|((repeat' split at h)<;>cases h)|(simp only[cx]at h;obtain⟨_,_,h⟩:=h;cases h))
theorem aeO{n:Nat}{c:Code}{x y:KC}(h:iW P n c=some (.seq x y)):∃a b,c=.seq a b/\iW P n a=some x/\iW P n b=some y:=by
 cases c with
 |seq a b=>
  simp only[iW]at h;split at h;·rename_i h1 h2;cases h;exact⟨a,b,rfl,h1,h2⟩
  ·cases h
 |region id ops d=>
  cases d<;>simp only[iW]at h
  ·simp only[cx]at h
   obtain⟨_,_,h⟩:=h;cases h
  ·repeat' split at h
   all_goals cases h
 |_=>simp only[iW]at h<;>(first|(cases h;done)|((repeat' split at h)<;>cases h)|(simp only[cx]at h;obtain⟨_,_,h⟩:=h;cases h))
theorem aaO{n:Nat}{c:Code}{z:KV}{x y:KC}(h:iW P n c=some (.cond z x y)):∃t a b,c=.cond t a b/\gN t=z/\iW P n a=some x/\iW P n b=some y:=by
 cases c with
 |cond t a b=>
  simp only[iW]at h;split at h;·rename_i h1 h2;cases h;exact⟨t,a,b,rfl,rfl,h1,h2⟩
  ·cases h
 |region id ops d=>
  cases d<;>simp only[iW]at h
  ·simp only[cx]at h
   obtain⟨_,_,h⟩:=h;cases h
  ·repeat' split at h
   all_goals cases h
 |_=>simp only[iW]at h<;>(first|(cases h;done)|((repeat' split at h)<;>cases h)|(simp only[cx]at h;obtain⟨_,_,h⟩:=h;cases h))
theorem WZ{n:Nat}{c:Code}{id:Nat}{x:KC}(h:iW P n c=some (.block id x)):∃a,c=.block id a/\iW P n a=some x:=by
 cases c with
 |block mo a=>
  simp only[iW,cx]at h;obtain⟨_,h1,h⟩:=h;cases h;exact⟨a,rfl,h1⟩
 |region id ops d=>
  cases d<;>simp only[iW]at h
  ·simp only[cx]at h
   obtain⟨_,_,h⟩:=h;cases h
  ·repeat' split at h
   all_goals cases h
 |_=>simp only[iW]at h<;>(first|(cases h;done)|((repeat' split at h)<;>cases h)|(simp only[cx]at h;obtain⟨_,_,h⟩:=h;cases h))
theorem aaP{n:Nat}{c:Code}{x:KC}(h:iW P n c=some (.loop x)):∃a,c=.loop a/\iW P n a=some x:=by
 cases c with
 |loop a=>
  simp only[iW,cx]at h;obtain⟨_,h1,h⟩:=h;cases h;exact⟨a,rfl,h1⟩
 |region id ops d=>
  cases d<;>simp only[iW]at h
  ·simp only[cx]at h
   obtain⟨_,_,h⟩:=h;cases h
  ·repeat' split at h
   all_goals cases h
 |_=>simp only[iW]at h<;>(first|(cases h;done)|((repeat' split at h)<;>cases h)|(simp only[cx]at h;obtain⟨_,_,h⟩:=h;cases h))
theorem aaQ{n:Nat}{c:Code}{al:List (Nat × List AV)}{l:List KD}{k:List KO}(h:iW P n c=some (.VA al l k)):
 ∃id ops F,c=.region id ops true/\Ye P ops=some F/\F.q<n/\F.l<n/\KX P n (n_ ops (ops.size -5)).toList=some al/\
  VC P n (n_ ops (ops.size -5)) (Region.before (n_ ops (ops.size -5))) (n_ ops (ops.size -5)).toList.zipIdx=some l/\(postOf F).mapM (Yl P n (postOf F).toArray)=some k:=by
 cases c with
 |region id ops d=>
  cases d with
  |false=>
   simp only[iW,cx]at h;obtain⟨_,_,h⟩:=h;cases h
  |true=>
   simp only[iW]at h;split at h
   ·repeat' split at h
    all_goals cases h
   ·split at h
    ·rename_i F hF
     split at h
     ·rename_i hq
      split at h
      ·rename_i h1 h2 h3
       cases h;exact⟨id,ops,F,rfl,hF,hq.1,hq.2,h1,h2,h3⟩
      ·cases h
     ·cases h
    ·cases h
 |_=>simp only[iW]at h<;>(first|(cases h;done)|((repeat' split at h)<;>cases h)|(simp only[cx]at h;obtain⟨_,_,h⟩:=h;cases h))
theorem aaR{call:bU}{n:Nat}{al:List (Nat × List AV)}{l:List KD}{k:List KO}{K K':bw}{S S':St}{o:Out}(h:dm call n (.seq (.draw al l) (.ops k)) K S=some (o,K',S')):
 o=.normal/\∃K1 S1,MT call al l K S=some (K1,S1)/\qV call k K1 S1=some (K',S'):=by
 match n,h with
 |0,h=>simp[dm]at h
 |1,h=>simp[dm]at h
 |n+2,h=>
  simp only[dm]at h;cases h1:MT call al l K S with
  |none=>simp[h1]at h
  |some r=>
   obtain⟨K1,S1⟩:=r;simp only[h1]at h;cases h2:qV call k K1 S1 with
   |none=>simp[h2]at h
   |some r2=>
    obtain⟨K2,S2⟩:=r2;simp only[h2,jB,g_]at h;obtain⟨rfl,rfl,rfl⟩:=h;exact⟨rfl,K1,S1,rfl,h2⟩
theorem W0{n:Nat}{c:Code}{x:KC}(h:iW P n c=some (.scope x)):∃a,c=.scope a/\iW P n a=some x:=by
 cases c with
 |scope a=>
  simp only[iW,cx]at h;obtain⟨_,h1,h⟩:=h;cases h;exact⟨a,rfl,h1⟩
 |region id ops d=>
  cases d<;>simp only[iW]at h
  ·simp only[cx]at h
   obtain⟨_,_,h⟩:=h;cases h
  ·repeat' split at h
   all_goals cases h
 |_=>simp only[iW]at h<;>(first|(cases h;done)|((repeat' split at h)<;>cases h)|(simp only[cx]at h;obtain⟨_,_,h⟩:=h;cases h))
theorem aln{n:Nat}{c:Code}(h:iW P n c=some .lab):∃l,c=.label l:=by
 cases c with
 |label l=>exact⟨l,rfl⟩
 |region id ops d=>
  cases d<;>simp only[iW]at h
  ·simp only[cx]at h
   obtain⟨_,_,h⟩:=h;cases h
  ·repeat' split at h
   all_goals cases h
 |_=>simp only[iW]at h<;>(first|(cases h;done)|((repeat' split at h)<;>cases h)|(simp only[cx]at h;obtain⟨_,_,h⟩:=h;cases h))
theorem Tk{n:Nat}{c:Code}{x:KC}(h:iW P n c=some x):(x=.skip->c=.skip)/\(x=.ret->c=.ret)/\(∀id,x=.exit id->c=.exit id):=by
 refine⟨fun e=>?_,fun e=>?_,fun id e=>?_⟩<;>subst e<;>cases c with
 |region id ops d=>
  cases d<;>simp only[iW]at h
  ·simp only[cx]at h
   obtain⟨_,_,h⟩:=h;cases h
  ·repeat' split at h
   all_goals cases h
 |_=>simp only[iW]at h<;>(first|(cases h;rfl;done)|(cases h;done)|((repeat' split at h)<;>cases h)|(simp only[cx]at h;obtain⟨_,_,h⟩:=h;cases h))
theorem aaS(l:List Nat)(s:KE)(t:Nat):KE.get (l.map fun t=>(t,KE.get s t)) t=KE.get s t\/KE.get (l.map fun t=>(t,KE.get s t)) t=.undef:=by
 induction l with
 |nil=>exact .inr rfl
 |cons d l ih=>
  simp only[pz,KE.get];split;·rename_i e;subst e;exact .inl rfl
  ·exact ih
theorem aaT(l:List Nat):∀(s:KE)(t:Nat),∃k:Nat,KE.get (l.foldl (fun s t=>(t,am.norm (KE.get s t))::s) s) t=Nat.rec (KE.get s t) (fun _ x=>am.norm x) k:=by
 induction l with
 |nil=>intro s t;exact⟨0,rfl⟩
 |cons d l ih=>
  intro s t;rw[List.foldl_cons];obtain⟨k,hk⟩:=ih ((d,am.norm (KE.get s d))::s) t;rw[hk];simp only[KE.get];by_cases e:d=t
  ·subst e
   rw[if_pos rfl];refine⟨k+1, ?_⟩;clear hk;induction k with
   |zero=>rfl
   |succ k ih2=>exact congrArg am.norm ih2
  ·rw[if_neg e];exact⟨k,rfl⟩
theorem adh:am.norm .undef=.undef:=rfl
theorem Yq{n:Nat}{K:bw}(h:J0 n K)(l:List Nat):J0 n (K.aN l):=by
 intro t ht;rcases aaS l K.sl t with e|e;·exact e.trans (h t ht)
 ·exact e
theorem Yr{n:Nat}{K:bw}(h:J0 n K)(l:List Nat):J0 n (K.norm l):=by
 intro t ht;obtain⟨k,hk⟩:=aaT l K.sl t;refine hk.trans ?_;rw[h t ht];clear hk;induction k with
 |zero=>rfl
 |succ k ih=>exact(congrArg am.norm ih).trans adh
section
variable{base:Nat}{bc:Nat->Prop}{S0:St}{w0:World}{mu0:Nat->Option Nat}{hw0:Nat->Nat}{ti0:Id->TI}
theorem aaU{n:Nat}{K K':bw}{S:St}{a:Act}{w:World}(R:Z8 base bc S0 w0 mu0 hw0 ti0 (toE n K) S a w)(wf:J0 n K)(Z9:J0 n K')(ht:K'.aa=K.aa)
 (hs:∀t,KE.get K'.sl t=.undef\/∃k:Nat,KE.get K'.sl t=Nat.rec (KE.get K.sl t) (fun _ x=>am.norm x) k):Z8 base bc S0 w0 mu0 hw0 ti0 (toE n K') S a w:=by
 obtain⟨mu,hw,ti,I,SL,e,lv,hd,hh⟩:=R;have e1:(toE n K').aa=(toE n K).aa:=ht;refine⟨mu,hw,ti,by rw[e1];exact I,⟨?_,fun t=>?_⟩,e,by rw[e1];exact lv,hd,hh⟩
 ·have:=SL.1
  simpa[toE]using this
 ·obtain⟨p,q⟩:=SL.2 t
  rw[e1,acb Z9];rw[acb wf]at p q;rcases hs t with h|⟨k,h⟩;·rw[h];exact⟨.undef _,trivial⟩
  ·rw[h]
   clear h;induction k with
   |zero=>exact⟨p,q⟩
   |succ k ih=>exact⟨ih.1.norm,ih.2.norm⟩
theorem aaH{call:bU}{nt:Nat}(hm:P.follows .mixedOrders=true)(zW:lH P call)(hold:jq call)(hN:Cw P):∀(n:Nat),
 (∀(kc:KC)(c:Code)(K:bw)(S:St)(o:Out)(K':bw)(S':St)(a:Act)(w:World)(Q:Exit->Act->World->Prop),iW P nt c=some (aaz kc)->J0 nt K->dm call n kc K S=some (o,K',S')->Z8 base bc S0 w0 mu0 hw0 ti0 (toE nt K) S a w->
  (∀a' w',J0 nt K'->Z8 base bc S0 w0 mu0 hw0 ti0 (toE nt K') S' a' w'->Q (Tl o) a' w')->c.wp P Q a w)/\
 (∀(kb:KC)(b:Code)(K:bw)(S:St)(o:Out)(K':bw)(S':St)(a:Act)(w:World)(Q:Exit->Act->World->Prop),iW P nt b=some (aaz kb)->J0 nt K->dm call n (.loop kb) K S=some (o,K',S')->Z8 base bc S0 w0 mu0 hw0 ti0 (toE nt K) S a w->
  (∀a' w',J0 nt K'->Z8 base bc S0 w0 mu0 hw0 ti0 (toE nt K') S' a' w'->Q (Tl o) a' w')->Code.rounds P b Q n a w):=by
 intro n;induction n with
 |zero=>exact⟨fun kc c K S o K' S' a w Q _ _ h=>by simp[dm]at h,fun kc b K S o K' S' a w Q _ _ h=>by simp[dm]at h⟩
 |succ n ih=>
  obtain⟨A,B⟩:=ih;have B1:∀(kb:KC)(b:Code)(K:bw)(S:St)(o:Out)(K':bw)(S':St)(a:Act)(w:World)(Q:Exit->Act->World->Prop),iW P nt b=some (aaz kb)->J0 nt K->dm call (n+1) (.loop kb) K S=some (o,K',S')->Z8 base bc S0 w0 mu0 hw0 ti0 (toE nt K) S a w->
   (∀a' w',J0 nt K'->Z8 base bc S0 w0 mu0 hw0 ti0 (toE nt K') S' a' w'->Q (Tl o) a' w')->Code.rounds P b Q (n+1) a w:=by
   intro kb b K S o K' S' a w Q hk wf h R hQ;rw[rounds_succ];simp only[dm]at h;split at h
   ·rename_i K1 S1 h1
    exact A kb b K S .normal K1 S1 a w _ hk wf h1 R fun a' w' Z9 R'=>B kb b K1 S1 o K' S' a' w' Q hk Z9 h R' hQ
   ·rename_i nV
    refine A kb b K S o K' S' a w _ hk wf h R fun a' w' Z9 R'=>?_;have:=hQ a' w' Z9 R';cases o with
    |normal=>exact absurd h (nV _ _)
    |exit id=>exact this
    |ret=>exact this
  refine⟨?_,B1⟩;intro kc c K S o K' S' a w Q hk wf h R hQ;cases kc with
  |skip=>
   obtain rfl:=(Tk hk).1 rfl;simp only[dm]at h;cases h;exact wp_skip (hQ a w wf R)
  |ret=>
   obtain rfl:=(Tk hk).2.1 rfl;simp only[dm]at h;cases h;exact wp_ret (hQ a w wf R)
  |exit id=>
   obtain rfl:=(Tk hk).2.2 id rfl;simp only[dm]at h;cases h;exact wp_exit (hQ a w wf R)
  |ops l=>
   obtain⟨id,ops,rfl,hl⟩:=aeN hk;simp only[dm]at h;split at h
   ·rename_i K1 S1 h1
    cases h;obtain⟨w1,_,e1⟩:=Yo hl wf h1;exact aaV (an1 zW hold hN _ (toE nt K) S a w _ _ e1 R fun a' w' R'=>hQ a' w' w1 R')
   ·cases h
  |draw al l=>
   obtain⟨id,ops,rfl,hr,ha,hl⟩:=aaN hk;simp only[dm]at h;split at h
   ·rename_i K1 S1 h1
    cases h;obtain⟨w1,_,e1⟩:=RQ ha hl wf h1;exact akO hm hN zW hold id ops (toE nt K) S _ _ hr e1 base bc S0 w0 mu0 hw0 ti0 a w Q R fun a' w' R'=>hQ a' w' w1 R'
   ·cases h
  |seq x y=>
   obtain⟨p,q,rfl,h1,h2⟩:=aeO (x:=aaz x) (y:=aaz y) hk;simp only[dm]at h;refine wp_seq ?_;split at h
   ·rename_i K1 S1 h3
    exact A x p K S .normal K1 S1 a w _ h1 wf h3 R fun a' w' Z9 R'=>A y q K1 S1 o K' S' a' w' Q h2 Z9 h R' hQ
   ·rename_i nV
    refine A x p K S o K' S' a w _ h1 wf h R fun a' w' Z9 R'=>?_;have:=hQ a' w' Z9 R';cases o with
    |normal=>exact absurd h (nV _ _)
    |exit id=>exact this
    |ret=>exact this
  |cond z x y=>
   obtain⟨t,p,q,rfl,rfl,h1,h2⟩:=aaO (x:=aaz x) (y:=aaz y) hk;simp only[dm,adv wf]at h;have hx:∀b,(toE nt K).ev t=.bool b->a.eval t=.bool b:=by intro b hb;obtain⟨mu,hw,ti,I,SL,_⟩:=R;have:=(SL.eval (E:=toE nt K) (a:=a) I.AW t).1;rw[hb]at this;generalize hv:a.eval t=v at this;cases this;rfl
   split at h
   ·rename_i hb
    exact wp_cond_true (hx _ hb) (A x p K S o K' S' a w Q h1 wf h R hQ)
   ·rename_i hb
    exact wp_cond_false (hx _ hb) (A y q K S o K' S' a w Q h2 wf h R hQ)
   ·cases h
  |block id x=>
   obtain⟨p,rfl,h1⟩:=WZ (x:=aaz x) hk;simp only[dm]at h;refine wp_block ?_;split at h
   ·rename_i mo K1 S1 h3
    split at h
    ·rename_i he
     cases h;refine A x p K S (.exit mo) _ _ a w _ h1 wf h3 R fun a' w' Z9 R'=>?_;simp only[Tl,Exit.inBlock,if_pos he];exact hQ a' w' Z9 R'
    ·rename_i he
     cases h;refine A x p K S (.exit mo) _ _ a w _ h1 wf h3 R fun a' w' Z9 R'=>?_;simp only[Tl,Exit.inBlock,if_neg he];exact hQ a' w' Z9 R'
   ·rename_i nV
    refine A x p K S o K' S' a w _ h1 wf h R fun a' w' Z9 R'=>?_;have:=hQ a' w' Z9 R';cases o with
    |normal=>exact this
    |exit id=>exact absurd h (nV _ _ _)
    |ret=>exact this
  |loop x=>
   obtain⟨p,rfl,h1⟩:=aaP (x:=aaz x) hk;exact wp_loop_rounds (n+1) (B1 x p K S o K' S' a w Q h1 wf h R hQ)
  |aN l k=>
   simp only[dm]at h;refine A k c (K.aN l) S o K' S' a w Q hk (Yq wf l) h (aaU R wf (Yq wf l) rfl fun t=>?_) hQ;rcases aaS l K.sl t with e|e;·exact .inr ⟨0,e⟩
   ·exact .inl e
  |norm l k=>
   simp only[dm]at h;exact A k c (K.norm l) S o K' S' a w Q hk (Yr wf l) h (aaU R wf (Yr wf l) rfl fun t=>.inr (aaT l K.sl t)) hQ
  |scope x=>
   obtain⟨p,rfl,h1⟩:=W0 (x:=aaz x) hk;simp only[dm]at h;refine wp_scope_straight (A x p K S o K' S' a w _ h1 wf h R fun a' w' Z9 R'=>?_);have:=hQ a' w' Z9 R';cases o<;>exact this
  |lab=>
   obtain⟨l,rfl⟩:=aln hk;simp only[dm]at h;cases h;exact wp_label (hQ a w wf R)
  |bad=>simp only[dm]at h;cases h
  |VA al l k=>
   obtain⟨id,ops,F,rfl,hF,hq,hl,h1,h2,h3⟩:=aaQ hk;simp only[dm]at h;obtain⟨rfl,K1,S1,r1,r2⟩:=aaR h;obtain⟨w1,_,e1⟩:=RQ h1 h2 wf r1;obtain⟨w2,_,e2⟩:=Yo h3 w1 r2;exact acZ hm hN zW hold (aax hF) e1 e2 (by simpa[toE]using hq) (by simpa[toE]using hl) R fun a' w' R'=>hQ a' w' w2 R'
end
theorem P9{call:bU}{nt:Nat}(hc:jq call):∀(n:Nat)(kc:KC)(c:Code)(K:bw)(S:St)(o:Out)(K':bw)(S':St),iW P nt c=some (aaz kc)->J0 nt K->K.nb<=S.length->dm call n kc K S=some (o,K',S')->
 J0 nt K'/\K'.nb=K.nb/\eK K.nb S S':=by
 intro n;induction n with
 |zero=>intro kc c K S o K' S' _ _ _ h;simp[dm]at h
 |succ n ih=>
  intro kc c K S o K' S' hk wf yk h;have two:∀(x y:KC)(p q:Code)(K1:bw)(S1:St),iW P nt p=some (aaz x)->iW P nt q=some (aaz y)->dm call n x K S=some (.normal,K1,S1)->dm call n y K1 S1=some (o,K',S')->J0 nt K'/\K'.nb=K.nb/\eK K.nb S S':=by intro x y p q K1 S1 e1 e2 h1 h2;obtain⟨a0,a1,a2⟩:=ih _ _ _ _ _ _ _ e1 wf yk h1;obtain⟨b0,b1,b2⟩:=ih _ _ _ _ _ _ _ e2 a0 (by rw[a1];exact yq yk a2.len) h2;exact⟨b0,b1.trans a1,a2.trans (a1▸b2)⟩
  cases kc with
  |skip=>simp only[dm]at h;cases h;exact⟨wf,rfl,eK.refl _ _⟩
  |ret=>simp only[dm]at h;cases h;exact⟨wf,rfl,eK.refl _ _⟩
  |exit id=>simp only[dm]at h;cases h;exact⟨wf,rfl,eK.refl _ _⟩
  |ops l=>
   obtain⟨id,ops,rfl,hl⟩:=aeN hk;simp only[dm]at h;split at h
   ·rename_i K1 S1 h1
    cases h;obtain⟨w1,nb1,e1⟩:=Yo hl wf h1;exact⟨w1,nb1,(W1 hc _ (toE nt K) _ _ _ yk e1).2⟩
   ·cases h
  |draw al l=>
   obtain⟨id,ops,rfl,hr,ha,hl⟩:=aaN hk;simp only[dm]at h;split at h
   ·rename_i K1 S1 h1
    cases h;obtain⟨w1,nb1,e1⟩:=RQ ha hl wf h1;exact⟨w1,nb1,(Tm hc (E:=toE nt K) yk e1).2⟩
   ·cases h
  |seq x y=>
   obtain⟨p,q,rfl,h1,h2⟩:=aeO (x:=aaz x) (y:=aaz y) hk;simp only[dm]at h;split at h
   ·rename_i K1 S1 h3
    exact two x y p q K1 S1 h1 h2 h3 h
   ·exact ih _ _ _ _ _ _ _ h1 wf yk h
  |cond z x y=>
   obtain⟨t,p,q,rfl,rfl,h1,h2⟩:=aaO (x:=aaz x) (y:=aaz y) hk;simp only[dm]at h;split at h;·exact ih _ _ _ _ _ _ _ h1 wf yk h
   ·exact ih _ _ _ _ _ _ _ h2 wf yk h
   ·cases h
  |block id x=>
   obtain⟨p,rfl,h1⟩:=WZ (x:=aaz x) hk;simp only[dm]at h;split at h
   ·rename_i mo K1 S1 h3
    split at h<;>cases h<;>exact ih _ _ _ _ _ _ _ h1 wf yk h3
   ·exact ih _ _ _ _ _ _ _ h1 wf yk h
  |loop x=>
   obtain⟨p,rfl,h1⟩:=aaP (x:=aaz x) hk;simp only[dm]at h;split at h
   ·rename_i K1 S1 h3
    exact two x (.loop x) p (.loop p) K1 S1 h1 (by simp only[iW,aaz,h1,qJ]) h3 h
   ·exact ih _ _ _ _ _ _ _ h1 wf yk h
  |aN l k=>
   simp only[dm]at h;exact ih k c (K.aN l) S o K' S' hk (Yq wf l) yk h
  |norm l k=>
   simp only[dm]at h;exact ih k c (K.norm l) S o K' S' hk (Yr wf l) yk h
  |scope x=>
   obtain⟨p,rfl,h1⟩:=W0 (x:=aaz x) hk;simp only[dm]at h;exact ih _ _ _ _ _ _ _ h1 wf yk h
  |lab=>simp only[dm]at h;cases h;exact⟨wf,rfl,eK.refl _ _⟩
  |bad=>simp only[dm]at h;cases h
  |VA al l k=>
   obtain⟨id,ops,F,rfl,hF,hq,hl,h1,h2,h3⟩:=aaQ hk;simp only[dm]at h;obtain⟨rfl,K1,S1,r1,r2⟩:=aaR h;obtain⟨w1,nb1,e1⟩:=RQ h1 h2 wf r1;obtain⟨w2,nb2,e2⟩:=Yo h3 w1 r2;have k1:=Tm hc (E:=toE nt K) yk e1;have k2:=(W1 hc _ (toE nt K1) _ _ _ (by show K1.nb<=_;rw[nb1];exact yq yk k1.2.len) e2).2;exact⟨w2,nb2.trans nb1,k1.2.trans (by have:(toE nt K1).nb=K.nb:=nb1;rw[this]at k2;exact k2)⟩
end
end
section
section
variable{P:Program}
theorem OG:∀(l:List AV)(n t:Nat),KE.get (tH n l) t=if n<=t/\t<n+l.length then l.getD (t -n) .undef else .undef:=by
 intro l;induction l with
 |nil=>intro n t;simp[tH,KE.get]
 |cons v l ih=>
  intro n t;simp only[tH,KE.get,ih,jC];by_cases e:n=t
  ·subst e
   rw[if_pos rfl,if_pos (by omega)];simp
  ·rw[if_neg e]
   by_cases h:n+1<=t/\t<n+1+l.length
   ·rw[if_pos h,if_pos (by omega)]
    have:t -n=(t -(n+1))+1:=by omega
    rw[this];simp
   ·rw[if_neg h,if_neg (by omega)]
theorem asv{n:Nat}{K:bw}(wf:J0 n K){fn:Func}{S:St}:∀{l:List ResultVar}{kl:List KR},l.mapM (ah3 P)=some kl->KJ P fn (toE n K) S l=FQ K S kl:=by
 intro l;induction l with
 |nil=>intro kl h;simp at h;subst h;rfl
 |cons r l ih=>
  intro kl h;obtain⟨kr,kl',h1,h2,rfl⟩:=mapM_cons h;cases r with
  |tmp t=>
   simp only[ah3]at h1;cases h1;simp only[KJ,FQ,ih h2,acb wf]
  |cell a t=>
   simp only[ah3,cx]at h1;obtain⟨sh,h3,rfl⟩:=h1;simp only[KJ,FQ,ih h2,acb wf,Te h3];cases aY S sh (KE.get K.sl a)<;>cases FQ K S kl'<;>rfl
theorem Tf{f:FuncId}{aa:List (Option Nat)}{vs:List AV}{S S1 S':St}{r:AV}(h:cC f aa vs S S1=some (r,S')):vs.all bu=true/\
 ((aw (bA (ay aa (vs.map bD)))=true/\r=bA (ay aa (vs.map bD))/\S'=S1.take S.length)\/
  (iE S1.length (fun k=>decide (S.length<=k)) r=true/\zK S.length S1=true/\r=bA (ay aa (vs.map bD))/\S'=S1)\/
  (iE S.length (fun _=>false) r=true/\r=bA (ay aa (vs.map bD))/\S'=S1.take S.length)\/
  (afG S1 S.length (bA (ay aa (vs.map bD)))=some r/\aw r=true/\S'=S1.take S.length)):=by
 unfold cC at h;split at h;case isFalse=>cases h
 rename_i hn;refine⟨hn, ?_⟩;split at h
 ·rename_i hp
  simp only[jB,g_]at h;obtain⟨rfl,rfl⟩:=h;exact .inl ⟨hp,rfl,rfl⟩
 ·unfold aaC at h
  split at h
  ·split at h
   ·rename_i hc
    simp only[jB,g_]at h;obtain⟨rfl,rfl⟩:=h;exact .inr (.inl ⟨hc.1,hc.2,rfl,rfl⟩)
   ·cases h
  ·split at h
   ·rename_i hc
    simp only[jB,g_]at h;obtain⟨rfl,rfl⟩:=h;exact .inr (.inr (.inl ⟨hc,rfl,rfl⟩))
   split at h
   ·rename_i r' hr
    split at h
    ·rename_i hp
     simp only[jB,g_]at h;obtain⟨rfl,rfl⟩:=h;exact .inr (.inr (.inr ⟨hr,hp,rfl⟩))
    ·cases h
   ·cases h
theorem WV{m m':Nat}{q q':Nat->Bool}(hm:m<=m')(hq:∀k,k<m->q k=true->q' k=true){r:AV}(h:iE m q r=true):iE m' q' r=true:=by
 have one:∀v,oP m q v=true->oP m' q' v=true:=by
  intro v hv;cases v with
  |sl r sz es=>
   cases r with
   |fresh=>exact Oo hm hq es hv
   |fr k=>simp[oP]at hv
   |_=>exact MD hm hq _ hv
  |cT vs=>simp[oP]at hv
  |iC vs=>simp[oP]at hv
  |_=>exact MD hm hq _ hv
 by_cases ht:∃vs,r=.cT vs
 ·obtain⟨vs,rfl⟩:=ht
  simp only[iE,j7]at h⊢;exact fun x hx=>one x (h x hx)
 ·have e:∀m q,iE m q r=oP m q r:=by intro m q;cases r<;>first|rfl|exact absurd ⟨_,rfl⟩ ht
  rw[e]at h⊢;exact one r h
theorem af9{ax:FuncId->Option KF}{nk:NK}(hpr:LN P nk)(aaD:∀f k,ax f=some k->∃fn,P.funcs[f]? =some fn/\dw P fn k):∀n,jq (zo ax nk n):=by
 intro n;induction n with
 |zero=>intro f args S r S' h;simp[zo]at h
 |succ n ih=>
  intro f args S r S' h;unfold zo at h;split at h;·cases h
  rename_i k hk;obtain⟨fn,hf,hnt,hp,hb,Tg⟩:=aaD f k hk;cases hbd:fn.body with
  |none=>simp[hbd]at hb
  |some c=>
   simp only[hbd,SB]at hb;split at h;·cases h
   rename_i hlen;have wf0:J0 fn.ntmps ⟨tH 0 args,[],S.length⟩:=by intro t ht;rw[hnt]at ht;show KE.get (tH 0 args) t=_;rw[OG,if_neg (by omega)]
   split at h;·cases h
   ·rename_i o K1 S1 nV h1
    split at h;·cases h
    rename_i vs0 VD;obtain⟨_,nb,K⟩:=P9 (P_ hpr ih) _ _ _ _ _ _ _ _ hb wf0 (eJ S.length) h1;have kl:=K.len
    have drop:(∀m q,S.length<=m->iE m q r=true)->S'=S1.take S.length->S.length<=S'.length/\iE S'.length (fun k=>decide (S.length<=k)) r=true/\eK S.length S S'/\aew S.length S':=by
     intro hp hS;subst hS;refine⟨by simp;omega,hp _ _ (by simp;omega),⟨by simp;omega,fun D m q hm uE i cs bt l hi hd hS=>?_⟩,fun i cs bt l hi hS=>?_⟩
     ·have hS':S1[i]? =some (.mem cs bt l):=by
       rw[Fj]at hS;split at hS;·exact hS
       ·cases hS
      exact K.uE D m q hm uE i cs bt l hi hd hS'
     ·rw[Fj,if_neg (by omega)]at hS
      cases hS
    obtain⟨_,⟨hp,rfl,hS⟩|⟨hf',PZ,_,rfl⟩|⟨hp,_,hS⟩|⟨_,hp,hS⟩⟩:=Tf h;·exact drop (fun m q _=>oo hp m q) hS
    ·refine⟨kl,hf',K,fun i cs bt l hi hS=>?_⟩
     unfold zK at PZ;rw[j7]at PZ;have:=PZ (.mem cs bt l) (by refine eT (i:=i -S.length) ?_;rw[MF,SA hi];exact hS);simpa using this
    ·exact drop (fun m q hm=>WV hm (fun k _ h=>by simp at h) hp) hS
    ·exact drop (fun m q _=>oo hp m q) hS
   ·cases h
section
variable{base:Nat}{bc:Nat->Prop}{S1:St}{w':World}{mu nG:Nat->Option Nat}{pd zm:Nat->Nat}{lk1 lk2:Nat->Prop}{n0:Nat}
theorem af_{d:Nat}{x x':AV}(h:Oa S1 n0 d x=some x'):(∀sz es,x≠.sl .fresh sz es)/\(∀vs,x≠.cT vs):=by
 cases d with
 |zero=>simp[Oa]at h
 |succ d=>
  refine⟨fun sz es e=>?_,fun vs e=>?_⟩<;>subst e<;>simp[Oa,aS]at h
theorem Th{u:List (Option Nat)}{x:AV}(h:aS x=true):cA u x=(x,u):=by
 cases x with
 |sl r sz es=>cases r<;>first|rfl|simp[aS]at h
 |_=>rfl
theorem ac7{u:List (Option Nat)}{x:AV}(h:∀sz es,x≠.sl .fresh sz es):cA u x=(x,u):=by
 cases x with
 |sl r sz es=>cases r<;>first|rfl|exact absurd rfl (h _ _)
 |_=>rfl
theorem aaE{lv:aa3}{ti:Id->TI}{x:AV}{v:Value}(h:aS x=true):cX lv ti x v:=by
 cases x with
 |sl r sz es=>cases r<;>first|trivial|simp[aS]at h
 |cT vs=>simp[aS]at h
 |_=>trivial
theorem WW(AX:∀r v,lt n0 (fun _=>true) r=true->RV w' nG pd lk1 r v->RV w' mu zm lk2 r v)(hfz:∀v v' x,RV w' nG pd lk1 v x->Oa S1 n0 12 v=some v'->RV w' mu zm lk2 v' x){u:List (Option Nat)}{x x':AV}(h:aaa S1 n0 x=some x'):
 (cA u x').2=(cA u x).2/\(∀v,RV w' nG pd lk1 (cA u x).1 v->RV w' mu zm lk2 (cA u x').1 v)/\(∀lv ti v,cX lv ti (cA u x).1 v->cX lv ti (cA u x').1 v)/\bu x'=true:=by
 unfold aaa at h;split at h
 ·rename_i hp
  simp at h;subst h
  have hl:lt n0 (fun _=>true) (cA u x).1=true:=by
   unfold pfr at hp;split at hp
   ·rename_i sz es
    simp[cA,lt,JW,kI n0 _ es hp]
   ·rw[Th hp];exact CD n0 _ x hp
  refine⟨rfl,fun v=>AX _ v hl,fun _ _ _ h=>h, ?_⟩;unfold pfr at hp;split at hp;·rfl
  ·cases x<;>first|rfl|simp[aS]at hp
 ·obtain⟨hp,_⟩:=zJ _ _ _ h
  obtain⟨g1,g2⟩:=af_ h;rw[Th hp,ac7 g1];refine⟨rfl,fun v hv=>hfz _ _ _ hv h,fun _ _ _ _=>aaE hp, ?_⟩;cases x'<;>first|rfl|simp[aS]at hp
theorem aga(AX:∀r v,lt n0 (fun _=>true) r=true->RV w' nG pd lk1 r v->RV w' mu zm lk2 r v)(hfz:∀v v' x,RV w' nG pd lk1 v x->Oa S1 n0 12 v=some v'->RV w' mu zm lk2 v' x):
 ∀(l l':List AV)(u:List (Option Nat)),l.mapM (aaa S1 n0)=some l'->(dv u l').2=(dv u l).2/\(dv u l').1.length=(dv u l).1.length/\
  ∀(j:Nat)(a':AV),(dv u l').1[j]? =some a'->∃a,(dv u l).1[j]? =some a/\(∀v,RV w' nG pd lk1 a v->RV w' mu zm lk2 a' v)/\∀lv ti v,cX lv ti a v->cX lv ti a' v:=by
 intro l;induction l with
 |nil=>intro l' u h;simp at h;subst h;exact⟨rfl,rfl,fun j a h=>by simp[dv]at h⟩
 |cons x l ih=>
  intro l' u h;obtain⟨x',r,h1,h2,rfl⟩:=mapM_cons h;obtain⟨a1,a2,a3,_⟩:=WW AX hfz (u:=u) h1;obtain⟨b1,b2,b3⟩:=ih r (cA u x).2 h2;simp only[dv,a1];refine⟨b1,by simp[b2],fun j a' hj=>?_⟩;cases j with
  |zero=>simp at hj;subst hj;exact⟨_,rfl,a2,a3⟩
  |succ j=>simpa using b3 j a' (by simpa using hj)
theorem agb(AX:∀r v,lt n0 (fun _=>true) r=true->RV w' nG pd lk1 r v->RV w' mu zm lk2 r v)(hfz:∀v v' x,RV w' nG pd lk1 v x->Oa S1 n0 12 v=some v'->RV w' mu zm lk2 v' x){x x':AV}(h:afG S1 n0 x=some x'):
 (aT [] x').2=(aT [] x).2/\(∀v,RV w' nG pd lk1 (aT [] x).1 v->RV w' mu zm lk2 (aT [] x').1 v)/\(∀lv ti v,cU lv ti (aT [] x).1 v->cU lv ti (aT [] x').1 v):=by
 by_cases ht:∃vs,x=.cT vs
 ·obtain⟨vs,rfl⟩:=ht
  simp only[afG,cx]at h;obtain⟨l',hl,rfl⟩:=h;obtain⟨b1,b2,b3⟩:=aga AX hfz vs l' [] hl;simp only[aT];refine⟨b1,fun v hv=>?_,fun lv ti v hf arr e j a y ha hy=>?_⟩
  ·cases hv with
   |cT _ f g=>
    rw[<-b2];refine .cT _ f fun j a ha=>?_;obtain⟨a0,h0,h1,_⟩:=b3 j a ha;exact h1 _ (g j a0 h0)
  ·obtain⟨a0,h0,_,h1⟩:=b3 j a ha
   exact h1 _ _ _ (hf arr e j a0 y h0 hy)
 ·have hx:afG S1 n0 x=aaa S1 n0 x:=by cases x<;>first|rfl|exact absurd ⟨_,rfl⟩ ht
  rw[hx]at h;obtain⟨a1,a2,a3,a4⟩:=WW AX hfz (u:=[]) h;have e1:aT [] x=cA [] x:=by cases x<;>first|rfl|exact absurd ⟨_,rfl⟩ ht
  have e2:aT [] x'=cA [] x':=by cases x'<;>first|rfl|simp[bu]at a4
  have hn:bu x=true:=by cases x<;>first|rfl|exact absurd ⟨_,rfl⟩ ht|simp[aaa,pfr,aS,Oa]at h
  rw[e1,e2];exact⟨a1,a2,fun lv ti v hf=>cU.of1 (a3 lv ti v (hf.to1 (S9 [] x hn)))⟩
end
theorem ac8{ax:FuncId->Option KF}{nk:NK}{n:Nat}(hm:P.follows .mixedOrders=true)(hN:Cw P)(hpr:LN P nk)(aaD:∀f k,ax f=some k->∃fn,P.funcs[f]? =some fn/\dw P fn k)
 (IH:lH P (zo ax nk n)):lH P (zo ax nk (n+1)):=by
 intro f args S r S' h base bc w mu hw ti rM I hlen aaF;have hold:=P_ hpr (af9 hpr aaD n);have zW:=aaG hpr IH;unfold zo at h;split at h;·cases h
 rename_i k hk;obtain⟨fn,hf,hnt,hp,Ms,Tg⟩:=aaD f k hk;obtain⟨c,hb⟩:∃c,fn.body=some c:=by
  cases hbd:fn.body with
  |none=>simp[hbd]at Ms
  |some c=>exact⟨c,rfl⟩
 simp only[hb,SB]at Ms;split at h;·cases h
 rename_i QI;have wf0:J0 fn.ntmps ⟨tH 0 args,[],S.length⟩:=by intro t ht;rw[hnt]at ht;show KE.get (tH 0 args) t=_;rw[OG,if_neg (by omega)]
 split at h;·cases h
 ·rename_i o K1 S1 nV h1
  split at h;·cases h
  rename_i vs0 VD;obtain⟨hnt,ah6⟩:=Tf h;clear h;generalize hvv:vs0.map bD=vs at ah6;refine⟨⟨fn,c,hf,hb⟩,calls_of_wp hf hb ?_⟩;obtain⟨wf1,_,K⟩:=P9 hold _ _ _ _ _ _ _ _ Ms wf0 (eJ S.length) h1;have DB:KJ P fn (toE fn.ntmps K1) S1 fn.results.toList=some vs0:=by rw[asv wf1 Tg];exact VD
  refine(aaH (base:=base) (bc:=bc) (S0:=S) (w0:=w) (mu0:=mu) (hw0:=hw) (ti0:=ti) hm zW hold hN n).1 _ c _ S o K1 S1 _ w _ Ms wf0 h1 ?_ ?_
  ·refine⟨mu,hw,ti,I,⟨?_,fun t=>?_⟩,Ext.refl _ _ _ _ _ _,g9.refl _ _,rfl,fun i h _=>⟨rfl,h⟩⟩
   ·simp[toE];omega
   rw[acb wf0];show RV _ _ _ _ (KE.get (tH 0 args) t) _/\cU _ _ (KE.get (tH 0 args) t) _;rw[OG];by_cases cV:t<args.length
   ·rw[if_pos (by omega)]
    obtain⟨v,hv,hr,hfl⟩:=aaF t args[t] (by simp[cV]);have e1:args.getD (t -0) .undef=args[t]:=by simp[tE,cV]
    have e2:(rM++Array.replicate (fn.ntmps -rM.size) undef).getD t undef=v:=by rw[m_,WI (by omega),hv];rfl
    rw[e1,e2];exact⟨hr,hfl⟩
   ·rw[if_neg (by omega)]
    exact⟨.undef _,trivial⟩
  ·intro a' w' Z9 R
   obtain⟨nG,pd,JD,I1,SL,e,lv,hd,hole⟩:=R;have key:a'.defers=[]/\∃v,(results fn a'.tmps).run P w'=.ok v w'/\ahq P base bc S w mu hw ti r S' (.returned v) w':=by
    refine⟨hd, ?_⟩;obtain⟨ys,r1,r2',r3'⟩:=ak4 (fn:=fn) I1 SL _ _ DB;have r2:vs.length=ys.length:=by rw[<-hvv];simpa using r2'
    have r3:∀(j:Nat)(x:AV)(v:Value),vs[j]? =some x->ys[j]? =some v->RV w' nG pd (fO S1 nG) x v/\cU (ba K1.aa S1 nG) JD x v:=by intro j x v hx hv;rw[<-hvv]at hx;simp only[gx,cx]at hx;obtain⟨y,hy,rfl⟩:=hx;obtain⟨p,q⟩:=r3' j y v hy hv;exact⟨p.bD,q.bD⟩
    have asy:∀x∈vs,bu x=true:=by intro x hx;rw[<-hvv]at hx;simp only[Fq]at hx;obtain⟨y,hy,rfl⟩:=hx;rw[j7]at hnt;have:=hnt y hy;cases y<;>first|exact this|rfl
    have T0:KW K1.aa K1.aa [] []:=⟨rfl,fun m L h=>by simp at h,fun m m' k h=>by simp at h,fun k L h=>h,fun m k h=>by simp at h⟩;obtain⟨ks,tp,T,_,l2,a2⟩:=agc (S:=S1) (w:=w') (mu:=nG) (hw:=pd) (ti:=JD) vs ys K1.aa [] [] T0 r2 (fun j x v hx hv=>by obtain⟨p,q⟩:=r3 j x v hx hv;exact⟨p,q.to1 (asy x (eT hx))⟩);rw[yu]at T a2
    have hm:(fn.results.mapM (fun r=>match r with
     |.tmp t=>pure (a'.tmps.getD t undef)
     |.cell a0 t=>do loadVar t (<-asAddr (a'.tmps.getD a0 undef)):ResultVar->Sem Value)).run P w'=.ok ys.toArray w':=by
     rw[Array.mapM_eq_mapM_toList,Sem.run_map];exact(congrArg (fun z=>Result.andThen z _) r1).trans rfl
    have Tg:(results fn a'.tmps).run P w'=.ok (if h:ys.toArray.size=1 then ys.toArray[0]else .tuple ys.toArray) w':=by unfold results;rw[Sem.run_bind];exact(congrArg (fun z=>Result.andThen z _) hm).trans rfl
    have fin:(aT [] (bA (ay K1.aa vs))).2=(dv [] (ay K1.aa vs)).2/\
     RV w' nG pd (fO S1 nG) (aT [] (bA (ay K1.aa vs))).1 (if h:ys.toArray.size=1 then ys.toArray[0]else .tuple ys.toArray)/\
     cU (ba (dv [] (ay K1.aa vs)).2 S1 nG) (xC JD ks) (aT [] (bA (ay K1.aa vs))).1 (if h:ys.toArray.size=1 then ys.toArray[0]else .tuple ys.toArray):=by
     have RO:ys.length≠1->bA (ay K1.aa vs)=.cT (ay K1.aa vs)->(aT [] (bA (ay K1.aa vs))).2=(dv [] (ay K1.aa vs)).2/\
      RV w' nG pd (fO S1 nG) (aT [] (bA (ay K1.aa vs))).1 (if h:ys.toArray.size=1 then ys.toArray[0]else .tuple ys.toArray)/\
      cU (ba (dv [] (ay K1.aa vs)).2 S1 nG) (xC JD ks) (aT [] (bA (ay K1.aa vs))).1 (if h:ys.toArray.size=1 then ys.toArray[0]else .tuple ys.toArray):=by
      intro P6 aoq;have hnl:¬ys.toArray.size=1:=by simpa using P6
      rw[aoq,dif_neg hnl];simp only[aT];refine⟨trivial, ?_, ?_⟩
      ·have hR:=RV.cT (w:=w') (mu:=nG) (hw:=pd) (lk:=fO S1 nG) (dv [] (ay K1.aa vs)).1 (fun j=>ys.getD j undef) (fun j x hj=>by
        have hjl:j<ys.length:=by have:=bQ hj;omega
        obtain⟨p,_⟩:=a2 j x ys[j] hj (Ct hjl);simpa[tE,hjl]using p)
       have e0:((List.range (dv [] (ay K1.aa vs)).1.length).map fun j=>ys.getD j undef).toArray=ys.toArray:=by
        apply Array.ext';simp only;apply K3;intro j;rw[l2,r2];simp only[gx,tE];by_cases hjl:j<ys.length;·simp[hjl]
        ·rw[kR (by simpa using hjl),kR (by omega)];rfl
       rw[e0]at hR;exact hR
      ·intro arr ah7 j x y hx hy
       cases ah7;exact(a2 j x y hx (by simpa using hy)).2
     cases VD:vs with
     |nil=>
      rw[VD]at RO r2;exact RO (by simp at r2;simp[<-r2]) rfl
     |cons x l=>
      cases hl0:l with
      |cons x' l'=>
       rw[VD,hl0]at RO r2;exact RO (by simp at r2;omega) rfl
      |nil=>
       rw[VD,hl0]at a2 r2 l2;have hnx:bu x=true:=asy x (by rw[VD];simp);obtain⟨y,rfl⟩:∃y,ys=[y]:=by
        cases ys with
        |nil=>simp at r2
        |cons y ys=>cases ys with
         |nil=>exact⟨y,rfl⟩
         |cons=>simp at r2
       have hg:=S8 K1.aa x hnx;have ht:aT [] (a9 K1.aa x).1=cA [] (a9 K1.aa x).1:=by
        cases hx:(a9 K1.aa x).1 with
        |cT l=>rw[hx]at hg;simp[bu]at hg
        |_=>rfl
       have aoq:bA (ay K1.aa [x])=(a9 K1.aa x).1:=rfl;obtain⟨p,q⟩:=a2 0 (cA [] (a9 K1.aa x).1).1 y rfl rfl;rw[aoq,ht];exact⟨rfl,p,cU.of1 q⟩
    obtain⟨g1,g2,g3⟩:=fin;rw[<-g1]at T g3;obtain⟨I2,lv2⟩:=ac1 I1 lv T;obtain⟨q1,q2,q3,q4,q5,q6⟩:=ahO I I2 e lv2 hole K
    have one:∀(x:AV)(y:Value),lt S.length (fun _=>true) x=true->cX (ba (aT [] (bA (ay K1.aa vs))).2 S1 nG) (xC JD ks) x y->
     cX (ba (aT [] (bA (ay K1.aa vs))).2 (S1.take S.length) mu) (xC JD ks) x y:=by
     intro x y hx hf1;cases x with
     |sl rr sz es=>
      cases rr with
      |fr k=>
       obtain⟨o',c1,c2⟩:=hf1;exact⟨o',c1,c2⟩
      |bx i j=>
       obtain⟨o',c1,c2⟩:=hf1;have hi:i<S.length:=by simp only[lt,JW,dk,decide_eq_true_eq]at hx;exact hx.1
       exact⟨o',by rw[q5 _ fun i' j' e0=>by cases e0;exact hi];exact c1,c2⟩
      |_=>exact hf1
     |_=>exact hf1
    have ac9:∀(X:AV)(y:Value),lt S.length (fun _=>true) X=true->cU (ba (aT [] (bA (ay K1.aa vs))).2 S1 nG) (xC JD ks) X y->
     cU (ba (aT [] (bA (ay K1.aa vs))).2 (S1.take S.length) mu) (xC JD ks) X y:=by
     intro X y Ms g3;cases X with
     |cT l=>
      intro arr ah7 j x y hx hy;exact one x y (qy (by simpa[lt]using Ms) hx) (g3 arr ah7 j x y hx hy)
     |iC l=>
      intro arr ah7 j x y hx hy;exact one x y (qy (by simpa[lt]using Ms) hx) (g3 arr ah7 j x y hx hy)
     |sl rr sz es=>exact one (.sl rr sz es) _ Ms g3
     |_=>trivial
    rcases ah6 with⟨hp,rfl,rfl⟩|⟨_,_,rfl,rfl⟩|⟨hp,rfl,rfl⟩|⟨hfz,hp,rfl⟩
    ·have Ms:=RK (oo hp S.length (fun _=>true))
     exact⟨_,Tg,_,rfl,mu,_,xC JD ks,q1,q2,q3,q4 _ _ Ms g2,ac9 _ _ Ms g3,fun i a b=>⟨q6 i a b,a⟩⟩
    ·exact⟨_,Tg,_,rfl,nG,pd,xC JD ks,I2,e,lv2,g2,g3,hole⟩
    ·have Ms:=RK (WV (eJ _) (fun k _ h=>by simp at h) hp (q':=fun _=>true))
     exact⟨_,Tg,_,rfl,mu,_,xC JD ks,q1,q2,q3,q4 _ _ Ms g2,ac9 _ _ Ms g3,fun i a b=>⟨q6 i a b,a⟩⟩
    ·have Ms:=RK (oo hp S.length (fun _=>true))
     obtain⟨t1,t2,t3⟩:=agb (n0:=S.length) (mu:=mu) (lk2:=fO (S1.take S.length) mu) q4 (fun v v' x hv hf=>aoc I2 _ _ _ _ hv hf) hfz;refine⟨_,Tg,_,rfl,mu,_,xC JD ks, ?_,q2, ?_,t2 _ g2, ?_,fun i a b=>⟨q6 i a b,a⟩⟩;·rw[t1];exact q1
     ·rw[t1];exact q3
     ·rw[t1];exact ac9 _ _ Ms (t3 _ _ _ g3)
   cases o with
   |normal=>exact key
   |ret=>exact key
   |exit id=>exact(nV _ rfl).elim
 ·cases h
theorem ac_{ax:FuncId->Option KF}{nk:NK}(hm:P.follows .mixedOrders=true)(hN:Cw P)(hpr:LN P nk)(aaD:∀f k,ax f=some k->∃fn,P.funcs[f]? =some fn/\dw P fn k):∀n,lH P (zo ax nk n):=by
 intro n;induction n with
 |zero=>intro f args S r S' h;simp[zo]at h
 |succ n ih=>exact ac8 hm hN hpr aaD ih
end
end
@[simp]abbrev ag(d s:Nat):KO:=⟨some d,none,.p (.mov (.t s))⟩
@[simp]abbrev uC(d:Nat)(p:KP):KO:=⟨some d,none,.p p⟩
@[simp]abbrev JL(d:Nat)(k:JZ):KO:=⟨some d,none,k⟩
@[simp]abbrev q_e(k:JZ):KO:=⟨none,none,k⟩
@[simp]abbrev sx(d g s:Nat):KO:=⟨some d,some (g,true),.p (.mov (.t s))⟩
@[simp]abbrev rQ(d g s:Nat):KO:=⟨some d,some (g,false),.p (.mov (.t s))⟩
@[simp]abbrev vb(d g:Nat)(p:KP):KO:=⟨some d,some (g,true),.p p⟩
@[simp]abbrev G4(d g:Nat)(p:KP):KO:=⟨some d,some (g,false),.p p⟩
@[simp]abbrev q_u(d g:Nat)(k:JZ):KO:=⟨some d,some (g,true),k⟩
@[simp]abbrev q_v(d g:Nat)(k:JZ):KO:=⟨some d,some (g,false),k⟩
@[simp]abbrev fM(n:Int):KV:=.c (.int .i64 n)
@[simp]abbrev q_c(f:FuncId):KV:=.c (.fn f [] [])
def adZ(te:TypeId):AV->Option Int
 |.iL t (.int .i64 n)=>if t=te then some n else none
 |_=>none
def asP(tp te:TypeId)(args:List AV)(S:St):Option (AV × St):=match args with
 |[e,.iL t (.ptr i 0)]=>if t=tp then match adZ te e,S[i]? with
  |some n,some (.mem [.int .i64 _] bt false)=>some (.bool true,S.set i (.mem [.int .i64 n] bt false))
  |_,_=>none
  else none
 |_=>none
def aee(c:UInt8):List UInt8->Nat
 |[]=>0
 |b::r=>if b=c then aee c r+1 else aee c r
def countP(args:List AV)(S:St):Option (AV × St):=match args with
 |[.str s,.str [c]]=>some (.int .i64 (aee c s),S)
 |_=>none
end Go.Proofs.YtampclodiifalaaGreatDoor.am
