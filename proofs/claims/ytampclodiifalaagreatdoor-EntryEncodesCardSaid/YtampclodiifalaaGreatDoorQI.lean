/- Parts. No condition. -/
import Derived.Test.YtampclodiifalaaGreatDoorQH
set_option linter.all false
namespace Go.Proofs.YtampclodiifalaaGreatDoor.am
open Go Go.RowKit
structure bn.At(d:Nat)(l:bn):Prop where
 k1:1<=l.kind
 k10:l.kind<=10
 a:dq l.a=true
 b1:uD l.kind=true->dq l.b=true/\l.b≠l.a
 b0:uD l.kind=false->l.b=[]
 t1:sd l.kind=true->ni l.base l.type=true
 t0:sd l.kind=false->l.type=.mk 0 [] []/\l.base=oc
 y1:uQ l.kind=true->l.type.kind<=4/\iF l.back=true/\l.aO.length<=8/\l.aO.all (uP l.type)=true
 y0:uQ l.kind=false->l.back=oc/\l.aO=[]
 i1:xw l.kind=true->l.bf.length=1
 i0:xw l.kind=false->l.bf=[]
 all:∀x∈l.bf,x.aR d=true
theorem bn.fa{d:Nat}{l:bn}(h:l.aR (d+1)=true):l.At d:=by
 rw[bn.aR,dk,j7]at h;obtain⟨hp,hi⟩:=h;unfold bn.jH at hp;simp only[dk,decide_eq_true_eq]at hp;obtain⟨⟨⟨⟨⟨⟨k1,k2⟩,pa⟩,pb⟩,pt⟩,pp⟩,pi⟩:=hp;have ub:uD l.kind=true↔(l.kind=1\/l.kind=4\/l.kind=5):=by simp[uD]
 have ut:sd l.kind=true↔(l.kind=2\/l.kind=3\/l.kind=8):=by simp[sd]
 have uk:uQ l.kind=true↔l.kind=8:=by simp[uQ]
 have ui:xw l.kind=true↔(l.kind=9\/l.kind=10):=by simp[xw]
 have nf:∀{b:Bool},b=false->¬b=true:=fun h g=>by rw[h]at g;cases g
 refine⟨k1,k2,pa,fun h=>?_,fun h=>?_,fun h=>?_,fun h=>?_,fun h=>?_,fun h=>?_,fun h=>?_,fun h=>?_,hi⟩;·rw[if_pos (ub.1 h)]at pb;simp only[dk,decide_eq_true_eq]at pb;exact pb
 ·rw[if_neg (fun g=>nf h (ub.2 g))]at pb;simpa using pb
 ·rw[if_pos (ut.1 h)]at pt;exact pt
 ·rw[if_neg (fun g=>nf h (ut.2 g))]at pt;simp only[dk]at pt;exact⟨(Qj _).1 pt.1,(AM _).1 pt.2⟩
 ·rw[if_pos (uk.1 h)]at pp;simp only[dk,decide_eq_true_eq]at pp;exact⟨pp.1.1.1,pp.1.1.2,pp.1.2,pp.2⟩
 ·rw[if_neg (fun g=>nf h (uk.2 g))]at pp;simp only[dk]at pp;exact⟨(AM _).1 pp.1,by simpa using pp.2⟩
 ·rw[if_pos (ui.1 h)]at pi;simpa using pi
 ·rw[if_neg (fun g=>nf h (ui.2 g))]at pi;simpa using pi
theorem ZD{k:Int}(h1:1<=k)(h2:k<=10):(uD k=true/\sd k=false/\uQ k=false)\/(uD k=false/\sd k=true/\uQ k=false)\/(uD k=false/\sd k=false/\uQ k=false)\/(uD k=false/\sd k=true/\uQ k=true):=by
 have hc:k=1\/k=2\/k=3\/k=4\/k=5\/k=6\/k=7\/k=8\/k=9\/k=10:=by omega
 rcases hc with k|k|k|k|k|k|k|k|k|k<;>subst k<;>decide
theorem bn.AQ(l:bn):l.bytes=UInt8.ofNat l.kind.toNat::(aM l.a++((if uD l.kind=true then aM l.b else[])++((if sd l.kind=true then l.type.bytes++l.base.bytes else[])++((if uQ l.kind=true then l.back.bytes++(bI l.aO.length++l.aO.flatMap j8)else[])++bn.eU l.bf)))):=by
 have ub:(uD l.kind=true)=(l.kind=1\/l.kind=4\/l.kind=5):=by simp[uD]
 have ut:(sd l.kind=true)=(l.kind=2\/l.kind=3\/l.kind=8):=by simp[sd]
 have uk:(uQ l.kind=true)=(l.kind=8):=by simp[uQ]
 rw[bn.lS];simp only[ub,ut,uk]
theorem bn.gp(l:bn):l.bytes≠[]:=by rw[bn.AQ];simp
structure bn.anN(l:bn):Prop where
 t:sd l.kind=true->l.type.bytes.length<=4096/\l.base.bytes.length<=4096
inductive bn.Cm:bn->Prop
 |mk (l:bn) (one:l.anN) (all:∀x∈l.bf,bn.Cm x):bn.Cm l
theorem bn.Cm.one{l:bn}(h:l.Cm):l.anN:=by cases h;assumption
theorem bn.Cm.all{l:bn}(h:l.Cm):∀x∈l.bf,bn.Cm x:=by cases h;assumption
theorem bn.UP{d:Nat}{l:bn}(hl:l.Wf)(R:l.At d)(h:uQ l.kind=true):∀p∈l.aO,p.x.Wr/\p.y.Wr:=by intro p hp;obtain⟨a,b,c,e⟩:=R.y1 h;have:=j7.1 e p hp;unfold uP at this;simp only[dk]at this;have w:=hl.one.pair p hp;have s1:=zM w.1 this.1;have s2:=aeW w.2 this.2 a;have r1:=this.1;unfold iF at r1;simp only[dk]at r1;have r2:=this.2;unfold ni at r2;simp only[dk]at r2;exact⟨⟨w.1,r1.1,by omega⟩,⟨w.2,r2.1.1,by omega⟩⟩
theorem bn.akk:∀(d:Nat)(l:bn),l.Wf->l.aR d=true->l.Cm->l.bytes.length<=20000*d:=by
 intro d;induction d with
 |zero=>intro l _ h;simp[bn.aR]at h
 |succ d ih=>
  intro l hl h hn;have R:=bn.fa h;have ea:=iM (fN R.a) (by omega);have eb:(if uD l.kind=true then aM l.b else[]).length<=22:=by
   split;·rename_i k;exact iM (fN (R.b1 k).1) (by omega)
   ·simp
  have et:(if sd l.kind=true then l.type.bytes++l.base.bytes else[]).length<=8192:=by
   split;·rename_i k;have:=hn.one.t k;simp;omega
   ·simp
  have ek:(if uQ l.kind=true then l.back.bytes++(bI l.aO.length++l.aO.flatMap j8)else[]).length<=2000:=by
   split
   ·rename_i k
    obtain⟨a,b,c,e⟩:=R.y1 k;have s1:=zM hl.one.back b;have s2:=Hx l.type a l.aO hl.one.pair e;have s3:=eN (n:=l.aO.length) (by omega);simp only[gP];omega
   ·simp
  have ei:(bn.eU l.bf).length<=20000*d:=by
   cases hu:xw l.kind;·rw[R.i0 hu];simp[bn.eU]
   ·obtain⟨x,hx⟩:=Ht.1 (R.i1 hu)
    have:=ih x (hl.all x (by rw[hx];simp)) (R.all x (by rw[hx];simp)) (hn.all x (by rw[hx];simp));rw[hx];simp[bn.eU];omega
  rw[bn.AQ];simp only[jC,gP];omega
theorem nU{v:aX}{s:bj}(h:ni v s=true):v.aR 5=true/\s.aR 5=true:=by unfold ni at h;simp only[dk]at h;exact⟨h.1.1,h.1.2⟩
theorem auF{S:St}(j:Nat)(b c:cF)(G:List cF)(cs:List AV)(bt:List (Option Nat))(q:Bool)(sh:Sh)(off:Nat):aY (S.set j b++(.mem cs bt q::c::G)) sh (.ptr S.length off)=fC sh cs off:=by
 have h:(S.set j b++(cF.mem cs bt q::c::G))[S.length]? =some (.mem cs bt q):=by
  have e:S.length=(S.set j b).length:=by simp
  rw[e];simp
 exact bd h sh off
theorem auG{S:St}(j:Nat)(b c:cF)(G:List cF)(cs:List AV)(bt:List (Option Nat))(q:Bool)(sh:Sh)(off:Nat):aY (S.set j b++(c::.mem cs bt q::G)) sh (.ptr (S.length+1) off)=fC sh cs off:=by
 have h:(S.set j b++(c::cF.mem cs bt q::G))[S.length+1]? =some (.mem cs bt q):=by
  have e:S.length=(S.set j b).length:=by simp
  rw[e];simp
 exact bd h sh off
theorem Z6:∀(d:Nat)(l:bn),l.Wf->l.aR d=true->l.Cm->∀(S:St)(j:Nat)(aW:bq),S[j]? =some (ej j aW)->aW.length+l.bytes.length+1000<=1073741824->
 DF ax nk 97 [.ptr j 0,.agg l.ai] S=some (.cT [],S.set j (ej j (aW++l.bytes))):=by
 intro d;induction d with
 |zero=>intro l _ h;simp[bn.aR]at h
 |succ d ih=>
  intro l hl h hn S j aW hS hb;have R:=bn.fa h;have hj:j<S.length:=(fI.1 hS).1;have hu:=wu l.kind (S++[.mem l.ai [] false]);have u5:=ZD R.k1 R.k10;have lb:=l.AQ;have wk:IntKind.wrap .u8 l.kind=(((UInt8.ofNat l.kind.toNat).toNat:Nat):Int):=by have:=R.k1;have:=R.k10;show l.kind %256=_;rw[yA];omega
  have la:=fN R.a;have ea:=iM la (by omega);have LC:l.bf.length<=1:=by
   cases hu:xw l.kind;·rw[R.i0 hu];simp
   ·rw[R.i1 hu];exact eJ _
  have hF:∀x∈l.bf,∀(S:St)(aW:bq),S[j]? =some (ej j aW)->aW.length+x.bytes.length+1000<=1073741824->DF ax nk 97 [.ptr j 0,.agg x.ai] S=some (.cT [],S.set j (ej j (aW++x.bytes))):=fun x hx S aW h1 h2=>ih x (hl.all x hx) (R.all x hx) (hn.all x hx) S j aW h1 h2;have hI:=Vn l LC j S.length hF l.bf.length 0;simp only[jS]at hI;have hPk:=R.y1;have hP:=fun h=>Vm l (hPk h).2.2.1 (bn.UP hl R h) j S.length S.length (by omega) l.aO.length 0;simp only[jS]at hP;have hT1:=R.t1;have hT2:=hn.one.t;have hB1:=R.b1;have hpw:=hl.one.pair;have sp:∀b t y i,aL [.bool false,.bool false,.bool false,.bool false] 0 (rJ b t y i)=rJ b t y i:=fun _ _ _ _=>rfl;have tr:∀b t y i o,aT [] (.cT [.agg (rJ b t y i),.bool o])=(.cT [.agg (rJ b t y i),.bool o],[]):=fun _ _ _ _ _=>rfl;have xv:∀b G,(S.set j b++G).take S.length=S.set j b:=fun b G=>by rw[ob (by simp),gO (by simp)]
  rw[lb]at hb⊢;generalize hub:uD l.kind=ub at*;generalize hut:sd l.kind=ut at*;generalize huy:uQ l.kind=uy at*;generalize hui:xw l.kind=ui at*;have hS2:(S++[.mem l.ai [] false,.mem (rJ ub ut uy ui) [] false])[j]? =some (ej j aW):=cd _ hS;have c1:=rS hS2 (UInt8.ofNat l.kind.toNat) (by omega);rw[dL _ hj]at c1;have c2:=kC (mn hS (aW++[UInt8.ofNat l.kind.toNat]) [.mem l.ai [] false,.mem (rJ ub ut uy ui) [] false]) l.a (by simp at hb⊢;omega);rw[eV hj]at c2;have ld:=fun o sh off=>auF (S:=S) j (ej j o) (.mem (rJ ub ut uy ui) [] false) [] l.ai [] false sh off;have ldG:=fun o G sh off=>auF (S:=S) j (ej j o) (.mem (rJ ub ut uy ui) [] false) G l.ai [] false sh off;have lu:=fun o sh off=>auG (S:=S) j (ej j o) (.mem l.ai [] false) [] (rJ ub ut uy ui) [] false sh off;have luG:=fun o G sh off=>auG (S:=S) j (ej j o) (.mem l.ai [] false) G (rJ ub ut uy ui) [] false sh off;have l1:=fun o=>ld o .cell 1;have l2:=fun o=>ld o .cell 2;have l3:=fun o=>ld o (.agg 3) 3;have l6:=fun o=>ld o (.agg 6) 6;have l12:=fun o=>ld o (.agg 6) 12;have l18:=fun o=>ld o .cell 18;have l19:=fun o=>ld o .cell 19;have auH:=fun o G=>ldG o G .cell 19;have u0:=fun o=>lu o .cell 0;have u1:=fun o=>lu o .cell 1;have u2:=fun o=>lu o .cell 2;simp at l1 l2 l3 l6 l12 l18 l19 auH u0 u1 u2;have gb:=fun o=>mn hS o [.mem l.ai [] false,.mem (rJ ub ut uy ui) [] false];rw[Ux,ak Ew.eq_1];rcases u5 with⟨rfl,rfl,rfl⟩|⟨rfl,rfl,rfl⟩|⟨rfl,rfl,rfl⟩|⟨rfl,rfl,rfl⟩
  ·have lbb:=fN (hB1 rfl).1
   have ebb:=iM lbb (by omega);simp only[rL,if_false,if_true,yu]at hb⊢;have c3:=kC (gb (aW++[UInt8.ofNat l.kind.toNat]++aM l.a)) l.b (by simp at hb⊢;omega);rw[eV hj]at c3;obtain⟨aa,G,e⟩:=hI _ _ [] (by omega) (gb (aW++[UInt8.ofNat l.kind.toNat]++aM l.a++aM l.b)) (by simp at hb⊢;omega);rw[eV hj]at e;generalize UInt8.ofNat l.kind.toNat=u at*;simp at c2 c3 e;simp[hu,tr,sp,cK,wk,c1,c2,c3,l1,l2,l19,u0,u1,u2,b8];rw[ae jb.eq_1];simp[e,xv,cC,ay,bA,aw]
  ·have ht:=hT1 rfl
   have hr:=nU ht;have hs:=hT2 rfl;simp only[rL,if_false,if_true,yu]at hb⊢;have ce:=yg l.type hl.one.type;have cee:xJ (l.type.aR 5) l.type.bytes=.cT [.sl .fresh 1 (bW l.type.bytes),.bP]:=by unfold xJ;rw[if_pos hr.2,if_neg (by omega),sc l.type.gp]
   rw[cee]at ce;have c3:=iG (gb (aW++[UInt8.ofNat l.kind.toNat]++aM l.a)) l.type.bytes (by simp at hb⊢;omega);rw[eV hj]at c3;have c4:=vV (gb (aW++[UInt8.ofNat l.kind.toNat]++aM l.a++l.type.bytes)) [l.base] (by simp) (by intro v hv;simp at hv;subst hv;exact⟨hl.one.base,hr.1,hs.2⟩) (by simp at hb⊢;omega);rw[eV hj]at c4;obtain⟨aa,G,e⟩:=hI _ _ [some l.type.bytes.length] (by omega) (gb (aW++[UInt8.ofNat l.kind.toNat]++aM l.a++l.type.bytes++l.base.bytes)) (by simp at hb⊢;omega);rw[eV hj]at e;have b1:=US l.base;generalize UInt8.ofNat l.kind.toNat=u at*;simp at c2 c3 c4 e b1;simp[hu,tr,sp,cK,wk,c1,c2,l1,l3,l6,l19,u0,u1,u2,b8,ce,vj,N8,ma,N9,Dz,c3,b1,akj,Z4,Z5,PV,c4];rw[ae jb.eq_1];simp[e,xv,cC,ay,bA,aw]
  ·simp only[rL,if_false,yu]at hb⊢
   obtain⟨aa,G,e⟩:=hI _ _ [] (by omega) (gb (aW++[UInt8.ofNat l.kind.toNat]++aM l.a)) (by simp at hb⊢;omega);rw[eV hj]at e;generalize UInt8.ofNat l.kind.toNat=u at*;simp at c2 e;simp[hu,tr,sp,cK,wk,c1,c2,l1,l2,l19,u0,u1,u2,b8];rw[ae jb.eq_1];simp[e,xv,cC,ay,bA,aw]
  ·have ht:=hT1 rfl
   have hr:=nU ht;have hs:=hT2 rfl;obtain⟨q1,q2,q3,q4⟩:=hPk rfl;have s1:=zM hl.one.back q2;have s2:=Hx l.type q1 l.aO hpw q4;have s3:=eN (n:=l.aO.length) (by omega);have q2':=q2;unfold iF at q2';simp only[dk]at q2';simp only[rL,if_false,if_true,yu]at hb⊢;have ce:=yg l.type hl.one.type;have cee:xJ (l.type.aR 5) l.type.bytes=.cT [.sl .fresh 1 (bW l.type.bytes),.bP]:=by unfold xJ;rw[if_pos hr.2,if_neg (by omega),sc l.type.gp]
   rw[cee]at ce;have c3:=iG (gb (aW++[UInt8.ofNat l.kind.toNat]++aM l.a)) l.type.bytes (by simp at hb⊢;omega);rw[eV hj]at c3;have c4:=vV (gb (aW++[UInt8.ofNat l.kind.toNat]++aM l.a++l.type.bytes)) [l.base] (by simp) (by intro v hv;simp at hv;subst hv;exact⟨hl.one.base,hr.1,hs.2⟩) (by simp at hb⊢;omega);rw[eV hj]at c4;have c5:=vV (gb (aW++[UInt8.ofNat l.kind.toNat]++aM l.a++l.type.bytes++l.base.bytes)) [l.back] (by simp) (by intro v hv;simp at hv;subst hv;exact⟨hl.one.back,q2'.1,by omega⟩) (by simp at hb⊢;omega);rw[eV hj]at c5;have c6:=dR (gb (aW++[UInt8.ofNat l.kind.toNat]++aM l.a++l.type.bytes++l.base.bytes++l.back.bytes)) l.aO.length (by omega) (by simp at hb⊢;omega);rw[eV hj]at c6;obtain⟨auI,G0,e0⟩:=hP rfl _ _ [some l.type.bytes.length] (by omega) (gb (aW++[UInt8.ofNat l.kind.toNat]++aM l.a++l.type.bytes++l.base.bytes++l.back.bytes++bI l.aO.length)) (by simp only[gP,jC,Ov]at hb⊢;omega);rw[eV hj]at e0;obtain⟨aa,G,e⟩:=hI _ _ auI (by omega) (mn hS (aW++[UInt8.ofNat l.kind.toNat]++aM l.a++l.type.bytes++l.base.bytes++l.back.bytes++bI l.aO.length++l.aO.flatMap j8) (.mem l.ai [] false::.mem (rJ false true true ui) [] false::G0)) (by simp only[gP,jC,Ov]at hb⊢;omega);rw[eV hj]at e;have wl:IntKind.wrap .u64 (l.aO.length:Int)=(l.aO.length:Int):=by show(l.aO.length:Int)%18446744073709551616=_;omega
   have b1:=US l.base;have b2:=US l.back;generalize UInt8.ofNat l.kind.toNat=u at*;simp at c2 c3 c4 c5 c6 e0 e b1 b2;simp[hu,tr,sp,cK,wk,wl,c1,c2,l1,l3,l6,l12,l18,u0,u1,u2,b8,ce,vj,N8,ma,N9,Dz,c3,b1,b2,akj,Z4,Z5,PV,c4,c5,c6];rw[ae mV.eq_1];simp[e0,auH];rw[ae jb.eq_1];simp[e,xv,cC,ay,bA,aw]
theorem RU{b:Bool}{s:bq}(h:b=true)(hs:s≠[]):xJ b s=if 4096<s.length then .cT [.ah,.iL 62 (.int .i64 3)]else .cT [.sl .fresh 1 (bW s),.bP]:=by unfold xJ;rw[if_pos h,sc hs];rfl
def bn.QG(l:bn):Bool:=decide (4096<l.type.bytes.length)||decide (4096<l.base.bytes.length)
theorem QH(l:bn)(hl:l.Of)(hr:ni l.base l.type=true)(S:St):DF ax nk 96 [.agg l.ai] S=some (.bool l.QG,S):=by
 have r:=nU hr;have c1:=yg l.type hl.type (S++[.mem l.ai [] false]);have c2:=uA l.base hl.base (S++[.mem l.ai [] false]);rw[RU r.2 l.type.gp]at c1;rw[RU r.1 l.base.gp]at c2;have b1:du .neq (.iL ff) true (.iL 62 (.int .i64 3)) .bP=some (.bool true):=rfl;have b0:du .neq (.iL ff) true .bP .bP=some (.bool false):=rfl;have x3:∀t,aT t (.cT [.ah,.iL 62 (.int .i64 3)])=(.cT [.ah,.iL 62 (.int .i64 3)],t):=fun _=>rfl;rw[We,ak IF.eq_1];unfold bn.QG;by_cases h1:4096<l.type.bytes.length
 ·rw[if_pos h1]at c1
  by_cases h2:4096<l.base.bytes.length
  ·rw[if_pos h2]at c2
   simp[c1,c2,h1,h2,x3,b1,cK]
  ·rw[if_neg h2]at c2
   simp[c1,c2,h1,h2,x3,N_,b1,cK]
 ·rw[if_neg h1]at c1
  by_cases h2:4096<l.base.bytes.length
  ·rw[if_pos h2]at c2
   simp[c1,c2,h1,h2,x3,N_,b1,b0,cK]
  ·rw[if_neg h2]at c2
   simp[c1,c2,h1,h2,N_,b0,cK]
def bn.nlB:Nat->bn->Bool
 |0,_=>true
 |d+1,l=> !(sd l.kind&&l.QG)&&l.bf.all (bn.nlB d)
theorem bn.amB:∀(d:Nat)(l:bn),l.aR d=true->l.nlB d=true->l.Cm:=by
 intro d;induction d with
 |zero=>intro l h;simp[bn.aR]at h
 |succ d ih=>
  intro l h hn;have R:=bn.fa h;rw[bn.nlB,dk,j7]at hn;refine .mk l ⟨fun hu=>?_⟩ fun x hx=>ih x (R.all x hx) (hn.2 x hx);have:=hn.1;rw[hu]at this;unfold bn.QG at this;simp at this;exact this
theorem bn.akl:∀(d:Nat)(l:bn),l.aR d=true->l.nlB d=false->4096<l.bytes.length:=by
 intro d;induction d with
 |zero=>intro l h;simp[bn.aR]at h
 |succ d ih=>
  intro l h hn;have R:=bn.fa h;rw[bn.nlB]at hn;rw[bn.AQ];simp only[jC,gP];cases hu:sd l.kind
  ·rw[hu]at hn
   simp at hn;obtain⟨x,hx,hx2⟩:=hn;have:=ih x (R.all x hx) hx2;cases hui:xw l.kind;·rw[R.i0 hui]at hx;cases hx
   ·obtain⟨y,hy⟩:=Ht.1 (R.i1 hui)
    rw[hy]at hx⊢;simp at hx;subst hx;simp[bn.eU];omega
  ·have hi:l.bf=[]:=R.i0 (by
    have:=ZD R.k1 R.k10;unfold sd at hu;unfold xw;simp at hu;have:¬l.kind=9:=by omega
    have:¬l.kind=10:=by omega
    simp[*])
   rw[hu,hi]at hn;unfold bn.QG at hn;simp at hn;simp;omega
theorem Wz(m nb:Nat):∀(d:Nat)(x:bn),x.Wf->x.aR d=true->∀(T:St)(i:Nat),T[i]? =some (.mem x.ai [] false)->
 ∃T',(∃G,T'=T++G)/\DC ax nk (.loop fL) ⟨[(1,.ptr m 0),(4,.ptr i 0)],[],nb⟩ T=if x.nlB d then some (.exit 0,⟨[(1,.ptr m 0)],[],nb⟩,T')else some (.ret,⟨[(2,.ah),(3,.iL 62 (.int .i64 3))],[],nb⟩,T'):=by
 intro d;induction d with
 |zero=>intro x _ h;simp[bn.aR]at h
 |succ d ih=>
  intro x hx h T i hT;have R:=bn.fa h;have hu:=wu x.kind T;have sp:∀b t y i,aL [.bool false,.bool false,.bool false,.bool false] 0 (rJ b t y i)=rJ b t y i:=fun _ _ _ _=>rfl;have tr:∀b t y i o,aT [] (.cT [.agg (rJ b t y i),.bool o])=(.cT [.agg (rJ b t y i),.bool o],[]):=fun _ _ _ _ _=>rfl;have k0:aY T .cell (.ptr i 0)=some (.int .i64 x.kind):=by rw[bd hT];simp
  have kA:∀b,aY (T++[b]) (.agg 20) (.ptr i 0)=some (.agg x.ai):=fun b=>by rw[bd (cd [b] hT)];simp
  have k19:∀b,aY (T++[b]) .cell (.ptr i 19)=some (s_ x.bf):=fun b=>by rw[bd (cd [b] hT)];simp
  rw[bn.nlB];have rest:(sd x.kind&&x.QG)=false->∃T',(∃G,T'=T++G)/\DC ax nk (.loop fL) ⟨[(1,.ptr m 0),(4,.ptr i 0)],[],nb⟩ T=if x.bf.all (bn.nlB d)then some (.exit 0,⟨[(1,.ptr m 0)],[],nb⟩,T')else some (.ret,⟨[(2,.ah),(3,.iL 62 (.int .i64 3))],[],nb⟩,T'):=by
   intro AU;have Bn:sd x.kind=true->DF ax nk 96 [.agg x.ai] (T++[.mem (rJ (uD x.kind) (sd x.kind) (uQ x.kind) (xw x.kind)) [] false])=some (.bool false,T++[.mem (rJ (uD x.kind) (sd x.kind) (uQ x.kind) (xw x.kind)) [] false]):=by intro g;rw[g,MK]at AU;have:=QH x hx.one (R.t1 g) (T++[.mem (rJ (uD x.kind) true (uQ x.kind) (xw x.kind)) [] false]);rw[g,this,AU]
   have hi1:=R.i1;have hi0:=R.i0;generalize hub:uD x.kind=ub at*;generalize hut:sd x.kind=ut at*;generalize huy:uQ x.kind=uy at*;generalize hui:xw x.kind=ui at*;cases ui
   ·have LC:=hi0 rfl
    refine⟨T++[.mem (rJ ub ut uy false) [] false],⟨_,rfl⟩, ?_⟩;rw[aj,ak fL.eq_1,LC];rw[LC]at k19;cases ut;·simp[hu,tr,sp,cK,k0,k19]
    ·have Bn:=Bn rfl
     simp[hu,tr,sp,cK,k0,kA,k19,Bn]
   ·obtain⟨y,hy⟩:=Ht.1 (hi1 rfl)
    have hym:y∈x.bf:=by rw[hy];simp
    obtain⟨T',⟨G,hG⟩,e⟩:=ih y (hx.all y hym) (R.all y hym) (T++[.mem (rJ ub ut uy true) [] false]++[.mem y.ai [] false]) (T++[cF.mem (rJ ub ut uy true) [] false]).length (by simp);refine⟨T',⟨_,by rw[hG,fB,fB]⟩, ?_⟩;have ix:=D2 x.bf .i64 0;rw[hy]at ix;have vG:∀z:bn,aL ao 0 z.ai=z.ai:=fun z=>bX (by simp[ao]);have auJ:aL x.ai 0 y.ai=y.ai:=bX (by simp);rw[aj,ak fL.eq_1,hy];rw[hy]at k19;have en:(T++[cF.mem (rJ ub ut uy true) [] false]).length=T.length+1:=by simp
    have s2:∀(a b c:cF),(T++[a,b]).set (T.length+1) c=T++[a,c]:=fun a b c=>by simp
    rw[en]at e;simp at ix e;cases ut
    ·simp[hu,tr,sp,cK,k0,kA,k19,vG,auJ,hy,ix]
     rw[ae fL.eq_1];simp[e]
    ·have Bn:=Bn rfl
     simp[hu,tr,sp,cK,k0,kA,k19,vG,auJ,hy,ix,Bn];rw[ae fL.eq_1];simp[e]
  cases AU:(sd x.kind&&x.QG)
  ·obtain⟨T',hG,e⟩:=rest AU
   refine⟨T',hG, ?_⟩;rw[e];simp
  ·have hut:sd x.kind=true:=by simp only[dk]at AU;exact AU.1
   have hlb:x.QG=true:=by simp only[dk]at AU;exact AU.2
   have Bn:=QH x hx.one (R.t1 hut) (T++[.mem (rJ (uD x.kind) true (uQ x.kind) (xw x.kind)) [] false]);rw[hlb]at Bn;rw[hut]at hu;refine⟨T++[.mem (rJ (uD x.kind) true (uQ x.kind) (xw x.kind)) [] false],⟨_,rfl⟩, ?_⟩;rw[aj,ak fL.eq_1];simp[hu,tr,sp,cK,k0,kA,Bn]
theorem K8(l:bn)(hl:l.Wf)(S:St):DF ax nk 50 [.agg l.ai] S=some (xJ (l.aR 5) l.bytes,S):=by
 have h1:=M_ l hl (S++[.mem l.ai [] false]);have e1:A0 1=.iL 62 (.int .i64 1):=rfl;have e3:A0 3=.iL 62 (.int .i64 3):=rfl;rw[Rg,ak BY.eq_1];unfold xJ;cases hr:l.aR 5
 ·rw[hr]at h1
  simp[h1,e1,bF,cC,ay,bA,aw,aS,bD,a9,bu]
 rw[hr]at h1;have vG:aL ao 0 l.ai=l.ai:=bX (by simp[ao]);obtain⟨T,⟨G,hG⟩,e⟩:=Wz S.length S.length 5 l hl hr (S++[.mem l.ai [] false,.mem l.ai [] false]) (S.length+1) (by simp);have Qx:∀X,(T++X).take S.length=S:=fun X=>by rw[hG,fB,fB,Fu];rfl
 have tk1:T.take S.length=S:=by have:=Qx [];simpa using this
 have tT:T[S.length]? =some (.mem l.ai [] false):=by rw[hG];simp
 cases hn:l.nlB 5
 ·rw[hn]at e
  have hlo:=bn.akl 5 l hr hn;simp at e;simp[h1,vG,bF,hlo];rw[ae fL.eq_1];simp[e,tk1,e3,cC,ay,bA,aw,aS,bD,a9,bu]
 ·rw[hn]at e
  have hnl:=bn.amB 5 l hr hn;have hle:=bn.akk 5 l hl hr hnl;have XH:cF.mem [.ah] [] false=ej T.length []:=rfl;have hS:(T++[ej T.length []])[T.length]? =some (ej T.length []):=by simp
  have c1:=Z6 5 l hl hr hnl _ _ _ hS (by simp;omega);have ss:(T++[ej T.length []]).set T.length (ej T.length ([]++l.bytes))=T++[ej T.length l.bytes]:=by simp
  rw[ss]at c1;have hS2:(T++[ej T.length l.bytes])[T.length]? =some (ej T.length l.bytes):=by simp
  have c2:=qB hS2 (by omega);have c3:=So l.gp;have c4:=sc l.gp;have c5:=Sp l.bytes;have hp:=df l.bytes;have c6:(if l.bytes=[]then AV.ah else AV.sl .fresh 1 (bW l.bytes))=acu l.bytes:=rfl;rw[c6]at c2;have la:∀b,aY (T++[b]) (.agg 20) (.ptr S.length 0)=some (.agg l.ai):=fun b=>by rw[bd (cd [b] tT)];simp
  simp at e;by_cases hlo:4096<l.bytes.length
  ·have tC:((4096:Int)<(l.bytes.length:Int))=True:=eq_true (by omega)
   simp[h1,vG,bF];rw[ae fL.eq_1];simp[e,XH,la,c1,c2,c3,hlo,tC,e3,b8,gj,Qx,cC,ay,bA,aw,aS,bD,a9,bu]
  ·have tC:((4096:Int)<(l.bytes.length:Int))=False:=eq_false (by omega)
   simp[h1,vG,bF];rw[ae fL.eq_1];simp[e,XH,la,c1,c2,HR,hlo,tC,c4,b8,gj,Qx,cC,ay,bA,aw,aS,bD,hp,a9,bu]
theorem ph.Wf.small{o:ph}(h:o.Wf):o.Small:=⟨h.abt,aX.Wf.small _ h.value⟩
def zOp:ph:=⟨0,[],0,0,oc⟩
def YT:bn:=.mk 0 [] [] (.mk 0 [] []) oc oc [] []
theorem Xr:zOp.Small:=⟨by decide,gH⟩
theorem TJ:YT.Small:=.mk _ sB gH gH (by decide) (by decide) (by intro p hp;cases hp) (by intro p hp;cases hp)
theorem YU:norm (.agg aF)=.agg zOp.ai:=by rw[ph.ai,show zOp.value=oc from rfl,aX.fA];rfl
theorem aeY(S:St):bN S (.agg aF)=some (.agg aF):=rfl
theorem aeZ(S:St):cg S (.agg aF)=S:=rfl
theorem Xs(S S':St):bB S S' (.agg aF)=S':=rfl
theorem YV:norm (.agg ao)=.agg YT.ai:=by rw[bn.fA,show YT.type=.mk 0 [] []from rfl,show YT.base=oc from rfl,show YT.back=oc from rfl,aX.fA,bj.fA];rfl
theorem ae0(S:St):bN S (.agg ao)=some (.agg ao):=rfl
theorem ae1(S:St):cg S (.agg ao)=S:=rfl
theorem Xt(S S':St):bB S S' (.agg ao)=S':=rfl
def wi:List bq->Bool
 |a::b::r=>bl a b&&wi (b::r)
 |_=>true
theorem Xu{l:List bq}{i:Nat}{a b:bq}(ha:l[i]? =some a)(hb:l[i+1]? =some b):wi (l.drop i)=(bl a b&&wi (l.drop (i+1))):=by rw[aJ ha,aJ hb];rfl
theorem M9{l:List bq}{i:Nat}(h:l.length<=i+1):wi (l.drop i)=true:=by
 have:(l.drop i).length<=1:=by simp;omega
 match hd:l.drop i,this with
 |[],_=>rfl
 |[a],_=>rfl
 |_::_::_,h=>simp at h
theorem Xv{i:Nat}(h:1<=i)(h2:i<9223372036854775808):IntKind.wrap .i64 ((i:Int) -1)=((i -1:Nat):Int):=by rw[wrap64 (by omega)];omega
theorem TK(l:List bq)(hl:∀p∈l,p.length=32)(hn:l.length<9223372036854775808)(nb:Nat)(S:St):∀d i,l.length<=i+d->1<=i->i<=l.length+1->
 DC ax nk (.loop iO) ⟨[(0,pG l),(3,.int .i64 (i:Nat))],[],nb⟩ S=
  if wi (l.drop (i -1))=true then some (.exit 0,⟨[],[],nb⟩,S)else some (.ret,⟨[(2,.bool false)],[],nb⟩,S):=by
 intro d;induction d with
 |zero=>
  intro i hi h1 h2;rw[aj,ak iO.eq_1];have h5:¬i<l.length:=by omega
  have:=M9 (l:=l) (i:=i -1) (by omega);simp[h5,this]
 |succ d ih=>
  intro i hi h1 h2;by_cases h3:i<l.length;rotate_left
  ·rw[aj,ak iO.eq_1]
   have:=M9 (l:=l) (i:=i -1) (by omega);simp[h3,this]
  have hw:=aV (i:=i) (by omega);have hp:=Xv h1 (by omega);obtain⟨a,ha,JY⟩:=aE (l:=l) (i:=i -1) (by omega);obtain⟨b,hb,Cn⟩:=aE (l:=l) (i:=i) (by omega);have hb2:l[i -1+1]? =some b:=by rw[YK h1];exact hb
  have hs:=Xu ha hb2;rw[YK h1]at hs;have Cr:=ih (i+1) (by omega) (by omega) (by omega);rw[Nat.add_sub_cancel]at Cr;have ra:=hl a (eT ha);have rb:=hl b (eT hb);have cl:=YW a b ra rb S;rw[aj,ak iO.eq_1,hs];simp at hw hp Cr;rcases(show bl a b=false\/bl a b=true by cases bl a b<;>simp)with hx|hx
  ·rw[hx]at cl
   simp[h3,hp,ha,Cn,ra,rb,cl,hx,bF]
  ·rw[hx]at cl
   simp[h3,hp,ha,Cn,ra,rb,cl,hx,bF];rw[ae iO.eq_1];simp[hw,Cr]
theorem HI(l:List bq)(hl:∀p∈l,p.length=32)(hn:l.length<9223372036854775808)(S:St):DF ax nk 41 [pG l] S=some (.bool (wi l),S):=by
 have h:=TK l hl hn S.length S l.length 1 (by omega) (by omega) (by omega);rw[OS,ak Ab.eq_1];simp at h;rcases(show wi l=false\/wi l=true by cases wi l<;>simp)with hx|hx
 ·simp only[hx]at h⊢
  simp;rw[ae iO.eq_1];simp[h]
 ·simp only[hx]at h⊢
  simp;rw[ae iO.eq_1];simp[h]
structure aaf.Wf(e:aaf):Prop extends e.Ok where
 k0: -9223372036854775808<=e.kind
 k1:e.kind<9223372036854775808
 abt:e.az.length<9223372036854775808
 op:e.op.Wf
 lens:e.lens.Wf
theorem aaf.Wf.small{e:aaf}(h:e.Wf):e.Small:=⟨h.toOk,by have:=h.abt;omega,h.op.small,bn.Wf.small _ h.lens⟩
noncomputable def aaf.cO(e:aaf):Bool:=(decide (e.az.length<=4)&&wi e.az)&&((decide (e.kind=1)&&(Oe e.op&&same e.lens YT))||(decide (e.kind=2)&&(e.lens.aR 5&&same e.op zOp)))
theorem VN(e:aaf)(he:e.Wf)(S:St):DF ax nk 18 [.agg e.ai] S=some (.bool e.cO,S):=by
 have A:=he.toOk;have c1:=HI e.az A.az he.abt (S++[.mem e.ai [] false]);have c2:=TL e.op he.op (S++[.mem e.ai [] false]);have c3:=abq e.lens YT he.small.lens TJ (S++[.mem e.ai [] false]);have c4:=M_ e.lens he.lens (S++[.mem e.ai [] false]);have c5:=agt e.op zOp he.op.small Xr (S++[.mem e.ai [] false]);rw[QQ,ak BQ.eq_1];unfold aaf.cO;by_cases h4:e.az.length<=4;rotate_left
 ·have:(4:Int)<(e.az.length:Int):=by omega
  simp[A,h4,this]
 have h4':¬(4:Int)<(e.az.length:Int):=by omega
 rcases(show wi e.az=false\/wi e.az=true by cases wi e.az<;>simp)with hx|hx
 ·simp only[hx]at c1⊢
  simp[A,h4,h4',c1,bF]
 simp only[hx]at c1⊢;by_cases k1:e.kind=1
 ·rcases(show Oe e.op=false\/Oe e.op=true by cases Oe e.op<;>simp)with hy|hy
  ·simp only[hy]at c2⊢
   simp[A,h4,h4',c1,bF,k1,c2]
  ·simp only[hy]at c2⊢
   simp[A,h4,h4',c1,bF,k1,c2,dr,YV,ae0,ae1,Xt,c3]
 by_cases k2:e.kind=2
 ·rcases(show e.lens.aR 5=false\/e.lens.aR 5=true by cases e.lens.aR 5<;>simp)with hy|hy
  ·simp only[hy]at c4⊢
   simp[A,h4,h4',c1,bF,k2,c4]
  ·simp only[hy]at c4⊢
   simp[A,h4,h4',c1,bF,k2,c4,dr,YU,aeY,aeZ,Xs,c5]
 simp[A,h4,h4',c1,bF,k1,k2]
section
section
variable{H:Type}{ai:TypeId × Value->H}{W:World}{base:Nat}{sp:Nat->Bool}{held:Bool}
theorem al4:Tryz.prog.cellsOf 34=1:=by kernel_rfl
theorem ajy:Tryz.prog.cellsOf 37=1:=by kernel_rfl
theorem ajz:Tryz.prog.cellsOf 38=1:=by kernel_rfl
theorem ajA:Tryz.prog.cellsOf 24=1:=by kernel_rfl
theorem aeg:Tryz.prog.cellsOf 36=3:=by kernel_rfl
theorem afj:Tryz.prog.cellsOf 98=12:=by kernel_rfl
theorem ZE:Tryz.prog.cellsOf 40=20:=by kernel_rfl
theorem anC:Tryz.prog.cellsOf 33=10:=by kernel_rfl
theorem ZF:Tryz.prog.cellsOf 23=32:=by kernel_rfl
theorem ajB:Tryz.prog.cellsOf 41=32:=by kernel_rfl
theorem ajC:Tryz.prog.cellsOf 43=64:=by kernel_rfl
theorem ajD:Tryz.prog.cellsOf 5=1:=by kernel_rfl
theorem ajE:Tryz.prog.cellsOf 45=160:=by kernel_rfl
theorem apX:∀(n:Nat)(cs:List Value)(y:DataW H × List MemPlace),DataW.trod ai Tryz.prog W base sp held n 36 cs=some y->∃v:bj,v.Wf/\zy W v.ai cs:=by
 intro n;induction n using Nat.strongRecOn with
 |ind n ih=>
  intro cs y h;cases n with
  |zero=>simp[DataW.trod]at h
  |succ n=>
   obtain⟨hl,hf⟩:=vk (P:=Tryz.prog) Tryz.underlying36 h;rw[aeg]at hl;obtain⟨y0,h0⟩:=hf 0 _ rfl;obtain⟨y1,h1⟩:=hf 1 _ rfl;obtain⟨y2,h2⟩:=hf 2 _ rfl;obtain⟨k,w0,r0⟩:=qH Tryz.underlying3 h0 Px;obtain⟨ns,b3,a3,r3⟩:=mb (f:=fun s:bq=>[AV.str s]) Tryz.underlying27 Py (by decide) (ajF _) h1 afk;obtain⟨ps,b5,a5,r5⟩:=mb (f:=bj.ai) Tryz.underlying34 aeg (by decide) (ih (n+1 -1 -1) (by omega)) h2 al4;refine⟨.mk k ns ps,(.mk _ ⟨(wf_i64 w0).1,(wf_i64 w0).2,b3,a3,b5⟩ a5), ?_⟩;rw[bj.fA];have:=(r0.part (o:=0) (n:=1) rfl (r3.part rfl (r5.part rfl (.end_ (o:=3) hl))));simpa[bj.kind,bj.ar,bj.parts,cw,oU]using this
theorem al5:∀(n:Nat)(cs:List Value)(y:DataW H × List MemPlace),DataW.trod ai Tryz.prog W base sp held n 98 cs=some y->∃v:dQ,(v.x.Wf/\v.y.Wf)/\zy W v.ai cs:=by intro n cs y h;obtain⟨hl,hf⟩:=vk (P:=Tryz.prog) Tryz.underlying98 h;rw[afj]at hl;obtain⟨y0,h0⟩:=hf 0 _ rfl;obtain⟨y1,h1⟩:=hf 1 _ rfl;obtain⟨a,ha,r0⟩:=rd_val _ _ _ h0;obtain⟨b,hb,r1⟩:=rd_val _ _ _ h1;have r0:zy W a.ai ((cs.drop 0).take (Tryz.prog.cellsOf 31)):=r0;rw[Mk]at r0;have r1:zy W b.ai ((cs.drop 6).take (Tryz.prog.cellsOf 31)):=r1;rw[Mk]at r1;refine⟨⟨a,b⟩,⟨ha,hb⟩, ?_⟩;have:=(r0.part (o:=0) (n:=6) (by simp) (r1.part (by simp) (.end_ (o:=12) hl)));simpa[dQ.ai]using this
theorem al6:∀(n:Nat)(cs:List Value)(y:DataW H × List MemPlace),DataW.trod ai Tryz.prog W base sp held n 40 cs=some y->∃v:bn,v.Wf/\zy W v.ai cs:=by
 intro n;induction n using Nat.strongRecOn with
 |ind n ih=>
  intro cs y h;cases n with
  |zero=>simp[DataW.trod]at h
  |succ n=>
   obtain⟨hl,hf⟩:=vk (P:=Tryz.prog) Tryz.underlying40 h;rw[ZE]at hl;obtain⟨y0,h0⟩:=hf 0 _ rfl;obtain⟨y1,h1⟩:=hf 1 _ rfl;obtain⟨y2,h2⟩:=hf 2 _ rfl;obtain⟨y3,h3⟩:=hf 3 _ rfl;obtain⟨y4,h4⟩:=hf 4 _ rfl;obtain⟨y5,h5⟩:=hf 5 _ rfl;obtain⟨y6,h6⟩:=hf 6 _ rfl;obtain⟨y7,h7⟩:=hf 7 _ rfl;obtain⟨k,w0,r0⟩:=qH Tryz.underlying3 h0 Px;obtain⟨a,w1,r1⟩:=JQ Tryz.underlying9 h1 Py;obtain⟨b,w2,r2⟩:=JQ Tryz.underlying9 h2 Py;obtain⟨t,s3,r3⟩:=apX _ _ _ h3;obtain⟨u,s4,r4⟩:=rd_val _ _ _ h4;obtain⟨w,s5,r5⟩:=rd_val _ _ _ h5;have r3:zy W t.ai ((cs.drop 3).take (Tryz.prog.cellsOf 36)):=r3;rw[aeg]at r3;have r4:zy W u.ai ((cs.drop 6).take (Tryz.prog.cellsOf 31)):=r4;rw[Mk]at r4;have r5:zy W w.ai ((cs.drop 12).take (Tryz.prog.cellsOf 31)):=r5;rw[Mk]at r5;obtain⟨ps,b6,a6,r6⟩:=mb (f:=dQ.ai) Tryz.underlying37 afj (by decide) (al5 _) h6 ajy;obtain⟨is,b7,a7,r7⟩:=mb (f:=bn.ai) Tryz.underlying38 ZE (by decide) (ih (n+1 -1 -1) (by omega)) h7 ajz;refine⟨.mk k a b t u w ps is,(.mk _ ⟨(wf_i64 w0).1,(wf_i64 w0).2,w1,w2,s3,s4,s5,b6,a6,b7⟩ a7), ?_⟩;rw[bn.fA];have:=(r0.part (o:=0) (n:=1) rfl (r1.part rfl (r2.part rfl (r3.part (by simp) (r4.part (by simp) (r5.part (by simp) (r6.part rfl (r7.part rfl (.end_ (o:=20) hl)))))))));simpa[bn.kind,bn.a,bn.b,bn.type,bn.base,bn.back,bn.aO,bn.bf,nj,s_]using this
theorem at6:∀(n:Nat)(cs:List Value)(y:DataW H × List MemPlace),DataW.trod ai Tryz.prog W base sp held n 33 cs=some y->∃v:ph,v.Wf/\zy W v.ai cs:=by intro n cs y h;obtain⟨hl,hf⟩:=vk (P:=Tryz.prog) Tryz.underlying33 h;rw[anC]at hl;obtain⟨y0,h0⟩:=hf 0 _ rfl;obtain⟨y1,h1⟩:=hf 1 _ rfl;obtain⟨y2,h2⟩:=hf 2 _ rfl;obtain⟨y3,h3⟩:=hf 3 _ rfl;obtain⟨y4,h4⟩:=hf 4 _ rfl;obtain⟨k,w0,r0⟩:=qH Tryz.underlying3 h0 Px;obtain⟨ps,b1,a1,r1⟩:=mb (f:=dK.ai) Tryz.underlying25 afl (by decide) (al7 _) h1 ajG;obtain⟨i,w2,r2⟩:=qH Tryz.underlying26 h2 ZG;obtain⟨a,w3,r3⟩:=qH Tryz.underlying26 h3 ZG;obtain⟨v,s4,r4⟩:=rd_val _ _ _ h4;have r4:zy W v.ai ((cs.drop 4).take (Tryz.prog.cellsOf 31)):=r4;rw[Mk]at r4;refine⟨⟨k,ps,i,a,v⟩,⟨(wf_i64 w0).1,(wf_i64 w0).2,b1,fun s hs=>⟨(a1 s hs).1,(a1 s hs).2.1,(a1 s hs).2.2⟩,(wf_u64 w2).1,(wf_u64 w2).2,(wf_u64 w3).1,(wf_u64 w3).2,s4⟩, ?_⟩;have:=(r0.part (o:=0) (n:=1) rfl (r1.part rfl (r2.part rfl (r3.part rfl (r4.part (by simp) (.end_ (o:=10) hl))))));simpa[ph.ai,eD]using this
theorem afm:∀(n:Nat)(cs:List Value)(y:DataW H × List MemPlace),DataW.trod ai Tryz.prog W base sp held n 23 cs=some y->∃l:List UInt8,l.length=32/\zy W (aK l) cs:=
 fun n cs y h=>TU (P:=Tryz.prog) Tryz.underlying23 Tryz.underlying5 ajD ZF h
theorem rd_key:∀(n:Nat)(cs:List Value)(y:DataW H × List MemPlace),DataW.trod ai Tryz.prog W base sp held n 41 cs=some y->∃l:List UInt8,l.length=32/\zy W (aK l) cs:=
 fun n cs y h=>TU (P:=Tryz.prog) Tryz.underlying41 Tryz.underlying5 ajD ajB h
theorem apY:∀(n:Nat)(cs:List Value)(y:DataW H × List MemPlace),DataW.trod ai Tryz.prog W base sp held n 43 cs=some y->∃l:List UInt8,l.length=64/\zy W (aK l) cs:=
 fun n cs y h=>TU (P:=Tryz.prog) Tryz.underlying43 Tryz.underlying5 ajD ajC h
theorem ajc:∀(n:Nat)(cs:List Value)(y:DataW H × List MemPlace),DataW.trod ai Tryz.prog W base sp held n 45 cs=some y->∃v:aaf,v.Wf/\zy W v.ai cs:=by intro n cs y h;obtain⟨hl,hf⟩:=vk (P:=Tryz.prog) Tryz.underlying45 h;rw[ajE]at hl;obtain⟨y0,h0⟩:=hf 0 _ rfl;obtain⟨y1,h1⟩:=hf 1 _ rfl;obtain⟨y2,h2⟩:=hf 2 _ rfl;obtain⟨y3,h3⟩:=hf 3 _ rfl;obtain⟨y4,h4⟩:=hf 4 _ rfl;obtain⟨y5,h5⟩:=hf 5 _ rfl;obtain⟨y6,h6⟩:=hf 6 _ rfl;obtain⟨k,w0,r0⟩:=qH Tryz.underlying3 h0 Px;obtain⟨v,b1,r1⟩:=afm _ _ _ h1;obtain⟨ps,b2,a2,r2⟩:=mb (f:=aK) Tryz.underlying24 ZF (by decide) (afm _) h2 ajA;obtain⟨o,b3,r3⟩:=at6 _ _ _ h3;obtain⟨l,b4,r4⟩:=al6 _ _ _ h4;obtain⟨ke,b5,r5⟩:=rd_key _ _ _ h5;obtain⟨si,b6,r6⟩:=apY _ _ _ h6;have r1:zy W (aK v) ((cs.drop 1).take (Tryz.prog.cellsOf 23)):=r1;rw[ZF]at r1;have r3:zy W o.ai ((cs.drop 34).take (Tryz.prog.cellsOf 33)):=r3;rw[anC]at r3;have r4:zy W l.ai ((cs.drop 44).take (Tryz.prog.cellsOf 40)):=r4;rw[ZE]at r4;have r5:zy W (aK ke) ((cs.drop 64).take (Tryz.prog.cellsOf 41)):=r5;rw[ajB]at r5;have r6:zy W (aK si) ((cs.drop 96).take (Tryz.prog.cellsOf 43)):=r6;rw[ajC]at r6;refine⟨⟨k,v,ps,o,l,ke,si⟩,⟨⟨b1,a2,b5,b6⟩,(wf_i64 w0).1,(wf_i64 w0).2,b2,b3,b4⟩, ?_⟩;have:=(r0.part (o:=0) (n:=1) rfl (r1.part (by simp[b1]) (r2.part rfl (r3.part (by simp) (r4.part (by simp) (r5.part (by simp[b5]) (r6.part (by simp[b6]) (.end_ (o:=160) hl))))))));simpa[aaf.ai,pG]using this
end
end
theorem HJ(e:aaf)(he:e.Wf)(S:St):∀d i,e.az.length<=i+d->1<=i->i<=e.az.length+1->
 DC ax nk (.loop cf) ⟨[(1,.ptr S.length 0),(3,.int .i64 (i:Nat))],[],S.length⟩ (S++[.mem e.ai [] false])=
  if wi (e.az.drop (i -1))=true then some (.exit 0,⟨[(1,.ptr S.length 0)],[],S.length⟩,S++[.mem e.ai [] false])else some (.ret,⟨[(2,.bool false)],[],S.length⟩,S++[.mem e.ai [] false]):=by
 have A:=he.toOk;have hn:=he.abt;have hl:=A.az;intro d;induction d with
 |zero=>
  intro i hi h1 h2;rw[aj,ak cf.eq_1];have h5:¬i<e.az.length:=by omega
  have:=M9 (l:=e.az) (i:=i -1) (by omega);simp[h5,this,A]
 |succ d ih=>
  intro i hi h1 h2;by_cases h3:i<e.az.length;rotate_left
  ·rw[aj,ak cf.eq_1]
   have:=M9 (l:=e.az) (i:=i -1) (by omega);simp[h3,this,A]
  have hw:=aV (i:=i) (by omega);have hp:=Xv h1 (by omega);obtain⟨a,ha,JY⟩:=aE (l:=e.az) (i:=i -1) (by omega);obtain⟨b,hb,Cn⟩:=aE (l:=e.az) (i:=i) (by omega);have hb2:e.az[i -1+1]? =some b:=by rw[YK h1];exact hb
  have hs:=Xu ha hb2;rw[YK h1]at hs;have Cr:=ih (i+1) (by omega) (by omega) (by omega);rw[Nat.add_sub_cancel]at Cr;have ra:=hl a (eT ha);have rb:=hl b (eT hb);have cl:=J5 a b ra rb (S++[.mem e.ai [] false]);rw[aj,ak cf.eq_1,hs];simp at hw hp Cr;rcases(show bl a b=false\/bl a b=true by cases bl a b<;>simp)with hx|hx
  ·rw[hx]at cl
   simp[h3,hp,ha,Cn,ra,rb,cl,hx,bF,A]
  ·rw[hx]at cl
   simp[h3,hp,ha,Cn,ra,rb,cl,hx,bF,A];rw[ae cf.eq_1];simp[hw,Cr]
structure aaf.Flat(e:aaf):Prop where
 op:e.op.value.depth<=12
 lens:e.lens.depth<=8
 deep:e.lens.Deep
theorem HK(e:aaf)(he:e.Wf)(hf:e.Flat)(S:St):DF ax nk 7 [.agg e.ai] S=some (.bool e.cO,S):=by
 have A:=he.toOk;have h:=HJ e he S e.az.length 1 (by omega) (by omega) (by omega);have c2:=HL e.op he.op (by have:=hf.op;omega) (S++[.mem e.ai [] false]);have c3:=yC e.lens YT he.small.lens TJ (S++[.mem e.ai [] false]);have c4:=HM e.lens he.lens (by have:=hf.lens;omega) hf.deep (S++[.mem e.ai [] false]);have c5:=yD e.op zOp he.op.small Xr (S++[.mem e.ai [] false]);rw[D4,ak pH.eq_1];unfold aaf.cO;simp at h;rcases(show wi e.az=false\/wi e.az=true by cases wi e.az<;>simp)with hx|hx
 ·simp only[hx]at h⊢
  simp[A];rw[ae cf.eq_1];simp[h]
 simp only[hx]at h⊢;by_cases h4:e.az.length<=4;rotate_left
 ·have:(4:Int)<(e.az.length:Int):=by omega
  simp[A];rw[ae cf.eq_1];simp[h,A,h4,this]
 have h4':¬(4:Int)<(e.az.length:Int):=by omega
 by_cases k1:e.kind=1
 ·rcases(show Oe e.op=false\/Oe e.op=true by cases Oe e.op<;>simp)with hy|hy
  ·simp only[hy]at c2⊢
   simp[A];rw[ae cf.eq_1];simp[h,A,h4,h4',k1,c2]
  ·simp only[hy]at c2⊢
   simp[A];rw[ae cf.eq_1];simp[h,A,h4,h4',k1,c2,dr,YV,ae0,ae1,Xt,c3]
 by_cases k2:e.kind=2
 ·rcases(show e.lens.aR 5=false\/e.lens.aR 5=true by cases e.lens.aR 5<;>simp)with hy|hy
  ·simp only[hy]at c4⊢
   simp[A];rw[ae cf.eq_1];simp[kg,h,A,h4,h4',k2,c4]
  ·simp only[hy]at c4⊢
   simp[A];rw[ae cf.eq_1];simp[kg,h,A,h4,h4',k2,c4,dr,YU,aeY,aeZ,Xs,c5]
 simp[A];rw[ae cf.eq_1];simp[kg,h,A,h4,h4',k1,k2]
theorem HN(e:aaf)(he:e.Wf)(S:St):∃r,DF ax nk 4 [.agg e.ai] S=some (.bool r,S)/\(r=false->e.Flat):=by
 have A:=he.toOk;rw[D5,ak pI.eq_1];obtain⟨r1,c1,d1⟩:=HO e.op he.op (S++[.mem e.ai [] false]);obtain⟨r2,c2,d2⟩:=HP e.lens he.lens (S++[.mem e.ai [] false]);by_cases h:(20:Int)<(e.az.length:Int);·exact⟨true,by simp[kh,A,h],by simp⟩
 cases r1 with
 |true=>exact⟨true,by simp[kh,A,h,c1],by simp⟩
 |false=>
  refine⟨r2,by cases r2<;>simp[kh,A,h,c1,c2],fun e2=>?_⟩;exact⟨d1 rfl,(d2 e2).1,(d2 e2).2⟩
namespace Rd
end Rd
section
def gr(c p:Nat):AV:=.iL 173 (.ec .none [.int .i64 (p:Int),.iL 62 (.int .i64 (c:Int))] 0)
def qG:Option (Nat × Nat)->AV
 |none=>.bP
 |some (c,p)=>gr c p
@[simp]theorem ad_(c p:Nat):wb (gr c p):=⟨rfl,rfl,rfl,by simp[gr],rfl,rfl⟩
@[simp]theorem agF(e:Option (Nat × Nat)):wb (qG e):=by
 cases e with
 |none=>exact Xp
 |some x=>exact ad_ x.1 x.2
@[simp]theorem ajn(e:Option (Nat × Nat)):CO (qG e):=(agF e).Xo
def eB(_:Nat)(r:Rd):cF:=.mem [dG 1 (bW r.b),.int .i64 (r.at_:Int),qG r.err] [] false
theorem NR(c p:Nat)(S:St):DF ax nk 68 [.iL 62 (.int .i64 (c:Int)),.int .i64 (p:Int)] S=some (gr c p,S):=by rw[Us,ak Ep.eq_1];simp[du,kS,dr,ac4,aaq,AV.cells,aB,aL,bu,bD,a9,aw,aS,ck,aaC,iE,oP,lt,afG,aaa,pfr,Oa,gr]
section
variable{S:St}{j:Nat}{r:Rd}(hS:S[j]? =some (eB j r))
include hS in
theorem ajo:aY S .cell (.ptr j 0)=some (dG 1 (bW r.b)):=by rw[bd hS];rfl
include hS in
theorem Zt:aY S .cell (.ptr j 1)=some (.int .i64 (r.at_:Int)):=by rw[bd hS];rfl
include hS in
theorem UG:aY S .cell (.ptr j 2)=some (qG r.err):=by rw[bd hS];rfl
include hS in
theorem apP(a:Nat)(aa:List (Option Nat))(nb:Nat):bg aa nb S 1 (.ptr j 1) (.int .i64 (a:Int))=some (aa,S.set j (eB j {r with at_:=a})):=by rw[fT (vH _ _) hS,if_pos ⟨rfl,by simp⟩];rfl
include hS in
theorem apQ(e:Option (Nat × Nat))(aa:List (Option Nat))(nb:Nat):bg aa nb S 1 (.ptr j 2) (qG e)=some (aa,S.set j (eB j {r with err:=e})):=by
 have hc:(qG e).cells=[qG e]:=by cases e<;>rfl
 rw[fT (ajn e) hS,if_pos ⟨by rw[hc];rfl,by simp⟩,hc];rfl
include hS in
theorem UH:S.set j (eB j r)=S:=by obtain⟨h,e⟩:=fI.1 hS;rw[<-e,Qg]
include hS in
theorem Wk(c:Nat)(hc:c≠0):DF ax nk 29 [.ptr j 0,.int .i64 (c:Int)] S=some (.cT [],S.set j (eB j (r.fail c))):=by
 rw[I_,ak sD.eq_1];have h1:=Zt hS;have h2:=UG hS;have hw:=NR c r.at_ S;have hs:=apQ hS (some (c,r.at_)) [] S.length;have hc':¬(c:Int)=0:=by omega
 have hcn:¬c=0:=hc;have tk:∀b,(S.set j b).take S.length=S.set j b:=fun b=>gO (by simp);cases he:r.err with
 |none=>
  rw[he]at h2;have hf:r.fail c={r with err:=some (c,r.at_)}:=by unfold Rd.fail;rw[he]
  have Qx:aT [] (gr c r.at_)=(gr c r.at_,[]):=rfl;have mk:ac4 62 (.int .i64 (c:Int))=some (.iL 62 (.int .i64 (c:Int))):=rfl;have hs':bg [] S.length S 1 (.ptr j 2) (gr c r.at_)=some ([],S.set j (eB j {r with err:=some (c,r.at_)})):=hs;simp[p7,du,kS,dh,h1,h2,qG,hcn,hw,Qx,hs',hf,tk,cC,ay,bA,aw]
 |some x=>
  rw[he]at h2;have hf:r.fail c=r:=by unfold Rd.fail;rw[he]
  have Xg:=UH hS;have e1:du .eql (.iL ff) true (gr x.1 x.2) .bP=some (.bool false):=rfl;simp[p7,du,kS,dh,h1,h2,qG,gr,hf,Xg,cC,ay,bA,aw]
end
end
theorem agG(c:UInt8):bH .andNot .u8 (c.toNat:Int) .u8 128=some (.int .u8 ((c.toNat %128:Nat):Int)):=by
 have key:∀x:Fin 256,IntKind.wrap .u8 ((BitVec.ofInt IntKind.u8.bits (x.val:Int)&&& ~~~BitVec.ofInt IntKind.u8.bits 128).toNat:Int)=((x.val %128:Nat):Int):=by decide+kernel
 simp only[bH,ne_eq,not_true_eq_false,if_false];exact congrArg some (congrArg (AV.int .u8) (key ⟨c.toNat,c.toNat_lt⟩))
theorem axf(d i:Nat)(hi:i<=9)(h:d*128^i<18446744073709551616):bH .shl .u64 (d:Int) .i64 ((7*i:Nat):Int)=some (.int .u64 ((d*128^i:Nat):Int)):=by
 have e1:min ((7*i:Nat):Int).toNat IntKind.u64.bits=7*i:=by rw[CM];show min (7*i) 64=_;omega
 have e2:(2:Int)^(7*i)=((128^i:Nat):Int):=by rw[show(128:Nat)=2^7 from rfl,<-Nat.pow_mul];push_cast;rfl
 simp only[bH];rw[if_neg (by omega),e1,e2,<-Int.natCast_mul];congr 2;show((d*128^i:Nat):Int)%18446744073709551616=_;omega
theorem apR(acc d i:Nat)(ha:acc<128^i)(h:acc+d*128^i<18446744073709551616):bH .or .u64 (acc:Int) .u64 ((d*128^i:Nat):Int)=some (.int .u64 ((acc+d*128^i:Nat):Int)):=by
 have hh:bH .or .u64 (acc:Int) .u64 ((d*128^i:Nat):Int)=some (.int .u64 (IntKind.wrap .u64 ((BitVec.ofInt 64 (acc:Int)|||BitVec.ofInt 64 ((d*128^i:Nat):Int):BitVec 64).toNat:Int))):=by simp only[bH,ne_eq,not_true_eq_false,if_false];rfl
 have at0:(128:Nat)^i=2^(7*i):=by rw[show(128:Nat)=2^7 from rfl,<-Nat.pow_mul]
 have e:(BitVec.ofInt 64 (acc:Int)|||BitVec.ofInt 64 ((d*128^i:Nat):Int):BitVec 64).toNat=acc+d*128^i:=by
  rw[YM];have t:∀x:Nat,x<18446744073709551616->(BitVec.ofInt 64 (x:Int)).toNat=x:=by intro x hx;rw[Ty];omega
  rw[t acc (by omega),t (d*128^i) (by omega),at0,<-TB];rw[at0]at ha;rw[Nat.or_comm,<-Nat.shiftLeft_add_eq_or_of_lt ha];omega
 rw[hh,e];congr 2;show((acc+d*128^i:Nat):Int)%18446744073709551616=_;omega
def Wl:Option (Nat × Nat)->AV
 |none=>.cT [.int .u64 0,.int .i64 0,.int .i64 2]
 |some (n,k)=>.cT [.int .u64 (n:Int),.int .i64 (k:Int),.int .i64 0]
theorem abU{s:bq}{nb:Nat}{S:St}:∀(r pre:bq)(acc:Nat),s=pre++r->s.length<9223372036854775808->acc<128^pre.length->pre.length<=10->
 DC ax nk (.loop j3) ⟨[(5,.int .u64 (acc:Int)),(8,bO s),(9,.int .i64 (s.length:Int)),(10,.int .i64 (pre.length:Int))],[],nb⟩ S=
  match pN pre.length r with
  |none=>some (.exit 0,⟨[],[],nb⟩,S)
  |some (v,k)=>some (.ret,⟨[(2,.int .u64 ((acc+128^pre.length*v:Nat):Int)),(3,.int .i64 ((pre.length+k:Nat):Int)),(4,.int .i64 0)],[],nb⟩,S)
 |[],pre,acc,hs,hl,ha,hp=>by
  have e:s.length=pre.length:=by rw[hs];simp
  rw[aj,ak j3.eq_1,e];simp[pN]
 |c::r,pre,acc,hs,hl,ha,hp=>by
  have cV:pre.length<s.length:=by rw[hs];simp
  have xF:(pre.length:Int)<s.length:=by omega
  have hg:s[pre.length]? =some c:=by rw[hs];simp
  have hc:c.toNat<256:=c.toNat_lt;have an:=agG c;rw[aj,ak j3.eq_1];have hix:=Aa s .i64 pre.length;rw[hg]at hix;have Zu:IntKind.wrap .i64 (7*(pre.length:Int))=7*(pre.length:Int):=by rw[wrap64 (by omega)]
  generalize hi:pre.length=i at*;by_cases h1:10<=i\/(i=9/\1<c.toNat)
  ·have hpn:pN i (c::r)=none:=by unfold pN;rw[if_pos h1]
   rw[hpn];by_cases h10:i=10
   ·have p10:((i:Int)=10)=True:=eq_true (by omega)
    simp[gK, -bH,z7,D1,xF,hix,gy,p10]
   ·have p10:((i:Int)=10)=False:=eq_false (by omega)
    have p9:((i:Int)=9)=True:=eq_true (by omega);have c1:(1<(c.toNat:Int))=True:=eq_true (by omega);simp[gK, -bH,z7,D1,OQ,xF,hix,gy,p10,p9,c1]
  ·have p10:((i:Int)=10)=False:=eq_false (by omega)
   have ih:=abU (s:=s) (nb:=nb) (S:=S) r (pre++[c]) (acc+c.toNat %128*128^i) (by rw[hs];simp) hl (by
    have e:(pre++[c]).length=i+1:=by simp[hi]
    rw[e,Fv];have:c.toNat %128*128^i<=127*128^i:=uN _ (by omega);omega) (by simp;omega)
   have e:(pre++[c]).length=i+1:=by simp[hi]
   rw[e]at ih;have hb:acc+c.toNat %128*128^i<18446744073709551616:=by
    by_cases p9:i=9
    ·subst p9
     have hq:c.toNat %128<=1:=by omega
     have:c.toNat %128*128^9<=1*128^9:=uN _ hq;omega
    ·have h8:128^i<=128^8:=Xk (by decide) (by omega)
     have:c.toNat %128*128^i<=127*128^i:=uN _ (by omega);omega
   have e1:=axf (c.toNat %128) i (by omega) (by omega);rw[show((7*i:Nat):Int)=7*(i:Int)by omega]at e1;have e2:=apR acc (c.toNat %128) i ha hb;have ew:IntKind.wrap .u64 ((c.toNat %128:Nat):Int)=((c.toNat %128:Nat):Int):=by show((c.toNat %128:Nat):Int)%18446744073709551616=_;omega
   have pd:IntKind.wrap .i64 ((i:Int)+1)=((i+1:Nat):Int):=aV (by omega);generalize hd:c.toNat %128*128^i=d at*;generalize hm:c.toNat %128=m at*;have hA:(((i:Int)=9)=True/\(1<(c.toNat:Int))=False)\/((i:Int)=9)=False:=by
    by_cases p9:i=9;·exact .inl ⟨eq_true (by omega),eq_false (by omega)⟩
    ·exact .inr (eq_false (by omega))
   by_cases apS:128<=c.toNat
   ·have Qy:(128<=(c.toNat:Int))=True:=eq_true (by omega)
    rcases hA with⟨p9,c1⟩|p9
    ·have:c.toNat<=1:=by have h:=of_eq_false c1;omega
     omega
    ·simp[gK, -bH,z7,D1,Hv,D0,LX,xF,hix,gy,p10,p9,an,Zu,ew,e1,e2,Qy,pd]
     rw[ae j3.eq_1];simp;refine Eq.trans ih ?_
     have hpn:pN i (c::r)=(pN (i+1) r).map fun x=>(c.toNat -128+128*x.1,x.2+1):=by
      conv=>lhs;unfold pN
      rw[if_neg h1,if_pos apS]
     rw[hpn];cases hq:pN (i+1) r with
     |none=>rfl
     |some x=>
      obtain⟨v,k⟩:=x;have f1:acc+d+128^(i+1)*v=acc+128^i*(c.toNat -128+128*v):=by
       have:m=c.toNat -128:=by omega
       rw[<-this,<-hd,Fv,Nat.mul_add,Cs m,Nat.mul_assoc,pv]
      have f2:i+1+k=i+(k+1):=by omega
      simp only[f1,f2];simp
   ·have Qy:(128<=(c.toNat:Int))=False:=eq_false (by omega)
    have hmc:m=c.toNat:=by omega
    by_cases hz:c.toNat=0/\0<i
    ·have hpn:pN i (c::r)=none:=by
      conv=>lhs;unfold pN
      rw[if_neg h1,if_neg apS,if_pos hz]
     have z1:(c.toNat=0)=True:=eq_true (by omega);have z2:(0<i)=True:=eq_true (by omega);rw[hpn];rcases hA with⟨p9,c1⟩|p9;·simp[gK, -bH,z7,D1,OQ,Hv,D0,xF,hix,gy,p10,p9,c1,an,Zu,ew,e1,e2,Qy,z1,z2]
     ·simp[gK, -bH,z7,D1,OQ,Hv,D0,xF,hix,gy,p10,p9,an,Zu,ew,e1,e2,Qy,z1,z2]
    ·have hpn:pN i (c::r)=some (c.toNat,1):=by
      conv=>lhs;unfold pN
      rw[if_neg h1,if_neg apS,if_neg hz]
     rw[hpn];have f1:acc+d=acc+128^i*c.toNat:=by rw[<-hd,hmc,Cs]
     rw[f1]at e2;have hZ:(c.toNat=0)=False\/((c.toNat=0)=True/\(0<i)=False):=by
      by_cases z:c.toNat=0;·exact .inr ⟨eq_true (by omega),eq_false (by omega)⟩
      ·exact .inl (eq_false (by omega))
     rcases hA with⟨p9,c1⟩|p9<;>rcases hZ with z1|⟨z1,z2⟩;·simp[gK, -bH,z7,D1,OQ,Hv,D0,LX,xF,hix,gy,p10,p9,c1,an,Zu,ew,e1,e2,Qy,pd,z1]
     ·simp[gK, -bH,z7,D1,OQ,Hv,D0,LX,xF,hix,gy,p10,p9,c1,an,Zu,ew,e1,e2,Qy,pd,z1,z2]
     ·simp[gK, -bH,z7,D1,Hv,D0,LX,xF,hix,gy,p10,p9,an,Zu,ew,e1,e2,Qy,pd,z1]
     ·simp[gK, -bH,z7,D1,OQ,Hv,D0,LX,xF,hix,gy,p10,p9,an,Zu,ew,e1,e2,Qy,pd,z1,z2]
theorem abW(s:bq)(hl:s.length<9223372036854775808)(S:St):DF ax nk 114 [bO s] S=some (Wl (pN 0 s),S):=by
 rw[Rj,ak B5.eq_1];have h:=abU (s:=s) (nb:=S.length) (S:=S) s [] 0 rfl hl (by simp) (by simp);simp at h;cases hp:pN 0 s with
 |none=>
  rw[hp]at h;simp;rw[ae j3.eq_1];simp[h,Wl,cC,ay,bA,aw]
 |some x=>
  rw[hp]at h;simp at h;simp;rw[ae j3.eq_1];simp[h,Wl,cC,ay,bA,aw]
section
def NS(c:AV):Prop:=(∀S,bN S c=some c)/\norm c=c/\na c=none/\aB c=c
theorem m5(i k:Nat):NS (.ptr i k):=⟨fun _=>rfl,rfl,rfl,rfl⟩
theorem XE(S:St):∀(l:List AV),(∀c∈l,NS c)->l.mapM (bN S)=some l
 |[],_=>rfl
 |c::l,h=>by rw[Hc,(h c (by simp)).1 S,XE S l fun x hx=>h x (by simp[hx])];rfl
theorem XF:∀(l:List AV),(∀c∈l,NS c)->l.map norm=l
 |[],_=>rfl
 |c::l,h=>by rw[pz,(h c (by simp)).2.1,XF l fun x hx=>h x (by simp[hx])]
theorem XG(S:St):∀(l:List AV),(∀c∈l,NS c)->dW S l=S
 |[],_=>rfl
 |c::l,h=>by
  have e:cg S c=S:=by unfold cg;rw[(h c (by simp)).2.2.1]
  show dW (cg S c) l=S;rw[e,XG S l fun x hx=>h x (by simp[hx])]
theorem Qz(S₀ S:St):∀(l:List AV),(∀c∈l,NS c)->dj S₀ S l=S
 |[],_=>rfl
 |c::l,h=>by
  have e:bB S₀ S c=S:=by unfold bB;rw[(h c (by simp)).2.2.1]
  show dj S₀ (bB S₀ S c) l=S;rw[e,Qz S₀ S l fun x hx=>h x (by simp[hx])]
def BC(_:Nat)(r:Rd):AV:=if r.b=[]then .ah else if r.at_=0 then .sl .none 1 (bW r.b)else .sl .none 1 (bW r.left)
theorem ajq(j:Nat)(r:Rd)(h:r.at_<=r.b.length):zn 1 (dG 1 (bW r.b)) (some (.int .i64 (r.at_:Int))) none=some (BC j r):=by
 unfold BC;by_cases hb:r.b=[]
 ·have h0:r.at_=0:=by rw[hb]at h;simpa using h
  rw[if_pos hb,hb,h0];rfl
 ·have Vq:¬bW r.b=[]:=fun e=>hb ((kN _).1 e)
  rw[if_neg hb];have hbd:aav (some (AV.int .i64 (r.at_:Int))) 0 r.b.length=some r.at_:=by unfold aav;simp only;rw[if_pos (by omega)];simp
  by_cases h0:r.at_=0;·simp[dG,Vq,zn,aav,h0]
  ·have e:((bW r.b).take r.b.length).drop r.at_=bW r.left:=by unfold bW Rd.left;rw[gO (by simp),List.map_drop]
   simp[dG,Vq,zn,h0,e,aav,vW,h]
theorem agH(j:Nat)(r:Rd)(S:St):∃v,bN S (BC j r)=some v/\norm v=bO r.left:=by
 unfold BC;split
 ·refine⟨.ah,rfl, ?_⟩
  rename_i h;have:r.left=[]:=by unfold Rd.left;rw[h];simp
  rw[this];rfl
 ·split
  ·rename_i h h0
   have:r.left=r.b:=by unfold Rd.left;rw[h0];simp
   rw[this];refine⟨.sl .none 1 (bW r.b),rfl, ?_⟩;cases r.b<;>rfl
  ·refine⟨.sl .none 1 (bW r.left),rfl, ?_⟩
   cases r.left<;>rfl
theorem abX(j:Nat)(r:Rd):na (BC j r)=none:=by
 unfold BC;split;·rfl
 ·split<;>rfl
theorem agI{j:Nat}{r:Rd}{g:FuncId}{caps:List AV}{S S1:St}{n c:Int}(hc:∀x∈caps,NS x)(hp:nk.rP g=none)(hr:u9 g=false)(hk:nk.aN g=false)
 (hG:DF ax nk g (bO r.left::caps) S=some (.cT [.int .i64 n,.int .i64 c],S1)):
 Fp (lK nk (DF ax nk)) [] S (.fn g [] caps) [BC j r]=some (.cT [.int .i64 n,.int .i64 c],[],S1):=by
 obtain⟨v,h1,h2⟩:=agH j r S;have hl:dW S (BC j r::caps)=S:=by
  have e:cg S (BC j r)=S:=by unfold cg;rw[abX]
  show dW (cg S (BC j r)) caps=S;rw[e,XG S caps hc]
 have hu:dj S S1 (BC j r::caps)=S1:=by
  have e:bB S S1 (BC j r)=S1:=by unfold bB;rw[abX]
  show dj S (bB S S1 (BC j r)) caps=S1;rw[e,Qz S S1 caps hc]
 have hm:(BC j r::caps).mapM (bN S)=some (v::caps):=by rw[Hc,h1,XE S caps hc];rfl
 unfold Fp RN;simp only[yu,Fm];rw[if_neg (by rw[hr];decide),hm,hl];simp only[lK,hp,hk,rL,if_false];rw[pz,XF caps hc,h2];simp[hG,hu];exact⟨rfl,rfl⟩
section
variable{S S1:St}{j:Nat}{r:Rd}(hS:S[j]? =some (eB j r))
include hS in
theorem QA(f:AV)(he:r.err≠none):DF ax nk 66 [.ptr j 0,f] S=some (.cT [],S):=by
 have h2:=UG hS;cases hx:r.err with
 |none=>exact absurd hx he
 |some x=>
  rw[hx]at h2;have e1:du .neq (.iL ff) true (gr x.1 x.2) .bP=some (.bool true):=rfl;rw[u6,ak mL.eq_1];simp[du,kS,dh,h2,qG,gr,cC,ay,bA,aw]
include hS in
theorem aff{g:FuncId}{caps:List AV}{n c:Nat}(he:r.err=none)(ho:r.at_<=r.b.length)(hn:r.at_+n<9223372036854775808)
 (hc:∀x∈caps,NS x) (hp:nk.rP g=none) (hr:u9 g=false) (hk:nk.aN g=false) (RT:S1[j]? =some (eB j r)) (hl:S1.length=S.length)
 (hG:DF ax nk g (bO r.left::caps) S=some (.cT [.int .i64 (n:Int),.int .i64 (c:Int)],S1)):
 DF ax nk 66 [.ptr j 0,.fn g [] caps] S=some (.cT [],S1.set j (eB j (if c=0 then r.go n else r.fail c))):=by
 have h0:=ajo hS;have h1:=Zt hS;have h2:=UG hS;have Yt:=Zt RT;have py:=apP RT (r.at_+n) [] S.length;have hs:=ajq j r ho;have qN:=agI (j:=j) (r:=r) hc hp hr hk hG;have hw:IntKind.wrap .i64 ((r.at_:Int)+(n:Int))=(r.at_:Int)+(n:Int):=wrap64 (by omega);have tk:∀b,(S1.set j b).take S.length=S1.set j b:=fun b=>gO (by simp[hl]);rw[he]at h2;rw[u6,ak mL.eq_1];by_cases hc0:c=0
 ·rw[if_pos hc0]
  subst hc0;simp at qN py;simp[du,kS,dh,h0,h1,h2,Yt,qG,hs,qN,hw,py,tk,cC,ay,bA,aw,Rd.go]
  done
 ·rw[if_neg hc0]
  have hf:=Wk RT c hc0;simp[du,kS,dh,h0,h1,h2,qG,hs,qN,tk,hc0,hf,cC,ay,bA,aw]
  done
end
end
section
section
variable{S:St}{j:Nat}{r:Rd}(hS:S[j]? =some (eB j r))
include hS in
theorem Pv(bs:List cF):(S++bs)[j]? =some (eB j r):=by rw[kP (fI.1 hS).1];exact hS
include hS in
theorem afg(bs:List cF)(b:cF):(S++bs).set j b=S.set j b++bs:=List.set_append_left _ _ (fI.1 hS).1
include hS in
theorem Dl{b0 b1:cF}{g:FuncId}{caps:List AV}{n c:Nat}(he:r.err=none)(ho:r.at_<=r.b.length)(hn:r.at_+n<9223372036854775808)
 (hc:∀x∈caps,NS x) (hp:nk.rP g=none) (hr:u9 g=false) (hk:nk.aN g=false)
 (hG:DF ax nk g (bO r.left::caps) (S++[b0])=some (.cT [.int .i64 (n:Int),.int .i64 (c:Int)],S++[b1])):
 DF ax nk 66 [.ptr j 0,.fn g [] caps] (S++[b0])=some (.cT [],S.set j (eB j (if c=0 then r.go n else r.fail c))++[b1]):=by
 rw[aff (Pv hS [b0]) he ho hn hc hp hr hk (Pv hS [b1]) (by simp) hG,afg hS]
include hS in
theorem Lx{b0:cF}(f:AV)(he:r.err≠none):
 DF ax nk 66 [.ptr j 0,f] (S++[b0])=some (.cT [],S.set j (eB j r)++[b0]):=by
 rw[QA (Pv hS [b0]) f he,UH hS]
include hS in
theorem zN{b0 b1 b2:cF}{g:FuncId}{caps:List AV}{n c:Nat}(he:r.err=none)(ho:r.at_<=r.b.length)(hn:r.at_+n<9223372036854775808)
 (hc:∀x∈caps,NS x) (hp:nk.rP g=none) (hr:u9 g=false) (hk:nk.aN g=false)
 (hG:DF ax nk g (bO r.left::caps) (S++[b2,b0])=some (.cT [.int .i64 (n:Int),.int .i64 (c:Int)],S++[b2,b1])):
 DF ax nk 66 [.ptr j 0,.fn g [] caps] (S++[b2,b0])=some (.cT [],S.set j (eB j (if c=0 then r.go n else r.fail c))++[b2,b1]):=by
 rw[aff (Pv hS [b2,b0]) he ho hn hc hp hr hk (Pv hS [b2,b1]) (by simp) hG,afg hS]
include hS in
theorem Cg{b2 b0:cF}(f:AV)(he:r.err≠none):
 DF ax nk 66 [.ptr j 0,f] (S++[b2,b0])=some (.cT [],S.set j (eB j r)++[b2,b0]):=by
 rw[QA (Pv hS [b2,b0]) f he,UH hS]
end
theorem UI{T:St}{k:Nat}{v w:AV}(h:T[k]? =some (.mem [v] [] false))(hw:CO w)(hc:w.cells=[w])(aa:List (Option Nat))(nb:Nat):bg aa nb T 1 (.ptr k 0) w=some (aa,T.set k (.mem [w] [] false)):=by rw[fT hw h,if_pos ⟨by rw[hc];rfl,by simp⟩,hc];rfl
theorem NT(S:St)(b:cF):(S++[b])[S.length]? =some b:=by simp
theorem UJ(S:St)(b c:cF):(S++[b]).set S.length c=S++[c]:=by simp
theorem afh(S:St)(v:AV)(bt:List (Option Nat))(q:Bool):aY (S++[.mem [v] bt q]) .cell (.ptr S.length 0)=some v:=by rw[bd (NT S _)];rfl
theorem abY(a0 a1:AV)(S:St):DF ax nk 67 [a0,a1] S=yz 67 [.tmp 3,.tmp 4] S (DC ax nk qe ⟨[(0,a0),(1,a1)],[],S.length⟩ S):=va (ax:=ax) (f:=67) (k:=qf) rfl (M1 rfl) S
theorem abZ(a0 a1:AV)(S:St):DF ax nk 183 [a0,a1] S=yz 183 [.tmp 3,.tmp 4] S (DC ax nk qu ⟨[(0,a0),(1,a1)],[],S.length⟩ S):=va (ax:=ax) (f:=183) (k:=qw) rfl (M1 rfl) S
theorem ajr(l:bq)(S:St)(v:AV):DF ax nk 67 [bO l,.ptr S.length 0] (S++[.mem [v] [] false])=match l with
 |[]=>some (.cT [.int .i64 0,.int .i64 2],S++[.mem [v] [] false])
 |c::_=>some (.cT [.int .i64 1,.int .i64 0],S++[.mem [.int .u8 (c.toNat:Int)] [] false]):=by
 have tk:∀b,(S++[b]).take (S.length+1)=S++[b]:=fun b=>gO (by simp);rw[abY,ak qe.eq_1];cases l with
 |nil=>simp[tk,cC,ay,bA,aw]
 |cons c l=>
  have py:=UI (NT S (.mem [v] [] false)) (vH .u8 (c.toNat:Int)) rfl [] (S.length+1);rw[UJ]at py;have hix:=Aa (c::l) .i64 0;simp[gy]at hix;have hl:¬((l.length:Int)+1=0):=by omega
  simp[hix,py,hl,tk,cC,ay,bA,aw]
theorem ajs(l:bq)(S:St)(v:AV):DF ax nk 183 [bO l,.ptr S.length 0] (S++[.mem [v] [] false])=match l with
 |[]=>some (.cT [.int .i64 0,.int .i64 2],S++[.mem [v] [] false])
 |c::_=>if 1<c.toNat then some (.cT [.int .i64 0,.int .i64 2],S++[.mem [v] [] false])else some (.cT [.int .i64 1,.int .i64 0],S++[.mem [.bool (decide (c.toNat=1))] [] false]):=by
 have tk:∀b,(S++[b]).take (S.length+1)=S++[b]:=fun b=>gO (by simp);rw[abZ,ak qu.eq_1];cases l with
 |nil=>simp[tk,cC,ay,bA,aw]
 |cons c l=>
  have py:=UI (NT S (.mem [v] [] false)) (abo (decide (c.toNat=1))) rfl [] (S.length+1);rw[UJ]at py;have hix:=Aa (c::l) .i64 0;simp[gy]at hix;have hl:¬((l.length:Int)+1=0):=by omega
  by_cases h1:1<c.toNat
  ·have Yt:(1<(c.toNat:Int))=True:=eq_true (by omega)
   simp[hix,hl,h1,Yt,tk,cC,ay,bA,aw]
  ·have Yt:(1<(c.toNat:Int))=False:=eq_false (by omega)
   have h2:((c.toNat:Int)=1)=(c.toNat=1):=propext (by omega);have h3:((c.toNat:Int)==1)=decide (c.toNat=1):=by rw[lQ];simp;omega
   simp[hix,hl,h1,Yt,h3,py,tk,cC,ay,bA,aw]
section
variable{S:St}{j:Nat}{r:Rd}(hS:S[j]? =some (eB j r))(ho:r.at_<=r.b.length)(hb:r.b.length<4611686018427387904)
include hS ho hb in
theorem Wm:DF ax nk 28 [.ptr j 0] S=some (.int .u8 (r.byte.1:Int),S.set j (eB j r.byte.2)):=by
 have tk:∀b X,(S.set j X++[b]).take S.length=S.set j X:=fun b X=>by rw[ob (by simp),gO (by simp)]
 have ll:∀X v,aY (S.set j X++[.mem [v] [] false]) .cell (.ptr S.length 0)=some v:=fun X v=>by have:=afh (S.set j X) v [] false;rwa [LW]at this
 have Qx:aT [] (.cT [])=(.cT [],[]):=rfl;rw[I9,ak sC.eq_1];by_cases he:r.err=none
 ·have h1:=ajr r.left S (.int .u8 0)
  cases hl:r.left with
  |nil=>
   rw[hl]at h1;have hf:=Dl (caps:=[.ptr S.length 0]) (n:=0) (c:=2) hS he ho (by omega) (by simp[m5]) rfl rfl rfl (by rw[hl];exact h1);have hy:r.byte=(0,r.fail 2):=by unfold Rd.byte;rw[he,hl]
   simp at hf;simp[hf,tk,Qx,ll,hy,cC,ay,bA,aw]
  |cons c l=>
   rw[hl]at h1;have hf:=Dl (caps:=[.ptr S.length 0]) (n:=1) (c:=0) hS he ho (by omega) (by simp[m5]) rfl rfl rfl (by rw[hl];exact h1);have hy:r.byte=(c.toNat,r.go 1):=by unfold Rd.byte;rw[he,hl]
   simp at hf;simp[hf,tk,Qx,ll,hy,cC,ay,bA,aw]
 ·have hf:=fun b f=>Lx (b0:=b) hS f he
  have hy:r.byte=(0,r):=by
   unfold Rd.byte;cases hx:r.err with
   |none=>exact absurd hx he
   |some x=>rfl
  simp[hf,tk,Qx,ll,hy,cC,ay,bA,aw]
end
end
section
theorem Wn(a0 a1 a2:AV)(S:St):DF ax nk 113 [a0,a1,a2] S=yz 113 [.tmp 4,.tmp 5] S (DC ax nk nQ ⟨[(0,a0),(1,a1),(2,a2)],[],S.length⟩ S):=va (ax:=ax) (f:=113) (k:=nR) rfl (M1 rfl) S
theorem ajt(S:St)(b c:cF):(S++[b,c])[S.length]? =some b:=by simp
theorem AN(S:St)(b c:cF):(S++[b,c])[S.length+1]? =some c:=by simp
theorem NU(S:St)(b c d:cF):(S++[b,c]).set (S.length+1) d=S++[b,d]:=by simp
theorem Zv(S:St)(v:AV)(bt:List (Option Nat))(q:Bool)(c:cF):aY (S++[.mem [v] bt q,c]) .cell (.ptr S.length 0)=some v:=by rw[bd (ajt S _ _)];rfl
theorem alZ(S:St)(v:AV)(bt:List (Option Nat))(q:Bool)(c:cF):aY (S++[c,.mem [v] bt q]) .cell (.ptr (S.length+1) 0)=some v:=by rw[bd (AN S _ _)];rfl
theorem tk3(a b c:Int):aT [] (.cT [.int .u64 a,.int .i64 b,.int .i64 c])=(.cT [.int .u64 a,.int .i64 b,.int .i64 c],[]):=rfl
theorem aea(l:bq)(S:St)(gM:Nat)(v:AV)(hl:l.length<9223372036854775808):DF ax nk 113 [bO l,.ptr S.length 0,.ptr (S.length+1) 0] (S++[.mem [.int .u64 (gM:Int)] [] false,.mem [v] [] false])=match pN 0 l with
 |none=>some (.cT [.int .i64 0,.int .i64 2],S++[.mem [.int .u64 (gM:Int)] [] false,.mem [.int .u64 0] [] false])
 |some (n,k)=>if gM<n then some (.cT [.int .i64 0,.int .i64 15],S++[.mem [.int .u64 (gM:Int)] [] false,.mem [v] [] false])else some (.cT [.int .i64 (k:Int),.int .i64 0],S++[.mem [.int .u64 (gM:Int)] [] false,.mem [.int .u64 (n:Int)] [] false]):=by
 have tk:∀b c,(S++[b,c]).take (S.length+2)=S++[b,c]:=fun b c=>gO (by simp);have hn:=fun T=>abW l hl T;have Od:=Zv S (.int .u64 (gM:Int)) [] false (.mem [v] [] false);rw[Wn,ak nQ.eq_1];cases hp:pN 0 l with
 |none=>
  rw[hp]at hn;have py:=UI (AN S (.mem [.int .u64 (gM:Int)] [] false) (.mem [v] [] false)) (vH .u64 0) rfl [] (S.length+2);rw[NU]at py;simp[hn,tk3,Wl,py,tk,cC,ay,bA,aw]
 |some x=>
  obtain⟨n,k⟩:=x;rw[hp]at hn;have py:=UI (AN S (.mem [.int .u64 (gM:Int)] [] false) (.mem [v] [] false)) (vH .u64 (n:Int)) rfl [] (S.length+2);rw[NU]at py;by_cases hm:gM<n
  ·have DP:((gM:Int)<(n:Int))=True:=eq_true (by omega)
   simp[hn,tk3,Wl,Od,hm,DP,tk,cC,ay,bA,aw]
  ·have DP:((gM:Int)<(n:Int))=False:=eq_false (by omega)
   simp[hn,tk3,Wl,py,Od,hm,DP,tk,cC,ay,bA,aw]
section
variable{S:St}{j:Nat}{r:Rd}(hS:S[j]? =some (eB j r))(ho:r.at_<=r.b.length)(hb:r.b.length<4611686018427387904)
include hS ho hb in
theorem Wo:DF ax nk 153 [.ptr j 0] S=some (.bool r.bool.1,S.set j (eB j r.bool.2)):=by
 have tk:∀b X,(S.set j X++[b]).take S.length=S.set j X:=fun b X=>by rw[ob (by simp),gO (by simp)]
 have ll:∀X v,aY (S.set j X++[.mem [v] [] false]) .cell (.ptr S.length 0)=some v:=fun X v=>by have:=afh (S.set j X) v [] false;rwa [LW]at this
 have Qx:aT [] (.cT [])=(.cT [],[]):=rfl;have py:=UI (NT S (.mem [.bool false] [] false)) (abo false) rfl [] S.length;rw[UJ]at py;rw[Jf,ak sK.eq_1];by_cases he:r.err=none
 ·have h1:=ajs r.left S (.bool false)
  cases hl:r.left with
  |nil=>
   rw[hl]at h1;have hf:=Dl (caps:=[.ptr S.length 0]) (n:=0) (c:=2) hS he ho (by omega) (by simp[m5]) rfl rfl rfl (by rw[hl];exact h1);have hy:r.bool=(false,r.fail 2):=by unfold Rd.bool;rw[he,hl]
   simp at hf;simp[py,hf,tk,Qx,ll,hy,cC,ay,bA,aw]
  |cons c l=>
   rw[hl]at h1;by_cases hc:1<c.toNat
   ·simp only at h1
    rw[if_pos hc]at h1;have hf:=Dl (caps:=[.ptr S.length 0]) (n:=0) (c:=2) hS he ho (by omega) (by simp[m5]) rfl rfl rfl (by rw[hl];exact h1);have hy:r.bool=(false,r.fail 2):=by unfold Rd.bool;rw[he,hl];simp only;rw[if_pos hc]
    simp at hf;simp[py,hf,tk,Qx,ll,hy,cC,ay,bA,aw]
   ·simp only at h1
    rw[if_neg hc]at h1;have hf:=Dl (caps:=[.ptr S.length 0]) (n:=1) (c:=0) hS he ho (by omega) (by simp[m5]) rfl rfl rfl (by rw[hl];exact h1);have hy:r.bool=(decide (c.toNat=1),r.go 1):=by unfold Rd.bool;rw[he,hl];simp only;rw[if_neg hc]
    simp at hf;simp[py,hf,tk,Qx,ll,hy,cC,ay,bA,aw]
 ·have hf:=fun b f=>Lx (b0:=b) hS f he
  have hy:r.bool=(false,r):=by
   unfold Rd.bool;cases hx:r.err with
   |none=>exact absurd hx he
   |some x=>rfl
  simp[py,hf,tk,Qx,ll,hy,cC,ay,bA,aw]
include hS ho hb in
theorem FN(gM:Nat):DF ax nk 69 [.ptr j 0,.int .u64 (gM:Int)] S=some (.int .u64 ((r.number gM).1:Int),S.set j (eB j (r.number gM).2)):=by
 have tk:∀b c X,(S.set j X++[b,c]).take S.length=S.set j X:=fun b c X=>by rw[ob (by simp),gO (by simp)]
 have ll:∀X b v,aY (S.set j X++[b,.mem [v] [] false]) .cell (.ptr (S.length+1) 0)=some v:=fun X b v=>by have:=alZ (S.set j X) v [] false b;rwa [LW]at this
 have Qx:aT [] (.cT [])=(.cT [],[]):=rfl;have hln:r.left.length<9223372036854775808:=by unfold Rd.left;rw[Cz];omega
 rw[EV,ak qg.eq_1];by_cases he:r.err=none
 ·have h1:=aea r.left S gM (.int .u64 0) hln
  cases hl:pN 0 r.left with
  |none=>
   rw[hl]at h1;have hf:=zN (caps:=[.ptr S.length 0,.ptr (S.length+1) 0]) (n:=0) (c:=2) hS he ho (by omega) (by simp[m5]) rfl rfl rfl h1;have hy:r.number gM=(0,r.fail 2):=by unfold Rd.number;rw[he,hl]
   simp at hf;simp[hf,tk,Qx,ll,hy,cC,ay,bA,aw]
  |some x=>
   obtain⟨n,k⟩:=x;have hk:=Zr _ _ _ _ hl;rw[hl]at h1;by_cases hc:gM<n
   ·simp only at h1
    rw[if_pos hc]at h1;have hf:=zN (caps:=[.ptr S.length 0,.ptr (S.length+1) 0]) (n:=0) (c:=15) hS he ho (by omega) (by simp[m5]) rfl rfl rfl h1;have hy:r.number gM=(0,r.fail 15):=by unfold Rd.number;rw[he,hl];simp only;rw[if_pos hc]
    simp at hf;simp[hf,tk,Qx,ll,hy,cC,ay,bA,aw]
   ·simp only at h1
    rw[if_neg hc]at h1;have hf:=zN (caps:=[.ptr S.length 0,.ptr (S.length+1) 0]) (n:=k) (c:=0) hS he ho (by omega) (by simp[m5]) rfl rfl rfl h1;have hy:r.number gM=(n,r.go k):=by unfold Rd.number;rw[he,hl];simp only;rw[if_neg hc]
    simp at hf;simp[hf,tk,Qx,ll,hy,cC,ay,bA,aw]
 ·have hf:=fun b c f=>Cg (b2:=c) (b0:=b) hS f he
  have hy:r.number gM=(0,r):=by
   unfold Rd.number;cases hx:r.err with
   |none=>exact absurd hx he
   |some x=>rfl
  simp[hf,tk,Qx,ll,hy,cC,ay,bA,aw]
end
end
section
theorem UK(l:bq):bO l=.sl .none 1 (bW l):=by cases l<;>rfl
theorem Pw(l:bq)(a b:Nat)(ha:a<=b)(hb:b<=l.length):zn 1 (bO l) (some (.int .i64 (a:Int))) (some (.int .i64 (b:Int)))=some (bO ((l.take b).drop a)):=by
 rw[UK,UK];have h1:aav (some (AV.int .i64 (b:Int))) l.length l.length=some b:=by unfold aav;simp only;rw[if_pos (by omega),CM]
 have h2:aav (some (AV.int .i64 (a:Int))) 0 b=some a:=by unfold aav;simp only;rw[if_pos (by omega),CM]
 have e:((bW l).take b).drop a=bW ((l.take b).drop a):=by simp[bW,List.map_take,List.map_drop]
 by_cases h:a=0/\b=l.length
 ·have e2:(l.take b).drop a=l:=by rw[h.1,h.2];simp
  rw[e2];simp[zn,h,aav]
 ·simp only[zn,lR,h1,h2]
  simp[h,vW,e]
theorem aeb(l:bq)(b:Nat)(hb:b<=l.length):zn 1 (bO l) none (some (.int .i64 (b:Int)))=some (bO (l.take b)):=by have:=Pw l 0 b (sU _) hb;rw[jS]at this;rw[<-this,UK];simp[zn,aav]
theorem at1(n:Nat):DL (fun a b=>decide (a<b)) .i64 0 [.int .i64 (n:Int)]=some (.int .i64 (n:Int)):=by
 have h:(if decide ((0:Int)<(n:Int))=true then(n:Int)else 0)=(n:Int):=by
  by_cases h0:(0:Int)<(n:Int);·rw[if_pos (decide_eq_true h0)]
  ·rw[if_neg (by simpa using h0)]
   omega
 show some (AV.int .i64 (if decide ((0:Int)<(n:Int))=true then(n:Int)else 0))=_;rw[h]
theorem aec(a0 a1 a2:AV)(S:St):DF ax nk 74 [a0,a1,a2] S=yz 74 [.tmp 4,.tmp 5] S (DC ax nk rz ⟨[(0,a0),(1,a1),(2,a2)],[],S.length⟩ S):=va (ax:=ax) (f:=74) (k:=rA) rfl (M1 rfl) S
theorem aju(S:St)(c:cF):aY (S++[c,ej (S.length+1) []]) .cell (.ptr (S.length+1) 0)=some .ah:=by rw[bd (show(S++[c,ej (S.length+1) []])[S.length+1]? =some (.mem [.ah] [] false)from AN S _ _)];rfl
theorem al0(l:bq)(S:St)(n:Nat)(hl:l.length<=1073741824):DF ax nk 74 [bO l,.ptr S.length 0,.ptr (S.length+1) 0] (S++[.mem [.int .i64 (n:Int)] [] false,ej (S.length+1) []])=
 if l.length<n then some (.cT [.int .i64 0,.int .i64 2],S++[.mem [.int .i64 (n:Int)] [] false,ej (S.length+1) []])
 else some (.cT [.int .i64 (n:Int),.int .i64 0],S++[.mem [.int .i64 (n:Int)] [] false,ej (S.length+1) (l.take n)]):=by
 have tk:∀b c,(S++[b,c]).take (S.length+2)=S++[b,c]:=fun b c=>gO (by simp);have Od:=Zv S (.int .i64 (n:Int)) [] false (ej (S.length+1) []);have apU:=aju S (.mem [.int .i64 (n:Int)] [] false);have hmx:=at1 n;rw[aec,ak rz.eq_1];by_cases h:l.length<n
 ·have h':((l.length:Int)<(n:Int))=True:=eq_true (by omega)
  simp[Od,hmx,h,h',tk,cC,ay,bA,aw]
  done
 ·have h':((l.length:Int)<(n:Int))=False:=eq_false (by omega)
  obtain⟨v1,t1,S1,t2,w1,w2⟩:=aed (b:=l.take n) (AN S (.mem [.int .i64 (n:Int)] [] false) (ej (S.length+1) [])) (by simp;omega);have e:bk (S.length+1) 0 1 (bW [])=.ah:=rfl;rw[e]at w1;rw[NU,yu]at w2;have hs:=aeb l n (by omega);simp[Od,apU,hmx,h,h',hs,w1,w2,tk,cC,ay,bA,aw]
  done
theorem anB(S:St)(b:cF)(s:bq):aY (S++[b,ej (S.length+1) s]) .cell (.ptr (S.length+1) 0)=some (bk (S.length+1) 0 1 (bW s)):=by rw[bd (show(S++[b,ej (S.length+1) s])[S.length+1]? =some (.mem [bk (S.length+1) 0 1 (bW s)] (if s=[]then[]else[some s.length]) false)from AN S _ _)];rfl
theorem ur(aa:List (Option Nat))(i k sz:Nat)(es:List (List AV)):a9 aa (bk i k sz es)=(dG sz es,aa):=by unfold bk dG;split<;>rfl
theorem AO(s:bq):aw (dG 1 (bW s))=true:=by
 unfold dG;split;·rfl
 ·exact df s
theorem xp(i k sz:Nat)(es:List (List AV)):bu (bk i k sz es)=true:=by unfold bk;split<;>rfl
theorem AP(i k sz:Nat)(es:List (List AV)):bD (bk i k sz es)=bk i k sz es:=by unfold bk;split<;>rfl
section
variable{S:St}{j:Nat}{r:Rd}(hS:S[j]? =some (eB j r))(ho:r.at_<=r.b.length)(hb:r.b.length<=1073741824)
include hS ho hb in
theorem Zw(n:Nat)(hn:n<4611686018427387904):DF ax nk 34 [.ptr j 0,.int .i64 (n:Int)] S=some (dG 1 (bW (r.raw n).1),S.set j (eB j (r.raw n).2)):=by
 have tk:∀b c X,(S.set j X++[b,c]).take S.length=S.set j X:=fun b c X=>by rw[ob (by simp),gO (by simp)]
 have ll:∀X b s,aY (S.set j X++[b,ej (S.length+1) s]) .cell (.ptr (S.length+1) 0)=some (bk (S.length+1) 0 1 (bW s)):=fun X b s=>by have:=anB (S.set j X) b s;rwa [LW]at this
 have Qx:aT [] (.cT [])=(.cT [],[]):=rfl;have XH:cF.mem [.ah] [] false=ej (S.length+1) []:=rfl;have hln:r.left.length<=1073741824:=by unfold Rd.left;rw[Cz];omega
 rw[Kp,ak tV.eq_1];by_cases he:r.err=none
 ·have h1:=al0 r.left S n hln
  by_cases hl:r.left.length<n
  ·rw[if_pos hl]at h1
   have hf:=zN (caps:=[.ptr S.length 0,.ptr (S.length+1) 0]) (n:=0) (c:=2) hS he ho (by omega) (by simp[m5]) rfl rfl rfl h1;have hy:r.raw n=([],r.fail 2):=by unfold Rd.raw;rw[he];simp only;rw[if_pos hl]
   simp at hf;simp[XH,hf,tk,Qx,ll,hy,ur,AO,xp,AP]
   done
  ·rw[if_neg hl]at h1
   have hf:=zN (caps:=[.ptr S.length 0,.ptr (S.length+1) 0]) (n:=n) (c:=0) hS he ho (by omega) (by simp[m5]) rfl rfl rfl h1;have hy:r.raw n=(r.left.take n,r.go n):=by unfold Rd.raw;rw[he];simp only;rw[if_neg hl]
   simp at hf;simp[XH,hf,tk,Qx,ll,hy,ur,AO,xp,AP]
   done
 ·have hf:=fun b c f=>Cg (b2:=c) (b0:=b) hS f he
  have hy:r.raw n=([],r):=by
   unfold Rd.raw;cases hx:r.err with
   |none=>exact absurd hx he
   |some x=>rfl
  simp[XH,hf,tk,Qx,ll,hy,ur,AO,xp,AP]
  done
end
end
section
theorem Zx(a0 a1 a2:AV)(S:St):DF ax nk 197 [a0,a1,a2] S=yz 197 [.tmp 4,.tmp 5] S (DC ax nk oK ⟨[(0,a0),(1,a1),(2,a2)],[],S.length⟩ S):=va (ax:=ax) (f:=197) (k:=oL) rfl (M1 rfl) S
def GV(gM:Nat)(l:bq):Nat × Nat × bq:=match pN 0 l with
 |none=>(0,2,[])
 |some (n,k)=>if gM<n then(0,3,[])else if l.length -k<n then(0,2,[])else(k+n,0,(l.drop k).take n)
theorem agJ(l:bq)(S:St)(gM:Nat)(hm:gM<4611686018427387904)(hl:l.length<=1073741824):DF ax nk 197 [bO l,.ptr S.length 0,.ptr (S.length+1) 0] (S++[.mem [.int .i64 (gM:Int)] [] false,ej (S.length+1) []])=
 some (.cT [.int .i64 ((GV gM l).1:Int),.int .i64 ((GV gM l).2.1:Int)],S++[.mem [.int .i64 (gM:Int)] [] false,ej (S.length+1) (GV gM l).2.2]):=by
 have tk:∀b c,(S++[b,c]).take (S.length+2)=S++[b,c]:=fun b c=>gO (by simp);have Od:=Zv S (.int .i64 (gM:Int)) [] false (ej (S.length+1) []);have apU:=aju S (.mem [.int .i64 (gM:Int)] [] false);have hmx:=at1 gM;have hw:IntKind.wrap .u64 (gM:Int)=(gM:Int):=by show(gM:Int)%18446744073709551616=_;omega
 have hn:=fun T=>abW l (by omega) T;rw[Zx,ak oK.eq_1];cases hp:pN 0 l with
 |none=>
  rw[hp]at hn;have hy:GV gM l=(0,2,[]):=by unfold GV;rw[hp]
  simp[hn,tk3,Wl,Od,hy,tk,cC,ay,bA,aw]
 |some x=>
  obtain⟨n,k⟩:=x;have hk:=Zr _ _ _ _ hp;have hnl:=ajk hp;rw[hp]at hn;by_cases h1:gM<n
  ·have Yt:((gM:Int)<(n:Int))=True:=eq_true (by omega)
   have hy:GV gM l=(0,3,[]):=by unfold GV;rw[hp];simp only;rw[if_pos h1]
   simp[hn,tk3,Wl,Od,hmx,hw,Yt,hy,tk,cC,ay,bA,aw]
  ·have Yt:((gM:Int)<(n:Int))=False:=eq_false (by omega)
   have pd:IntKind.wrap .i64 ((l.length:Int) -(k:Int))=((l.length -k:Nat):Int):=by rw[wrap64 (by omega)];omega
   have zm:IntKind.wrap .u64 ((l.length -k:Nat):Int)=((l.length -k:Nat):Int):=by show((l.length -k:Nat):Int)%18446744073709551616=_;omega
   have hw3:IntKind.wrap .i64 (n:Int)=(n:Int):=wrap64 (by omega);have hw4:IntKind.wrap .i64 ((k:Int)+(n:Int))=((k+n:Nat):Int):=by rw[wrap64 (by omega)];omega
   by_cases h2:l.length -k<n
   ·have hy:GV gM l=(0,2,[]):=by unfold GV;rw[hp];simp only;rw[if_neg h1,if_pos h2]
    have h2':(((l.length -k:Nat):Int)<(n:Int))=True:=eq_true (by omega);generalize l.length -k=z at*;simp[hn,tk3,Wl,Od,hmx,hw,Yt,pd,zm,h2',hy,tk,cC,ay,bA,aw]
   ·have hy:GV gM l=(k+n,0,(l.drop k).take n):=by unfold GV;rw[hp];simp only;rw[if_neg h1,if_neg h2]
    have h2':(((l.length -k:Nat):Int)<(n:Int))=False:=eq_false (by omega);have hs:=Pw l k (k+n) (by omega) (by omega);have ed:(l.take (k+n)).drop k=(l.drop k).take n:=by rw[List.drop_take];congr 1;omega
    rw[ed]at hs;obtain⟨v1,t1,S1,t2,w1,w2⟩:=aed (b:=(l.drop k).take n) (AN S (.mem [.int .i64 (gM:Int)] [] false) (ej (S.length+1) [])) (by simp;omega);have e:bk (S.length+1) 0 1 (bW [])=.ah:=rfl;rw[e]at w1;rw[NU,yu]at w2;generalize l.length -k=z at*;generalize k+n=kn at*;simp[hn,tk3,Wl,Od,apU,hmx,hw,Yt,pd,zm,hw3,hw4,h2',hs,w1,w2,hy,tk,cC,ay,bA,aw]
    done
section
variable{S:St}{j:Nat}{r:Rd}(hS:S[j]? =some (eB j r))(ho:r.at_<=r.b.length)(hb:r.b.length<=1073741824)
include hS ho hb in
theorem UL(n:Nat)(hn:n<4611686018427387904):DF ax nk 182 [.ptr j 0,.int .i64 (n:Int)] S=some (dG 1 (bW (r.bytes n).1),S.set j (eB j (r.bytes n).2)):=by
 have tk:∀b c X,(S.set j X++[b,c]).take S.length=S.set j X:=fun b c X=>by rw[ob (by simp),gO (by simp)]
 have ll:∀X b s,aY (S.set j X++[b,ej (S.length+1) s]) .cell (.ptr (S.length+1) 0)=some (bk (S.length+1) 0 1 (bW s)):=fun X b s=>by have:=anB (S.set j X) b s;rwa [LW]at this
 have Qx:aT [] (.cT [])=(.cT [],[]):=rfl;have XH:cF.mem [.ah] [] false=ej (S.length+1) []:=rfl;have hln:r.left.length<=1073741824:=by unfold Rd.left;rw[Cz];omega
 rw[GS,ak rH.eq_1];by_cases he:r.err=none
 ·have h1:=agJ r.left S n hn hln
  have Vq:(GV n r.left).1<=1073741824:=by
   unfold GV;cases hp:pN 0 r.left with
   |none=>simp
   |some x=>
    have:=Zr _ _ _ _ hp;simp only;split;·simp
    ·split
     ·simp
     ·simp only
      omega
  have hf:=zN (caps:=[.ptr S.length 0,.ptr (S.length+1) 0]) hS he ho (by omega) (by simp[m5]) rfl rfl rfl h1;have hy:r.bytes n=((GV n r.left).2.2,if(GV n r.left).2.1=0 then r.go (GV n r.left).1 else r.fail (GV n r.left).2.1):=by
   unfold Rd.bytes GV;rw[he];simp only;cases hp:pN 0 r.left with
   |none=>rfl
   |some x=>
    simp only;split;·rfl
    ·split<;>rfl
  rw[hy];simp[XH,hf,tk,Qx,ll,ur,AO,xp,AP]
  done
 ·have hf:=fun b c f=>Cg (b2:=c) (b0:=b) hS f he
  have hy:r.bytes n=([],r):=by
   unfold Rd.bytes;cases hx:r.err with
   |none=>exact absurd hx he
   |some x=>rfl
  simp[XH,hf,tk,Qx,ll,hy,ur,AO,xp,AP]
  done
end
end
section
theorem Zy(aa:List (Option Nat))(sz:Nat)(es:List (List AV)):aT aa (dG sz es)=(dG sz es,aa):=by unfold dG;split<;>rfl
theorem agK(x:Int):IntKind.wrap .i64 x=(x+9223372036854775808)%18446744073709551616 -9223372036854775808:=by simp[IntKind.wrap,IntKind.bits,IntKind.signed];split<;>omega
section
variable{S:St}{j:Nat}{r:Rd}(hS:S[j]? =some (eB j r))
include hS in
theorem NV:DF ax nk 70 [.ptr j 0] S=some (qG r.err,S):=by
 have h2:=UG hS;rw[Ks,ak tY.eq_1];cases he:r.err with
 |none=>
  rw[he]at h2;simp[du,kS,dh,h2,qG,bu,bD,a9,aw,aS]
 |some x=>
  rw[he]at h2;simp[du,kS,dh,h2,qG,gr,bu,bD,a9,aw,aS,ck]
variable(ho:r.at_<=r.b.length)(hb:r.b.length<=1073741824)
include hS ho hb in
theorem Wp(n:Nat)(hn:n<4611686018427387904):DF ax nk 152 [.ptr j 0,.int .i64 (n:Int)] S=some (.str (r.bytes n).1,S.set j (eB j (r.bytes n).2)):=by
 have h:=UL hS ho hb n hn;have tk:∀b,(S.set j b).take S.length=S.set j b:=fun b=>gO (by simp);have hs:∀s:bq,aok (dG 1 (bW s))=some (.str s):=by
  intro s;unfold dG;split
  ·rename_i h
   rw[(kN s).1 h];rfl
  ·show(DK (bW s)).map AV.str=_
   rw[abn];rfl
 rw[Je,ak sJ.eq_1];simp[h,Zy,hs,tk,bu,bD,a9,aw,aS]
include hS ho hb in
theorem Zz:DF ax nk 154 [.ptr j 0] S=some (.int .i64 r.int.1,S.set j (eB j r.int.2)):=by
 have h:=FN hS ho (by omega) 18446744073709551615;have tk:∀b,(S.set j b).take S.length=S.set j b:=fun b=>gO (by simp);have hi:r.int=(if(r.number 18446744073709551615).1 %2=1 then-(((r.number 18446744073709551615).1/2:Nat):Int) -1 else(((r.number 18446744073709551615).1/2:Nat):Int),(r.number 18446744073709551615).2):=rfl;have cV:(r.number 18446744073709551615).1<18446744073709551616:=by
  unfold Rd.number;split;·simp
  ·split
   ·simp
   ·split
    ·simp
    ·rename_i h
     simp only;omega
 rw[hi];generalize(r.number 18446744073709551615).1=n at*;generalize(r.number 18446744073709551615).2=r' at*;have e1:bH .shr .u64 (n:Int) .u64 1=some (.int .u64 ((n/2:Nat):Int)):=by simp only[bH,IntKind.bits];rw[if_neg (by decide)];congr 2;rw[abl _ (by decide)];show(n:Int)/2=_;omega
 have e2:bH .and .u64 (n:Int) .u64 1=some (.int .u64 ((n %2:Nat):Int)):=by
  have hh:bH .and .u64 (n:Int) .u64 1=some (.int .u64 (IntKind.wrap .u64 ((BitVec.ofInt 64 (n:Int)&&&BitVec.ofInt 64 1:BitVec 64).toNat:Int))):=by simp only[bH,ne_eq,not_true_eq_false,if_false];rfl
  have e:(BitVec.ofInt 64 (n:Int)&&&BitVec.ofInt 64 1:BitVec 64).toNat=n %2:=by
   rw[YL,Ty];have:(BitVec.ofInt 64 1).toNat=1:=by decide
   rw[this,Nat.and_one_is_mod];omega
  rw[hh,e];congr 2;show((n %2:Nat):Int)%18446744073709551616=_;omega
 have w1:IntKind.wrap .i64 ((n/2:Nat):Int)=((n/2:Nat):Int):=wrap64 (by omega);have w2:IntKind.wrap .i64 ((n %2:Nat):Int)=((n %2:Nat):Int):=wrap64 (by omega);have w3:IntKind.wrap .i64 (-((n %2:Nat):Int))= -((n %2:Nat):Int):=wrap64 (by omega);have e3:bH .xor .i64 ((n/2:Nat):Int) .i64 (-((n %2:Nat):Int))=some (.int .i64 (if n %2=1 then-((n/2:Nat):Int) -1 else((n/2:Nat):Int))):=by
  have hq:n/2<9223372036854775808:=by omega
  generalize n/2=q at*;have hh:∀y,bH .xor .i64 (q:Int) .i64 y=some (.int .i64 (IntKind.wrap .i64 ((BitVec.ofInt 64 (q:Int)^^^BitVec.ofInt 64 y:BitVec 64).toNat:Int))):=by intro y;simp only[bH,ne_eq,not_true_eq_false,if_false];rfl
  rw[hh];by_cases hm:n %2=1
  ·rw[if_pos hm,hm]
   have e0:BitVec.ofInt 64 (-((1:Nat):Int))=BitVec.allOnes 64:=by decide
   rw[e0,BitVec.xor_allOnes,BitVec.toNat_not,Ty];congr 2;have:2^64 -1 -((q:Int)%((2^64:Nat):Int)).toNat=18446744073709551615 -q:=by omega
   rw[this];rw[agK];omega
  ·rw[if_neg hm,show n %2=0 by omega]
   have e0:BitVec.ofInt 64 (-((0:Nat):Int))=0#64:=by decide
   rw[e0,BitVec.xor_zero,Ty];congr 2;have:((q:Int)%((2^64:Nat):Int)).toNat=q:=by omega
   rw[this];exact wrap64 (by omega)
 rw[show((18446744073709551615:Nat):Int)=18446744073709551615 by omega]at h;rw[Ku,ak ua.eq_1];generalize n/2=q at*;generalize n %2=b at*;generalize(if b=1 then-(q:Int) -1 else(q:Int))=z at*;simp[-bH,h,e1,e2,e3,w1,w2,w3,bF,tk,cC,ay,bA,aw]
 done
end
end
section
theorem ab0(m:Nat)(q:Nat->Bool):∀l:bq,G7 m q (bW l)=true
 |[]=>rfl
 |c::l=>by show(KI m q [gy c]&&G7 m q (bW l))=true;rw[ab0 m q l];rfl
theorem abC(b:bq)(hl:b.length<=1073741824)(S:St):DF ax nk 27 [bO b] S=some (.ptr S.length 0,S++[eB S.length ⟨b,0,none⟩]):=by
 rw[Mh,ak vq.eq_1];by_cases hb:b=[]
 ·subst hb
  have e:cb 1 [] S .ah (bO [])=some (.ah,[],S):=rfl;have er:eB S.length ⟨[],0,none⟩=.mem [.ah,.int .i64 0,.bP] [] false:=rfl;simp[e,er,dr,aL,aB,aaq,AV.cells,bu,bD,a9,aw,aS,aaC,iE,oP,zK,KI,lt]
  done
 ·have he:=Jl S b hb
  have Ms:¬b.length=0:=by cases b<;>simp at hb⊢
  have Vq:¬bW b=[]:=fun e=>hb ((kN _).1 e);have e:cb 1 [] S .ah (bO b)=some (.sl (.fr 0) 1 (bW b),[some b.length],S):=by unfold cb;rw[he];simp[hb,hl]
  have hp:ct (bW b)=true:=df b;have er:eB S.length ⟨b,0,none⟩=.mem [.sl .none 1 (bW b),.int .i64 0,.bP] [] false:=by simp[eB,dG,Vq,qG]
  simp[e,er,dr,aL,aB,aaq,AV.cells,ab0,bu,bD,a9,aw,aS,aaC,iE,oP,zK,KI,lt,JW]
  done
theorem al1(e:Option (Nat × Nat))(c p:Nat)(S:St):DF ax nk 75 [.sl .none 1 [[qG e],[gr c p]]] S=some (match e with|none=>gr c p|some x=>gr x.1 x.2,S):=by
 have ix0:oa 1 (.sl .none 1 [[qG e],[gr c p]]) (.int .i64 0)=some (.ec .none [qG e] 0):=rfl;have ix1:oa 1 (.sl .none 1 [[qG e],[gr c p]]) (.int .i64 1)=some (.ec .none [gr c p] 0):=rfl;have ll:gj (.sl .none 1 [[qG e],[gr c p]])=some (.int .i64 2):=rfl;have b1:∀c p,du .neq (.iL ff) true (gr c p) .bP=some (.bool true):=fun _ _=>rfl;have b0:du .neq (.iL ff) true .bP .bP=some (.bool false):=rfl;have l1:∀c p,aY S .cell (.ec .none [gr c p] 0)=some (gr c p):=fun _ _=>rfl;have l0:aY S .cell (.ec .none [.bP] 0)=some .bP:=rfl;have wi1:IntKind.wrap .i64 1=1:=rfl;have g1:∀c p,bu (gr c p)=true:=fun _ _=>rfl;have g2:∀c p,bD (gr c p)=gr c p:=fun _ _=>rfl;have g3:∀t c p,a9 t (gr c p)=(gr c p,t):=fun _ _ _=>rfl;have g4:∀c p,aw (gr c p)=true:=fun _ _=>rfl;rw[Rh,ak BZ.eq_1];generalize hA:AV.sl .none 1 [[qG e],[gr c p]]=A at*;simp[ll];rw[ae oe.eq_1];simp;rw[aj,ak oe.eq_1];cases e with
 |some x=>
  simp only[qG]at ix0;simp[ix0,l1,b1,g1,g2,g3,g4]
  done
 |none=>
  simp only[qG]at ix0;simp[ix0,l0,b0,wi1];rw[ae oe.eq_1];simp;rw[aj,ak oe.eq_1];simp[ix1,l1,b1,g1,g2,g3,g4]
  done
section
variable{S:St}{j:Nat}{r:Rd}(hS:S[j]? =some (eB j r))(ho:r.at_<=r.b.length)(hb:r.b.length<=1073741824)
def Rd.adV(r:Rd):Option (Nat × Nat):=if r.at_<r.b.length then(r.fail 2).err else r.err
include hS ho hb in
theorem Y3:DF ax nk 35 [.ptr j 0] S=some (qG r.adV,S):=by
 have h0:=ajo hS;have h1:=Zt hS;have h2:=UG hS;have ll:gj (dG 1 (bW r.b))=some (.int .i64 (r.b.length:Int)):=by
  unfold dG;split
  ·rename_i h
   rw[(kN _).1 h];rfl
  ·show some (AV.int .i64 ((bW r.b).length:Int))=_
   rw[lR]
 have he:=NV hS;have hw:=NR 2 r.at_ S;have hf:=al1 r.err 2 r.at_ S;have mk:ac4 62 (.int .i64 2)=some (.iL 62 (.int .i64 2)):=rfl;rw[Kq,ak tW.eq_1];by_cases h:r.at_<r.b.length
 ·have h':((r.at_:Int)<(r.b.length:Int))=True:=eq_true (by omega)
  have hE:r.adV=(r.fail 2).err:=by unfold Rd.adV;rw[if_pos h]
  simp at hw;have tr:∀c p,aT [] (gr c p)=(gr c p,[]):=fun _ _=>rfl;have fe:e_ 1 [[.bP],[.bP]] [(0,qG r.err),(1,gr 2 r.at_)]=some [[qG r.err],[gr 2 r.at_]]:=by cases r.err<;>rfl
  have ga:bN S (.sl .exact 1 [[qG r.err],[gr 2 r.at_]])=some (.sl .exact 1 [[qG r.err],[gr 2 r.at_]]):=rfl;have gn:norm (.sl .exact 1 [[qG r.err],[gr 2 r.at_]])=.sl .none 1 [[qG r.err],[gr 2 r.at_]]:=rfl;have gl:∀x,cg S (.sl .exact 1 x)=S:=fun _=>rfl;have gu:∀x,bB S S (.sl .exact 1 x)=S:=fun _=>rfl;have g1:∀c p,bu (gr c p)=true:=fun _ _=>rfl;have g2:∀c p,bD (gr c p)=gr c p:=fun _ _=>rfl;have g3:∀t c p,a9 t (gr c p)=(gr c p,t):=fun _ _ _=>rfl;have g4:∀c p,aw (gr c p)=true:=fun _ _=>rfl;rw[hE]
  have hr:qG (r.fail 2).err=(match r.err with|none=>gr 2 r.at_|some x=>gr x.1 x.2):=by
   unfold Rd.fail;cases hx:r.err with
   |none=>rfl
   |some x=>simp only[hx];rfl
  rw[hr];simp[mJ,du,kS,dh,h0,h1,h2,ll,h',hw,tr,fe,ga,gn,gl,gu,hf];cases r.err with
  |none=>simp[tr,g1,g2,g3,g4]
  |some x=>simp[tr,g1,g2,g3,g4]
 ·have h':((r.at_:Int)<(r.b.length:Int))=False:=eq_false (by omega)
  have hE:r.adV=r.err:=by unfold Rd.adV;rw[if_neg h]
  rw[hE];cases hx:r.err with
  |none=>
   rw[hx]at he h2;simp[mJ,du,kS,dh,h0,h1,h2,ll,h',he,qG,bu,bD,a9,aw,aS,aT,cA]
   done
  |some x=>
   rw[hx]at he h2;have tr:aT [] (gr x.1 x.2)=(gr x.1 x.2,[]):=rfl;simp[mJ,du,kS,dh,h0,h1,h2,ll,h',he,qG,tr];simp[gr,bu,bD,a9,aw,aS,ck]
   done
end
end
theorem uu:∀(m n:Nat)(S:St),n<m->n<18446744073709551616->∃r,Wj 1 r (bW (bI n))/\aw r=true/\DF ax nk 109 [.int .u64 (n:Int)] S=some (r,S)
 |0,n,S,h,_=>by omega
 |m+1,n,S,h,hn=>by
  rw[Df,ak oI.eq_1];by_cases h1:n<128
  ·refine⟨.sl .exact 1 [[.int .u8 (n:Int)]],.inr (.inl ?_),rfl, ?_⟩
   ·rw[ZB h1]
    have:(UInt8.ofNat n).toNat=n:=by rw[yA];omega
    simp[bW,gy,this]
   ·have Yt:((n:Int)<128)=True:=eq_true (by omega)
    have w:IntKind.wrap .u8 (n:Int)=(n:Int):=by show(n:Int)%256=_;omega
    simp[Yt,w,bu,bD,a9,aw,ct,ck,aS]
  ·obtain⟨r',a1,a2,a3⟩:=uu m (n/128) S (by omega) (by omega)
   obtain⟨aW,t,b1,b2⟩:=a1.take [];obtain⟨z,e1,e2⟩:=b2.elems S;have hx:g7 1 (.sl .exact 1 [[gy (UInt8.ofNat (n %128+128))]]) ([]++t) [[gy (UInt8.ofNat (n %128+128))]]:=.inr (.inl rfl);have h10:=eN (n:=n/128) (by omega);obtain⟨o2,t2,c1,c2⟩:=hx.alU (xs:=bW (bI (n/128))) (x:=aW) (S:=S) (by simp;omega) ⟨z,e1,e2⟩;obtain⟨r,t3,d1,d2,d3⟩:=c2.res (df (UInt8.ofNat (n %128+128)::bI (n/128)));refine⟨r,by rw[afi h1];exact d2,d3, ?_⟩;have Yt:((n:Int)<128)=False:=eq_false (by omega);have f1:((n:Int).tmod 128)=((n %128:Nat):Int):=by rw[adw (by omega)];omega
   have f2:((n:Int).tdiv 128)=((n/128:Nat):Int):=by rw[Int.tdiv_eq_ediv_of_nonneg (by omega)];omega
   have w1:IntKind.wrap .u8 ((n %128:Nat):Int)=((n %128:Nat):Int):=by show((n %128:Nat):Int)%256=_;omega
   have w2:IntKind.wrap .u8 (((n %128:Nat):Int)+128)=(((UInt8.ofNat (n %128+128)).toNat:Nat):Int):=by show(((n %128:Nat):Int)+128)%256=_;rw[yA];omega
   have w3:IntKind.wrap .u64 ((n/128:Nat):Int)=((n/128:Nat):Int):=by show((n/128:Nat):Int)%18446744073709551616=_;omega
   have nt:=c2.nt;rw[c2.nr]at d1;have nr:=c2.nr;unfold gy at c1;generalize n/128=q at*;generalize UInt8.ofNat (n %128+128)=c at*;generalize n %128=p at*;simp at b1 c1;simp[Yt,f1,f2,w1,w2,w3,a3,b1,c1,nt,nr,d1,d3]
   done
theorem ZH(S:St)(b:bq):∃z,bL S (bO b)=some (z,bW b)/\(bW b≠[]->z=1):=⟨1,by cases b<;>rfl,fun _=>rfl⟩
theorem ab1(b:bq)(S:St)(hl:b.length+10<=1073741824):∃r,Wj 1 r (bW (aM b))/\aw r=true/\DF ax nk 111 [bO b] S=some (r,S):=by
 obtain⟨r',a1,a2,a3⟩:=uu (b.length+1) b.length S (by omega) (by omega);obtain⟨aW,t,b1,b2⟩:=a1.take [];have h10:=eN (n:=b.length) (by omega);obtain⟨o2,t2,c1,c2⟩:=b2.alU (xs:=bW b) (x:=bO b) (S:=S) (by simp;omega) (ZH S b);rw[<-JM]at c2;obtain⟨r,t3,d1,d2,d3⟩:=c2.res (df _);refine⟨r,d2,d3, ?_⟩;have w3:IntKind.wrap .u64 (b.length:Int)=(b.length:Int):=by show(b.length:Int)%18446744073709551616=_;omega
 have nt:=c2.nt;rw[c2.nr]at d1;have nr:=c2.nr;rw[E5,ak qo.eq_1];simp at b1 c1;simp[w3,a3,b1,c1,nt,nr,d1,d3]
 done
theorem Wj.res{r:AV}{es:List (List AV)}(h:Wj 1 r es):∃aW t,aT [] r=(aW,t)/\g7 1 aW t es:=by obtain⟨aW,t,b1,b2⟩:=h.take [];exact⟨aW,t,b1,b2⟩
theorem agL(n:Int)(S:St)(h0: -9223372036854775808<=n)(h1:n<9223372036854775808):∃r,Wj 1 r (bW (wa n))/\aw r=true/\DF ax nk 151 [.int .i64 n] S=some (r,S):=by
 by_cases hn:n<0
 ·have ei:wa n=bI (2*(-(n+1)).toNat+1):=by unfold wa;rw[if_pos hn]
  obtain⟨r',a1,a2,a3⟩:=uu (2*(-(n+1)).toNat+2) (2*(-(n+1)).toNat+1) S (by omega) (by omega);obtain⟨aW,t,b1,b2⟩:=a1.res;obtain⟨r,t3,d1,d2,d3⟩:=b2.res (df _);refine⟨r,by rw[ei];exact d2,d3, ?_⟩;have nt:=b2.nt;rw[b2.nr]at d1;have nr:=b2.nr;have Cr:(n<0)=True:=eq_true hn;have w1:IntKind.wrap .i64 (n+1)=n+1:=wrap64 (by omega);have w2:IntKind.wrap .i64 (-(n+1))= -(n+1):=wrap64 (by omega);have w3:IntKind.wrap .u64 (-(n+1))= -(n+1):=by show(-(n+1))%18446744073709551616=_;omega
  have w4:IntKind.wrap .u64 (2* -(n+1))=2* -(n+1):=by show(2* -(n+1))%18446744073709551616=_;omega
  have w5:IntKind.wrap .u64 (2* -(n+1)+1)=((2*(-(n+1)).toNat+1:Nat):Int):=by show(2* -(n+1)+1)%18446744073709551616=_;omega
  rw[xm,ak nS.eq_1];generalize 2*(-(n+1)).toNat+1=k at*;generalize hq:n+1=q at*;simp[-bH,z7,LX,D0,bF,Cr,hq,w1];generalize hp: -q=p at*;simp[-bH,w2,w3,w4,w5,a3,b1,nt,nr,d1,d3]
  done
 ·have ei:wa n=bI (2*n.toNat):=by unfold wa;rw[if_neg hn]
  obtain⟨r',a1,a2,a3⟩:=uu (2*n.toNat+1) (2*n.toNat) S (by omega) (by omega);obtain⟨aW,t,b1,b2⟩:=a1.res;obtain⟨r,t3,d1,d2,d3⟩:=b2.res (df _);refine⟨r,by rw[ei];exact d2,d3, ?_⟩;have nt:=b2.nt;rw[b2.nr]at d1;have nr:=b2.nr;have Cr:(n<0)=False:=eq_false hn;have w3:IntKind.wrap .u64 n=n:=by show n %18446744073709551616=_;omega
  have w4:IntKind.wrap .u64 (2*n)=((2*n.toNat:Nat):Int):=by show(2*n)%18446744073709551616=_;omega
  rw[xm,ak nS.eq_1];generalize 2*n.toNat=k at*;simp[-bH,z7,LX,D0,bF,Cr,w3,w4,a3,b1,nt,nr,d1,d3]
  done
def mU(aW:AV)(aa:List (Option Nat))(s:bq):Prop:=g7 1 aW aa (bW s)
def J7(r:AV)(s:bq):Prop:=Wj 1 r (bW s)/\aw r=true
theorem mU.call{aW:AV}{aa:List (Option Nat)}{s b:bq}(h:mU aW aa s){r:AV}(hr:J7 r b)(hl:s.length+b.length<=1073741824)(S:St):
 ∃o' t o2 t2,aT aa r=(o',t)/\cb 1 t S aW o'=some (o2,t2,S)/\mU o2 t2 (s++b):=by
 obtain⟨o',t,a1,a2⟩:=hr.1.take aa;obtain⟨z,e1,e2⟩:=a2.elems S;obtain⟨o2,t2,c1,c2⟩:=(g7.more h t).alU (xs:=bW b) (x:=o') (S:=S) (by simp;omega) ⟨z,e1,e2⟩;rw[<-JM]at c2;exact⟨o',aa++t,o2,t2,a1,c1,c2⟩
theorem mU.one{aW:AV}{aa:List (Option Nat)}{s:bq}(h:mU aW aa s)(c:UInt8)(hl:s.length+1<=1073741824)(S:St):
 ∃o2 t2,cb 1 aa S aW (.sl .exact 1 [[.int .u8 (c.toNat:Int)]])=some (o2,t2,S)/\mU o2 t2 (s++[c]):=by
 obtain⟨o2,t2,c1,c2⟩:=g7.app h (xs:=bW [c]) (by simp[bW]) (by simp[bW];omega) .exact S;rw[<-JM]at c2;exact⟨o2,t2,c1,c2⟩
theorem mU.new(c:UInt8)(aa:List (Option Nat)):mU (.sl .exact 1 [[.int .u8 (c.toNat:Int)]]) aa [c]:=.inr (.inl rfl)
theorem mU.fin{aW:AV}{aa:List (Option Nat)}{s:bq}(h:mU aW aa s):∃r t,bu aW=true/\bD aW=aW/\a9 aa aW=(r,t)/\aw r=true/\J7 r s:=by obtain⟨r,t,d1,d2,d3⟩:=g7.res h (df s);rw[g7.nr h]at d1;exact⟨r,t,g7.nt h,g7.nr h,d1,d3,d2,d3⟩
theorem Jn{s:bq}(h:s.length<=1073741824):aaB (.str s)=some (.sl .none 1 (bW s)):=by unfold aaB;simp only;rw[if_pos h];rfl
theorem so(S:St)(es:List (List AV)):bN S (.sl .none 1 es)=some (.sl .none 1 es):=rfl
theorem su(S:St)(es:List (List AV)):cg S (.sl .none 1 es)=S:=rfl
theorem lr(S S':St)(es:List (List AV)):bB S S' (.sl .none 1 es)=S':=rfl
theorem vD(n:Nat)(hn:n<18446744073709551616)(S:St):∃r,J7 r (bI n)/\DF ax nk 109 [.int .u64 (n:Int)] S=some (r,S):=by obtain⟨r,a,b,c⟩:=uu (n+1) n S (by omega) hn;exact⟨r,⟨a,b⟩,c⟩
theorem tj(s:bq)(S:St)(hl:s.length+10<=1073741824):∃r,J7 r (aM s)/\DF ax nk 111 [bO s] S=some (r,S):=by obtain⟨r,a,b,c⟩:=ab1 s S hl;exact⟨r,⟨a,b⟩,c⟩
theorem al3(n:Int)(S:St)(h0: -9223372036854775808<=n)(h1:n<9223372036854775808):∃r,J7 r (wa n)/\DF ax nk 151 [.int .i64 n] S=some (r,S):=by obtain⟨r,a,b,c⟩:=agL n S h0 h1;exact⟨r,⟨a,b⟩,c⟩
theorem Bm{k:Int}(h0:0<=k)(h1:k<256):IntKind.wrap .u8 k=(((UInt8.ofNat k.toNat).toNat:Nat):Int):=by show k %256=_;rw[yA];omega
theorem ab2(v:aX)(hv:v.Of)(h5:v.kind=5->v.parts.length=v.aU.length)(h6:v.kind≠5->v.parts.length=v.ids.length)(S:St)(nb:Nat)
 (hF:∀x∈v.parts,∀S,∃r,J7 r x.bytes/\DF ax nk 110 [.agg x.ai] S=some (r,S)):
 ∀d i(aW:AV)(aa:List (Option Nat))(s:bq),i+d=v.parts.length->mU aW aa s->s.length+(v.b_ i).length+100<=1073741824->
 ∃dH aG,mU dH aG (s++v.b_ i)/\DC ax nk (.loop dJ) ⟨[(1,.ptr S.length 0),(3,aW),(4,.int .i64 (i:Nat))],aa,nb⟩ (S++[.mem v.ai [] false])=some (.exit 1,⟨[(3,dH)],aG,nb⟩,S++[.mem v.ai [] false]):=by
 have hl:=hv.parts;intro d;induction d with
 |zero=>
  intro i aW aa s hi ho hb;have K9:¬i<v.parts.length:=by omega
  have e3:v.parts.drop i=[]:=dV (by omega);have er:v.b_ i=[]:=by unfold aX.b_;rw[e3];split<;>simp[aX.dt,aX.jI]
  refine⟨aW,aa,by rw[er,kH];exact ho, ?_⟩;rw[aj,ak dJ.eq_1];simp[K9]
 |succ d ih=>
  intro i aW aa s hi ho hb;have h3:i<v.parts.length:=by omega
  obtain⟨y,hy,gg⟩:=aE (l:=v.parts) (i:=i) (by omega);have hw:=aV (i:=i) (by omega);obtain⟨ry,ry1,ry2⟩:=hF y (eT hy) (S++[.mem v.ai [] false]);by_cases k5:v.kind=5
  ·obtain⟨a,ha,JY⟩:=aE (l:=v.aU) (i:=i) (by have:=h5 k5;omega)
   have er:v.b_ i=aM a++(y.bytes++v.b_ (i+1)):=by unfold aX.b_;rw[if_pos k5,if_pos k5,aJ ha,aJ hy,aX.dt]
   have lb:(aM a).length+(y.bytes.length+(v.b_ (i+1)).length)=(v.b_ i).length:=by rw[er];simp
   have la:a.length<=(aM a).length:=by unfold aM;simp
   obtain⟨ra,ra1,R9⟩:=tj a (S++[.mem v.ai [] false]) (by omega);obtain⟨o1,t1,o2,t2,a1,a2,a3⟩:=ho.call ra1 (by omega) (S++[.mem v.ai [] false]);obtain⟨o3,t3,o4,t4,b1,b2,b3⟩:=a3.call ry1 (by simp;omega) (S++[.mem v.ai [] false]);obtain⟨dH,aG,JG,hn⟩:=ih (i+1) o4 t4 (s++aM a++y.bytes) (by omega) b3 (by simp;omega);refine⟨dH,aG,by rw[er];simpa using JG, ?_⟩;have bs:=Jn (s:=a) (by omega);rw[aj,ak dJ.eq_1];simp at hw hn a2 b2;simp[h3,gg,k5,ha,bs,so,su,lr,ma,R9,a1,a2,ry2,b1,b2];rw[ae dJ.eq_1];simp[hw,hn]
  ·obtain⟨a,ha,JY⟩:=aE (l:=v.ids) (i:=i) (by have:=h6 k5;omega)
   have hr:=hv.id a (eT ha);have ea:((a.toNat:Nat):Int)=a:=by omega
   have er:v.b_ i=bI a.toNat++(y.bytes++v.b_ (i+1)):=by unfold aX.b_;rw[if_neg k5,if_neg k5,aJ ha,aJ hy,aX.jI]
   have lb:(bI a.toNat).length+(y.bytes.length+(v.b_ (i+1)).length)=(v.b_ i).length:=by rw[er];simp
   obtain⟨ra,ra1,R9⟩:=vD a.toNat (by omega) (S++[.mem v.ai [] false]);rw[ea]at R9;obtain⟨o1,t1,o2,t2,a1,a2,a3⟩:=ho.call ra1 (by omega) (S++[.mem v.ai [] false]);obtain⟨o3,t3,o4,t4,b1,b2,b3⟩:=a3.call ry1 (by simp;omega) (S++[.mem v.ai [] false]);obtain⟨dH,aG,JG,hn⟩:=ih (i+1) o4 t4 (s++bI a.toNat++y.bytes) (by omega) b3 (by simp;omega);refine⟨dH,aG,by rw[er];simpa using JG, ?_⟩;rw[aj,ak dJ.eq_1];simp at hw hn a2 b2;simp[h3,gg,k5,ha,R9,a1,a2,ry2,b1,b2];rw[ae dJ.eq_1];simp[hw,hn]
theorem qx:∀(d:Nat)(v:aX),v.Wf->v.aR d=true->d<=5->∀S,∃r,J7 r v.bytes/\DF ax nk 110 [.agg v.ai] S=some (r,S):=by
 intro d;induction d with
 |zero=>intro v _ h;simp[aX.aR]at h
 |succ d ih=>
  intro v hv h hd S;have R:=aX.fa h;have hle:=aX.rR (d+1) v hv h;have h13:13^(d+1)<=13^5:=Xk (by decide) hd;have e13:13^5=371293:=by decide
  have lb:=v.lS;have kr:=R.kind;have wk:=Bm (k:=v.kind) (by omega) (by omega);have ho:=mU.new (UInt8.ofNat v.kind.toNat) [];have hlp:=ab2 v hv.one;rw[E3,ak qn.eq_1];rcases R.kind with k|k|k|k|k|k
  ·have hn:=R.n1 k
   have eb:v.bytes=[UInt8.ofNat v.kind.toNat]++[UInt8.ofNat v.n.toNat]:=by rw[lb,if_pos k];rfl
   have wn:=Bm (k:=v.n) (by omega) (by omega);obtain⟨o2,t2,a1,a2⟩:=ho.one (UInt8.ofNat v.n.toNat) (by simp) (S++[.mem v.ai [] false]);obtain⟨r,t,f1,f2,f3,f4,f5⟩:=a2.fin;refine⟨r,by rw[eb];exact f5, ?_⟩;have wk:IntKind.wrap .u8 1=(((UInt8.ofNat v.kind.toNat).toNat:Nat):Int):=by rw[<-wk,k]
   generalize UInt8.ofNat v.kind.toNat=u at*;generalize UInt8.ofNat v.n.toNat=w at*;simp[wk,wn,k,a1,f1,f2,f3,f4]
  ·have eb:v.bytes=[UInt8.ofNat v.kind.toNat]++wa v.n:=by rw[lb,if_neg (by omega),if_pos k];rfl
   have il:=aeU hv.one.n0 hv.one.n1;obtain⟨rc,rc1,rc2⟩:=al3 v.n (S++[.mem v.ai [] false]) hv.one.n0 hv.one.n1;obtain⟨o1,t1,o2,t2,a0,a1,a2⟩:=ho.call rc1 (by simp;omega) (S++[.mem v.ai [] false]);obtain⟨r,t,f1,f2,f3,f4,f5⟩:=a2.fin;refine⟨r,by rw[eb];exact f5, ?_⟩;have wk:IntKind.wrap .u8 2=(((UInt8.ofNat v.kind.toNat).toNat:Nat):Int):=by rw[<-wk,k]
   generalize UInt8.ofNat v.kind.toNat=u at*;simp[wk,k,rc2,a0,a1,f1,f2,f3,f4]
  ·have eb:v.bytes=[UInt8.ofNat v.kind.toNat]++aM v.s:=by rw[lb,if_neg (by omega),if_neg (by omega),if_pos (.inl k)];rfl
   have sl:=R.s3 k;have il:=iM sl (by omega);have bs:=Jn (s:=v.s) (by omega);obtain⟨rc,rc1,rc2⟩:=tj v.s (S++[.mem v.ai [] false]) (by omega);obtain⟨o1,t1,o2,t2,a0,a1,a2⟩:=ho.call rc1 (by simp;omega) (S++[.mem v.ai [] false]);obtain⟨r,t,f1,f2,f3,f4,f5⟩:=a2.fin;refine⟨r,by rw[eb];exact f5, ?_⟩;have wk:IntKind.wrap .u8 3=(((UInt8.ofNat v.kind.toNat).toNat:Nat):Int):=by rw[<-wk,k]
   generalize UInt8.ofNat v.kind.toNat=u at*;simp[wk,k,bs,so,su,lr,ma,rc2,a0,a1,f1,f2,f3,f4]
  ·have eb:v.bytes=[UInt8.ofNat v.kind.toNat]++aM v.s:=by rw[lb,if_neg (by omega),if_neg (by omega),if_pos (.inr k)];rfl
   have sl:=fN (R.s4 k);have il:=iM sl (by omega);have bs:=Jn (s:=v.s) (by omega);obtain⟨rc,rc1,rc2⟩:=tj v.s (S++[.mem v.ai [] false]) (by omega);obtain⟨o1,t1,o2,t2,a0,a1,a2⟩:=ho.call rc1 (by simp;omega) (S++[.mem v.ai [] false]);obtain⟨r,t,f1,f2,f3,f4,f5⟩:=a2.fin;refine⟨r,by rw[eb];exact f5, ?_⟩;have wk:IntKind.wrap .u8 4=(((UInt8.ofNat v.kind.toNat).toNat:Nat):Int):=by rw[<-wk,k]
   generalize UInt8.ofNat v.kind.toNat=u at*;simp[wk,k,bs,so,su,lr,ma,rc2,a0,a1,f1,f2,f3,f4]
  ·have h5:=R.k5 k
   have er:v.b_ 0=aX.dt v.aU v.parts:=by unfold aX.b_;rw[if_pos k];rfl
   have eb:v.bytes=[UInt8.ofNat v.kind.toNat]++bI v.parts.length++v.b_ 0:=by rw[lb,if_neg (by omega),if_neg (by omega),if_neg (by omega),if_pos k,er];simp
   rw[eb]at hle;simp at hle;have wl:IntKind.wrap .u64 (v.parts.length:Int)=(v.parts.length:Int):=by show(v.parts.length:Int)%18446744073709551616=_;omega
   obtain⟨rc,rc1,rc2⟩:=vD v.parts.length (by omega) (S++[.mem v.ai [] false]);obtain⟨o1,t1,o2,t2,a0,a1,a2⟩:=ho.call rc1 (by simp;omega) (S++[.mem v.ai [] false]);obtain⟨o3,t3,g1,g2⟩:=hlp (fun _=>h5.2.1) (fun g=>absurd k g) S S.length (fun x hx S=>ih x (hv.all x hx) (R.all x hx) (by omega) S) v.parts.length 0 o2 t2 _ (by omega) a2 (by simp;omega);obtain⟨r,t,f1,f2,f3,f4,f5⟩:=g1.fin;refine⟨r,by rw[eb];exact f5, ?_⟩;have wk:IntKind.wrap .u8 5=(((UInt8.ofNat v.kind.toNat).toNat:Nat):Int):=by rw[<-wk,k]
   generalize UInt8.ofNat v.kind.toNat=u at*;simp at g2;simp[wk,wl,k,rc2,a0,a1];rw[ae dJ.eq_1];simp[g2,f1,f2,f3,f4]
  ·have h6:=R.k6 k
   have er:v.b_ 0=aX.jI v.ids v.parts:=by unfold aX.b_;rw[if_neg (by omega)];rfl
   have eb:v.bytes=[UInt8.ofNat v.kind.toNat]++bI v.parts.length++v.b_ 0:=by rw[lb,if_neg (by omega),if_neg (by omega),if_neg (by omega),if_neg (by omega),er];simp
   rw[eb]at hle;simp at hle;have wl:IntKind.wrap .u64 (v.parts.length:Int)=(v.parts.length:Int):=by show(v.parts.length:Int)%18446744073709551616=_;omega
   obtain⟨rc,rc1,rc2⟩:=vD v.parts.length (by omega) (S++[.mem v.ai [] false]);obtain⟨o1,t1,o2,t2,a0,a1,a2⟩:=ho.call rc1 (by simp;omega) (S++[.mem v.ai [] false]);obtain⟨o3,t3,g1,g2⟩:=hlp (fun g=>by omega) (fun _=>h6.2.1) S S.length (fun x hx S=>ih x (hv.all x hx) (R.all x hx) (by omega) S) v.parts.length 0 o2 t2 _ (by omega) a2 (by simp;omega);obtain⟨r,t,f1,f2,f3,f4,f5⟩:=g1.fin;refine⟨r,by rw[eb];exact f5, ?_⟩;have wk:IntKind.wrap .u8 6=(((UInt8.ofNat v.kind.toNat).toNat:Nat):Int):=by rw[<-wk,k]
   generalize UInt8.ofNat v.kind.toNat=u at*;simp at g2;simp[wk,wl,k,rc2,a0,a1];rw[ae dJ.eq_1];simp[g2,f1,f2,f3,f4]
section
theorem alF{S:St}{j:Nat}{aW b:bq}{x:AV}(hS:S[j]? =some (ej j aW))(hl:aW.length+b.length<=1073741824)(hb:b≠[])(he:bL S x=some (1,bW b)):
 ∃v1 t1 S1 t2,cb 1 [] S (bk j 0 1 (bW aW)) x=some (v1,t1,S1)/\∀nb,bg t1 nb S1 1 (.ptr j 0) v1=some (t2,S.set j (ej j (aW++b))):=by
 have hj:=(fI.1 hS).1;by_cases ho:aW=[]
 ·subst ho
  refine⟨.sl (.fr 0) 1 (bW b),[some b.length],S,[none], ?_,fun nb=>?_⟩
  ·have:b.length<=1073741824:=by simp at hl;exact hl
   have r0:bk j 0 1 (bW [])=.ah:=rfl;rw[r0];unfold cb;rw[he];simp[hb,this]
  ·have hp:ct (bW b)=true:=df b
   have Vq:¬bW b=[]:=fun e=>hb ((kN _).1 e);unfold bg;simp only[hS,ej];simp[bk,Vq,hb,aaq,AV.cells,aB,aS,hp,dU,aL]
 ·have Vq:¬bW aW=[]:=fun e=>ho ((kN _).1 e)
  have hp:ct (bW (aW++b))=true:=df _;have cV:¬(1073741824<aW.length+b.length):=by omega
  refine⟨.sl (.bx j 0) 1 (bW (aW++b)),[],S.set j (.mem [bk j 0 1 (bW aW)] [some (aW++b).length] false),[], ?_,fun nb=>?_⟩
  ·unfold cb
   rw[he];simp only[ej,if_neg ho]at hS;simp[bk,Vq,hb,hS,cV]
  ·unfold bg
   simp only[qK hj,ej];rw[JM]at hp;have apo:¬(bW aW=[]/\bW b=[]):=fun e=>Vq e.1;simp[bk,apo,ho,aaq,AV.cells,aB,aS,hp,dU,aL]
theorem vI{S:St}{j:Nat}{aW:bq}(hS:S[j]? =some (ej j aW))(b:bq)(hb:b≠[])(i:Nat)(hl:aW.length+b.length<=1073741824):DF ax nk 47 [.ptr j 0,.sl (.mz i) 1 (J6 b)] S=some (.cT [],S.set j (ej j (aW++b))):=by
 rw[yE,ak oV.eq_1];obtain⟨v1,t1,S1,t2,h1,h2⟩:=alF (x:=.sl (.mz i) 1 (J6 b)) hS hl hb rfl;have Od:aY S .cell (.ptr j 0)=some (bk j 0 1 (bW aW)):=by rw[bd hS];rfl
 have htk:(S.set j (ej j (aW++b))).take S.length=S.set j (ej j (aW++b)):=gO (by simp);simp[Od,h1,h2,dh,htk,cC,ay,bA,aw]
theorem D6{S:St}{i off n c:Nat}{cs:List AV}{x:List UInt8}{bt:List (Option Nat)}{b:Bool}(h:S[i]? =some (.mem cs bt b))(hc:sub cs off n=aK x)(hx:x.length=n)(hle:off+n<=cs.length):bN S (.aref i off n c 1)=some (.sl (.mz i) 1 (J6 x)):=by
 have hs:∀k,k<n->cs[off+k]? =(aK x)[k]? :=fun k hk=>by rw[<-hc];unfold sub;rw[WH hk,MF]
 have:(List.range n).map (fun k=>(sub cs (off+k*1) 1).map am.aB)=J6 x:=by
  refine K3 fun j=>?_;rw[gx,ae2];rcases iI j n with h1|h1
  ·obtain⟨a,ha,JY⟩:=aE (l:=x) (i:=j) (by omega)
   rw[Fl h1,ha];have hk:=hs j h1;have e1:(aK x)[j]? =some (gy a):=by simp[aK,ha]
   rw[e1]at hk;simp only[qJ,sub,BI];rw[aJ hk];rfl
  ·rw[kR (by simpa using h1),kR (by omega)]
   rfl
 simp only[bN,bL,h,this];rw[if_pos ⟨by omega,by omega⟩];rfl
theorem CW{S:St}{i off n c:Nat}{cs:List AV}{x:List UInt8}{bt:List (Option Nat)}{b:Bool}(h:S[i]? =some (.mem cs bt b))(hc:sub cs off n=aK x)(hx:x.length=n)(hle:off+n<=cs.length):bL S (.aref i off n c 1)=some (1,bW x):=by
 have:=D6 (c:=c) h hc hx hle;simp only[bN,cx]at this;obtain⟨⟨a,b⟩,h1,h2⟩:=this;rw[h1];simp at h2;have h3:a=1:=by simp only[bL,h]at h1;split at h1<;>simp at h1;exact h1.1.symm
 rw[h3,h2];rfl
theorem YX{l a b c:List AV}{off n:Nat}(hl:l=a++(b++c))(ha:a.length=off)(hb:b.length=n):sub l off n=b:=by subst hl;unfold sub;rw[List.drop_left' ha,Fu hb]
section
variable{e:aaf}(A:e.Ok)
include A
theorem aaf.s1:sub e.ai 1 32=aK e.aP:=YX (a:=[.int .i64 e.kind]) (c:=pG e.az::(e.op.ai++(e.lens.ai++(aK e.key++aK e.sig)))) (by simp[aaf.ai]) rfl (by simp[A.aP])
theorem aaf.Xw:sub e.ai 64 32=aK e.key:=YX (a:=.int .i64 e.kind::(aK e.aP++(pG e.az::(e.op.ai++e.lens.ai)))) (c:=aK e.sig) (by simp[aaf.ai]) (by simp[A.aP]) (by simp[A.key])
theorem aaf.s96:sub e.ai 96 64=aK e.sig:=YX (a:=.int .i64 e.kind::(aK e.aP++(pG e.az::(e.op.ai++(e.lens.ai++aK e.key))))) (c:=[]) (by simp[aaf.ai]) (by simp[A.aP,A.key]) (by simp[A.sig])
end
def DE(S:St)(e:aaf)(l:Bool)(aW:bq)(G:List cF):St:=S++(.mem e.ai [] l::ej (S.length+1) aW::G)
theorem K7(S:St)(e:aaf)(l:Bool)(aW:bq)(G:List cF):(DE S e l aW G)[S.length+1]? =some (ej (S.length+1) aW):=get_at S _ 1
theorem abv(S:St)(e:aaf)(l:Bool)(aW:bq)(G:List cF):(DE S e l aW G)[S.length]? =some (.mem e.ai [] l):=by have:=get_at S (.mem e.ai [] l::ej (S.length+1) aW::G) 0;rw[sR]at this;exact this
theorem aiI(S:St)(e:aaf)(l:Bool)(aW:bq)(G:List cF)(k:Nat):(DE S e l aW G)[S.length+(k+2)]? =G[k]? :=get_at S _ (k+2)
theorem wj(S:St)(e:aaf)(l:Bool)(aW dH:bq)(G:List cF):(DE S e l aW G).set (S.length+1) (ej (S.length+1) dH)=DE S e l dH G:=qW S _ 1 _
theorem abw(S:St)(e:aaf)(l l':Bool)(aW:bq)(G:List cF):(DE S e l aW G).set S.length (.mem e.ai [] l')=DE S e l' aW G:=by have:=qW S (.mem e.ai [] l::ej (S.length+1) aW::G) 0 (.mem e.ai [] l');rw[sR]at this;exact this
theorem abx(S:St)(e:aaf)(l:Bool)(aW:bq)(G:List cF)(b b':cF):(DE S e l aW (G++[b])).set (S.length+(G.length+2)) b'=DE S e l aW (G++[b']):=by have:=qW S (.mem e.ai [] l::ej (S.length+1) aW::(G++[b])) (G.length+2) b';refine this.trans ?_;unfold DE;simp
theorem ae3(S:St)(e:aaf)(l:Bool)(aW:bq)(G:List cF):(DE S e l aW G).length=S.length+(G.length+2):=by simp[DE]
theorem YY(S:St)(e:aaf)(l:Bool)(aW:bq)(G H:List cF):DE S e l aW G++H=DE S e l aW (G++H):=by simp[DE]
theorem aiJ(S:St)(e:aaf)(l:Bool)(aW:bq)(G:List cF):(DE S e l aW G).take S.length=S:=Fu rfl
theorem HQ(S:St)(e:aaf)(l:Bool)(aW:bq)(G:List cF)(sh:Sh)(off:Nat):aY (DE S e l aW G) sh (.ptr S.length off)=fC sh e.ai off:=bd (abv ..) sh off
theorem aiK(S:St)(e:aaf)(aW:bq)(G:List cF)(off n c z:Nat):cg (DE S e false aW G) (.aref S.length off n c z)=DE S e true aW G:=by unfold cg;simp only[na,abv,abw]
theorem adS(S:St)(e:aaf)(aW dH:bq)(G:List cF)(off n c z:Nat):bB (DE S e false aW G) (DE S e true dH G) (.aref S.length off n c z)=DE S e false dH G:=by unfold bB;simp only[na,abv,abw]
theorem agu(S:St)(e:aaf)(aW:bq)(G:List cF)(cs:List AV)(off n c z:Nat):cg (DE S e false aW (G++[.mem cs [] false])) (.aref (S.length+(G.length+2)) off n c z)=DE S e false aW (G++[.mem cs [] true]):=by unfold cg;simp only[na,aiI,abx,oR (eJ _),Nat.sub_self,v_]
theorem aby(S:St)(e:aaf)(aW dH:bq)(G:List cF)(cs:List AV)(off n c z:Nat):bB (DE S e false aW (G++[.mem cs [] false])) (DE S e false dH (G++[.mem cs [] true])) (.aref (S.length+(G.length+2)) off n c z)=DE S e false dH (G++[.mem cs [] false]):=by unfold bB;simp only[na,aiI,abx,oR (eJ _),Nat.sub_self,v_]
theorem awY(S:St)(i o:Nat):cg S (.ptr i o)=S:=rfl
theorem awZ(S S':St)(i o:Nat):bB S S' (.ptr i o)=S':=rfl
def aaf.part(e:aaf):bq:=if e.kind=1 then wm e.op else e.lens.bytes
def aaf.od(e:aaf):bq:=UInt8.ofNat e.kind.toNat::(e.aP++(bI e.az.length++(e.az.flatten++(e.part++e.key))))
theorem YZ(e:aaf)(he:e.Wf)(h4:e.az.length<=4)(S:St):∀d i(G:List cF)(aW:bq),i+d=e.az.length->aW.length+32*d<=1000->
 ∃G',DC ax nk (.loop i_) ⟨[(1,.ptr S.length 0),(4,.ptr (S.length+1) 0),(23,pG e.az),(24,.int .i64 (e.az.length:Int)),(25,.int .i64 (i:Nat))],[],S.length⟩ (DE S e false aW G)=
  some (.exit 0,⟨[(1,.ptr S.length 0),(4,.ptr (S.length+1) 0)],[],S.length⟩,DE S e false (aW++(e.az.drop i).flatten) G'):=by
 have A:=he.toOk;intro d;induction d with
 |zero=>
  intro i G aW hi ho;have h5:¬i<e.az.length:=by omega
  have e3:e.az.drop i=[]:=dV (by omega);refine⟨G, ?_⟩;rw[aj,ak i_.eq_1,e3];simp[h5]
 |succ d ih=>
  intro i G aW hi ho;have h3:i<e.az.length:=by omega
  obtain⟨y,hy,gg⟩:=aE (l:=e.az) (i:=i) (by omega);have hw:=aV (i:=i) (by omega);have Vr:=A.az y (eT hy);have yn:y≠[]:=by intro h;rw[h]at Vr;simp at Vr
  obtain⟨G',n1⟩:=ih (i+1) (G++[.mem (aK y) [] false]) (aW++y) (by omega) (by simp[Vr];omega);refine⟨G', ?_⟩;rw[aj,ak i_.eq_1,aJ hy,P5,<-fB];have st:bg [] S.length (DE S e false aW (G++[.mem aD [] false])) 32 (.ptr (S.length+(G.length+2)) 0) (.agg (aK y))=some ([],DE S e false aW (G++[.mem (aK y) [] false])):=by rw[<-YY,<-YY,<-ae3 S e false aW G,mS (jE (cH y))];simp[AV.cells,Vr,bX]
  have gv:=fun l=>D6 (S:=DE S e false aW (G++[.mem (aK y) [] l])) (i:=S.length+(G.length+2)) (off:=0) (n:=32) (c:=32) (cs:=aK y) (x:=y) (bt:=[]) (b:=l) (by rw[aiI];simp) (by unfold sub;simp;exact gO (by simp[Vr])) Vr (by simp[Vr]);have cr:=vI (K7 S e false aW (G++[.mem (aK y) [] true])) y yn (S.length+(G.length+2)) (by omega);rw[wj]at cr;have lk:=agu S e aW G (aK y) 0 32 32 1;have ul:=aby S e aW (aW++y) G (aK y) 0 32 32 1;have n0:∀i(z:List UInt8),norm (.sl (.mz i) 1 (J6 z))=.sl (.mz i) 1 (J6 z):=fun _ _=>rfl;simp at hw n1;simp[h3,gg,Vr,YY,ae3,st,xD,gv,dW,dj,lk,ul,n0,cr,b8];rw[ae i_.eq_1];simp[hw,n1]
theorem JN(b:Bool)(s:bq)(hs:s≠[]):aT [] (xJ b s)=if b=true then(if 4096<s.length then(.cT [.ah,A0 3],[])else(.cT [.sl (.fr 0) 1 (bW s),.bP],[some s.length]))else(.cT [.ah,A0 1],[]):=by
 unfold xJ;split
 ·split
  ·exact abz 3 []
  ·rw[sc hs];exact vj s
 ·exact abz 1 []
theorem OT{e:aaf}(A:e.Ok):e.az.flatten.length=32*e.az.length:=by
 have key:∀l:List bq,(∀p∈l,p.length=32)->l.flatten.length=32*l.length:=by
  intro l;induction l with
  |nil=>intro _;rfl
  |cons a r ih=>
   intro h;rw[P5,gP,ih (fun p hp=>h p (Yp _ hp)),h a (adg ..),jC];omega
 exact key _ A.az
def aaf.preB(e:aaf):bq:=UInt8.ofNat e.kind.toNat::(e.aP++(bI e.az.length++e.az.flatten))
theorem aaf.TM(e:aaf):e.od=e.preB++(e.part++e.key):=by simp[aaf.od,aaf.preB]
theorem aaf.alG(e:aaf):e.part≠[]:=by
 unfold aaf.part;split;·exact TN _
 ·exact bn.gp _
theorem Y0(e:aaf)(he:e.Wf)(hs:e.cO=true)(S:St):∃aW,aW≠[]/\DF ax nk 19 [.agg e.ai] S=some (.cT [.sl .fresh 1 (bW aW),.bool (decide (e.od.length+64<=4096))],S)/\(e.od.length+64<=4096->aW=e.od):=by
 have A:=he.toOk;unfold aaf.cO at hs;simp only[dk,P1,decide_eq_true_eq]at hs;obtain⟨⟨h4,hri⟩,hk⟩:=hs;have kr:e.kind=1\/e.kind=2:=by rcases hk with h|h;exact .inl h.1;exact .inr h.1
 have AX:=OT A;have hnl:(bI e.az.length).length=1:=by
  have:e.az.length<128:=by omega
  rw[bI,if_pos this];rfl
 have Fw:=A.aP;have LY:=A.key;have vn:e.aP≠[]:=by intro h;rw[h]at Fw;simp at Fw
 have kn:e.key≠[]:=by intro h;rw[h]at LY;simp at LY
 have prl:e.preB.length=34+32*e.az.length:=by simp only[aaf.preB,jC,gP,Fw,hnl,AX];omega
 have bl:e.od.length=66+32*e.az.length+e.part.length:=by rw[aaf.TM,gP,gP,prl,LY];omega
 have VO:=Bm (k:=e.kind) (by omega) (by omega);have n0:∀i(z:List UInt8),norm (.sl (.mz i) 1 (J6 z))=.sl (.mz i) 1 (J6 z):=fun _ _=>rfl;have w0:S++[.mem e.ai [] false,.mem [.ah] [] false]=DE S e false [] []:=rfl;have c1:=rS (K7 S e false [] []) (UInt8.ofNat e.kind.toNat) (by simp);rw[wj]at c1;have gv:∀aW G l,bN (DE S e l aW G) (.aref S.length 1 32 32 1)=some (.sl (.mz S.length) 1 (J6 e.aP)):=fun aW G l=>D6 (abv ..) (aaf.s1 A) Fw (by simp[A]);have gk:∀aW G l,bN (DE S e l aW G) (.aref S.length 64 32 32 1)=some (.sl (.mz S.length) 1 (J6 e.key)):=fun aW G l=>D6 (abv ..) (aaf.Xw A) LY (by simp[A]);have c2:=vI (K7 S e true [UInt8.ofNat e.kind.toNat] []) e.aP vn S.length (by simp[Fw]);rw[wj]at c2;have c3:=dR (K7 S e false ([UInt8.ofNat e.kind.toNat]++e.aP) []) (n:=e.az.length) (by omega) (by simp[Fw]);rw[wj]at c3;have pe:[UInt8.ofNat e.kind.toNat]++e.aP++bI e.az.length++e.az.flatten=e.preB:=by simp[aaf.preB]
 obtain⟨G,c4⟩:=YZ e he h4 S e.az.length 0 [] ([UInt8.ofNat e.kind.toNat]++e.aP++bI e.az.length) (by omega) (by simp[Fw,hnl];omega);rw[jS,pe]at c4;have lkE:=fun aW G=>aiK S e aW G;have ulE:=fun aW dH G=>adS S e aW dH G;have hw:IntKind.wrap .u64 (e.az.length:Int)=(e.az.length:Int):=by show(e.az.length:Int)%18446744073709551616=_;omega
 have b1:du .eql (.iL ff) true .bP .bP=some (.bool true):=rfl;have b3:du .eql (.iL ff) true (.iL 62 (.int .i64 3)) .bP=some (.bool false):=rfl;have e3:A0 3=.iL 62 (.int .i64 3):=rfl;have ae4:(e.kind=1/\Oe e.op=true/\e.part=wm e.op)\/(e.kind=2/\e.lens.aR 5=true/\e.part=e.lens.bytes):=by
  rcases hk with⟨h1,h2,_⟩|⟨h1,h2,_⟩;·exact .inl ⟨h1,h2,by unfold aaf.part;rw[if_pos h1]⟩
  ·exact .inr ⟨h1,h2,by unfold aaf.part;rw[if_neg (by omega)]⟩
 have pn:=aaf.alG e;have np:norm (.sl .none 1 (bW e.part))=bO e.part:=by
  cases h:e.part with
  |nil=>exact absurd h pn
  |cons a r=>rfl
 have n1:norm .ah=bO []:=rfl;have gn:∀S,bN S .ah=some .ah:=fun _=>rfl;have ln:∀S,cg S .ah=S:=fun _=>rfl;have un:∀S S',bB S S' .ah=S':=fun _ _=>rfl;have gf:∀S k es,bN S (.sl (.fr k) 1 es)=some (.sl .none 1 es):=fun _ _ _=>rfl;have lf:∀S k es,cg S (.sl (.fr k) 1 es)=S:=fun _ _ _=>rfl;have uf:∀S S' k es,bB S S' (.sl (.fr k) 1 es)=S':=fun _ _ _ _=>rfl;have rs:∀aa k aW b,aa[k]? =some (some aW.length)->cC 19 aa [.sl (.fr k) 1 (bW aW),.bool b] S (DE S e false aW G)=some (.cT [.sl .fresh 1 (bW aW),.bool b],S):=fun aa k aW b ho=>by have g:=vg aa k 1 (bW aW) (by simpa using ho);have gb:∀t b,a9 t (.bool b)=(.bool b,t):=fun _ _=>rfl;have n1:bD (.sl (.fr k) 1 (bW aW))=.sl (.fr k) 1 (bW aW):=rfl;have n2:bD (.bool b)=.bool b:=rfl;rw[z5,n1,n2,g,gb];simp[bu,aw,df,aiJ,aS]
 by_cases Bn:4096<e.part.length
 ·have hf:decide (e.od.length+64<=4096)=false:=decide_eq_false (by omega)
  refine⟨e.preB++e.key,by simp[aaf.preB], ?_,fun h=>absurd h (by omega)⟩;rw[hf];have c6:=iG (K7 S e false e.preB G) [] (by simp[prl];omega);rw[wj,kH]at c6;have c7:=vI (K7 S e true e.preB G) e.key kn S.length (by simp[prl,LY];omega);rw[wj]at c7;have c8:=qB (K7 S e false (e.preB++e.key) G) (by simp[prl,LY];omega);rw[if_neg (by simp[aaf.preB])]at c8;have tkO:=HR (e.preB++e.key);have rs:=rs [some (e.preB++e.key).length] 0 (e.preB++e.key) false rfl;have aiL:True:=trivial;rw[HT,ak zx.eq_1];rcases ae4 with⟨k,hr,ep⟩|⟨k,hr,ep⟩
  ·have c5:=Qh e.op he.op (DE S e false e.preB G)
   have tk:=JN (Oe e.op) (wm e.op) (TN _);rw[if_pos hr,<-ep,if_pos Bn,e3]at tk;rw[<-ep]at c5;simp only[k]at VO c1 c2 c3 c4⊢;generalize UInt8.ofNat (1:Int).toNat=u at*;simp at c1 c2 c3 c4 c7 c8 tkO rs;simp[A,k,w0,VO,c1,HQ,xD,gv,dW,dj,lkE,ulE,n0,c2,c3,hw,b8];rw[ae i_.eq_1];simp[c4,A,k,HQ,c5,tk,n1,gn,ln,un,c6,b8,gk,lkE,ulE,dW,dj,xD,n0,c7,c8,tkO,b3,rs]
  ·have c5:=K8 e.lens he.lens (DE S e false e.preB G)
   have tk:=JN (e.lens.aR 5) e.lens.bytes (bn.gp _);rw[if_pos hr,<-ep,if_pos Bn,e3]at tk;rw[<-ep]at c5;simp only[k]at VO c1 c2 c3 c4⊢;generalize UInt8.ofNat (2:Int).toNat=u at*;simp at c1 c2 c3 c4 c7 c8 tkO rs;simp[A,k,w0,VO,c1,HQ,xD,gv,dW,dj,lkE,ulE,n0,c2,c3,hw,b8];rw[ae i_.eq_1];simp[c4,A,k,HQ,c5,tk,n1,gn,ln,un,c6,b8,gk,lkE,ulE,dW,dj,xD,n0,c7,c8,tkO,b3,rs]
 ·rw[aaf.TM]
  refine⟨e.preB++(e.part++e.key),by simp[aaf.preB], ?_,fun _=>rfl⟩;have c6:=iG (K7 S e false e.preB G) e.part (by simp[prl];omega);rw[wj]at c6;have c7:=vI (K7 S e true (e.preB++e.part) G) e.key kn S.length (by simp[prl,LY];omega);rw[wj,fB]at c7;have c8:=qB (K7 S e false (e.preB++(e.part++e.key)) G) (by simp[prl,LY];omega);rw[if_neg (by simp[aaf.preB])]at c8;have tkO:=Qi e.part (e.preB++(e.part++e.key));have rs:=fun b=>rs [some e.part.length,some (e.preB++(e.part++e.key)).length] 1 (e.preB++(e.part++e.key)) b rfl;have hl:(e.preB++(e.part++e.key)).length=e.od.length:=by rw[aaf.TM]
  have aiL:IntKind.wrap .i64 (((e.preB++(e.part++e.key)).length:Int)+64)=(((e.preB++(e.part++e.key)).length+64:Nat):Int):=by rw[wrap64 (by omega)];omega
  generalize hO:e.preB++(e.part++e.key)=O at*;have ae5:decide (((O.length+64:Nat):Int)<=4096)=decide (O.length+64<=4096):=by rw[decide_eq_decide];omega
  rw[HT,ak zx.eq_1];rcases ae4 with⟨k,hr,ep⟩|⟨k,hr,ep⟩
  ·have c5:=Qh e.op he.op (DE S e false e.preB G)
   have tk:=JN (Oe e.op) (wm e.op) (TN _);rw[if_pos hr,<-ep,if_neg Bn]at tk;rw[<-ep]at c5;simp only[k]at VO c1 c2 c3 c4⊢;generalize UInt8.ofNat (1:Int).toNat=u at*;simp at c1 c2 c3 c4 c7 c8 tkO aiL ae5;simp[A,k,w0,VO,c1,HQ,xD,gv,dW,dj,lkE,ulE,n0,c2,c3,hw,b8];rw[ae i_.eq_1];simp[c4,A,k,HQ,c5,tk,gf,lf,uf,np,c6,b8,gk,lkE,ulE,dW,dj,xD,n0,c7,c8,tkO,b1,gj,aiL,ae5,rs]
  ·have c5:=K8 e.lens he.lens (DE S e false e.preB G)
   have tk:=JN (e.lens.aR 5) e.lens.bytes (bn.gp _);rw[if_pos hr,<-ep,if_neg Bn]at tk;rw[<-ep]at c5;simp only[k]at VO c1 c2 c3 c4⊢;generalize UInt8.ofNat (2:Int).toNat=u at*;simp at c1 c2 c3 c4 c7 c8 tkO aiL ae5;simp[A,k,w0,VO,c1,HQ,xD,gv,dW,dj,lkE,ulE,n0,c2,c3,hw,b8];rw[ae i_.eq_1];simp[c4,A,k,HQ,c5,tk,gf,lf,uf,np,c6,b8,gk,lkE,ulE,dW,dj,xD,n0,c7,c8,tkO,b1,gj,aiL,ae5,rs]
end
def aaf.bytes(e:aaf):bq:=e.od++e.sig
theorem aaf.agv{e:aaf}(A:e.Ok):e.bytes.length=e.od.length+64:=by simp[aaf.bytes,A.sig]
theorem aaf.gp(e:aaf):e.bytes≠[]:=by unfold aaf.bytes aaf.od;simp
theorem HU(e:aaf)(he:e.Wf)(S:St):DF ax nk 6 [.agg e.ai] S=some (xJ e.cO e.bytes,S):=by
 have A:=he.toOk;have c1:=VN e he (S++[.mem e.ai [] false]);have e1:A0 1=.iL 62 (.int .i64 1):=rfl;have e3:A0 3=.iL 62 (.int .i64 3):=rfl;rw[OU,ak Ac.eq_1];rcases(show e.cO=false\/e.cO=true by cases e.cO<;>simp)with hs|hs
 ·rw[hs]at c1⊢
  simp[A,c1,bF,xJ,e1,bu,z5,bD,a9,aw,aS]
 rw[hs]at c1⊢;obtain⟨aW,ho,c2,apc⟩:=Y0 e he hs (S++[.mem e.ai [] false]);have bl:=aaf.agv A;have tk:∀b,aT [] (.cT [.sl .fresh 1 (bW aW),.bool b])=(.cT [.sl (.fr 0) 1 (bW aW),.bool b],[some aW.length]):=fun b=>by have:=aiM aW (.bool b) (fun _=>rfl);exact this
 by_cases hl:e.od.length+64<=4096
 ·have eo:=apc hl
  have hd:decide (e.od.length+64<=4096)=true:=decide_eq_true hl;rw[hd,eo]at c2;rw[eo]at tk;have el:bL (S++[.mem e.ai [] false]) (.aref S.length 96 64 64 1)=some (1,bW e.sig):=CW (x:=e.sig) (bt:=[]) (b:=false) (by simp) (aaf.s96 A) A.sig (by simp[A]);have sn:e.sig≠[]:=by intro h;have:=A.sig;rw[h]at this;simp at this
  have ap:cb 1 [some e.od.length] (S++[.mem e.ai [] false]) (.sl (.fr 0) 1 (bW e.od)) (.aref S.length 96 64 64 1)=some (.sl (.fr 0) 1 (bW e.bytes),[some e.bytes.length],S++[.mem e.ai [] false]):=by
   have hb:¬(1073741824<e.od.length+e.sig.length):=by rw[A.sig];omega
   unfold cb;rw[el];simp[sn,hb,aaf.bytes]
  have g:=vg [some e.bytes.length] 0 1 (bW e.bytes) (by simp);have rs:cC 6 [some e.bytes.length] [.sl (.fr 0) 1 (bW e.bytes),.bP] S (S++[.mem e.ai [] false])=some (.cT [.sl .fresh 1 (bW e.bytes),.bP],S):=by have n1:bD (.sl (.fr 0) 1 (bW e.bytes))=.sl (.fr 0) 1 (bW e.bytes):=rfl;have gb:∀t,a9 t .bP=(.bP,t):=fun _=>rfl;have n2:bD .bP=.bP:=rfl;rw[z5,n1,n2,g,gb];simp[bu,aw,df,aS]
  rw[RU rfl e.gp,if_neg (by omega)];simp at tk ap rs;simp[A,c1,bF,c2,tk,xD,ap,rs]
 ·have hd:decide (e.od.length+64<=4096)=false:=decide_eq_false hl
  rw[hd]at c2;rw[RU rfl e.gp,if_pos (by omega)];simp[A,c1,bF,c2,tk,bu,z5,bD,a9,aw,aS]
theorem VP(e:aaf)(he:e.Wf)(S:St):DF ax nk 9 [.agg e.ai] S=some (.bool (e.cO&&decide (e.bytes.length<=4096)),S):=by
 have A:=he.toOk;have c1:=HU e he (S++[.mem e.ai [] false]);have tk:=JN e.cO e.bytes e.gp;have e1:A0 1=.iL 62 (.int .i64 1):=rfl;have e3:A0 3=.iL 62 (.int .i64 3):=rfl;have b1:du .eql (.iL ff) true .bP .bP=some (.bool true):=rfl;have b3:∀n,du .eql (.iL ff) true (.iL 62 (.int .i64 n)) .bP=some (.bool false):=fun _=>rfl;rw[QR,ak BR.eq_1];rcases(show e.cO=false\/e.cO=true by cases e.cO<;>simp)with hs|hs
 ·rw[hs]at c1 tk⊢
  rw[if_neg (by simp),e1]at tk;simp[A,c1,tk,b3]
 rw[hs]at c1 tk⊢;rw[if_pos rfl]at tk;by_cases hl:e.bytes.length<=4096
 ·rw[if_neg (by omega)]at tk
  simp[A,c1,tk,b1,hl]
 ·rw[if_pos (by omega),e3]at tk
  simp[A,c1,tk,b3,hl]
section
structure po(r:Rd)(u:bq):Prop where
 he:r.err=none
 hb:r.b.length<=1073741824
 ho:r.at_<=r.b.length
 hl:r.left=u
theorem po.go{r:Rd}{a u:bq}(h:po r (a++u)):po (r.go a.length) u:=by
 refine⟨h.he,h.hb, ?_,Rd.ajl h.hl⟩;have:=h.hl;have h2:r.left.length=a.length+u.length:=by rw[this];simp
 unfold Rd.left at h2;rw[Cz]at h2;have:=h.ho;simp only[Rd.go];omega
theorem po.go1{r:Rd}{c:UInt8}{u:bq}(h:po r (c::u)):po (r.go 1) u:=po.go (a:=[c]) h
theorem ajK{S:St}{j:Nat}{r:Rd}(hS:S[j]? =some (eB j r))(r':Rd)(l:List cF):(S.set j (eB j r')++l)[j]? =some (eB j r'):=by have hj:=(fI.1 hS).1;exact cd l (by simp[hj])
theorem L3{S:St}{j:Nat}{r:Rd}(hS:S[j]? =some (eB j r))(r':Rd):(S.set j (eB j r'))[j]? =some (eB j r'):=by have hj:=(fI.1 hS).1;simp[hj]
section
variable{S:St}{j:Nat}{r:Rd}(hS:S[j]? =some (eB j r))
include hS
theorem Nc{c:UInt8}{u:bq}(h:po r (c::u)):DF ax nk 28 [.ptr j 0] S=some (.int .u8 (c.toNat:Int),S.set j (eB j (r.go 1))):=by rw[Wm hS h.ho (by have:=h.hb;omega),Rd.alW h.he h.hl]
theorem al_{b:Bool}{u:bq}(h:po r ((if b=true then 1 else 0)::u)):DF ax nk 153 [.ptr j 0] S=some (.bool b,S.set j (eB j (r.go 1))):=by
 have e:r.bool=(b,r.go 1):=by
  unfold Rd.bool;rw[h.he];simp only[h.hl];cases b;·rfl
  ·rfl
 rw[Wo hS h.ho (by have:=h.hb;omega),e]
theorem k_{n:Nat}{u:bq}(hn:n<18446744073709551616)(h:po r (bI n++u)):DF ax nk 69 [.ptr j 0,.int .u64 18446744073709551615] S=some (.int .u64 (n:Int),S.set j (eB j (r.go (bI n).length))):=by have:=FN hS h.ho (by have:=h.hb;omega) 18446744073709551615;rw[Rd.Pu h.he hn h.hl (by omega)]at this;exact this
theorem ap0{n:Int}{u:bq}(h0: -9223372036854775808<=n)(h1:n<9223372036854775808)(h:po r (wa n++u)):DF ax nk 154 [.ptr j 0] S=some (.int .i64 n,S.set j (eB j (r.go (wa n).length))):=by rw[Zz hS h.ho (by have:=h.hb;omega),Rd.apN h.he h0 h1 h.hl]
theorem NW{s u:bq}(hs:s.length<=64)(h:po r (aM s++u)):DF ax nk 152 [.ptr j 0,.int .i64 64] S=some (.str s,S.set j (eB j (r.go (aM s).length))):=by have:=Wp hS h.ho h.hb 64 (by omega);rw[Rd.ajm h.he (by omega) h.hl (by omega)]at this;exact this
theorem Ad{u:bq}(h:po r u):DF ax nk 70 [.ptr j 0] S=some (.bP,S):=by rw[NV hS,h.he];rfl
theorem adT{s u:bq}(n:Nat)(hs:s.length=n)(hn:n<1073741824)(h:po r (s++u)):DF ax nk 34 [.ptr j 0,.int .i64 (n:Int)] S=some (dG 1 (bW s),S.set j (eB j (r.go s.length))):=by
 have e:r.raw n=(s,r.go n):=by unfold Rd.raw;rw[h.he];simp only[h.hl];rw[if_neg (by simp;omega)];congr 1;rw[Fu hs]
 have:=Zw hS h.ho h.hb n (by omega);rw[e]at this;rw[hs];exact this
theorem ab6{n:Nat}{u:bq}(gM:Nat)(hm:gM<1000)(hn:n<=gM)(h:po r (bI n++u)):DF ax nk 156 [.ptr j 0,.int .i64 (gM:Int)] S=some (.int .i64 (n:Int),S.set j (eB j (r.go (bI n).length))):=by
 have c1:=k_ hS (by omega) h;have w1:IntKind.wrap .u64 (gM:Int)=(gM:Int):=by show(gM:Int)%18446744073709551616=_;omega
 have w2:IntKind.wrap .i64 (n:Int)=(n:Int):=wrap64 (by omega);have cV:((gM:Int)<(n:Int))=False:=eq_false (by omega);have tk:∀b,(S.set j b).take S.length=S.set j b:=fun b=>gO (by simp);rw[Rp,ak B_.eq_1];simp[c1,w1,w2,cV,tk]
theorem afn{s u:bq}(hs:dq s=true)(h:po r (aM s++u)):DF ax nk 155 [.ptr j 0] S=some (.str s,S.set j (eB j (r.go (aM s).length))):=by have hl:=fN hs;have c1:=NW hS (by omega) h;have c2:=kj s (by omega) (S.set j (eB j (r.go (aM s).length)));rw[hs]at c2;have tk:∀b,(S.set j b).take S.length=S.set j b:=fun b=>gO (by simp);rw[UD,ak EH.eq_1];simp[c1,c2,tk,bF]
end
def rK(l:List bq):List (List AV):=l.map fun s=>[AV.str s]
def Pz(l:List Int):List (List AV):=l.map fun n=>[AV.int .u64 n]
def zF(l:List aX):List (List AV):=l.map aX.ai
def fR(n m:Nat):List (Option Nat):=if n=0 then[]else if m=0 then[some n]else[some n,some m]
def vbN(i:Nat)(ns:List bq)(ps:List aX):cF:=.mem [.int .i64 5,.int .i64 0,.str [],bk i 0 1 (rK ns),.ah,bk i 1 6 (zF ps)] (fR ns.length ps.length) false
def vbI(i:Nat)(is:List Int)(ps:List aX):cF:=.mem [.int .i64 6,.int .i64 0,.str [],.ah,bk i 0 1 (Pz is),bk i 1 6 (zF ps)] (fR is.length ps.length) false
theorem R_(a:List bq)(x:bq):rK (a++[x])=rK a++[[.str x]]:=by simp[rK]
theorem afo(a:List Int)(x:Int):Pz (a++[x])=Pz a++[[.int .u64 x]]:=by simp[Pz]
theorem Sg(a:List aX)(x:aX):zF (a++[x])=zF a++[x.ai]:=by simp[zF]
@[simp]theorem afp(a:List bq):(rK a).length=a.length:=by simp[rK]
@[simp]theorem avo(a:List Int):(Pz a).length=a.length:=by simp[Pz]
@[simp]theorem avp(a:List aX):(zF a).length=a.length:=by simp[zF]
theorem Dq(l:List bq):ct (rK l)=true:=jJ.2 fun x hx=>by obtain⟨s,_,rfl⟩:=Fq.1 hx;rfl
theorem XI(l:List Int):ct (Pz l)=true:=jJ.2 fun x hx=>by obtain⟨s,_,rfl⟩:=Fq.1 hx;rfl
theorem JR(l:List aX):ct (zF l)=true:=jJ.2 fun x hx=>by obtain⟨s,_,rfl⟩:=Fq.1 hx;exact j1.aS (by simp)
theorem at7{S:St}{i sz:Nat}{es:List (List AV)}{x:List AV}{n:Nat}{cs:List AV}{o:Nat}(t:List (Option Nat))(hS:S[i]? =some (.mem cs (fR n n) false))(hn:es.length=n)(hb:n+1<=1073741824)
 (ho:o+1<=cs.length) (hp:ct (es++[x])=true):
 ∃v1 t1 S1 t2,cb sz t S (bk i 0 sz es) (.sl .exact sz [x])=some (v1,t1,S1)/\
  ∀nb,bg t1 nb S1 1 (.ptr i o) v1=some (t2,S.set i (.mem (aL cs o [bk i 0 sz (es++[x])]) (fR (n+1) n) false)):=by
 by_cases h:n=0
 ·subst h
  have he:es=[]:=Tn hn;subst he;refine⟨.sl (.fr t.length) sz [x],t++[some 1],S,t++[none],by simp[cb,bk,bL],fun nb=>?_⟩;unfold bg;simp only[hS];have hpp:aS (aB (.sl (.fr t.length) sz [x]))=true:=by simpa[aB,aS]using hp
  simp[aaq,AV.cells,ho,hpp,dU,fR,bk]
 ·have he:es≠[]:=by intro e;subst e;simp at hn;omega
  have hi:=(fI.1 hS).1;refine⟨.sl (.bx i 0) sz (es++[x]),t,S.set i (.mem cs (fR (n+1) n) false),t, ?_,fun nb=>?_⟩
  ·simp[cb,bk,he,bL,hn,hS,fR,h]
   omega
  ·unfold bg
   have hpp:aS (aB (.sl (.bx i 0) sz (es++[x])))=true:=by simpa[aB,aS]using hp
   simp[hi,aaq,AV.cells,ho,hpp,dU,bk]
theorem ap1{S:St}{i sz:Nat}{es:List (List AV)}{x:List AV}{n:Nat}{cs:List AV}{o:Nat}(t:List (Option Nat))(hS:S[i]? =some (.mem cs (fR (n+1) n) false))(hn:es.length=n)(hb:n+1<=1073741824)
 (ho:o+1<=cs.length) (hp:ct (es++[x])=true):
 ∃v1 t1 S1 t2,cb sz t S (bk i 1 sz es) (.sl .exact sz [x])=some (v1,t1,S1)/\
  ∀nb,bg t1 nb S1 1 (.ptr i o) v1=some (t2,S.set i (.mem (aL cs o [bk i 1 sz (es++[x])]) (fR (n+1) (n+1)) false)):=by
 by_cases h:n=0
 ·subst h
  have he:es=[]:=Tn hn;subst he;refine⟨.sl (.fr t.length) sz [x],t++[some 1],S,t++[none],by simp[cb,bk,bL],fun nb=>?_⟩;unfold bg;simp only[hS];have hpp:aS (aB (.sl (.fr t.length) sz [x]))=true:=by simpa[aB,aS]using hp
  simp[aaq,AV.cells,ho,hpp,dU,fR,bk]
 ·have he:es≠[]:=by intro e;subst e;simp at hn;omega
  have hi:=(fI.1 hS).1;refine⟨.sl (.bx i 1) sz (es++[x]),t,S.set i (.mem cs (fR (n+1) (n+1)) false),t, ?_,fun nb=>?_⟩
  ·simp[cb,bk,he,bL,hn,hS,fR,h]
   omega
  ·unfold bg
   have hpp:aS (aB (.sl (.bx i 1) sz (es++[x])))=true:=by simpa[aB,aS]using hp
   simp[hi,aaq,AV.cells,ho,hpp,dU,bk]
theorem ZI(S:St)(i k sz:Nat)(es:List (List AV)):bN S (bk i k sz es)=some (dG sz es):=by unfold bk dG;split<;>rfl
theorem ZJ(sz:Nat)(es:List (List AV)):norm (dG sz es)=iA sz es:=by unfold dG;cases es<;>rfl
theorem ZK(S:St)(i k sz:Nat)(es:List (List AV)):cg S (bk i k sz es)=S:=by unfold bk;split<;>rfl
theorem PA(S S':St)(i k sz:Nat)(es:List (List AV)):bB S S' (bk i k sz es)=S':=by unfold bk;split<;>rfl
def gE(S:St)(j:Nat)(r:Rd)(z b:cF):St:=S.set j (eB j r)++[z,b]
section
variable{S:St}{j:Nat}{r:Rd}(hS:S[j]? =some (eB j r))
include hS
theorem qI(r':Rd)(z b:cF):(gE S j r' z b)[j]? =some (eB j r'):=ajK hS r' _
theorem uv(r' r'':Rd)(z b:cF):(gE S j r' z b).set j (eB j r'')=gE S j r'' z b:=by have hj:=(fI.1 hS).1;unfold gE;rw[dL _ (by simpa using hj),Hu]
end
theorem kx(S:St)(j:Nat)(r:Rd):(S.set j (eB j r)).length=S.length:=by simp
theorem m6(S:St)(j:Nat)(r:Rd)(z b:cF):(gE S j r z b)[S.length+1]? =some b:=gT (kx S j r) _ 1
theorem oj(S:St)(j:Nat)(r:Rd)(z b c:cF):(gE S j r z b).set (S.length+1) c=gE S j r z c:=sT (kx S j r) _ 1 _
theorem kL(S:St)(j:Nat)(r:Rd)(z:cF)(cs:List AV)(bt:List (Option Nat))(q:Bool)(sh:Sh)(off:Nat):aY (gE S j r z (.mem cs bt q)) sh (.ptr (S.length+1) off)=fC sh cs off:=bd (m6 S j r z _) sh off
theorem ajM(a:bq):e_ 1 [[.str []]] [(0,.str a)]=some [[.str a]]:=rfl
theorem ap2(n:Int):e_ 1 [[.int .u64 0]] [(0,.int .u64 n)]=some [[.int .u64 n]]:=rfl
section
variable{S:St}{j d:Nat}(z:cF)
theorem UR(v:aX)(hl:v.aU.length<=8)(AX:v.parts.length=v.aU.length)(hg:goN none v.aU=true)(hd:d<1000)
 (hF:∀x∈v.parts,∀(S:St)(r:Rd)(u:bq),S[j]? =some (eB j r)->po r (x.bytes++u)->DF ax nk 116 [.ptr j 0,.int .i64 (d:Int)] S=some (.agg x.ai,S.set j (eB j (r.go x.bytes.length)))):
 ∀e i(r:Rd)(u:bq)(aa:List (Option Nat)),i+e=v.aU.length->S[j]? =some (eB j r)->∀r0:Rd,po r0 (aX.dt (v.aU.drop i) (v.parts.drop i)++u)->
 ∃aG,DC ax nk (.loop de) ⟨[(0,.ptr j 0),(1,.int .i64 ((d:Int)+1)),(4,.ptr S.length 0),(5,.ptr (S.length+1) 0),(51,.int .i64 (v.aU.length:Int)),(52,.int .i64 (i:Int))],aa,S.length⟩ (gE S j r0 z (vbN (S.length+1) (v.aU.take i) (v.parts.take i)))=
  some (.exit 1,⟨[(0,.ptr j 0),(4,.ptr S.length 0),(5,.ptr (S.length+1) 0)],aG,S.length⟩,gE S j (r0.go (aX.dt (v.aU.drop i) (v.parts.drop i)).length) z (vbN (S.length+1) v.aU v.parts)):=by
 intro e;induction e with
 |zero=>
  intro i r u aa hi hS r0 hr;refine⟨aa, ?_⟩;have K9:¬i<v.aU.length:=by omega
  have e1:v.aU.drop i=[]:=dV (by omega);have e2:v.aU.take i=v.aU:=gO (by omega);have e3:v.parts.take i=v.parts:=gO (by omega);rw[aj,ak de.eq_1,e1,e2,e3];simp[K9,aX.dt,Rd.go]
 |succ e ih=>
  intro i r u aa hi hS r0 hr;have h3:i<v.aU.length:=by omega
  obtain⟨a,ha,JY⟩:=aE (l:=v.aU) (i:=i) h3;obtain⟨y,hy,gg⟩:=aE (l:=v.parts) (i:=i) (by omega);have hw:=aV (i:=i) (by omega);have hd1:IntKind.wrap .i64 ((d:Int)+1 -1)=(d:Int):=by rw[wrap64 (by omega)];omega
  have tN:v.aU.take (i+1)=v.aU.take i++[a]:=by rw[sW,ha];rfl
  have tP:v.parts.take (i+1)=v.parts.take i++[y]:=by rw[sW,hy];rfl
  have lN:(v.aU.take i).length=i:=by simp;omega
  have lP:(v.parts.take i).length=i:=by simp;omega
  rw[aJ ha,aJ hy,aX.dt]at hr⊢;rw[fB,fB]at hr;have R1:=hr.go;have R2:=R1.go;have hna:dq a=true:=CN _ _ hg a (eT ha);have hgp:goN none (v.aU.take i++[a])=true:=by have:=Rd.Zs (v.aU.take (i+1)) (v.aU.drop (i+1)) none (by rw[Xj];exact hg);rw[tN]at this;exact this
  have hm:(gE S j (r0.go (aM a).length) z (vbN (S.length+1) (v.aU.take i) (v.parts.take i)))[S.length+1]? =some (.mem [.int .i64 5,.int .i64 0,.str [],bk (S.length+1) 0 1 (rK (v.aU.take i)),.ah,bk (S.length+1) 1 6 (zF (v.parts.take i))] (fR i i) false):=by rw[m6];unfold vbN;rw[lN,lP]
  have c1:=afn (qI hS r0 z (vbN (S.length+1) (v.aU.take i) (v.parts.take i))) hna hr;rw[uv hS]at c1;obtain⟨v1,t1,S1,t2,a1,a2⟩:=at7 (sz:=1) (es:=rK (v.aU.take i)) (x:=[.str a]) (n:=i) (o:=3) aa hm (by simp;omega) (by omega) (by simp) (by rw[<-R_];exact Dq _);rw[oj,<-R_]at a2;have b1:cF.mem (aL [.int .i64 5,.int .i64 0,.str [],bk (S.length+1) 0 1 (rK (v.aU.take i)),.ah,bk (S.length+1) 1 6 (zF (v.parts.take i))] 3 [bk (S.length+1) 0 1 (rK (v.aU.take i++[a]))]) (fR (i+1) i) false=
   .mem [.int .i64 5,.int .i64 0,.str [],bk (S.length+1) 0 1 (rK (v.aU.take i++[a])),.ah,bk (S.length+1) 1 6 (zF (v.parts.take i))] (fR (i+1) i) false:=rfl
  rw[b1]at a2;have c2:=Jo (v.aU.take i++[a]) (by simp;omega) (fun x hx=>by have:=fN (CN _ _ hgp x hx);omega) (gE S j (r0.go (aM a).length) z (.mem [.int .i64 5,.int .i64 0,.str [],bk (S.length+1) 0 1 (rK (v.aU.take i++[a])),.ah,bk (S.length+1) 1 6 (zF (v.parts.take i))] (fR (i+1) i) false));have ap3:(v.aU.take i++[a]).length<=8:=by simp;omega
  rw[hgp,decide_eq_true ap3]at c2;have c3:=hF y (eT hy) _ _ _ (qI hS (r0.go (aM a).length) z (.mem [.int .i64 5,.int .i64 0,.str [],bk (S.length+1) 0 1 (rK (v.aU.take i++[a])),.ah,bk (S.length+1) 1 6 (zF (v.parts.take i))] (fR (i+1) i) false)) R1;rw[uv hS]at c3;have hm2:=m6 S j ((r0.go (aM a).length).go y.bytes.length) z (.mem [.int .i64 5,.int .i64 0,.str [],bk (S.length+1) 0 1 (rK (v.aU.take i++[a])),.ah,bk (S.length+1) 1 6 (zF (v.parts.take i))] (fR (i+1) i) false);obtain⟨v3,t3,S3,t4,d1,d2⟩:=ap1 (sz:=6) (es:=zF (v.parts.take i)) (x:=y.ai) (n:=i) (o:=5) t2 hm2 (by simp;omega) (by omega) (by simp) (by rw[<-Sg];exact JR _);rw[oj,<-Sg]at d2;have b2:cF.mem (aL [.int .i64 5,.int .i64 0,.str [],bk (S.length+1) 0 1 (rK (v.aU.take i++[a])),.ah,bk (S.length+1) 1 6 (zF (v.parts.take i))] 5 [bk (S.length+1) 1 6 (zF (v.parts.take i++[y]))]) (fR (i+1) (i+1)) false=
   vbN (S.length+1) (v.aU.take (i+1)) (v.parts.take (i+1)):=by
   unfold vbN;rw[tN,tP];simp[lN,lP,aL]
  rw[b2]at d2;have es:(r0.go (aM a).length).go y.bytes.length=r0.go ((aM a).length+y.bytes.length):=by simp[Rd.go,pv]
  obtain⟨aG,hn⟩:=ih (i+1) r u t4 (by omega) hS _ R2;refine⟨aG, ?_⟩;have ef:(((r0.go (aM a).length).go y.bytes.length).go (aX.dt (v.aU.drop (i+1)) (v.parts.drop (i+1))).length)=r0.go (aM a++(y.bytes++aX.dt (v.aU.drop (i+1)) (v.parts.drop (i+1)))).length:=by simp[Rd.go,pv]
  rw[ef]at hn;have l0:aY (gE S j r0 z (vbN (S.length+1) (v.aU.take i) (v.parts.take i))) .cell (.ptr (S.length+1) 0)=some (.int .i64 5):=kL ..;have l3:∀r1,aY (gE S j r1 z (vbN (S.length+1) (v.aU.take i) (v.parts.take i))) .cell (.ptr (S.length+1) 3)=some (bk (S.length+1) 0 1 (rK (v.aU.take i))):=fun r1=>kL ..;have l3b:∀r1 X,aY (gE S j r1 z (.mem [.int .i64 5,.int .i64 0,.str [],bk (S.length+1) 0 1 X,.ah,bk (S.length+1) 1 6 (zF (v.parts.take i))] (fR (i+1) i) false)) .cell (.ptr (S.length+1) 3)=some (bk (S.length+1) 0 1 X):=fun r1 X=>kL ..;have l5b:∀r1 X,aY (gE S j r1 z (.mem [.int .i64 5,.int .i64 0,.str [],bk (S.length+1) 0 1 X,.ah,bk (S.length+1) 1 6 (zF (v.parts.take i))] (fR (i+1) i) false)) .cell (.ptr (S.length+1) 5)=some (bk (S.length+1) 1 6 (zF (v.parts.take i))):=fun r1 X=>kL ..;have nn:iA 1 (rK (v.aU.take i++[a]))=cw (v.aU.take i++[a]):=rfl;have bo:=US y;have fb:=ajM a;simp only[es]at d1 d2;rw[aj,ak de.eq_1];simp at hn hw hd1 c2 bo;simp[h3,l0,l3,c1,fb,a1,a2,l3b,ZI,ZJ,ZK,PA,nn,c2,bF,l5b,hd1,c3,bo,d1,d2];rw[ae de.eq_1];simp[hw,hn]
end
end
section
section
variable{S:St}{j d:Nat}(z:cF)
theorem UT(v:aX)(hl:v.ids.length<=12)(AX:v.parts.length=v.ids.length)(hg:QN [] v.ids=true)(axm:∀n∈v.ids,0<=n/\n<18446744073709551616)(hd:d<1000)
 (hF:∀x∈v.parts,∀(S:St)(r:Rd)(u:bq),S[j]? =some (eB j r)->po r (x.bytes++u)->DF ax nk 116 [.ptr j 0,.int .i64 (d:Int)] S=some (.agg x.ai,S.set j (eB j (r.go x.bytes.length)))):
 ∀e i(r:Rd)(u:bq)(aa:List (Option Nat)),i+e=v.ids.length->S[j]? =some (eB j r)->∀r0:Rd,po r0 (aX.jI (v.ids.drop i) (v.parts.drop i)++u)->
 ∃aG,DC ax nk (.loop de) ⟨[(0,.ptr j 0),(1,.int .i64 ((d:Int)+1)),(4,.ptr S.length 0),(5,.ptr (S.length+1) 0),(51,.int .i64 (v.ids.length:Int)),(52,.int .i64 (i:Int))],aa,S.length⟩ (gE S j r0 z (vbI (S.length+1) (v.ids.take i) (v.parts.take i)))=
  some (.exit 1,⟨[(0,.ptr j 0),(4,.ptr S.length 0),(5,.ptr (S.length+1) 0)],aG,S.length⟩,gE S j (r0.go (aX.jI (v.ids.drop i) (v.parts.drop i)).length) z (vbI (S.length+1) v.ids v.parts)):=by
 intro e;induction e with
 |zero=>
  intro i r u aa hi hS r0 hr;refine⟨aa, ?_⟩;have K9:¬i<v.ids.length:=by omega
  have e1:v.ids.drop i=[]:=dV (by omega);have e2:v.ids.take i=v.ids:=gO (by omega);have e3:v.parts.take i=v.parts:=gO (by omega);rw[aj,ak de.eq_1,e1,e2,e3];simp[K9,aX.jI,Rd.go]
 |succ e ih=>
  intro i r u aa hi hS r0 hr;have h3:i<v.ids.length:=by omega
  obtain⟨a,ha,JY⟩:=aE (l:=v.ids) (i:=i) h3;obtain⟨y,hy,gg⟩:=aE (l:=v.parts) (i:=i) (by omega);have hw:=aV (i:=i) (by omega);have hd1:IntKind.wrap .i64 ((d:Int)+1 -1)=(d:Int):=by rw[wrap64 (by omega)];omega
  have tN:v.ids.take (i+1)=v.ids.take i++[a]:=by rw[sW,ha];rfl
  have tP:v.parts.take (i+1)=v.parts.take i++[y]:=by rw[sW,hy];rfl
  have lN:(v.ids.take i).length=i:=by simp;omega
  have lP:(v.parts.take i).length=i:=by simp;omega
  rw[aJ ha,aJ hy,aX.jI]at hr⊢;rw[fB,fB]at hr;have R1:=hr.go;have R2:=R1.go;have har:=axm a (eT ha);have ea:((a.toNat:Nat):Int)=a:=by omega
  have hgp:QN [] (v.ids.take i++[a])=true:=by have:=Rd.afd (v.ids.take (i+1)) (v.ids.drop (i+1)) [] (by rw[Xj];exact hg);rw[tN]at this;exact this
  have hm:(gE S j (r0.go (bI a.toNat).length) z (vbI (S.length+1) (v.ids.take i) (v.parts.take i)))[S.length+1]? =some (.mem [.int .i64 6,.int .i64 0,.str [],.ah,bk (S.length+1) 0 1 (Pz (v.ids.take i)),bk (S.length+1) 1 6 (zF (v.parts.take i))] (fR i i) false):=by rw[m6];unfold vbI;rw[lN,lP]
  have c1:=k_ (qI hS r0 z (vbI (S.length+1) (v.ids.take i) (v.parts.take i))) (by omega) hr;rw[uv hS,ea]at c1;obtain⟨v1,t1,S1,t2,a1,a2⟩:=at7 (sz:=1) (es:=Pz (v.ids.take i)) (x:=[.int .u64 a]) (n:=i) (o:=4) aa hm (by simp;omega) (by omega) (by simp) (by rw[<-afo];exact XI _);rw[oj,<-afo]at a2;have b1:cF.mem (aL [.int .i64 6,.int .i64 0,.str [],.ah,bk (S.length+1) 0 1 (Pz (v.ids.take i)),bk (S.length+1) 1 6 (zF (v.parts.take i))] 4 [bk (S.length+1) 0 1 (Pz (v.ids.take i++[a]))]) (fR (i+1) i) false=
   .mem [.int .i64 6,.int .i64 0,.str [],.ah,bk (S.length+1) 0 1 (Pz (v.ids.take i++[a])),bk (S.length+1) 1 6 (zF (v.parts.take i))] (fR (i+1) i) false:=rfl
  rw[b1]at a2;have c2:=Jp (v.ids.take i++[a]) (by simp;omega) (gE S j (r0.go (bI a.toNat).length) z (.mem [.int .i64 6,.int .i64 0,.str [],.ah,bk (S.length+1) 0 1 (Pz (v.ids.take i++[a])),bk (S.length+1) 1 6 (zF (v.parts.take i))] (fR (i+1) i) false));have ap3:(v.ids.take i++[a]).length<=12:=by simp;omega
  rw[hgp,decide_eq_true ap3]at c2;have c3:=hF y (eT hy) _ _ _ (qI hS (r0.go (bI a.toNat).length) z (.mem [.int .i64 6,.int .i64 0,.str [],.ah,bk (S.length+1) 0 1 (Pz (v.ids.take i++[a])),bk (S.length+1) 1 6 (zF (v.parts.take i))] (fR (i+1) i) false)) R1;rw[uv hS]at c3;have hm2:=m6 S j ((r0.go (bI a.toNat).length).go y.bytes.length) z (.mem [.int .i64 6,.int .i64 0,.str [],.ah,bk (S.length+1) 0 1 (Pz (v.ids.take i++[a])),bk (S.length+1) 1 6 (zF (v.parts.take i))] (fR (i+1) i) false);obtain⟨v3,t3,S3,t4,d1,d2⟩:=ap1 (sz:=6) (es:=zF (v.parts.take i)) (x:=y.ai) (n:=i) (o:=5) t2 hm2 (by simp;omega) (by omega) (by simp) (by rw[<-Sg];exact JR _);rw[oj,<-Sg]at d2;have b2:cF.mem (aL [.int .i64 6,.int .i64 0,.str [],.ah,bk (S.length+1) 0 1 (Pz (v.ids.take i++[a])),bk (S.length+1) 1 6 (zF (v.parts.take i))] 5 [bk (S.length+1) 1 6 (zF (v.parts.take i++[y]))]) (fR (i+1) (i+1)) false=
   vbI (S.length+1) (v.ids.take (i+1)) (v.parts.take (i+1)):=by
   unfold vbI;rw[tN,tP];simp[lN,lP,aL]
  rw[b2]at d2;have es:(r0.go (bI a.toNat).length).go y.bytes.length=r0.go ((bI a.toNat).length+y.bytes.length):=by simp[Rd.go,pv]
  obtain⟨aG,hn⟩:=ih (i+1) r u t4 (by omega) hS _ R2;refine⟨aG, ?_⟩;have ef:(((r0.go (bI a.toNat).length).go y.bytes.length).go (aX.jI (v.ids.drop (i+1)) (v.parts.drop (i+1))).length)=r0.go (bI a.toNat++(y.bytes++aX.jI (v.ids.drop (i+1)) (v.parts.drop (i+1)))).length:=by simp[Rd.go,pv]
  rw[ef]at hn;have l0:aY (gE S j r0 z (vbI (S.length+1) (v.ids.take i) (v.parts.take i))) .cell (.ptr (S.length+1) 0)=some (.int .i64 6):=kL ..;have l3:∀r1,aY (gE S j r1 z (vbI (S.length+1) (v.ids.take i) (v.parts.take i))) .cell (.ptr (S.length+1) 4)=some (bk (S.length+1) 0 1 (Pz (v.ids.take i))):=fun r1=>kL ..;have l3b:∀r1 X,aY (gE S j r1 z (.mem [.int .i64 6,.int .i64 0,.str [],.ah,bk (S.length+1) 0 1 X,bk (S.length+1) 1 6 (zF (v.parts.take i))] (fR (i+1) i) false)) .cell (.ptr (S.length+1) 4)=some (bk (S.length+1) 0 1 X):=fun r1 X=>kL ..;have l5b:∀r1 X,aY (gE S j r1 z (.mem [.int .i64 6,.int .i64 0,.str [],.ah,bk (S.length+1) 0 1 X,bk (S.length+1) 1 6 (zF (v.parts.take i))] (fR (i+1) i) false)) .cell (.ptr (S.length+1) 5)=some (bk (S.length+1) 1 6 (zF (v.parts.take i))):=fun r1 X=>kL ..;have nn:iA 1 (Pz (v.ids.take i++[a]))=jn (v.ids.take i++[a]):=rfl;have bo:=US y;have fb:=ap2 a;simp only[es]at d1 d2;rw[aj,ak de.eq_1];simp at hn hw hd1 c2 bo;simp[h3,l0,l3,c1,fb,a1,a2,l3b,ZI,ZJ,ZK,PA,nn,c2,bF,l5b,hd1,c3,bo,d1,d2];rw[ae de.eq_1];simp[hw,hn]
end
theorem zO(k n:Int)(s:bq)(a b c:AV)(ns:List bq)(is:List Int)(ps:List aX)(ha:cY a=cw ns)(hb:cY b=jn is)(hc:cY c=lU ps):
 bD (.agg [.int .i64 k,.int .i64 n,.str s,a,b,c])=.agg (aX.mk k n s ns is ps).ai:=by
 rw[aX.fA];show AV.agg [_,_,_,cY a,cY b,cY c]=_;rw[ha,hb,hc];rfl
theorem PB(ns:List bq):cY (dG 1 (rK ns))=cw ns:=pF 1 _
theorem agQ(ns:List Int):cY (dG 1 (Pz ns))=jn ns:=pF 1 _
theorem XJ(ns:List aX):cY (dG 6 (zF ns))=lU ns:=pF 6 _
def Mt(k n:Int)(s:bq):cF:=.mem [.int .i64 k,.int .i64 n,.str s,.ah,.ah,.ah] [] false
theorem cP{n:Nat}(cs:List AV)(h:cs.length=n):fC (.agg n) cs 0=some (.agg (cs.map aB)):=by unfold fC sub;simp only;rw[if_pos (by omega),jS,gO (by omega)]
theorem ajN:∀(d:Nat)(v:aX),v.Wf->v.aR d=true->d<1000->∀(S:St)(j:Nat)(r:Rd)(u:bq),S[j]? =some (eB j r)->po r (v.bytes++u)->
 DF ax nk 116 [.ptr j 0,.int .i64 (d:Int)] S=some (.agg v.ai,S.set j (eB j (r.go v.bytes.length))):=by
 intro d;induction d with
 |zero=>intro v _ h;simp[aX.aR]at h
 |succ d ih=>
  intro v hv h hd S j r u hS hr;have R:=aX.fa h;have hj:j<S.length:=(fI.1 hS).1;have lb:=v.lS;rw[lb]at hr;have R1:=hr.go1;have RT:∀b,(S++[b])[j]? =some (eB j r):=fun b=>cd _ hS;have c1:=Nc (RT (.mem ab [] false)) hr;rw[dL _ hj]at c1;have hk:((UInt8.ofNat v.kind.toNat).toNat:Int)=v.kind:=by have:=R.kind;rw[yA];omega
  rw[hk]at c1;have wk:IntKind.wrap .i64 v.kind=v.kind:=by have:=R.kind;exact wrap64 (by omega)
  have T1:(S.set j (eB j (r.go 1))).length=S.length:=by simp
  have sg:=fun r' z b=>qI hS r' z b;have ss:=fun r' r'' z b=>uv hS r' r'' z b;have e0:∀X,S.set j (eB j (r.go 1))++[.mem ab [] false,X]=gE S j (r.go 1) (.mem ab [] false) X:=fun _=>rfl;have xv:∀r' z b,(gE S j r' z b).take S.length=S.set j (eB j r'):=fun r' z b=>by unfold gE;rw[ob (by simp),gO (by simp)]
  have d0:¬((d:Int)+1=0):=by omega
  have b0:du .neq (.iL ff) true .bP .bP=some (.bool false):=rfl;have fk:∀k:Int,dr ab [(0,1,.int .i64 k)]=some [.int .i64 k,.int .i64 0,.str [],.ah,.ah,.ah]:=fun _=>rfl;have er:=fun{r':Rd}{u':bq}(z b:cF)(h':po r' u')=>Ad (sg r' z b) h';have JO:∀k:Int,bg [] S.length (S.set j (eB j (r.go 1))++[.mem ab [] false,.mem ab [] false]) 6 (.ptr (S.length+1) 0) (.agg [.int .i64 k,.int .i64 0,.str [],.ah,.ah,.ah])=some ([],gE S j (r.go 1) (.mem ab [] false) (Mt k 0 [])):=fun k=>by rw[TG T1 (by rfl)];rfl
  have JS:∀r' k m s s',bg [] S.length (gE S j r' (.mem ab [] false) (Mt k m s)) 1 (.ptr (S.length+1) 2) (.str s')=some ([],gE S j r' (.mem ab [] false) (Mt k m s')):=fun r' k m s s'=>by unfold gE;rw[stT (kx S j r') (YQ s')];rfl
  have stM:∀r' k m s(m':Int),bg [] S.length (gE S j r' (.mem ab [] false) (Mt k m s)) 1 (.ptr (S.length+1) 1) (.int .i64 m')=some ([],gE S j r' (.mem ab [] false) (Mt k m' s)):=fun r' k m s m'=>by unfold gE;rw[stT (kx S j r') (vH .i64 m')];rfl
  have fin:∀(aa:List (Option Nat)) r'(cs:List AV) bt,cs.length=6->ck (cs.map aB)=true->bg aa S.length (gE S j r' (.mem ab [] false) (.mem cs bt false)) 6 (.ptr S.length 0) (.agg (cs.map aB))=some (aa,gE S j r' (.mem (cs.map aB) [] false) (.mem cs bt false)):=fun aa r' cs bt hc hp=>by unfold gE;rw[uO (kx S j r') hp];simp[hc,aL]
  have la:∀r' z(cs:List AV) bt,cs.length=6->aY (gE S j r' z (.mem cs bt false)) (.agg 6) (.ptr (S.length+1) 0)=some (.agg (cs.map aB)):=fun r' z cs bt hc=>by rw[kL];exact cP cs hc
  have lz:∀r'(cs:List AV) b,cs.length=6->(cs.map aB).map aB=cs.map aB->aY (gE S j r' (.mem (cs.map aB) [] false) b) (.agg 6) (.ptr S.length 0)=some (.agg (cs.map aB)):=fun r' cs b hc hs=>by unfold gE;rw[lT0 (kx S j r')];have:=cP (cs.map aB) (n:=6) (by simp[hc]);rw[hs]at this;exact this
  have l0:∀r' k n s,aY (gE S j r' (.mem ab [] false) (Mt k n s)) .cell (.ptr (S.length+1) 0)=some (.int .i64 k):=fun r' k n s=>kL ..;have lp0:∀r' k n s,DC ax nk (.loop de) ⟨[(0,.ptr j 0),(1,.int .i64 ((d:Int)+1)),(4,.ptr S.length 0),(5,.ptr (S.length+1) 0),(51,.int .i64 0),(52,.int .i64 0)],[],S.length⟩ (gE S j r' (.mem ab [] false) (Mt k n s))=
   some (.exit 1,⟨[(0,.ptr j 0),(4,.ptr S.length 0),(5,.ptr (S.length+1) 0)],[],S.length⟩,gE S j r' (.mem ab [] false) (Mt k n s)):=fun r' k n s=>by
   rw[aj,ak de.eq_1];simp
  have res:∀r'(aa:List (Option Nat))(cs:List AV)(w:aX),bD (.agg (cs.map aB))=.agg w.ai->cC 116 aa [.agg (cs.map aB)] S (gE S j r' (.mem (cs.map aB) [] false) (.mem cs [] false))=some (.agg w.ai,S.set j (eB j r')):=fun r' aa cs w hw=>by rw[lL,hw];simp[bu,xv]
  have aub:∀r'(aa:List (Option Nat))(cs:List AV) bt(w:aX),bD (.agg (cs.map aB))=.agg w.ai->cC 116 aa [.agg (cs.map aB)] S (gE S j r' (.mem (cs.map aB) [] false) (.mem cs bt false))=some (.agg w.ai,S.set j (eB j r')):=fun r' aa cs bt w hw=>by rw[lL,hw];simp[bu,xv]
  have vs:∀k n s,[AV.int .i64 k,.int .i64 n,.str s,.ah,.ah,.ah].map aB=[.int .i64 k,.int .i64 n,.str s,.ah,.ah,.ah]:=fun _ _ _=>rfl;have ajO:∀r' k n s,bg [] S.length (gE S j r' (.mem ab [] false) (Mt k n s)) 6 (.ptr S.length 0) (.agg [.int .i64 k,.int .i64 n,.str s,.ah,.ah,.ah])=some ([],gE S j r' (Mt k n s) (Mt k n s)):=fun r' k n s=>fin [] r' [.int .i64 k,.int .i64 n,.str s,.ah,.ah,.ah] [] rfl (by rfl);have la0:∀r' k n s,aY (gE S j r' (.mem ab [] false) (Mt k n s)) (.agg 6) (.ptr (S.length+1) 0)=some (.agg [.int .i64 k,.int .i64 n,.str s,.ah,.ah,.ah]):=fun r' k n s=>la r' (.mem ab [] false) [.int .i64 k,.int .i64 n,.str s,.ah,.ah,.ah] [] rfl;have lz0:∀r' k n s,aY (gE S j r' (Mt k n s) (Mt k n s)) (.agg 6) (.ptr S.length 0)=some (.agg [.int .i64 k,.int .i64 n,.str s,.ah,.ah,.ah]):=fun r' k n s=>lz r' [.int .i64 k,.int .i64 n,.str s,.ah,.ah,.ah] (Mt k n s) rfl rfl;have amb:∀r' k n s(w:aX),bD (.agg [.int .i64 k,.int .i64 n,.str s,.ah,.ah,.ah])=.agg w.ai->cC 116 [] [.agg [.int .i64 k,.int .i64 n,.str s,.ah,.ah,.ah]] S (gE S j r' (Mt k n s) (Mt k n s))=some (.agg w.ai,S.set j (eB j r')):=fun r' k n s w hw=>res r' [] [.int .i64 k,.int .i64 n,.str s,.ah,.ah,.ah] w hw;rw[Uy,ak Ez.eq_1];have T2:(S.set j (eB j (r.go 1))++[cF.mem ab [] false]).length=S.length+1:=by simp
  have xq:=er (.mem ab [] false) (Mt v.kind 0 []) R1;rcases R.kind with k|k|k|k|k|k
  ·obtain⟨h1,h2,h3⟩:=R.bare (by omega) (by omega)
   have hn:=R.n1 k;have hs0:=R.s0 (by omega) (by omega);have ev:aX.mk 1 v.n [] [] [] []=v:=aX.sP k rfl hs0 h1 h2 h3;have eb:v.bytes=[UInt8.ofNat v.kind.toNat]++[if decide (v.n=1)=true then(1:UInt8)else 0]:=by rw[lb,if_pos k];rcases hn with e|e<;>rw[e]<;>rfl
   have QC:po (r.go 1) ((if decide (v.n=1)=true then 1 else 0)::u):=by have:=hr;rw[<-lb,eb]at this;exact this.go1
   have c2:=al_ (sg (r.go 1) (.mem ab [] false) (Mt 1 0 [])) QC;rw[ss]at c2;have R2:=QC.go1;have hw:=zO 1 v.n [] .ah .ah .ah [] [] [] rfl rfl rfl;rw[ev]at hw;have rr:=amb ((r.go 1).go 1) 1 v.n [] v hw;have r8:=er (.mem ab [] false) (Mt 1 v.n []) R2;rw[k]at c1 wk xq;rw[eb];rcases hn with e|e
   ·rw[e]at c2 rr r8
    simp at c2 rr r8;simp[d0,c1,wk,fk,JO,xq,b0,l0,c2];rw[ae de.eq_1];simp[lp0,r8,b0,la0,ajO,lz0,rr]
   ·rw[e]at c2 rr r8
    simp at c2 rr r8;simp[d0,c1,wk,fk,JO,xq,b0,l0,c2,stM,e];rw[ae de.eq_1];simp[lp0,r8,b0,la0,ajO,lz0,rr]
  ·obtain⟨h1,h2,h3⟩:=R.bare (by omega) (by omega)
   have hs0:=R.s0 (by omega) (by omega);have ev:aX.mk 2 v.n [] [] [] []=v:=aX.sP k rfl hs0 h1 h2 h3;have eb:v.bytes=[UInt8.ofNat v.kind.toNat]++wa v.n:=by rw[lb,if_neg (by omega),if_pos k];rfl
   have QC:po (r.go 1) (wa v.n++u):=by have:=hr;rw[<-lb,eb]at this;exact this.go1
   have c2:=ap0 (sg (r.go 1) (.mem ab [] false) (Mt 2 0 [])) hv.one.n0 hv.one.n1 QC;rw[ss]at c2;have R2:=QC.go;have hw:=zO 2 v.n [] .ah .ah .ah [] [] [] rfl rfl rfl;rw[ev]at hw;have rr:=amb ((r.go 1).go (wa v.n).length) 2 v.n [] v hw;have r8:=er (.mem ab [] false) (Mt 2 v.n []) R2;rw[k]at c1 wk xq;rw[eb];simp at c2 rr r8;simp[d0,c1,wk,fk,JO,xq,b0,l0,c2,stM];rw[ae de.eq_1];simp[lp0,r8,b0,la0,ajO,lz0,rr];congr 3;omega
  ·obtain⟨h1,h2,h3⟩:=R.bare (by omega) (by omega)
   have Z7:=R.n0 (by omega) (by omega);have ev:aX.mk 3 0 v.s [] [] []=v:=aX.sP k Z7 rfl h1 h2 h3;have eb:v.bytes=[UInt8.ofNat v.kind.toNat]++aM v.s:=by rw[lb,if_neg (by omega),if_neg (by omega),if_pos (.inl k)];rfl
   have QC:po (r.go 1) (aM v.s++u):=by have:=hr;rw[<-lb,eb]at this;exact this.go1
   have c2:=NW (sg (r.go 1) (.mem ab [] false) (Mt 3 0 [])) (R.s3 k) QC;rw[ss]at c2;have R2:=QC.go;have hw:=zO 3 0 v.s .ah .ah .ah [] [] [] rfl rfl rfl;rw[ev]at hw;have rr:=amb ((r.go 1).go (aM v.s).length) 3 0 v.s v hw;have r8:=er (.mem ab [] false) (Mt 3 0 v.s) R2;rw[k]at c1 wk xq;rw[eb];simp at c2 rr r8;simp[d0,c1,wk,fk,JO,xq,b0,l0,c2,JS];rw[ae de.eq_1];simp[lp0,r8,b0,la0,ajO,lz0,rr];congr 3;omega
  ·obtain⟨h1,h2,h3⟩:=R.bare (by omega) (by omega)
   have Z7:=R.n0 (by omega) (by omega);have ev:aX.mk 4 0 v.s [] [] []=v:=aX.sP k Z7 rfl h1 h2 h3;have eb:v.bytes=[UInt8.ofNat v.kind.toNat]++aM v.s:=by rw[lb,if_neg (by omega),if_neg (by omega),if_pos (.inr k)];rfl
   have QC:po (r.go 1) (aM v.s++u):=by have:=hr;rw[<-lb,eb]at this;exact this.go1
   have c2:=afn (sg (r.go 1) (.mem ab [] false) (Mt 4 0 [])) (R.s4 k) QC;rw[ss]at c2;have R2:=QC.go;have hw:=zO 4 0 v.s .ah .ah .ah [] [] [] rfl rfl rfl;rw[ev]at hw;have rr:=amb ((r.go 1).go (aM v.s).length) 4 0 v.s v hw;have r8:=er (.mem ab [] false) (Mt 4 0 v.s) R2;rw[k]at c1 wk xq;rw[eb];simp at c2 rr r8;simp[d0,c1,wk,fk,JO,xq,b0,l0,c2,JS];rw[ae de.eq_1];simp[lp0,r8,b0,la0,ajO,lz0,rr];congr 3;omega
  ·have h5:=R.k5 k
   have Z7:=R.n0 (by omega) (by omega);have hs0:=R.s0 (by omega) (by omega);have ev:aX.mk 5 0 [] v.aU [] v.parts=v:=aX.sP k Z7 hs0 rfl h5.1 rfl;have eb:v.bytes=[UInt8.ofNat v.kind.toNat]++(bI v.parts.length++aX.dt v.aU v.parts):=by rw[lb,if_neg (by omega),if_neg (by omega),if_neg (by omega),if_pos k];rfl
   have QC:po (r.go 1) (bI v.parts.length++(aX.dt v.aU v.parts++u)):=by have:=hr;rw[<-lb,eb,fB,fB]at this;exact this.go1
   have c2:=ab6 (sg (r.go 1) (.mem ab [] false) (Mt 5 0 [])) 8 (by omega) (by omega) QC;rw[ss]at c2;have R2:=QC.go;obtain⟨aa,lp⟩:=UR (S:=S) (j:=j) (d:=d) (.mem ab [] false) v h5.2.2.2 h5.2.1 h5.2.2.1 (by omega) (fun x hx S r u h1 h2=>ih x (hv.all x hx) (R.all x hx) (by omega) S j r u h1 h2) v.aU.length 0 r u [] (by omega) hS _ R2;have R3:=R2.go;have hvb:vbN (S.length+1) v.aU v.parts=.mem [.int .i64 5,.int .i64 0,.str [],bk (S.length+1) 0 1 (rK v.aU),.ah,bk (S.length+1) 1 6 (zF v.parts)] (fR v.aU.length v.parts.length) false:=rfl;have py:[AV.int .i64 5,.int .i64 0,.str [],bk (S.length+1) 0 1 (rK v.aU),.ah,bk (S.length+1) 1 6 (zF v.parts)].map aB=[.int .i64 5,.int .i64 0,.str [],dG 1 (rK v.aU),.ah,dG 6 (zF v.parts)]:=by simp only[pz,Bl,nH];rfl
   have q1:=mQ (sz:=1) (Dq v.aU);have q2:=mQ (sz:=6) (JR v.parts);have AX:ck ([AV.int .i64 5,.int .i64 0,.str [],bk (S.length+1) 0 1 (rK v.aU),.ah,bk (S.length+1) 1 6 (zF v.parts)].map aB)=true:=by rw[py];simp[ck,aS,q1.2,q2.2]
   have Xg:([AV.int .i64 5,.int .i64 0,.str [],bk (S.length+1) 0 1 (rK v.aU),.ah,bk (S.length+1) 1 6 (zF v.parts)].map aB).map aB=[AV.int .i64 5,.int .i64 0,.str [],bk (S.length+1) 0 1 (rK v.aU),.ah,bk (S.length+1) 1 6 (zF v.parts)].map aB:=by rw[py];simp only[pz,Bl,q1.1,q2.1];rfl
   have hw:=zO 5 0 [] (dG 1 (rK v.aU)) .ah (dG 6 (zF v.parts)) v.aU [] v.parts (PB _) rfl (XJ _);rw[ev]at hw;have rr:=aub (((r.go 1).go (bI v.parts.length).length).go (aX.dt v.aU v.parts).length) aa _ (fR v.aU.length v.parts.length) v (by rw[py];exact hw);have r8:=er (.mem ab [] false) (vbN (S.length+1) v.aU v.parts) R3;have f2:=fin aa (((r.go 1).go (bI v.parts.length).length).go (aX.dt v.aU v.parts).length) _ (fR v.aU.length v.parts.length) (by rfl) AX;have l2:=la (((r.go 1).go (bI v.parts.length).length).go (aX.dt v.aU v.parts).length) (.mem ab [] false) [.int .i64 5,.int .i64 0,.str [],bk (S.length+1) 0 1 (rK v.aU),.ah,bk (S.length+1) 1 6 (zF v.parts)] (fR v.aU.length v.parts.length) rfl;have PC:=lz (((r.go 1).go (bI v.parts.length).length).go (aX.dt v.aU v.parts).length) _ (vbN (S.length+1) v.aU v.parts) (by rfl) Xg;rw[<-hvb]at l2 rr f2;simp only[py]at f2 l2 PC rr;have v00:vbN (S.length+1) [] []=Mt 5 0 []:=rfl;rw[k]at c1 wk xq;rw[eb];rw[h5.2.1]at c2 lp r8 f2 l2 PC rr⊢;simp[v00]at c2 lp r8 f2 l2 PC rr;simp[d0,c1,wk,fk,JO,xq,b0,l0,c2];rw[ae de.eq_1];simp[lp,r8,b0,l2,f2,PC,rr];congr 3;omega
  ·have h6:=R.k6 k
   have Z7:=R.n0 (by omega) (by omega);have hs0:=R.s0 (by omega) (by omega);have ev:aX.mk 6 0 [] [] v.ids v.parts=v:=aX.sP k Z7 hs0 h6.1 rfl rfl;have eb:v.bytes=[UInt8.ofNat v.kind.toNat]++(bI v.parts.length++aX.jI v.ids v.parts):=by rw[lb,if_neg (by omega),if_neg (by omega),if_neg (by omega),if_neg (by omega)];rfl
   have QC:po (r.go 1) (bI v.parts.length++(aX.jI v.ids v.parts++u)):=by have:=hr;rw[<-lb,eb,fB,fB]at this;exact this.go1
   have c2:=ab6 (sg (r.go 1) (.mem ab [] false) (Mt 6 0 [])) 12 (by omega) (by omega) QC;rw[ss]at c2;have R2:=QC.go;obtain⟨aa,lp⟩:=UT (S:=S) (j:=j) (d:=d) (.mem ab [] false) v h6.2.2.2 h6.2.1 h6.2.2.1 hv.one.id (by omega) (fun x hx S r u h1 h2=>ih x (hv.all x hx) (R.all x hx) (by omega) S j r u h1 h2) v.ids.length 0 r u [] (by omega) hS _ R2;have R3:=R2.go;have hvb:vbI (S.length+1) v.ids v.parts=.mem [.int .i64 6,.int .i64 0,.str [],.ah,bk (S.length+1) 0 1 (Pz v.ids),bk (S.length+1) 1 6 (zF v.parts)] (fR v.ids.length v.parts.length) false:=rfl;have py:[AV.int .i64 6,.int .i64 0,.str [],.ah,bk (S.length+1) 0 1 (Pz v.ids),bk (S.length+1) 1 6 (zF v.parts)].map aB=[.int .i64 6,.int .i64 0,.str [],.ah,dG 1 (Pz v.ids),dG 6 (zF v.parts)]:=by simp only[pz,Bl,nH];rfl
   have q1:=mQ (sz:=1) (XI v.ids);have q2:=mQ (sz:=6) (JR v.parts);have AX:ck ([AV.int .i64 6,.int .i64 0,.str [],.ah,bk (S.length+1) 0 1 (Pz v.ids),bk (S.length+1) 1 6 (zF v.parts)].map aB)=true:=by rw[py];simp[ck,aS,q1.2,q2.2]
   have Xg:([AV.int .i64 6,.int .i64 0,.str [],.ah,bk (S.length+1) 0 1 (Pz v.ids),bk (S.length+1) 1 6 (zF v.parts)].map aB).map aB=[AV.int .i64 6,.int .i64 0,.str [],.ah,bk (S.length+1) 0 1 (Pz v.ids),bk (S.length+1) 1 6 (zF v.parts)].map aB:=by rw[py];simp only[pz,Bl,q1.1,q2.1];rfl
   have hw:=zO 6 0 [] .ah (dG 1 (Pz v.ids)) (dG 6 (zF v.parts)) [] v.ids v.parts rfl (agQ _) (XJ _);rw[ev]at hw;have rr:=aub (((r.go 1).go (bI v.parts.length).length).go (aX.jI v.ids v.parts).length) aa _ (fR v.ids.length v.parts.length) v (by rw[py];exact hw);have r8:=er (.mem ab [] false) (vbI (S.length+1) v.ids v.parts) R3;have f2:=fin aa (((r.go 1).go (bI v.parts.length).length).go (aX.jI v.ids v.parts).length) _ (fR v.ids.length v.parts.length) (by rfl) AX;have l2:=la (((r.go 1).go (bI v.parts.length).length).go (aX.jI v.ids v.parts).length) (.mem ab [] false) [.int .i64 6,.int .i64 0,.str [],.ah,bk (S.length+1) 0 1 (Pz v.ids),bk (S.length+1) 1 6 (zF v.parts)] (fR v.ids.length v.parts.length) rfl;have PC:=lz (((r.go 1).go (bI v.parts.length).length).go (aX.jI v.ids v.parts).length) _ (vbI (S.length+1) v.ids v.parts) (by rfl) Xg;rw[<-hvb]at l2 rr f2;simp only[py]at f2 l2 PC rr;have v00:vbI (S.length+1) [] []=Mt 6 0 []:=rfl;rw[k]at c1 wk xq;rw[eb];rw[h6.2.1]at c2 lp r8 f2 l2 PC rr⊢;simp[v00]at c2 lp r8 f2 l2 PC rr;simp[d0,c1,wk,fk,JO,xq,b0,l0,c2];rw[ae de.eq_1];simp[lp,r8,b0,l2,f2,PC,rr];congr 3;omega
end
theorem NX{S:St}{j:Nat}{r:Rd}{u:bq}(v:aX)(hv:v.Wf)(h:v.aR 5=true)(hS:S[j]? =some (eB j r))(hr:po r (v.bytes++u)):
 DF ax nk 72 [.ptr j 0] S=some (.agg v.ai,S.set j (eB j (r.go v.bytes.length))):=by
 have hj:j<S.length:=(fI.1 hS).1;have c1:=ajN 5 v hv h (by omega) (S++[.mem ab [] false]) j r u (cd _ hS) hr;rw[dL _ hj]at c1;have T1:(S.set j (eB j (r.go v.bytes.length))).length=S.length:=by simp
 have st:=uO T1 (aX.fJ v).aS [.mem ab [] false] 0 [] S.length 6;have l4:aY (S.set j (eB j (r.go v.bytes.length))++[.mem v.ai [] false]) (.agg 6) (.ptr S.length 0)=some (.agg v.ai):=by rw[lT0 T1];simp
 have xv:∀b G,(S.set j b++G).take S.length=S.set j b:=fun b G=>by rw[ob (by simp),gO (by simp)]
 have vG:aL ab 0 v.ai=v.ai:=bX (by simp[ab]);rw[Ut,ak Er.eq_1];simp at c1 st;simp[c1,st,l4,xv]
def abA(sz:Nat)(es:List (List AV)):AV:=if es=[]then .ah else .sl .fresh sz es
def LZ(sz:Nat)(aW:AV)(aa:List (Option Nat))(es:List (List AV)):Prop:=(es=[]/\aW=.ah/\aa=[])\/(es≠[]/\aW=.sl (.fr 0) sz es/\aa=[some es.length])
theorem LZ.nil(sz:Nat):LZ sz .ah [] []:=.inl ⟨rfl,rfl,rfl⟩
theorem LZ.app{sz:Nat}{aW:AV}{aa:List (Option Nat)}{es:List (List AV)}(h:LZ sz aW aa es)(x:List AV)(hl:es.length<1000000)(S:St):
 ∃o2 t2,cb sz aa S aW (.sl .exact sz [x])=some (o2,t2,S)/\LZ sz o2 t2 (es++[x]):=by
 rcases h with⟨rfl,rfl,rfl⟩|⟨hn,rfl,rfl⟩;·exact⟨.sl (.fr 0) sz [x],[some 1],by simp[cb,bL],.inr ⟨by simp,rfl,rfl⟩⟩
 ·have hb:¬(1073741824<es.length+1):=by omega
  refine⟨.sl (.fr 0) sz (es++[x]),[some (es.length+1)],by simp[cb,bL,hb],.inr ⟨by simp,rfl,by simp⟩⟩
theorem LZ.res{sz:Nat}{aW:AV}{aa:List (Option Nat)}{es:List (List AV)}(h:LZ sz aW aa es)(hp:ct es=true):∃t,a9 aa aW=(abA sz es,t)/\bu aW=true/\bD aW=aW/\aw (abA sz es)=true:=by
 rcases h with⟨rfl,rfl,rfl⟩|⟨hn,rfl,rfl⟩;·exact⟨[],rfl,rfl,rfl,rfl⟩
 ·refine⟨[none], ?_,rfl,rfl, ?_⟩
  ·have:=vg [some es.length] 0 sz es (by simp)
   rw[this];simp[abA,hn]
  ·simp[abA,hn,aw,hp]
theorem aiS{T:St}{i sz:Nat}{cs:List AV}{o:Nat}(es:List (List AV))(bt aa:List (Option Nat))(hT:T[i]? =some (.mem cs bt false))(ho:o+1<=cs.length)(hp:ct es=true)(nb:Nat)(yk:nb<=i):
 ∃v t t2,aT aa (abA sz es)=(v,t)/\bg t nb T 1 (.ptr i o) v=some (t2,T.set i (.mem (aL cs o [bk i bt.length sz es]) (if es=[]then bt else bt++[some es.length]) false)):=by
 by_cases he:es=[]
 ·subst he
  refine⟨.ah,aa,aa,rfl, ?_⟩;unfold bg;simp[hT,aaq,AV.cells,ho,aB,aS,dU,bk]
 ·refine⟨.sl (.fr aa.length) sz es,aa++[some es.length],aa++[none],by simp[abA,he,aT,cA], ?_⟩
  unfold bg;simp[hT,aaq,AV.cells,ho,aB,aS,hp,dU,bk,he]
theorem amc{S:St}{j:Nat}{r:Rd}{u:bq}(s:dK)(hs:s.Wf)(h:rZ s=true)(hS:S[j]? =some (eB j r))(hr:po r (jX s++u)):
 DF ax nk 115 [.ptr j 0] S=some (.agg s.ai,S.set j (eB j (r.go (jX s).length))):=by
 have hj:j<S.length:=(fI.1 hS).1;have hl:s.name.length<=64:=by
  unfold rZ at h;by_cases c:s.name=[];·simp[c]
  ·rw[if_neg c]at h
   simp only[dk]at h;have:=fN h.2;omega
 unfold jX at hr;rw[fB]at hr;have c1:=NW (cd [.mem [.str [],.int .u64 0] [] false] hS) hl hr;rw[dL _ hj]at c1;have R1:=hr.go;have T1:∀b,(S.set j b).length=S.length:=fun b=>by simp
 have xv:∀b G,(S.set j b++G).take S.length=S.set j b:=fun b G=>by rw[ob (by simp),gO (by simp)]
 have fk:∀x:bq,dr [.str [],.int .u64 0] [(0,1,.str x)]=some [.str x,.int .u64 0]:=fun _=>rfl;have st:∀x:bq,bg [] S.length (S.set j (eB j (r.go (aM s.name).length))++[.mem [.str [],.int .u64 0] [] false,.mem [.str [],.int .u64 0] [] false]) 2 (.ptr (S.length+1) 0) (.agg [.str x,.int .u64 0])=some ([],gE S j (r.go (aM s.name).length) (.mem [.str [],.int .u64 0] [] false) (.mem [.str x,.int .u64 0] [] false)):=fun x=>by rw[TG (T1 _) (by rfl)];rfl
 have st2:∀r' x(n:Int),bg [] S.length (gE S j r' (.mem [.str [],.int .u64 0] [] false) (.mem [.str x,.int .u64 0] [] false)) 1 (.ptr (S.length+1) 1) (.int .u64 n)=some ([],gE S j r' (.mem [.str [],.int .u64 0] [] false) (.mem [.str x,.int .u64 n] [] false)):=fun r' x n=>by unfold gE;rw[stT (kx S j r') (vH .u64 n)];rfl
 have l0:∀r' x n,aY (gE S j r' (.mem [.str [],.int .u64 0] [] false) (.mem [.str x,.int .u64 n] [] false)) .cell (.ptr (S.length+1) 0)=some (.str x):=fun r' x n=>kL ..;have lA:∀r' x n,aY (gE S j r' (.mem [.str [],.int .u64 0] [] false) (.mem [.str x,.int .u64 n] [] false)) (.agg 2) (.ptr (S.length+1) 0)=some (.agg [.str x,.int .u64 n]):=fun r' x n=>kL ..;have st3:∀r' x(n:Int),bg [] S.length (gE S j r' (.mem [.str [],.int .u64 0] [] false) (.mem [.str x,.int .u64 n] [] false)) 2 (.ptr S.length 0) (.agg [.str x,.int .u64 n])=some ([],gE S j r' (.mem [.str x,.int .u64 n] [] false) (.mem [.str x,.int .u64 n] [] false)):=fun r' x n=>by unfold gE;rw[uO (kx S j r') (by rfl)];rfl
 have lz:∀r' x n b,aY (gE S j r' (.mem [.str x,.int .u64 n] [] false) b) (.agg 2) (.ptr S.length 0)=some (.agg [.str x,.int .u64 n]):=fun r' x n b=>by unfold gE;rw[lT0 (kx S j r')];rfl
 have tk2:∀r' z b,(gE S j r' z b).take S.length=S.set j (eB j r'):=fun r' z b=>xv _ _;have aeh:=Qv s hs;rw[h]at aeh;have en:s.ai=[.str s.name,.int .u64 s.id]:=rfl;rw[en]at aeh⊢;have hdl:j1 [AV.str s.name,.int .u64 s.id]:=by simp
 rw[Wg,ak IJ.eq_1];by_cases hn:s.name=[]
 ·rw[if_pos hn]at R1
  have ea:((s.id.toNat:Nat):Int)=s.id:=by have:=hs.id0;omega
  have c2:=k_ (qI hS (r.go (aM s.name).length) (.mem [.str [],.int .u64 0] [] false) (.mem [.str [],.int .u64 0] [] false)) (n:=s.id.toNat) (by have:=hs.id1;omega) R1;rw[uv hS,ea]at c2;have es:jX s=aM s.name++bI s.id.toNat:=by unfold jX;rw[if_pos hn]
  rw[es];rw[hn]at c1 c2 st aeh hdl⊢;simp at c1 c2 aeh;simp[c1,fk,st,l0,c2,st2,lA,aeh,bF,st3,lz,tk2,hdl]
 ·have Cr:s.name.isEmpty=false:=by simpa using hn
  have Fk:s.id=0:=by unfold rZ at h;rw[if_neg hn]at h;simp only[dk,decide_eq_true_eq]at h;exact h.1
  have es:jX s=aM s.name:=by unfold jX;rw[if_neg hn];simp
  rw[es];rw[Fk]at aeh hdl⊢;simp[c1,fk,st,l0,Cr,lA,aeh,bF,st3,lz,tk2,hdl]
def PD(p:List dK):List (List AV):=p.map dK.ai
theorem PE(l:List dK):ct (PD l)=true:=jJ.2 fun x hx=>by obtain⟨s,_,rfl⟩:=Fq.1 hx;exact j1.aS (by simp)
@[simp]theorem avr(l:List dK):(PD l).length=l.length:=by simp[PD]
theorem amd{S:St}{j:Nat}{r:Rd}{u:bq}(p:List dK)(hs:∀s∈p,s.Wf)(h:zf p=true)(hS:S[j]? =some (eB j r))(hr:po r (kB p++u)):
 DF ax nk 71 [.ptr j 0] S=some (abA 2 (PD p),S.set j (eB j (r.go (kB p).length))):=by
 have hp:=h;unfold zf at hp;simp only[dk,decide_eq_true_eq]at hp;have e0:kB p=bI p.length++p.flatMap jX:=rfl;rw[e0,fB]at hr;have c1:=k_ hS (n:=p.length) (by omega) hr;have R1:=hr.go;have xv:∀b,(S.set j b).take S.length=S.set j b:=fun b=>gO (by simp);have b1:du .eql (.iL ff) true .bP .bP=some (.bool true):=rfl;have b0:du .neq (.iL ff) true .bP .bP=some (.bool false):=rfl;have key:∀d i(r0:Rd)(aW:AV)(aa:List (Option Nat)),i+d=p.length->po r0 ((p.drop i).flatMap jX++u)->LZ 2 aW aa (PD (p.take i))->
  ∃dH aG,LZ 2 dH aG (PD p)/\DC ax nk (.loop ot) ⟨[(0,.ptr j 0),(3,.int .u64 (p.length:Int)),(4,aW),(5,.int .u64 (i:Int))],aa,S.length⟩ (S.set j (eB j r0))=
   some (.exit 0,⟨[(0,.ptr j 0),(4,dH)],aG,S.length⟩,S.set j (eB j (r0.go ((p.drop i).flatMap jX).length))):=by
  intro d;induction d with
  |zero=>
   intro i r0 aW aa hi Oc ho;have K9:¬i<p.length:=by omega
   have e3:p.drop i=[]:=dV (by omega);have e4:p.take i=p:=gO (by omega);rw[e4]at ho;refine⟨aW,aa,ho, ?_⟩;rw[aj,ak ot.eq_1,e3];simp[K9,Rd.go]
  |succ d ih=>
   intro i r0 aW aa hi Oc ho;have h3:i<p.length:=by omega
   obtain⟨y,hy,gg⟩:=aE (l:=p) (i:=i) (by omega);have hw:IntKind.wrap .u64 ((i:Int)+1)=((i+1:Nat):Int):=by show((i:Int)+1)%18446744073709551616=_;omega
   have ym:=eT hy;rw[aJ hy,z6]at Oc⊢;rw[fB]at Oc;have ce:=Ad (L3 hS r0) Oc;have c2:=amc y (hs y ym) (j7.1 hp.2 y ym) (L3 hS r0) Oc;rw[Hu]at c2;have tP:p.take (i+1)=p.take i++[y]:=by rw[sW,hy];rfl
   obtain⟨o2,t2,a1,a2⟩:=ho.app y.ai (by simp;omega) (S.set j (eB j (r0.go (jX y).length)));have a3:LZ 2 o2 t2 (PD (p.take (i+1))):=by rw[tP];simpa[PD]using a2
   obtain⟨dH,aG,n1,n2⟩:=ih (i+1) (r0.go (jX y).length) o2 t2 (by omega) Oc.go a3;refine⟨dH,aG,n1, ?_⟩;have bo:e_ 2 [[.str [],.int .u64 0]] [(0,.agg y.ai)]=some [y.ai]:=rfl;rw[aj,ak ot.eq_1];simp at n2 hw c2;simp[h3,ce,b1,c2,bo,a1];rw[ae ot.eq_1];simp[hw,n2]
 obtain⟨dH,aG,g1,g2⟩:=key p.length 0 _ .ah [] (by omega) R1 (LZ.nil 2);obtain⟨t,f1,f2,f3,f4⟩:=g1.res (PE p);have ce:=Ad (L3 hS ((r.go (bI p.length).length).go ((p.drop 0).flatMap jX).length)) R1.go;have cV:((8:Int)<(p.length:Int))=False:=eq_false (by omega);rw[Wd,ak IA.eq_1,e0];simp only[jS]at g2 ce;simp at g2 ce;simp[c1,cV];rw[ae ot.eq_1];simp[g2,ce,b0,f1,f2,f3,f4,xv]
def xx(k:Int)(row:AV)(id af:Int)(vs:List AV):List AV:=[.int .i64 k,row,.int .u64 id,.int .u64 af]++vs
theorem ZL{k:Int}{row:AV}{id af:Int}{vs:List AV}(h:vs.length=6):(xx k row id af vs).length=10:=by simp[xx,h]
theorem PF:ab.length=6:=rfl
theorem NY:ab.map aB=ab:=rfl
theorem ab7:ck ab=true:=rfl
theorem uw:ab.map cY=oc.ai:=by rw[aX.fA];rfl
theorem atB{S:St}{j:Nat}{r:Rd}{u:bq}(o:ph)(ho:o.Wf)(h:Oe o=true)(hS:S[j]? =some (eB j r))(hr:po r (wm o++u)):
 DF ax nk 32 [.ptr j 0] S=some (.agg o.ai,S.set j (eB j (r.go (wm o).length))):=by
 have hj:j<S.length:=(fI.1 hS).1;have kr:=UN h;have eb:wm o=UInt8.ofNat o.kind.toNat::(kB o.path++((if 1<o.kind then bI o.id.toNat else[])++((if o.kind=2\/o.kind=4 then bI o.after.toNat else[])++(if o.kind=1\/o.kind=2 then o.value.bytes else[])))):=rfl;rw[eb]at hr⊢;simp only[Fm,fB]at hr;have RT:∀b,(S++[b])[j]? =some (eB j r):=fun b=>cd _ hS;have c1:=Nc (RT (.mem aF [] false)) hr;rw[dL _ hj]at c1;have hk:((UInt8.ofNat o.kind.toNat).toNat:Int)=o.kind:=by rw[yA];omega
 rw[hk]at c1;have wk:IntKind.wrap .i64 o.kind=o.kind:=wrap64 (by omega);have R1:=hr.go1;have T1:(S.set j (eB j (r.go 1))).length=S.length:=by simp
 have fk:dr aF [(0,1,.int .i64 o.kind)]=some (xx o.kind .ah 0 0 ab):=rfl;have JO:bg [] S.length (S.set j (eB j (r.go 1))++[.mem aF [] false,.mem aF [] false]) 10 (.ptr (S.length+1) 0) (.agg (xx o.kind .ah 0 0 ab))=some ([],gE S j (r.go 1) (.mem aF [] false) (.mem (xx o.kind .ah 0 0 ab) [] false)):=by rw[TG T1 (by rfl)];rfl
 have sg:=fun r' b=>qI hS r' (.mem aF [] false) b;have ss:=fun r' r'' b=>uv hS r' r'' (.mem aF [] false) b;have c2:=amd o.path ho.path (Dm h) (sg (r.go 1) (.mem (xx o.kind .ah 0 0 ab) [] false)) R1;rw[ss]at c2;have R2:=R1.go;obtain⟨v,t1,t2,p1,p2⟩:=aiS (sz:=2) (o:=1) (PD o.path) [] [] (m6 S j ((r.go 1).go (kB o.path).length) (.mem aF [] false) (.mem (xx o.kind .ah 0 0 ab) [] false)) (by simp[xx]) (PE _) S.length (by omega);rw[oj]at p2;generalize hbt:(if PD o.path=[]then([]:List (Option Nat))else[]++[some (PD o.path).length])=bt at p2;have p3:aL (xx o.kind .ah 0 0 ab) 1 [bk (S.length+1) ([]:List (Option Nat)).length 2 (PD o.path)]=xx o.kind (bk (S.length+1) 0 2 (PD o.path)) 0 0 ab:=rfl;rw[p3]at p2;generalize MX:bk (S.length+1) 0 2 (PD o.path)=row at*;have hrs:aB row=dG 2 (PD o.path):=by rw[<-MX];exact nH ..
 have q1:=mQ (sz:=2) (PE o.path);have l0:∀r' k row id af vs bt,aY (gE S j r' (.mem aF [] false) (.mem (xx k row id af vs) bt false)) .cell (.ptr (S.length+1) 0)=some (.int .i64 k):=fun _ _ _ _ _ _ _=>kL ..;have l2:∀r' k row id af vs bt,aY (gE S j r' (.mem aF [] false) (.mem (xx k row id af vs) bt false)) .cell (.ptr (S.length+1) 2)=some (.int .u64 id):=fun _ _ _ _ _ _ _=>kL ..;have l3:∀r' k row id af vs bt,aY (gE S j r' (.mem aF [] false) (.mem (xx k row id af vs) bt false)) .cell (.ptr (S.length+1) 3)=some (.int .u64 af):=fun _ _ _ _ _ _ _=>kL ..;have s2:∀aa r' k row id af vs bt(x:Int),bg aa S.length (gE S j r' (.mem aF [] false) (.mem (xx k row id af vs) bt false)) 1 (.ptr (S.length+1) 2) (.int .u64 x)=some (aa,gE S j r' (.mem aF [] false) (.mem (xx k row x af vs) bt false)):=fun aa r' k row id af vs bt x=>by rw[fT (vH .u64 x) (m6 ..),oj,if_pos ⟨rfl,by simp[xx]⟩];rfl
 have s3:∀aa r' k row id af vs bt(x:Int),bg aa S.length (gE S j r' (.mem aF [] false) (.mem (xx k row id af vs) bt false)) 1 (.ptr (S.length+1) 3) (.int .u64 x)=some (aa,gE S j r' (.mem aF [] false) (.mem (xx k row id x vs) bt false)):=fun aa r' k row id af vs bt x=>by rw[fT (vH .u64 x) (m6 ..),oj,if_pos ⟨rfl,by simp[xx]⟩];rfl
 have s4:∀aa r' k row id af bt(x:aX),bg aa S.length (gE S j r' (.mem aF [] false) (.mem (xx k row id af ab) bt false)) 6 (.ptr (S.length+1) 4) (.agg x.ai)=some (aa,gE S j r' (.mem aF [] false) (.mem (xx k row id af x.ai) bt false)):=fun aa r' k row id af bt x=>by
  rw[fT (jE (aX.fJ x)) (m6 ..),oj,if_pos ⟨by simp[AV.cells],by simp[xx]⟩];have:aL (xx k row id af ab) 4 (AV.agg x.ai).cells=xx k row id af x.ai:=by simp[aL,xx,AV.cells]
  rw[this]
 have lA:∀r' id af vs,vs.length=6->vs.map aB=vs->aY (gE S j r' (.mem aF [] false) (.mem (xx o.kind row id af vs) bt false)) (.agg 10) (.ptr (S.length+1) 0)=some (.agg (xx o.kind (dG 2 (PD o.path)) id af vs)):=fun r' id af vs hl hs=>by rw[kL,cP _ (ZL hl)];unfold xx;simp only[TD,pz,Bl,hs,hrs];rfl
 have sZ:∀aa r' id af vs b,vs.length=6->ck vs=true->bg aa S.length (gE S j r' (.mem aF [] false) b) 10 (.ptr S.length 0) (.agg (xx o.kind (dG 2 (PD o.path)) id af vs))=some (aa,gE S j r' (.mem (xx o.kind (dG 2 (PD o.path)) id af vs) [] false) b):=fun aa r' id af vs b hl hp=>by
  unfold gE;have AX:ck (xx o.kind (dG 2 (PD o.path)) id af vs)=true:=by
   rw[z8]at hp⊢;intro x hx;unfold xx at hx;simp only[MJ,yi,TA,or_false]at hx;rcases hx with(rfl|rfl|rfl|rfl)|hx;·rfl
   ·exact q1.2
   ·rfl
   ·rfl
   ·exact hp x hx
  rw[uO (kx S j r') AX];simp[ZL hl,aL]
 have lZ:∀r' id af vs b,vs.length=6->vs.map aB=vs->aY (gE S j r' (.mem (xx o.kind (dG 2 (PD o.path)) id af vs) [] false) b) (.agg 10) (.ptr S.length 0)=some (.agg (xx o.kind (dG 2 (PD o.path)) id af vs)):=fun r' id af vs b hl hs=>by unfold gE;rw[lT0 (kx S j r')];simp only[v_];rw[cP _ (ZL hl)];unfold xx;simp only[TD,pz,Bl,hs,q1.1];rfl
 have nr:∀id af vs(w:aX),vs.map cY=w.ai->bD (.agg (xx o.kind (dG 2 (PD o.path)) id af vs))=.agg (ph.mk o.kind o.path id af w).ai:=fun id af vs w hw=>by show AV.agg ((xx o.kind (dG 2 (PD o.path)) id af vs).map cY)=_;unfold xx ph.ai;simp only[TD,hw];show AV.agg ([_,cY (dG 2 (PD o.path)),_,_]++_)=_;rw[pF];rfl
 have res:∀aa r' id af vs b(w:aX),vs.map cY=w.ai->cC 32 aa [.agg (xx o.kind (dG 2 (PD o.path)) id af vs)] S (gE S j r' (.mem (xx o.kind (dG 2 (PD o.path)) id af vs) [] false) b)=some (.agg (ph.mk o.kind o.path id af w).ai,S.set j (eB j r')):=fun aa r' id af vs b w hw=>by
  rw[lL,nr id af vs w hw];have:(gE S j r' (.mem (xx o.kind (dG 2 (PD o.path)) id af vs) [] false) b).take S.length=S.set j (eB j r'):=by unfold gE;rw[ob (by simp),gO (by simp)]
  have hd:j1 (ph.mk o.kind o.path id af w).ai:=ph.fJ _;simp[bu,this,hd]
 have b0:du .neq (.iL ff) true .bP .bP=some (.bool false):=rfl;have er:=fun{r':Rd}{u':bq}(b:cF)(h':po r' u')=>Ad (sg r' b) h';have vL:o.value.ai.length=6:=by simp
 have vS:=(aX.fJ o.value).dN;have vP:=(aX.fJ o.value).aS;have vN:=(aX.fJ o.value).kU;have Fk:((o.id.toNat:Nat):Int)=o.id:=by have:=ho.id0;omega
 have haf:((o.after.toNat:Nat):Int)=o.after:=by have:=ho.af0;omega
 have hR:=h;unfold Oe at hR;rw[dk]at hR;have hR:=hR.2;rw[abR,ak O9.eq_1];rcases kr with k|k|k|k
 ·rw[if_pos k]at hR
  simp only[dk,decide_eq_true_eq]at hR;simp only[k]at R2⊢;simp at R2;have c5:=NX o.value ho.value hR.2 (sg ((r.go 1).go (kB o.path).length) (.mem (xx 1 row 0 0 ab) bt false)) (by simpa using R2);rw[ss]at c5;have R5:=po.go R2;have err:=er (.mem (xx 1 row 0 0 o.value.ai) bt false) R5;have hw:ph.mk o.kind o.path 0 0 o.value=o:=by cases o;simp only at hR;simp[hR.1.1,hR.1.2]
  have rr:=fun aa r' b=>res aa r' 0 0 o.value.ai b o.value vN;rw[hw]at rr;have lA:=fun r'=>lA r' 0 0 _ vL vS;have sZ:=fun aa r' b=>sZ aa r' 0 0 _ b vL vP;have lZ:=fun r' b=>lZ r' 0 0 _ b vL vS;rw[k]at c1 wk fk JO c2 p2 lA sZ lZ rr;simp at c2 p2 c5 err lA sZ lZ rr;simp[c1,wk,fk,JO,l0,c2,p1,p2,c5,s4,err,b0,lA,sZ,lZ,rr];refine⟨rfl, ?_⟩;congr 3;omega
 ·rw[if_neg (by omega),if_pos k]at hR
  simp only[dk,decide_eq_true_eq]at hR;simp only[k]at R2⊢;simp at R2;have c3:=k_ (sg ((r.go 1).go (kB o.path).length) (.mem (xx 2 row 0 0 ab) bt false)) (n:=o.id.toNat) (by have:=ho.id1;omega) (by simpa using R2);rw[ss,Fk]at c3;have R3:=po.go R2;have c4:=k_ (sg _ (.mem (xx 2 row o.id 0 ab) bt false)) (n:=o.after.toNat) (by have:=ho.af1;omega) R3;rw[ss,haf]at c4;have R4:=po.go R3;have c5:=NX o.value ho.value hR.2 (sg _ (.mem (xx 2 row o.id o.after ab) bt false)) R4;rw[ss]at c5;have R5:=po.go R4;have err:=er (.mem (xx 2 row o.id o.after o.value.ai) bt false) R5;have rr:=fun aa r' b=>res aa r' o.id o.after o.value.ai b o.value vN;have n1:¬o.id=0:=hR.1.1;have n2:¬o.after=o.id:=fun e=>hR.1.2 e.symm;have lA:=fun r'=>lA r' o.id o.after _ vL vS;have sZ:=fun aa r' b=>sZ aa r' o.id o.after _ b vL vP;have lZ:=fun r' b=>lZ r' o.id o.after _ b vL vS;have hw:ph.mk 2 o.path o.id o.after o.value=o:=by rw[<-k]
  rw[k]at c1 wk fk JO c2 p2 lA sZ lZ rr;rw[hw]at rr;simp at c2 p2 c3 c4 c5 err lA sZ lZ rr;simp[c1,wk,fk,JO,l0,l2,l3,c2,p1,p2,c3,s2,n1,c4,s3,n2,c5,s4,err,b0,lA,sZ,lZ,rr];refine⟨rfl, ?_⟩;congr 3;omega
 ·rw[if_neg (by omega),if_neg (by omega),if_pos k]at hR
  simp only[dk,decide_eq_true_eq]at hR;have hz:=(AM _).1 hR.2;simp only[k]at R2⊢;simp at R2;have c3:=k_ (sg ((r.go 1).go (kB o.path).length) (.mem (xx 3 row 0 0 ab) bt false)) (n:=o.id.toNat) (by have:=ho.id1;omega) (by simpa using R2);rw[ss,Fk]at c3;have R3:=po.go R2;have err:=er (.mem (xx 3 row o.id 0 ab) bt false) R3;have rr:=fun aa r' b=>res aa r' o.id 0 ab b oc uw;have n1:¬o.id=0:=hR.1.1;have lA:=fun r'=>lA r' o.id 0 _ PF NY;have sZ:=fun aa r' b=>sZ aa r' o.id 0 _ b PF ab7;have lZ:=fun r' b=>lZ r' o.id 0 _ b PF NY;have hw:ph.mk 3 o.path o.id 0 oc=o:=by rw[<-k,<-hz];conv=>lhs;rw[<-hR.1.2]
  rw[k]at c1 wk fk JO c2 p2 lA sZ lZ rr;rw[hw]at rr;simp at c2 p2 c3 err lA sZ lZ rr;simp[c1,wk,fk,JO,l0,l2,c2,p1,p2,c3,s2,n1,err,b0,lA,sZ,lZ,rr];refine⟨rfl, ?_⟩;congr 3;omega
 ·rw[if_neg (by omega),if_neg (by omega),if_neg (by omega),if_pos k]at hR
  simp only[dk,decide_eq_true_eq]at hR;have hz:=(AM _).1 hR.2;simp only[k]at R2⊢;simp at R2;have c3:=k_ (sg ((r.go 1).go (kB o.path).length) (.mem (xx 4 row 0 0 ab) bt false)) (n:=o.id.toNat) (by have:=ho.id1;omega) (by simpa using R2);rw[ss,Fk]at c3;have R3:=po.go R2;have c4:=k_ (sg _ (.mem (xx 4 row o.id 0 ab) bt false)) (n:=o.after.toNat) (by have:=ho.af1;omega) R3;rw[ss,haf]at c4;have R4:=po.go R3;have err:=er (.mem (xx 4 row o.id o.after ab) bt false) R4;have rr:=fun aa r' b=>res aa r' o.id o.after ab b oc uw;have n1:¬o.id=0:=hR.1.1;have n2:¬o.after=o.id:=fun e=>hR.1.2 e.symm;have lA:=fun r'=>lA r' o.id o.after _ PF NY;have sZ:=fun aa r' b=>sZ aa r' o.id o.after _ b PF ab7;have lZ:=fun r' b=>lZ r' o.id o.after _ b PF NY;have hw:ph.mk 4 o.path o.id o.after oc=o:=by rw[<-k,<-hz]
  rw[k]at c1 wk fk JO c2 p2 lA sZ lZ rr;rw[hw]at rr;simp at c2 p2 c3 c4 err lA sZ lZ rr;simp[c1,wk,fk,JO,l0,l2,l3,c2,p1,p2,c3,s2,n1,c4,s3,n2,err,b0,lA,sZ,lZ,rr];refine⟨rfl, ?_⟩;congr 3;omega
section
theorem ap5{S:St}{i sz:Nat}{es:List (List AV)}{x:List AV}{cs:List AV}{o:Nat}{bt:List (Option Nat)}(t:List (Option Nat))(k:Nat)(hS:S[i]? =some (.mem cs bt false))(hk:es=[]->bt.length=k)(hk2:es≠[]->bt[k]? =some (some es.length))
 (hb:es.length<1000000) (ho:o+1<=cs.length) (hp:ct (es++[x])=true):
 ∃v1 t1 S1 t2,cb sz t S (bk i k sz es) (.sl .exact sz [x])=some (v1,t1,S1)/\
  ∀nb,bg t1 nb S1 1 (.ptr i o) v1=some (t2,S.set i (.mem (aL cs o [bk i k sz (es++[x])]) (if es=[]then bt++[some 1]else bt.set k (some (es.length+1))) false)):=by
 by_cases he:es=[]
 ·subst he
  obtain rfl:=hk rfl;refine⟨.sl (.fr t.length) sz [x],t++[some 1],S,t++[none],by simp[cb,bk,bL],fun nb=>?_⟩;unfold bg;simp only[hS];have hpp:aS (aB (.sl (.fr t.length) sz [x]))=true:=by simpa[aB,aS]using hp
  simp[aaq,AV.cells,ho,hpp,dU,bk]
 ·have hk2:=hk2 he
  have hi:=(fI.1 hS).1;have hle:¬(1073741824<es.length+1):=by omega
  refine⟨.sl (.bx i k) sz (es++[x]),t,S.set i (.mem cs (bt.set k (some (es.length+1))) false),t, ?_,fun nb=>?_⟩;·simp[cb,bk,he,bL,hS,hk2,hle]
  ·unfold bg
   have hpp:aS (aB (.sl (.bx i k) sz (es++[x])))=true:=by simpa[aB,aS]using hp
   simp[hi,aaq,AV.cells,ho,hpp,dU,bk,he]
def FO(l:List bj):List (List AV):=l.map bj.ai
theorem afr(a:List bj)(x:bj):FO (a++[x])=FO a++[x.ai]:=by simp[FO]
@[simp]theorem avt(a:List bj):(FO a).length=a.length:=by simp[FO]
theorem JT(l:List bj):ct (FO l)=true:=jJ.2 fun x hx=>by obtain⟨s,_,rfl⟩:=Fq.1 hx;exact j1.aS (by simp)
theorem XK(ns:List bj):cY (dG 3 (FO ns))=oU ns:=pF 3 _
def up0(bt:List (Option Nat))(n:Nat):List (Option Nat):=if n=0 then bt++[some 1]else bt.set 0 (some (n+1))
theorem afs{T:St}{j m:Nat}{r:Rd}{s u:bq}{ws:List bq}{k:Int}{agR:AV}{bt:List (Option Nat)}(hT:T[j]? =some (eB j r))(hm:T[m]? =some (.mem [.int .i64 k,bk m 0 1 (rK ws),agR] bt false))(QU:j≠m)
 (Ms:ws=[]->bt.length=0) (hb1:ws≠[]->bt[0]? =some (some ws.length)) (hw:ws.length<1000) (hs:dq s=true) (g:FuncId) (hg:nk.rP g=none) (mC:u9 g=false) (hF:∀S,DF ax nk g [cw (ws++[s])] S=some (.bool true,S)) (hr:po r (aM s++u)):
 DF ax nk 188 [.ptr j 0,.ptr m 0,.fn g [] []] T=some (.cT [],(T.set j (eB j (r.go (aM s).length))).set m (.mem [.int .i64 k,bk m 0 1 (rK (ws++[s])),agR] (up0 bt ws.length) false)):=by
 have hl:=fN hs;have c1:=NW hT (by omega) hr;have c2:=kj s (by omega);rw[hs]at c2;have DP:(T.set j (eB j (r.go (aM s).length)))[m]? =some (.mem [.int .i64 k,bk m 0 1 (rK ws),agR] bt false):=by rw[lG QU];exact hm
 have nn:rK ws=[]↔ws=[]:=by simp[rK]
 obtain⟨v1,t1,S1,t2,a1,a2⟩:=ap5 (sz:=1) (es:=rK ws) (x:=[.str s]) (o:=1) [] 0 DP (fun h=>Ms (nn.1 h)) (fun h=>by rw[afp];exact hb1 fun e=>h (nn.2 e)) (by simp;omega) (by simp) (by rw[<-R_];exact Dq _);have eu:(if rK ws=[]then bt++[some 1]else bt.set 0 (some ((rK ws).length+1)))=up0 bt ws.length:=by
  unfold up0;by_cases h:ws=[];·rw[if_pos (nn.2 h),if_pos (by simp[h])]
  ·have:¬ws.length=0:=fun e=>h (Tn e)
   rw[if_neg fun e=>h (nn.1 e),if_neg this,afp]
 rw[eu,<-R_]at a2;have b1:aL [.int .i64 k,bk m 0 1 (rK ws),agR] 1 [bk m 0 1 (rK (ws++[s]))]=[.int .i64 k,bk m 0 1 (rK (ws++[s])),agR]:=rfl;rw[b1]at a2;have l1:aY (T.set j (eB j (r.go (aM s).length))) .cell (.ptr m 1)=some (bk m 0 1 (rK ws)):=by rw[bd DP];rfl
 have hmm:m<(T.set j (eB j (r.go (aM s).length))).length:=(fI.1 DP).1;have l1b:∀X,aY ((T.set j (eB j (r.go (aM s).length))).set m (.mem [.int .i64 k,X,agR] (up0 bt ws.length) false)) .cell (.ptr m 1)=some X:=fun X=>by rw[bd (qK hmm)];rfl
 have tkT:∀a b,((T.set j a).set m b).take T.length=(T.set j a).set m b:=fun a b=>gO (by simp);have nn2:iA 1 (rK (ws++[s]))=cw (ws++[s]):=rfl;have fb:=ajM s;rw[Ru,ak Cf.eq_1];simp[c1,dh,l1,fb,a1,a2,FJ,c2,l1b,ZI,ZJ,ZK,PA,nn2,hg,mC,hF,bF,tkT,cC,ay,bA,aw]
theorem XL{S:St}{j:Nat}{r:Rd}{n:Nat}{u:bq}(hS:S[j]? =some (eB j r))(least:Nat)(hl:least<=n)(hn:n<=8)(h:po r (bI n++u)):DF ax nk 187 [.ptr j 0,.int .u64 (least:Int)] S=some (.int .i64 (n:Int),S.set j (eB j (r.go (bI n).length))):=by have c1:=k_ hS (by omega) h;have ce:=Ad (L3 hS (r.go (bI n).length)) h.go;have w2:IntKind.wrap .i64 (n:Int)=(n:Int):=wrap64 (by omega);have h1:((8:Int)<(n:Int))=False:=eq_false (by omega);have h2:((n:Int)<(least:Int))=False:=eq_false (by omega);have tk:∀b,(S.set j b).take S.length=S.set j b:=fun b=>gO (by simp);have b0:du .neq (.iL ff) true .bP .bP=some (.bool false):=rfl;rw[Pr,ak AB.eq_1];simp[c1,ce,b0,w2,h1,h2,tk]
def sb4(m:Nat)(ws:List bq):cF:=.mem [.int .i64 4,bk m 0 1 (rK ws),.ah] (if ws.length=0 then[]else[some ws.length]) false
def sb5(m:Nat)(ws:List bq)(ps:List bj):cF:=.mem [.int .i64 5,bk m 0 1 (rK ws),bk m 1 3 (FO ps)] (fR ws.length ps.length) false
section
variable{S:St}{j d:Nat}(z:cF)
theorem Rw(ws:List bq)(hl:ws.length<=8)(hu:iH [] ws=true)(hn:∀w∈ws,dq w=true):
 ∀e i(r:Rd)(u:bq)(aa:List (Option Nat)),i+e=ws.length->S[j]? =some (eB j r)->∀r0:Rd,po r0 ((ws.drop i).flatMap aM++u)->
 DC ax nk (.loop lj) ⟨[(0,.ptr j 0),(4,.ptr S.length 0),(5,.ptr (S.length+1) 0),(29,.int .i64 (ws.length:Int)),(30,.int .i64 (i:Int))],aa,S.length⟩ (gE S j r0 z (sb4 (S.length+1) (ws.take i)))=
  some (.exit 1,⟨[(0,.ptr j 0),(4,.ptr S.length 0),(5,.ptr (S.length+1) 0)],aa,S.length⟩,gE S j (r0.go ((ws.drop i).flatMap aM).length) z (sb4 (S.length+1) ws)):=by
 intro e;induction e with
 |zero=>
  intro i r u aa hi hS r0 hr;have K9:¬i<ws.length:=by omega
  have e1:ws.drop i=[]:=dV (by omega);have e2:ws.take i=ws:=gO (by omega);rw[aj,ak lj.eq_1,e1,e2];simp[K9,Rd.go]
 |succ e ih=>
  intro i r u aa hi hS r0 hr;have h3:i<ws.length:=by omega
  have hj:j<S.length:=(fI.1 hS).1;obtain⟨a,ha,JY⟩:=aE (l:=ws) (i:=i) h3;have hw:=aV (i:=i) (by omega);have tN:ws.take (i+1)=ws.take i++[a]:=by rw[sW,ha];rfl
  have lN:(ws.take i).length=i:=by simp;omega
  rw[aJ ha,z6]at hr⊢;rw[fB]at hr;have hup:iH [] (ws.take i++[a])=true:=by have:=Qw (ws.take (i+1)) (ws.drop (i+1)) [] (by rw[Xj];exact hu);rwa [tN]at this
  have hF:∀S,DF ax nk 189 [cw (ws.take i++[a])] S=some (.bool true,S):=fun S=>by rw[yd _ (by simp;omega),hup]
  have c1:=afs (qI hS r0 z (sb4 (S.length+1) (ws.take i))) (m6 S j r0 z (sb4 (S.length+1) (ws.take i))) (by omega) (fun h=>by rw[h];rfl) (fun h=>by have:¬(ws.take i).length=0:=fun e=>h (Tn e);rw[if_neg this];rfl) (by omega) (hn a (eT ha)) 189 rfl rfl hF hr;rw[uv hS,oj]at c1;have eb:cF.mem [.int .i64 4,bk (S.length+1) 0 1 (rK (ws.take i++[a])),.ah] (up0 (if(ws.take i).length=0 then[]else[some (ws.take i).length]) (ws.take i).length) false=sb4 (S.length+1) (ws.take (i+1)):=by
   unfold sb4 up0;rw[tN,lN];by_cases h:i=0;·subst h;simp
   ·simp[h,lN]
  rw[eb]at c1;have MZ:=ih (i+1) r u aa (by omega) hS _ hr.go;rw[aj,ak lj.eq_1];simp at MZ hw c1;simp[h3,c1,b8];rw[ae lj.eq_1];simp[hw,MZ]
theorem Rx(v:bj)(hl:v.ar.length<=8)(AX:v.parts.length=v.ar.length)(hg:goN none v.ar=true)(hd:d<1000)
 (hF:∀x∈v.parts,∀(S:St)(r:Rd)(u:bq),S[j]? =some (eB j r)->po r (x.bytes++u)->DF ax nk 161 [.ptr j 0,.int .i64 (d:Int)] S=some (.agg x.ai,S.set j (eB j (r.go x.bytes.length)))):
 ∀e i(r:Rd)(u:bq)(aa:List (Option Nat)),i+e=v.ar.length->S[j]? =some (eB j r)->∀r0:Rd,po r0 (bj.dt (v.ar.drop i) (v.parts.drop i)++u)->
 ∃aG,DC ax nk (.loop lq) ⟨[(0,.ptr j 0),(1,.int .i64 ((d:Int)+1)),(4,.ptr S.length 0),(5,.ptr (S.length+1) 0),(38,.int .i64 (v.ar.length:Int)),(39,.int .i64 (i:Int))],aa,S.length⟩ (gE S j r0 z (sb5 (S.length+1) (v.ar.take i) (v.parts.take i)))=
  some (.exit 3,⟨[(0,.ptr j 0),(4,.ptr S.length 0),(5,.ptr (S.length+1) 0)],aG,S.length⟩,gE S j (r0.go (bj.dt (v.ar.drop i) (v.parts.drop i)).length) z (sb5 (S.length+1) v.ar v.parts)):=by
 intro e;induction e with
 |zero=>
  intro i r u aa hi hS r0 hr;refine⟨aa, ?_⟩;have K9:¬i<v.ar.length:=by omega
  have e1:v.ar.drop i=[]:=dV (by omega);have e2:v.ar.take i=v.ar:=gO (by omega);have e3:v.parts.take i=v.parts:=gO (by omega);rw[aj,ak lq.eq_1,e1,e2,e3];simp[K9,bj.dt,Rd.go]
 |succ e ih=>
  intro i r u aa hi hS r0 hr;have h3:i<v.ar.length:=by omega
  have hj:j<S.length:=(fI.1 hS).1;obtain⟨a,ha,JY⟩:=aE (l:=v.ar) (i:=i) h3;obtain⟨y,hy,gg⟩:=aE (l:=v.parts) (i:=i) (by omega);have hw:=aV (i:=i) (by omega);have hd1:IntKind.wrap .i64 ((d:Int)+1 -1)=(d:Int):=by rw[wrap64 (by omega)];omega
  have tN:v.ar.take (i+1)=v.ar.take i++[a]:=by rw[sW,ha];rfl
  have tP:v.parts.take (i+1)=v.parts.take i++[y]:=by rw[sW,hy];rfl
  have lN:(v.ar.take i).length=i:=by simp;omega
  have lP:(v.parts.take i).length=i:=by simp;omega
  rw[aJ ha,aJ hy,bj.dt]at hr⊢;rw[fB,fB]at hr;have R1:=hr.go;have R2:=R1.go;have hna:dq a=true:=CN _ _ hg a (eT ha);have hgp:goN none (v.ar.take i++[a])=true:=by have:=Rd.Zs (v.ar.take (i+1)) (v.ar.drop (i+1)) none (by rw[Xj];exact hg);rwa [tN]at this
  have hF5:∀S,DF ax nk 190 [cw (v.ar.take i++[a])] S=some (.bool true,S):=fun S=>by rw[FP _ (by simp;omega)];rw[XA]at hgp;simp only[dk]at hgp;rw[hgp.2.1,hgp.2.2];rfl
  have c1:=afs (qI hS r0 z (sb5 (S.length+1) (v.ar.take i) (v.parts.take i))) (m6 S j r0 z (sb5 (S.length+1) (v.ar.take i) (v.parts.take i))) (by omega) (fun h=>by rw[h];rfl) (fun h=>by have h0:¬(v.ar.take i).length=0:=fun e=>h (Tn e);rw[lN]at h0;rw[lN,lP];unfold fR;rw[if_neg h0,if_neg h0];rfl) (by omega) hna 190 rfl rfl hF5 hr;rw[uv hS,oj]at c1;have eb:up0 (fR (v.ar.take i).length (v.parts.take i).length) (v.ar.take i).length=fR (i+1) i:=by
   unfold up0 fR;rw[lN,lP];by_cases h:i=0;·subst h;simp
   ·simp[h]
  rw[eb]at c1;have c3:=hF y (eT hy) _ _ _ (qI hS (r0.go (aM a).length) z (.mem [.int .i64 5,bk (S.length+1) 0 1 (rK (v.ar.take i++[a])),bk (S.length+1) 1 3 (FO (v.parts.take i))] (fR (i+1) i) false)) R1;rw[uv hS]at c3;have hm2:=m6 S j ((r0.go (aM a).length).go y.bytes.length) z (.mem [.int .i64 5,bk (S.length+1) 0 1 (rK (v.ar.take i++[a])),bk (S.length+1) 1 3 (FO (v.parts.take i))] (fR (i+1) i) false);obtain⟨v3,t3,S3,t4,d1,d2⟩:=ap1 (sz:=3) (es:=FO (v.parts.take i)) (x:=y.ai) (n:=i) (o:=2) aa hm2 (by simp;omega) (by omega) (by simp) (by rw[<-afr];exact JT _);rw[oj,<-afr]at d2;have b2:cF.mem (aL [.int .i64 5,bk (S.length+1) 0 1 (rK (v.ar.take i++[a])),bk (S.length+1) 1 3 (FO (v.parts.take i))] 2 [bk (S.length+1) 1 3 (FO (v.parts.take i++[y]))]) (fR (i+1) (i+1)) false=
   sb5 (S.length+1) (v.ar.take (i+1)) (v.parts.take (i+1)):=by
   unfold sb5;rw[tN,tP];simp[lN,lP,aL]
  rw[b2]at d2;have es:(r0.go (aM a).length).go y.bytes.length=r0.go ((aM a).length+y.bytes.length):=by simp[Rd.go,pv]
  obtain⟨aG,hn⟩:=ih (i+1) r u t4 (by omega) hS _ R2;refine⟨aG, ?_⟩;have ef:(((r0.go (aM a).length).go y.bytes.length).go (bj.dt (v.ar.drop (i+1)) (v.parts.drop (i+1))).length)=r0.go (aM a++(y.bytes++bj.dt (v.ar.drop (i+1)) (v.parts.drop (i+1)))).length:=by simp[Rd.go,pv]
  rw[ef]at hn;have l2:∀r1 X,aY (gE S j r1 z (.mem [.int .i64 5,bk (S.length+1) 0 1 X,bk (S.length+1) 1 3 (FO (v.parts.take i))] (fR (i+1) i) false)) .cell (.ptr (S.length+1) 2)=some (bk (S.length+1) 1 3 (FO (v.parts.take i))):=fun r1 X=>kL ..;have ll:∀es,gj (bk (S.length+1) 1 3 es)=some (.int .i64 (es.length:Int)):=fun es=>by unfold bk;cases es<;>rfl
  have bo:e_ 3 [[.int .i64 0,.ah,.ah]] [(0,.agg y.ai)]=some [y.ai]:=by have:=(bj.fJ y).dN;simp[e_,aB,AV.cells,aaq]
  have bz:e_ 3 [[.int .i64 0,.ah,.ah]] [(0,.agg [.int .i64 0,.ah,.ah])]=some [[.int .i64 0,.ah,.ah]]:=rfl;simp only[es]at d1 d2;rw[aj,ak lq.eq_1];simp at hn hw hd1 c1;simp[h3,c1,b8,l2,hd1,c3,ll,bz,bo,d1,d2];rw[ae lq.eq_1];simp[hw,hn]
end
end
theorem zP(k:Int)(a b:AV)(ws:List bq)(ps:List bj)(ha:cY a=cw ws)(hb:cY b=oU ps):
 bD (.agg [.int .i64 k,a,b])=.agg (bj.mk k ws ps).ai:=by
 rw[bj.fA];show AV.agg [_,cY a,cY b]=_;rw[ha,hb];rfl
def DH(k:Int):cF:=.mem [.int .i64 k,.ah,.ah] [] false
theorem agS:∀(d:Nat)(v:bj),v.Wf->v.aR d=true->d<1000->∀(S:St)(j:Nat)(r:Rd)(u:bq),S[j]? =some (eB j r)->po r (v.bytes++u)->
 DF ax nk 161 [.ptr j 0,.int .i64 (d:Int)] S=some (.agg v.ai,S.set j (eB j (r.go v.bytes.length))):=by
 intro d;induction d with
 |zero=>intro v _ h;simp[bj.aR]at h
 |succ d ih=>
  intro v hv h hd S j r u hS hr;have R:=bj.fa h;have hj:j<S.length:=(fI.1 hS).1;have lb:=v.lS;rw[lb]at hr;have R1:=hr.go1;have RT:∀b,(S++[b])[j]? =some (eB j r):=fun b=>cd _ hS;have c1:=Nc (RT (.mem [.int .i64 0,.ah,.ah] [] false)) hr;rw[dL _ hj]at c1;have hk:((UInt8.ofNat v.kind.toNat).toNat:Int)=v.kind:=by have:=R.kind;rw[yA];omega
  rw[hk]at c1;have wk:IntKind.wrap .i64 v.kind=v.kind:=by have:=R.kind;exact wrap64 (by omega)
  have T1:(S.set j (eB j (r.go 1))).length=S.length:=by simp
  have sg:=fun r' b=>qI hS r' (.mem [.int .i64 0,.ah,.ah] [] false) b;have ss:=fun r' r'' b=>uv hS r' r'' (.mem [.int .i64 0,.ah,.ah] [] false) b;have xv:∀r' z b,(gE S j r' z b).take S.length=S.set j (eB j r'):=fun r' z b=>by unfold gE;rw[ob (by simp),gO (by simp)]
  have d0:¬((d:Int)+1=0):=by omega
  have hd1:IntKind.wrap .i64 (d:Int)=(d:Int):=wrap64 (by omega);have b0:du .neq (.iL ff) true .bP .bP=some (.bool false):=rfl;have fk:∀k:Int,dr [.int .i64 0,.ah,.ah] [(0,1,.int .i64 k)]=some [.int .i64 k,.ah,.ah]:=fun _=>rfl;have er:=fun{r':Rd}{u':bq}(b:cF)(h':po r' u')=>Ad (sg r' b) h';have JO:∀k:Int,bg [] S.length (S.set j (eB j (r.go 1))++[.mem [.int .i64 0,.ah,.ah] [] false,.mem [.int .i64 0,.ah,.ah] [] false]) 3 (.ptr (S.length+1) 0) (.agg [.int .i64 k,.ah,.ah])=some ([],gE S j (r.go 1) (.mem [.int .i64 0,.ah,.ah] [] false) (DH k)):=fun k=>by rw[TG T1 (by rfl)];rfl
  have fin:∀(aa:List (Option Nat)) r'(cs:List AV) bt,cs.length=3->ck (cs.map aB)=true->bg aa S.length (gE S j r' (.mem [.int .i64 0,.ah,.ah] [] false) (.mem cs bt false)) 3 (.ptr S.length 0) (.agg (cs.map aB))=some (aa,gE S j r' (.mem (cs.map aB) [] false) (.mem cs bt false)):=fun aa r' cs bt hc hp=>by unfold gE;rw[uO (kx S j r') hp];simp[hc,aL]
  have la:∀r' z(cs:List AV) bt,cs.length=3->aY (gE S j r' z (.mem cs bt false)) (.agg 3) (.ptr (S.length+1) 0)=some (.agg (cs.map aB)):=fun r' z cs bt hc=>by rw[kL];exact cP cs hc
  have lz:∀r'(cs:List AV) b,cs.length=3->(cs.map aB).map aB=cs.map aB->aY (gE S j r' (.mem (cs.map aB) [] false) b) (.agg 3) (.ptr S.length 0)=some (.agg (cs.map aB)):=fun r' cs b hc hs=>by unfold gE;rw[lT0 (kx S j r')];have:=cP (cs.map aB) (n:=3) (by simp[hc]);rw[hs]at this;exact this
  have res:∀r'(aa:List (Option Nat))(cs:List AV) b(w:bj),bD (.agg (cs.map aB))=.agg w.ai->cC 161 aa [.agg (cs.map aB)] S (gE S j r' (.mem (cs.map aB) [] false) b)=some (.agg w.ai,S.set j (eB j r')):=fun r' aa cs b w hw=>by rw[lL,hw];simp[bu,xv]
  have l0:∀r' k,aY (gE S j r' (.mem [.int .i64 0,.ah,.ah] [] false) (DH k)) .cell (.ptr (S.length+1) 0)=some (.int .i64 k):=fun r' k=>kL ..;have xq:=er (DH v.kind) R1;have q0:∀ws:List bq,∀(i:Nat),aB (bk i 0 1 (rK ws))=dG 1 (rK ws):=fun ws i=>nH ..;rw[Rr,ak Cb.eq_1];rcases R.kind with k|k|k|k|k|k
  ·obtain⟨h1,h2⟩:=R.k13 (.inl k)
   have ev:bj.mk 1 [] []=v:=bj.sP k h1 h2;have eb:v.bytes=[UInt8.ofNat v.kind.toNat]:=by rw[lb,if_neg (by omega),if_neg (by omega),if_neg (by omega),h2];simp[bj.eU]
   have hw:=zP 1 .ah .ah [] [] rfl rfl;rw[ev]at hw;have f2:bg [] S.length (gE S j (r.go 1) (.mem [.int .i64 0,.ah,.ah] [] false) (DH 1)) 3 (.ptr S.length 0) (.agg [.int .i64 1,.ah,.ah])=some ([],gE S j (r.go 1) (DH 1) (DH 1)):=fin [] (r.go 1) [.int .i64 1,.ah,.ah] [] rfl rfl;have l2:aY (gE S j (r.go 1) (.mem [.int .i64 0,.ah,.ah] [] false) (DH 1)) (.agg 3) (.ptr (S.length+1) 0)=some (.agg [.int .i64 1,.ah,.ah]):=la (r.go 1) _ [.int .i64 1,.ah,.ah] [] rfl;have PC:aY (gE S j (r.go 1) (DH 1) (DH 1)) (.agg 3) (.ptr S.length 0)=some (.agg [.int .i64 1,.ah,.ah]):=lz (r.go 1) [.int .i64 1,.ah,.ah] (DH 1) rfl rfl;have rr:cC 161 [] [.agg [.int .i64 1,.ah,.ah]] S (gE S j (r.go 1) (DH 1) (DH 1))=some (.agg v.ai,S.set j (eB j (r.go 1))):=res (r.go 1) [] [.int .i64 1,.ah,.ah] (DH 1) v hw;rw[k]at c1 wk xq;rw[eb];simp at rr;simp[d0,c1,wk,fk,JO,xq,b0,l0,l2,f2,PC,rr]
  ·obtain⟨h1,h2⟩:=R.k13 (.inr (.inl k))
   have ev:bj.mk 2 [] []=v:=bj.sP k h1 h2;have eb:v.bytes=[UInt8.ofNat v.kind.toNat]:=by rw[lb,if_neg (by omega),if_neg (by omega),if_neg (by omega),h2];simp[bj.eU]
   have hw:=zP 2 .ah .ah [] [] rfl rfl;rw[ev]at hw;have f2:bg [] S.length (gE S j (r.go 1) (.mem [.int .i64 0,.ah,.ah] [] false) (DH 2)) 3 (.ptr S.length 0) (.agg [.int .i64 2,.ah,.ah])=some ([],gE S j (r.go 1) (DH 2) (DH 2)):=fin [] (r.go 1) [.int .i64 2,.ah,.ah] [] rfl rfl;have l2:aY (gE S j (r.go 1) (.mem [.int .i64 0,.ah,.ah] [] false) (DH 2)) (.agg 3) (.ptr (S.length+1) 0)=some (.agg [.int .i64 2,.ah,.ah]):=la (r.go 1) _ [.int .i64 2,.ah,.ah] [] rfl;have PC:aY (gE S j (r.go 1) (DH 2) (DH 2)) (.agg 3) (.ptr S.length 0)=some (.agg [.int .i64 2,.ah,.ah]):=lz (r.go 1) [.int .i64 2,.ah,.ah] (DH 2) rfl rfl;have rr:cC 161 [] [.agg [.int .i64 2,.ah,.ah]] S (gE S j (r.go 1) (DH 2) (DH 2))=some (.agg v.ai,S.set j (eB j (r.go 1))):=res (r.go 1) [] [.int .i64 2,.ah,.ah] (DH 2) v hw;rw[k]at c1 wk xq;rw[eb];simp at rr;simp[d0,c1,wk,fk,JO,xq,b0,l0,l2,f2,PC,rr]
  ·obtain⟨h1,h2⟩:=R.k13 (.inr (.inr k))
   have ev:bj.mk 3 [] []=v:=bj.sP k h1 h2;have eb:v.bytes=[UInt8.ofNat v.kind.toNat]:=by rw[lb,if_neg (by omega),if_neg (by omega),if_neg (by omega),h2];simp[bj.eU]
   have hw:=zP 3 .ah .ah [] [] rfl rfl;rw[ev]at hw;have f2:bg [] S.length (gE S j (r.go 1) (.mem [.int .i64 0,.ah,.ah] [] false) (DH 3)) 3 (.ptr S.length 0) (.agg [.int .i64 3,.ah,.ah])=some ([],gE S j (r.go 1) (DH 3) (DH 3)):=fin [] (r.go 1) [.int .i64 3,.ah,.ah] [] rfl rfl;have l2:aY (gE S j (r.go 1) (.mem [.int .i64 0,.ah,.ah] [] false) (DH 3)) (.agg 3) (.ptr (S.length+1) 0)=some (.agg [.int .i64 3,.ah,.ah]):=la (r.go 1) _ [.int .i64 3,.ah,.ah] [] rfl;have PC:aY (gE S j (r.go 1) (DH 3) (DH 3)) (.agg 3) (.ptr S.length 0)=some (.agg [.int .i64 3,.ah,.ah]):=lz (r.go 1) [.int .i64 3,.ah,.ah] (DH 3) rfl rfl;have rr:cC 161 [] [.agg [.int .i64 3,.ah,.ah]] S (gE S j (r.go 1) (DH 3) (DH 3))=some (.agg v.ai,S.set j (eB j (r.go 1))):=res (r.go 1) [] [.int .i64 3,.ah,.ah] (DH 3) v hw;rw[k]at c1 wk xq;rw[eb];simp at rr;simp[d0,c1,wk,fk,JO,xq,b0,l0,l2,f2,PC,rr]
  ·have h4:=R.k4 k
   have ev:bj.mk 4 v.ar []=v:=bj.sP k rfl h4.2.2.2.2;have eb:v.bytes=[UInt8.ofNat v.kind.toNat]++(bI v.ar.length++v.ar.flatMap aM):=by rw[lb,if_pos (.inl k),if_pos k];rfl
   have wl1:1<=v.ar.length:=by
    cases hx:v.ar with
    |nil=>exact absurd hx h4.1
    |cons a l=>simp
   have QC:po (r.go 1) (bI v.ar.length++(v.ar.flatMap aM++u)):=by have:=hr;rw[<-lb,eb,fB,fB]at this;exact this.go1
   have c2:=XL (sg (r.go 1) (DH 4)) 1 wl1 h4.2.1 QC;rw[ss]at c2;have R2:=QC.go;have lp:=Rw (S:=S) (j:=j) (.mem [.int .i64 0,.ah,.ah] [] false) v.ar h4.2.1 h4.2.2.2.1 h4.2.2.1 v.ar.length 0 r u [] (by omega) hS _ R2;have R3:=R2.go;have hvb:sb4 (S.length+1) v.ar=.mem [.int .i64 4,bk (S.length+1) 0 1 (rK v.ar),.ah] [some v.ar.length] false:=by unfold sb4;rw[if_neg (by omega)]
   have py:[AV.int .i64 4,bk (S.length+1) 0 1 (rK v.ar),.ah].map aB=[.int .i64 4,dG 1 (rK v.ar),.ah]:=by simp only[pz,Bl,nH];rfl
   have q1:=mQ (sz:=1) (Dq v.ar);have AX:ck ([AV.int .i64 4,bk (S.length+1) 0 1 (rK v.ar),.ah].map aB)=true:=by rw[py];simp[ck,aS,q1.2]
   have Xg:([AV.int .i64 4,bk (S.length+1) 0 1 (rK v.ar),.ah].map aB).map aB=[AV.int .i64 4,bk (S.length+1) 0 1 (rK v.ar),.ah].map aB:=by rw[py];simp only[pz,Bl,q1.1];rfl
   have hw:=zP 4 (dG 1 (rK v.ar)) .ah v.ar [] (PB _) rfl;rw[ev]at hw;have rr:=res (((r.go 1).go (bI v.ar.length).length).go (v.ar.flatMap aM).length) [] [AV.int .i64 4,bk (S.length+1) 0 1 (rK v.ar),.ah] (sb4 (S.length+1) v.ar) v (by rw[py];exact hw);have r8:=er (sb4 (S.length+1) v.ar) R3;have f2:=fin [] (((r.go 1).go (bI v.ar.length).length).go (v.ar.flatMap aM).length) _ [some v.ar.length] (by rfl) AX;have l2:=la (((r.go 1).go (bI v.ar.length).length).go (v.ar.flatMap aM).length) (.mem [.int .i64 0,.ah,.ah] [] false) [.int .i64 4,bk (S.length+1) 0 1 (rK v.ar),.ah] [some v.ar.length] rfl;have PC:=lz (((r.go 1).go (bI v.ar.length).length).go (v.ar.flatMap aM).length) _ (sb4 (S.length+1) v.ar) (by rfl) Xg;rw[<-hvb]at l2 f2;simp only[py]at f2 l2 PC rr;have v00:sb4 (S.length+1) []=DH 4:=rfl;rw[k]at c1 wk xq;rw[eb];simp[v00, -List.length_flatMap]at c2 lp r8 f2 l2 PC rr;simp[d0,c1,wk,fk,JO,xq,b0,l0,c2, -List.length_flatMap];rw[ae lj.eq_1];simp[lp,r8,b0,l2,f2,PC,rr, -List.length_flatMap];congr 3;omega
  ·have h5:=R.k5 k
   have ev:bj.mk 5 v.ar v.parts=v:=bj.sP k rfl rfl;have eb:v.bytes=[UInt8.ofNat v.kind.toNat]++(bI v.ar.length++bj.dt v.ar v.parts):=by rw[lb,if_pos (.inr k),if_neg (by omega),if_pos k];rfl
   have QC:po (r.go 1) (bI v.ar.length++(bj.dt v.ar v.parts++u)):=by have:=hr;rw[<-lb,eb,fB,fB]at this;exact this.go1
   have c2:=XL (sg (r.go 1) (DH 5)) 0 (by omega) h5.2.1 QC;rw[ss]at c2;have R2:=QC.go;obtain⟨aa,lp⟩:=Rx (S:=S) (j:=j) (d:=d) (.mem [.int .i64 0,.ah,.ah] [] false) v h5.2.1 h5.2.2 h5.1 (by omega) (fun x hx S r u h1 h2=>ih x (hv.all x hx) (R.all x hx) (by omega) S j r u h1 h2) v.ar.length 0 r u [] (by omega) hS _ R2;have R3:=R2.go;have hvb:sb5 (S.length+1) v.ar v.parts=.mem [.int .i64 5,bk (S.length+1) 0 1 (rK v.ar),bk (S.length+1) 1 3 (FO v.parts)] (fR v.ar.length v.parts.length) false:=rfl;have py:[AV.int .i64 5,bk (S.length+1) 0 1 (rK v.ar),bk (S.length+1) 1 3 (FO v.parts)].map aB=[.int .i64 5,dG 1 (rK v.ar),dG 3 (FO v.parts)]:=by simp only[pz,Bl,nH];rfl
   have q1:=mQ (sz:=1) (Dq v.ar);have q2:=mQ (sz:=3) (JT v.parts);have AX:ck ([AV.int .i64 5,bk (S.length+1) 0 1 (rK v.ar),bk (S.length+1) 1 3 (FO v.parts)].map aB)=true:=by rw[py];simp[ck,aS,q1.2,q2.2]
   have Xg:([AV.int .i64 5,bk (S.length+1) 0 1 (rK v.ar),bk (S.length+1) 1 3 (FO v.parts)].map aB).map aB=[AV.int .i64 5,bk (S.length+1) 0 1 (rK v.ar),bk (S.length+1) 1 3 (FO v.parts)].map aB:=by rw[py];simp only[pz,Bl,q1.1,q2.1];rfl
   have hw:=zP 5 (dG 1 (rK v.ar)) (dG 3 (FO v.parts)) v.ar v.parts (PB _) (XK _);rw[ev]at hw;have rr:=res (((r.go 1).go (bI v.ar.length).length).go (bj.dt v.ar v.parts).length) aa [AV.int .i64 5,bk (S.length+1) 0 1 (rK v.ar),bk (S.length+1) 1 3 (FO v.parts)] (sb5 (S.length+1) v.ar v.parts) v (by rw[py];exact hw);have r8:=er (sb5 (S.length+1) v.ar v.parts) R3;have f2:=fin aa (((r.go 1).go (bI v.ar.length).length).go (bj.dt v.ar v.parts).length) _ (fR v.ar.length v.parts.length) (by rfl) AX;have l2:=la (((r.go 1).go (bI v.ar.length).length).go (bj.dt v.ar v.parts).length) (.mem [.int .i64 0,.ah,.ah] [] false) [.int .i64 5,bk (S.length+1) 0 1 (rK v.ar),bk (S.length+1) 1 3 (FO v.parts)] (fR v.ar.length v.parts.length) rfl;have PC:=lz (((r.go 1).go (bI v.ar.length).length).go (bj.dt v.ar v.parts).length) _ (sb5 (S.length+1) v.ar v.parts) (by rfl) Xg;rw[<-hvb]at l2 f2;simp only[py]at f2 l2 PC rr;have v00:sb5 (S.length+1) [] []=DH 5:=rfl;rw[k]at c1 wk xq;rw[eb];simp[v00]at c2 lp r8 f2 l2 PC rr;simp[d0,c1,wk,fk,JO,xq,b0,l0,c2];rw[ae lq.eq_1];simp[lp,r8,b0,l2,f2,PC,rr];congr 3;omega
  ·obtain⟨hw0,hp1⟩:=R.k6 k
   obtain⟨x,hx⟩:=Ht.1 hp1;have ev:bj.mk 6 [] [x]=v:=bj.sP k hw0 hx;have eb:v.bytes=[UInt8.ofNat v.kind.toNat]++x.bytes:=by rw[lb,if_neg (by omega),if_neg (by omega),if_neg (by omega),hx];simp[bj.eU]
   have QC:po (r.go 1) (x.bytes++u):=by have:=hr;rw[<-lb,eb,fB]at this;exact this.go1
   have c2:=ih x (hv.all x (by rw[hx];simp)) (R.all x (by rw[hx];simp)) (by omega) _ j (r.go 1) u (sg (r.go 1) (DH 6)) QC;rw[ss]at c2;have R2:=QC.go;have hm:(gE S j ((r.go 1).go x.bytes.length) (.mem [.int .i64 0,.ah,.ah] [] false) (DH 6))[S.length+1]? =some (.mem [.int .i64 6,.ah,bk (S.length+1) 0 3 []] [] false):=m6 ..;obtain⟨v3,t3,S3,t4,p1,p2⟩:=ap5 (sz:=3) (es:=[]) (x:=x.ai) (o:=2) [] 0 hm (fun _=>rfl) (fun h=>absurd rfl h) (by simp) (by simp) (JT [x]);rw[oj]at p2;have ra0:bk (S.length+1) 0 3 []=.ah:=rfl;rw[ra0]at p1;have hvb:cF.mem (aL [.int .i64 6,.ah,.ah] 2 [bk (S.length+1) 0 3 ([]++[x.ai])]) ([]++[some 1]) false=.mem [.int .i64 6,.ah,bk (S.length+1) 0 3 (FO [x])] [some 1] false:=rfl;have hp2:∀nb,bg t3 nb S3 1 (.ptr (S.length+1) 2) v3=some (t4,gE S j ((r.go 1).go x.bytes.length) (.mem [.int .i64 0,.ah,.ah] [] false) (.mem [.int .i64 6,.ah,bk (S.length+1) 0 3 (FO [x])] [some 1] false)):=fun nb=>by have:=p2 nb;simp only[if_true,ra0]at this;exact this
   have py:[AV.int .i64 6,.ah,bk (S.length+1) 0 3 (FO [x])].map aB=[.int .i64 6,.ah,dG 3 (FO [x])]:=by simp only[pz,Bl,nH];rfl
   have q2:=mQ (sz:=3) (JT [x]);have AX:ck ([AV.int .i64 6,.ah,bk (S.length+1) 0 3 (FO [x])].map aB)=true:=by rw[py];simp[ck,aS,q2.2]
   have Xg:([AV.int .i64 6,.ah,bk (S.length+1) 0 3 (FO [x])].map aB).map aB=[AV.int .i64 6,.ah,bk (S.length+1) 0 3 (FO [x])].map aB:=by rw[py];simp only[pz,Bl,q2.1];rfl
   have hw:=zP 6 .ah (dG 3 (FO [x])) [] [x] rfl (XK _);rw[ev]at hw;have rr:=res ((r.go 1).go x.bytes.length) t4 [AV.int .i64 6,.ah,bk (S.length+1) 0 3 (FO [x])] (.mem [.int .i64 6,.ah,bk (S.length+1) 0 3 (FO [x])] [some 1] false) v (by rw[py];exact hw);have r8:=er (.mem [.int .i64 6,.ah,bk (S.length+1) 0 3 (FO [x])] [some 1] false) R2;have f2:=fin t4 ((r.go 1).go x.bytes.length) _ [some 1] (by rfl) AX;have l2:=la ((r.go 1).go x.bytes.length) (.mem [.int .i64 0,.ah,.ah] [] false) [.int .i64 6,.ah,bk (S.length+1) 0 3 (FO [x])] [some 1] rfl;have PC:=lz ((r.go 1).go x.bytes.length) _ (.mem [.int .i64 6,.ah,bk (S.length+1) 0 3 (FO [x])] [some 1] false) (by rfl) Xg;simp only[py]at f2 l2 PC rr;have ld2:∀r',aY (gE S j r' (.mem [.int .i64 0,.ah,.ah] [] false) (DH 6)) .cell (.ptr (S.length+1) 2)=some .ah:=fun r'=>kL ..;have bo:e_ 3 [[.int .i64 0,.ah,.ah]] [(0,.agg x.ai)]=some [x.ai]:=by have:=(bj.fJ x).dN;simp[e_,aB,AV.cells,aaq]
   have bz:e_ 3 [[.int .i64 0,.ah,.ah]] [(0,.agg [.int .i64 0,.ah,.ah])]=some [[.int .i64 0,.ah,.ah]]:=rfl;rw[k]at c1 wk xq;rw[eb];generalize bk (S.length+1) 0 3 (FO [x])=row at*;simp at c2 r8 f2 l2 PC rr p1 hp2;simp[d0,hd1,c1,wk,fk,JO,xq,b0,l0,ld2,c2,gj,bo,bz,p1,hp2,r8,l2,f2,PC,rr];congr 3;omega
theorem XM{S:St}{j:Nat}{r:Rd}{u:bq}(v:bj)(hv:v.Wf)(h:v.aR 5=true)(hS:S[j]? =some (eB j r))(hr:po r (v.bytes++u)):
 DF ax nk 120 [.ptr j 0] S=some (.agg v.ai,S.set j (eB j (r.go v.bytes.length))):=by
 have hj:j<S.length:=(fI.1 hS).1;have c1:=agS 5 v hv h (by omega) (S++[.mem [.int .i64 0,.ah,.ah] [] false]) j r u (cd _ hS) hr;rw[dL _ hj]at c1;have T1:(S.set j (eB j (r.go v.bytes.length))).length=S.length:=by simp
 have st:=uO T1 (bj.fJ v).aS [.mem [.int .i64 0,.ah,.ah] [] false] 0 [] S.length 3;have l4:aY (S.set j (eB j (r.go v.bytes.length))++[.mem v.ai [] false]) (.agg 3) (.ptr S.length 0)=some (.agg v.ai):=by rw[lT0 T1];simp
 have xv:∀b G,(S.set j b++G).take S.length=S.set j b:=fun b G=>by rw[ob (by simp),gO (by simp)]
 have vG:aL [.int .i64 0,.ah,.ah] 0 v.ai=v.ai:=bX (by simp);rw[Rl,ak B7.eq_1];simp at c1 st;simp[c1,st,l4,xv]
section
theorem ab8{S:St}{j:Nat}{r:Rd}{s o u:bq}(hS:S[j]? =some (eB j r))(hs:dq s=true)(nV:s≠o)(h:po r (aM s++u)):
 DF ax nk 117 [.ptr j 0,.str o] S=some (.str s,S.set j (eB j (r.go (aM s).length))):=by
 have hl:=fN hs;have c1:=NW hS (by omega) h;have c2:=kj s (by omega) (S.set j (eB j (r.go (aM s).length)));rw[hs]at c2;have tk:∀b,(S.set j b).take S.length=S.set j b:=fun b=>gO (by simp);rw[Wh,ak IK.eq_1];simp[c1,c2,nV,tk,bF]
theorem QD{S:St}{j:Nat}{r:Rd}{u:bq}(v:aX)(hv:v.Wf)(h:v.aR 5=true)(hS:S[j]? =some (eB j r))(hr:po r (v.bytes++u))(g:FuncId)(hg:nk.rP g=none)(mC:u9 g=false)
 (hF:∀T,DF ax nk g [.agg v.ai] T=some (.bool true,T)):DF ax nk 122 [.ptr j 0,.fn g [] []] S=some (.agg v.ai,S.set j (eB j (r.go v.bytes.length))):=by
 have hj:j<S.length:=(fI.1 hS).1;have c1:=NX v hv h (cd [.mem ab [] false] hS) hr;rw[dL _ hj]at c1;have T1:(S.set j (eB j (r.go v.bytes.length))).length=S.length:=by simp
 have vG:aL ab 0 v.ai=v.ai:=bX (by simp[ab]);have st:bg [] S.length (S.set j (eB j (r.go v.bytes.length))++[.mem ab [] false,.mem ab [] false]) 6 (.ptr (S.length+1) 0) (.agg v.ai)=some ([],gE S j (r.go v.bytes.length) (.mem ab [] false) (.mem v.ai [] false)):=by rw[TG T1 (aX.fJ v).aS];simp[vG,gE]
 have ce:=Ad (qI hS (r.go v.bytes.length) (.mem ab [] false) (.mem v.ai [] false)) hr.go;have b1:du .eql (.iL ff) true .bP .bP=some (.bool true):=rfl;have l5:aY (gE S j (r.go v.bytes.length) (.mem ab [] false) (.mem v.ai [] false)) (.agg 6) (.ptr (S.length+1) 0)=some (.agg v.ai):=by rw[kL];simp
 have st2:bg [] S.length (gE S j (r.go v.bytes.length) (.mem ab [] false) (.mem v.ai [] false)) 6 (.ptr S.length 0) (.agg v.ai)=some ([],gE S j (r.go v.bytes.length) (.mem v.ai [] false) (.mem v.ai [] false)):=by unfold gE;rw[uO T1 (aX.fJ v).aS];simp[vG]
 have l4:aY (gE S j (r.go v.bytes.length) (.mem v.ai [] false) (.mem v.ai [] false)) (.agg 6) (.ptr S.length 0)=some (.agg v.ai):=by unfold gE;rw[lT0 T1];simp
 have xv:∀r' z b,(gE S j r' z b).take S.length=S.set j (eB j r'):=fun r' z b=>by unfold gE;rw[ob (by simp),gO (by simp)]
 rw[Dg,ak tZ.eq_1];simp[c1,st,ce,b1,l5,hg,mC,hF,bF,st2,l4,xv]
theorem Jq{S:St}{j m:Nat}{r:Rd}{u:bq}(v:aX)(hv:v.Wf)(h:v.aR 5=true)(hS:S[j]? =some (eB j r))(hr:po r (v.bytes++u))(g:FuncId)(hg:nk.rP g=none)(mC:u9 g=false)
 (hF:DF ax nk g [.agg v.ai,.ptr m 0] (gE S j (r.go v.bytes.length) (.mem ab [] false) (.mem v.ai [] false))=some (.bool true,gE S j (r.go v.bytes.length) (.mem ab [] false) (.mem v.ai [] false))):
 DF ax nk 122 [.ptr j 0,.fn g [] [.ptr m 0]] S=some (.agg v.ai,S.set j (eB j (r.go v.bytes.length))):=by
 have hj:j<S.length:=(fI.1 hS).1;have c1:=NX v hv h (cd [.mem ab [] false] hS) hr;rw[dL _ hj]at c1;have T1:(S.set j (eB j (r.go v.bytes.length))).length=S.length:=by simp
 have vG:aL ab 0 v.ai=v.ai:=bX (by simp[ab]);have st:bg [] S.length (S.set j (eB j (r.go v.bytes.length))++[.mem ab [] false,.mem ab [] false]) 6 (.ptr (S.length+1) 0) (.agg v.ai)=some ([],gE S j (r.go v.bytes.length) (.mem ab [] false) (.mem v.ai [] false)):=by rw[TG T1 (aX.fJ v).aS];simp[vG,gE]
 have ce:=Ad (qI hS (r.go v.bytes.length) (.mem ab [] false) (.mem v.ai [] false)) hr.go;have b1:du .eql (.iL ff) true .bP .bP=some (.bool true):=rfl;have l5:aY (gE S j (r.go v.bytes.length) (.mem ab [] false) (.mem v.ai [] false)) (.agg 6) (.ptr (S.length+1) 0)=some (.agg v.ai):=by rw[kL];simp
 have st2:bg [] S.length (gE S j (r.go v.bytes.length) (.mem ab [] false) (.mem v.ai [] false)) 6 (.ptr S.length 0) (.agg v.ai)=some ([],gE S j (r.go v.bytes.length) (.mem v.ai [] false) (.mem v.ai [] false)):=by unfold gE;rw[uO T1 (aX.fJ v).aS];simp[vG]
 have l4:aY (gE S j (r.go v.bytes.length) (.mem v.ai [] false) (.mem v.ai [] false)) (.agg 6) (.ptr S.length 0)=some (.agg v.ai):=by unfold gE;rw[lT0 T1];simp
 have xv:∀r' z b,(gE S j r' z b).take S.length=S.set j (eB j r'):=fun r' z b=>by unfold gE;rw[ob (by simp),gO (by simp)]
 rw[Dg,ak tZ.eq_1];simp at hF;simp[c1,st,ce,b1,l5,hg,mC,hF,bF,st2,l4,xv]
def jg(k:Int)(a b:bq)(ts xs ys:List AV)(pr ir:AV):List AV:=[.int .i64 k,.str a,.str b]++(ts++(xs++(ys++[pr,ir])))
theorem mM{k:Int}{a b:bq}{ts xs ys:List AV}{pr ir:AV}(h1:ts.length=3)(h2:xs.length=6)(h3:ys.length=6):(jg k a b ts xs ys pr ir).length=20:=by simp[jg,h1,h2,h3]
theorem anF{k:Int}{a b:bq}{ts xs ys:List AV}{pr ir:AV}(h1:ts.length=3)(hs:ts.map aB=ts):fC (.agg 3) (jg k a b ts xs ys pr ir) 3=some (.agg ts):=
 kE (a:=[.int .i64 k,.str a,.str b]) (b:=ts) (c:=xs++(ys++[pr,ir])) rfl rfl h1 hs
theorem aug{k:Int}{a b:bq}{ts xs ys:List AV}{pr ir:AV}(h1:ts.length=3)(h2:xs.length=6)(h3:ys.length=6):(jg k a b ts xs ys pr ir)[18]? =some pr:=by unfold jg;rw[oR (by simp),oR (by simp;omega),oR (by simp;omega),oR (by simp;omega)];simp[h1,h2,h3]
theorem iJ{l a b c b':List AV}{off:Nat}(hl:l=a++(b++c))(ha:a.length=off)(hb:b'.length=b.length):aL l off b'=a++(b'++c):=by subst hl;subst ha;unfold aL;rw[Fu rfl,hb,<-fB,List.drop_left' (by simp),fB]
theorem ap6{k:Int}{a b:bq}{ts xs ys:List AV}{pr pr' ir:AV}(h1:ts.length=3)(h2:xs.length=6)(h3:ys.length=6):aL (jg k a b ts xs ys pr ir) 18 [pr']=jg k a b ts xs ys pr' ir:=by exact(iJ (l:=jg k a b ts xs ys pr ir) (off:=18) (b':=[pr']) (a:=[.int .i64 k,.str a,.str b]++(ts++(xs++ys))) (b:=[pr]) (c:=[ir]) (by simp[jg]) (by simp[h1,h2,h3]) rfl).trans (by simp[jg])
theorem ap7{k:Int}{a b:bq}{ts xs ys:List AV}{pr ir ir':AV}(h1:ts.length=3)(h2:xs.length=6)(h3:ys.length=6):aL (jg k a b ts xs ys pr ir) 19 [ir']=jg k a b ts xs ys pr ir':=by exact(iJ (l:=jg k a b ts xs ys pr ir) (off:=19) (b':=[ir']) (a:=[.int .i64 k,.str a,.str b]++(ts++(xs++(ys++[pr])))) (b:=[ir]) (c:=[]) (by simp[jg]) (by simp[h1,h2,h3]) rfl).trans (by simp[jg])
theorem ajQ{k:Int}{a b:bq}{ts ts' xs ys:List AV}{pr ir:AV}(h1:ts.length=3)(Yt:ts'.length=3):aL (jg k a b ts xs ys pr ir) 3 ts'=jg k a b ts' xs ys pr ir:=by exact(iJ (l:=jg k a b ts xs ys pr ir) (off:=3) (b':=ts') (a:=[.int .i64 k,.str a,.str b]) (b:=ts) (c:=xs++(ys++[pr,ir])) (by simp[jg]) rfl (by omega)).trans (by simp[jg])
theorem ajR{k:Int}{a b:bq}{ts xs xs' ys:List AV}{pr ir:AV}(h1:ts.length=3)(h2:xs.length=6)(h2':xs'.length=6):aL (jg k a b ts xs ys pr ir) 6 xs'=jg k a b ts xs' ys pr ir:=by exact(iJ (l:=jg k a b ts xs ys pr ir) (off:=6) (b':=xs') (a:=[.int .i64 k,.str a,.str b]++ts) (b:=xs) (c:=ys++[pr,ir]) (by simp[jg]) (by simp[h1]) (by omega)).trans (by simp[jg])
theorem ap8{k:Int}{a b:bq}{ts xs ys ys':List AV}{pr ir:AV}(h1:ts.length=3)(h2:xs.length=6)(h3:ys.length=6)(h3':ys'.length=6):aL (jg k a b ts xs ys pr ir) 12 ys'=jg k a b ts xs ys' pr ir:=by exact(iJ (l:=jg k a b ts xs ys pr ir) (off:=12) (b':=ys') (a:=[.int .i64 k,.str a,.str b]++(ts++xs)) (b:=ys) (c:=[pr,ir]) (by simp[jg]) (by simp[h1,h2]) (by omega)).trans (by simp[jg])
def NZ(S:St)(j m:Nat)(r:Rd)(b:cF)(G:List cF):St:=(S.set j (eB j r)).set m b++G
section
variable{S:St}{j m:Nat}{r:Rd}(hS:S[j]? =some (eB j r))(hm:m<S.length)(QU:j≠m)
include hS QU in
theorem Si(r':Rd)(b:cF)(G:List cF):(NZ S j m r' b G)[j]? =some (eB j r'):=by refine cd G ?_;rw[lG (Ne.symm QU)];exact L3 hS r'
include hS QU in
theorem Sj(r' r'':Rd)(b:cF)(G:List cF):(NZ S j m r' b G).set j (eB j r'')=NZ S j m r'' b G:=by have hj:=(fI.1 hS).1;unfold NZ;rw[dL _ (by simpa using hj),List.set_comm _ _ (Ne.symm QU),Hu]
include hm in
theorem ajS(r':Rd)(b:cF)(G:List cF):(NZ S j m r' b G)[m]? =some b:=cd G (qK (by simpa using hm))
include hm in
theorem ajT(r':Rd)(b c:cF)(G:List cF):(NZ S j m r' b G).set m c=NZ S j m r' c G:=by unfold NZ;rw[dL _ (by simpa using hm),Hu]
end
theorem ame(S:St)(j m:Nat)(r:Rd)(b:cF)(G H:List cF):NZ S j m r b G++H=NZ S j m r b (G++H):=fB ..
def N0(l:List dQ):List (List AV):=l.map dQ.ai
theorem aft(a:List dQ)(x:dQ):N0 (a++[x])=N0 a++[x.ai]:=by simp[N0]
@[simp]theorem afu(a:List dQ):(N0 a).length=a.length:=by simp[N0]
theorem XN(l:List dQ):ct (N0 l)=true:=jJ.2 fun x hx=>by obtain⟨s,_,rfl⟩:=Fq.1 hx;exact j1.aS (by simp)
theorem agT(ns:List dQ):cY (dG 12 (N0 ns))=nj ns:=pF 12 _
def ZM(n:Nat):List (Option Nat):=if n=0 then[]else[some n]
theorem Ch{T:St}{m:Nat}{k:Int}{a b:bq}{t:bj}{xs ys:List AV}{pr ir:AV}{bt:List (Option Nat)}{q:Bool}(hm:T[m]? =some (.mem (jg k a b t.ai xs ys pr ir) bt q))(y:aX)(hy:y.Wf)(ht:t.Wf)(h:ni y t=true):
 DF ax nk 118 [.agg y.ai,.ptr m 0] T=some (.bool true,T):=by
 have c1:=BW y t hy ht (T++[.mem y.ai [] false]);rw[h]at c1;have l3:aY (T++[.mem y.ai [] false]) (.agg 3) (.ptr m 3)=some (.agg t.ai):=by rw[bd (cd [.mem y.ai [] false] hm)];exact anF (by simp) (bj.fJ t).dN
 rw[va (ax:=ax) (f:=118) (k:=vO) rfl (M1 rfl) T];unfold vO;simp only[DY,JK];rw[ak Li.eq_1];simp[l3,c1]
theorem ajU{S:St}{j m:Nat}{r:Rd}{u:bq}(l:bn)(hl:l.Of)(hq:l.type.kind<=4)(hbk:iF l.back=true)(hp8:l.aO.length<=8)(hpr:l.aO.all (uP l.type)=true){k:Int}{a b:bq}{xs ys:List AV}{ir:AV}(hx:xs.length=6)(hy:ys.length=6)
 (hS:S[j]? =some (eB j r)) (hm:S[m]? =some (.mem (jg k a b l.type.ai xs ys .ah ir) [] false)) (QU:j≠m) (hr:po r (l.back.bytes++(bI l.aO.length++(l.aO.flatMap j8++u)))):
 DF ax nk 123 [.ptr j 0,.ptr m 0,.fn 118 [] [.ptr m 0]] S=some (.cT [],NZ S j m (r.go (l.back.bytes.length+((bI l.aO.length).length+(l.aO.flatMap j8).length))) (.mem (jg k a b l.type.ai xs l.back.ai (bk m 0 12 (N0 l.aO)) ir) (ZM l.aO.length) false) []):=by
 have hj:j<S.length:=(fI.1 hS).1;have hml:m<S.length:=(fI.1 hm).1;have ap9:=hbk;unfold iF at ap9;simp only[dk]at ap9;have ht3:l.type.ai.length=3:=by simp
 have c1:=QD l.back hl.back ap9.1 hS hr 162 rfl rfl (fun T=>by rw[vK l.back hl.back,hbk]);have hm1:(S.set j (eB j (r.go l.back.bytes.length)))[m]? =some (.mem (jg k a b l.type.ai xs ys .ah ir) [] false):=by rw[lG QU];exact hm
 have st1:bg [] S.length (S.set j (eB j (r.go l.back.bytes.length))) 6 (.ptr m 12) (.agg l.back.ai)=some ([],NZ S j m (r.go l.back.bytes.length) (.mem (jg k a b l.type.ai xs l.back.ai (bk m 0 12 (N0 [])) ir) (ZM 0) false) []):=by rw[fT (jE (aX.fJ l.back)) hm1,if_pos ⟨by simp[AV.cells],by rw[mM ht3 hx hy];omega⟩];have e:(AV.agg l.back.ai).cells=l.back.ai:=rfl;rw[e,ap8 ht3 hx hy (by simp)];simp[NZ,bk,N0,ZM]
 have R1:=hr.go;have c2:=k_ (Si hS QU (r.go l.back.bytes.length) (.mem (jg k a b l.type.ai xs l.back.ai (bk m 0 12 (N0 [])) ir) (ZM 0) false) []) (n:=l.aO.length) (by omega) R1;rw[Sj hS QU]at c2;have R2:=R1.go;have b1:du .eql (.iL ff) true .bP .bP=some (.bool true):=rfl;have key:∀d i(r0:Rd)(aa:List (Option Nat))(G:List cF),i+d=l.aO.length->po r0 ((l.aO.drop i).flatMap j8++u)->
  ∃aG G',DC ax nk (.loop mW) ⟨[(0,.ptr j 0),(1,.ptr m 0),(2,.fn 118 [] [.ptr m 0]),(6,.int .u64 (l.aO.length:Int)),(7,.int .u64 (i:Int))],aa,S.length⟩ (NZ S j m r0 (.mem (jg k a b l.type.ai xs l.back.ai (bk m 0 12 (N0 (l.aO.take i))) ir) (ZM i) false) G)=
   some (.exit 0,⟨[],aG,S.length⟩,NZ S j m (r0.go ((l.aO.drop i).flatMap j8).length) (.mem (jg k a b l.type.ai xs l.back.ai (bk m 0 12 (N0 l.aO)) ir) (ZM l.aO.length) false) G'):=by
  intro d;induction d with
  |zero=>
   intro i r0 aa G hi Oc;have K9:¬i<l.aO.length:=by omega
   have ei:i=l.aO.length:=by omega
   have e3:l.aO.drop i=[]:=dV (by omega);have e4:l.aO.take i=l.aO:=gO (by omega);refine⟨aa,G, ?_⟩;rw[aj,ak mW.eq_1,e3,e4,ei];simp[Rd.go]
  |succ d ih=>
   intro i r0 aa G hi Oc;have h3:i<l.aO.length:=by omega
   obtain⟨y,hy1,gg⟩:=aE (l:=l.aO) (i:=i) (by omega);have ym:=eT hy1;have hw:IntKind.wrap .u64 ((i:Int)+1)=((i+1:Nat):Int):=by show((i:Int)+1)%18446744073709551616=_;omega
   have yp:=j7.1 hpr y ym;have yw:=hl.pair y ym;unfold uP at yp;simp only[dk]at yp;have yx:=yp.1;unfold iF at yx;simp only[dk]at yx;have yy:=nU yp.2;rw[aJ hy1,z6]at Oc⊢;unfold j8 at Oc;rw[fB,fB]at Oc;have Q1:=Oc.go;have Q2:=Q1.go;have tP:l.aO.take (i+1)=l.aO.take i++[y]:=by rw[sW,hy1];rfl
   have lP:(l.aO.take i).length=i:=by simp;omega
   generalize hB:cF.mem (jg k a b l.type.ai xs l.back.ai (bk m 0 12 (N0 (l.aO.take i))) ir) (ZM i) false=B at*;have ce:=Ad (Si hS QU r0 B G) Oc;have d1:=QD y.x yw.1 yx.1 (Si hS QU r0 B G) Oc 162 rfl rfl (fun T=>by rw[vK y.x yw.1,yp.1]);rw[Sj hS QU]at d1;have ap_:∀r' b' G',(NZ S j m r' b' G').length=S.length+G'.length:=fun r' b' G'=>by simp[NZ]
   have ap:∀r' b' G' X,NZ S j m r' b' G'++[X]=NZ S j m r' b' (G'++[X]):=fun _ _ _ _=>ame ..;have vG:aL ab 0 y.x.ai=y.x.ai:=bX (by simp[ab]);have lx:∀r' b',aY (NZ S j m r' b' (G++[.mem y.x.ai [] false])) (.agg 6) (.ptr (S.length+G.length) 0)=some (.agg y.x.ai):=fun r' b'=>by rw[<-ap,<-ap_ r' b' G,ZN];simp
   have hB2:∀r' G',(NZ S j m r' B G')[m]? =some (.mem (jg k a b l.type.ai xs l.back.ai (bk m 0 12 (N0 (l.aO.take i))) ir) (ZM i) false):=fun r' G'=>by rw[ajS hml,hB]
   have l18:∀r' G',aY (NZ S j m r' B G') .cell (.ptr m 18)=some (bk m 0 12 (N0 (l.aO.take i))):=fun r' G'=>by rw[bd (hB2 r' G'),pC,aug ht3 hx (by simp)]
   have d2:=Jq (m:=m) y.y yw.2 yy.1 (Si hS QU (r0.go y.x.bytes.length) B (G++[.mem y.x.ai [] false])) Q1 118 rfl rfl (by refine Ch (k:=k) (a:=a) (b:=b) (t:=l.type) (xs:=xs) (ys:=l.back.ai) (pr:=bk m 0 12 (N0 (l.aO.take i))) (ir:=ir) (bt:=ZM i) (q:=false) ?_ y.y yw.2 hl.type yp.2;unfold gE;refine cd _ ?_;rw[Sj hS QU];exact hB2 _ _);rw[Sj hS QU]at d2
   obtain⟨v1,t1,S1,t2,a1,a2⟩:=ap5 (sz:=12) (es:=N0 (l.aO.take i)) (x:=y.ai) (o:=18) aa 0 (hB2 ((r0.go y.x.bytes.length).go y.y.bytes.length) (G++[.mem y.x.ai [] false])) (fun h=>by
    have:l.aO.take i=[]:=by simpa[N0]using h
    have:i=0:=by rw[<-lP,this];rfl
    rw[this];rfl) (fun h=>by
    have:¬i=0:=fun e=>h (by rw[e];rfl);unfold ZM;rw[if_neg this,afu,lP];rfl) (by simp;omega) (by rw[mM ht3 hx (by simp)];omega) (by rw[<-aft];exact XN _)
   rw[ajT hml,ap6 ht3 hx (by simp),<-aft]at a2;have eu:(if N0 (l.aO.take i)=[]then ZM i++[some 1]else(ZM i).set 0 (some ((N0 (l.aO.take i)).length+1)))=ZM (i+1):=by
    by_cases h:i=0;·subst h;rfl
    ·have:¬N0 (l.aO.take i)=[]:=fun e=>h (by
      have:l.aO.take i=[]:=by simpa[N0]using e
      rw[<-lP,this];rfl)
     rw[if_neg this,afu,lP];unfold ZM;rw[if_neg h,if_neg (by omega)];rfl
   rw[eu,<-tP]at a2;obtain⟨aG,G',n1⟩:=ih (i+1) ((r0.go y.x.bytes.length).go y.y.bytes.length) t2 (G++[.mem y.x.ai [] false]) (by omega) Q2;refine⟨aG,G', ?_⟩;have es:(r0.go y.x.bytes.length).go y.y.bytes.length=r0.go (y.x.bytes.length+y.y.bytes.length):=by simp[Rd.go,pv]
   have ef:r0.go (j8 y++(l.aO.drop (i+1)).flatMap j8).length=(r0.go (y.x.bytes.length+y.y.bytes.length)).go ((l.aO.drop (i+1)).flatMap j8).length:=by simp[Rd.go,j8,pv]
   rw[ef];have st:∀r',bg aa S.length (NZ S j m r' B (G++[.mem ab [] false])) 6 (.ptr (S.length+G.length) 0) (.agg y.x.ai)=some (aa,NZ S j m r' B (G++[.mem y.x.ai [] false])):=fun r'=>by rw[<-ap,<-ap,<-ap_ r' B G,mS (jE (aX.fJ y.x))];simp[AV.cells,vG]
   have pe:dr jN [(0,6,.agg y.x.ai),(6,6,.agg y.y.ai)]=some y.ai:=by
    have q1:=(aX.fJ y.x).dN;have q2:=(aX.fJ y.y).dN;have e1:aL jN 0 y.x.ai=y.x.ai++ab:=iJ (a:=[]) (b:=ab) (c:=ab) rfl rfl (by simp[ab]);have e2:aL (y.x.ai++ab) 6 y.y.ai=y.ai:=by rw[iJ (a:=y.x.ai) (b:=ab) (c:=[]) (by simp) (by simp) (by simp[ab])];simp[dQ.ai]
    have i1:aaq (.agg y.x.ai)=true:=(aX.fJ y.x).agg.val;have i2:aaq (.agg y.y.ai)=true:=(aX.fJ y.y).agg.val;have s1:(aB (.agg y.x.ai)).cells=y.x.ai:=by rw[Xn (aX.fJ y.x).agg];rfl
    have s2:(aB (.agg y.y.ai)).cells=y.y.ai:=by rw[Xn (aX.fJ y.y).agg];rfl
    unfold dr;rw[if_pos ⟨i1,by simp[AV.cells],by simp[jN]⟩,s1,e1];unfold dr;rw[if_pos ⟨i2,by simp[AV.cells],by simp[ab]⟩,s2,e2];rfl
   have bo:e_ 12 [jN] [(0,.agg y.ai)]=some [y.ai]:=by have:=(dQ.fJ y).dN;simp[e_,aB,AV.cells,aaq]
   simp only[es]at a1 a2 n1;rw[aj,ak mW.eq_1];simp only[es]at d2;have ld:=ap_;simp[-List.length_flatMap]at hw n1 bo pe;simp[h3,ce,b1,d1,ap,ld,st,dh,l18,lx,d2,pe,bo,a1,a2, -List.length_flatMap];rw[ae mW.eq_1];simp[hw,n1, -List.length_flatMap]
 obtain⟨aG,G',g⟩:=key l.aO.length 0 _ [] [] (by omega) R2;simp only[Ou,jS]at g;have cV:((8:Int)<(l.aO.length:Int))=False:=eq_false (by omega);have tk:∀r' b',(NZ S j m r' b' G').take S.length=NZ S j m r' b' []:=fun r' b'=>by unfold NZ;rw[ob (by simp),gO (by simp),kH]
 have er:((r.go l.back.bytes.length).go (bI l.aO.length).length).go (l.aO.flatMap j8).length=r.go (l.back.bytes.length+((bI l.aO.length).length+(l.aO.flatMap j8).length)):=by simp[Rd.go,pv]
 rw[er]at g;rw[Uz,ak EA.eq_1];simp at c1 c2;simp[-List.length_flatMap]at g;simp[c1,dh,st1,c2,cV, -List.length_flatMap];rw[ae mW.eq_1];simp[g,tk,cC,ay,bA,aw, -List.length_flatMap]
end
def zG(S:St)(j:Nat)(r:Rd)(z:cF)(c:List AV)(bt:List (Option Nat))(u:cF):St:=S.set j (eB j r)++[z,.mem c bt false,u]
theorem N1(S:St)(j:Nat)(r:Rd)(z:cF)(c:List AV)(bt:List (Option Nat))(u:cF):gE S j r z (.mem c bt false)++[u]=zG S j r z c bt u:=fB ..
theorem UU(S:St)(j:Nat)(r:Rd)(z b:cF):(gE S j r z b).length=S.length+2:=by simp[gE]
theorem zH{S:St}{j:Nat}{r:Rd}(hS:S[j]? =some (eB j r))(r':Rd)(z:cF)(c:List AV)(bt:List (Option Nat))(u:cF):(zG S j r' z c bt u)[j]? =some (eB j r'):=ajK hS r' _
theorem vR{S:St}{j:Nat}{r:Rd}(hS:S[j]? =some (eB j r))(r' r'':Rd)(z:cF)(c:List AV)(bt:List (Option Nat))(u:cF):(zG S j r' z c bt u).set j (eB j r'')=zG S j r'' z c bt u:=by have hj:=(fI.1 hS).1;unfold zG;rw[dL _ (by simpa using hj),Hu]
theorem Dr(S:St)(j:Nat)(r:Rd)(z:cF)(c:List AV)(bt:List (Option Nat))(u:cF):(zG S j r z c bt u)[S.length+1]? =some (.mem c bt false):=gT (kx S j r) _ 1
theorem UW(S:St)(j:Nat)(r:Rd)(z:cF)(c c':List AV)(bt bt':List (Option Nat))(u:cF):(zG S j r z c bt u).set (S.length+1) (.mem c' bt' false)=zG S j r z c' bt' u:=sT (kx S j r) _ 1 _
theorem ajV(S:St)(j:Nat)(r:Rd)(z:cF)(c:List AV)(bt:List (Option Nat))(u:cF):(zG S j r z c bt u)[S.length+2]? =some u:=gT (kx S j r) _ 2
theorem ajW(S:St)(j:Nat)(r:Rd)(z:cF)(c:List AV)(bt:List (Option Nat))(u:cF):(zG S j r z c bt u)[S.length]? =some z:=gT0 (kx S j r) _
theorem aei(S:St)(j:Nat)(r:Rd)(z:cF)(c:List AV)(bt:List (Option Nat))(u:cF)(sh:Sh)(off:Nat):aY (zG S j r z c bt u) sh (.ptr (S.length+1) off)=fC sh c off:=bd (Dr S j r z c bt u) sh off
theorem Sk(S:St)(j:Nat)(r:Rd)(z:cF)(c:List AV)(bt:List (Option Nat))(cs:List AV)(sh:Sh)(off:Nat):aY (zG S j r z c bt (.mem cs [] false)) sh (.ptr (S.length+2) off)=fC sh cs off:=bd (ajV ..) sh off
theorem amf(S:St)(j:Nat)(r:Rd)(cs:List AV)(c:List AV)(bt:List (Option Nat))(u:cF)(sh:Sh)(off:Nat):aY (zG S j r (.mem cs [] false) c bt u) sh (.ptr S.length off)=fC sh cs off:=bd (ajW ..) sh off
theorem ajX(S:St)(j:Nat)(r:Rd)(z:cF)(c:List AV)(bt:List (Option Nat))(u:cF):(zG S j r z c bt u).take S.length=S.set j (eB j r):=by unfold zG;rw[ob (by simp),gO (by simp)]
theorem amg(S:St)(j:Nat)(r r':Rd)(z:cF)(c c':List AV)(bt bt':List (Option Nat))(u:cF){r0:Rd}(hS:S[j]? =some (eB j r0)):NZ (zG S j r z c bt u) j (S.length+1) r' (.mem c' bt' false) []=zG S j r' z c' bt' u:=by unfold NZ;rw[vR hS,UW,kH]
theorem PG{S:St}{j:Nat}{r:Rd}{z:cF}{c c':List AV}{bt:List (Option Nat)}{u:cF}{v:AV}(hv:CO v)(off n:Nat)(hn:v.cells.length=n)(ho:off+n<=c.length)(hc:aL c off v.cells=c')(aa:List (Option Nat)):
 bg aa S.length (zG S j r z c bt u) n (.ptr (S.length+1) off) v=some (aa,zG S j r z c' bt u):=by
 rw[fT hv (Dr ..),UW,if_pos ⟨hn,ho⟩,hc]
theorem UX{S:St}{j:Nat}{r:Rd}{cs c C:List AV}{bt:List (Option Nat)}{u:cF}(hp:ck C=true)(h1:cs.length=20)(h2:C.length=20)(aa:List (Option Nat)):
 bg aa S.length (zG S j r (.mem cs [] false) c bt u) 20 (.ptr S.length 0) (.agg C)=some (aa,zG S j r (.mem C [] false) c bt u):=by
 unfold zG;rw[uO (kx S j r) hp];simp[h1,h2,bX]
theorem Ds{k:Int}{a b:bq}{ts xs ys:List AV}{pr ir:AV}(h1:ck ts=true)(h2:ck xs=true)(h3:ck ys=true)(h4:aS pr=true)(h5:aS ir=true):ck (jg k a b ts xs ys pr ir)=true:=by
 rw[z8]at*;intro x hx;unfold jg at hx;simp only[MJ,yi,TA,or_false]at hx;rcases hx with(rfl|rfl|rfl)|hx|hx|hx|rfl|rfl;·rfl
 ·rfl
 ·rfl
 ·exact h1 x hx
 ·exact h2 x hx
 ·exact h3 x hx
 ·exact h4
 ·exact h5
theorem XO{k:Int}{a b:bq}{ts xs ys:List AV}{pr ir:AV}(h1:ts.map aB=ts)(h2:xs.map aB=xs)(h3:ys.map aB=ys):(jg k a b ts xs ys pr ir).map aB=jg k a b ts xs ys (aB pr) (aB ir):=by unfold jg;simp only[TD,pz,Bl,h1,h2,h3];rfl
theorem Dt{l:bn}{k:Int}{a b:bq}{ts xs ys:List AV}{pr ir:AV}(hk:k=l.kind)(ha:a=l.a)(hb:b=l.b)(h1:ts.map cY=l.type.ai)(h2:xs.map cY=l.base.ai)(h3:ys.map cY=l.back.ai)(h4:cY pr=nj l.aO)(h5:cY ir=s_ l.bf):
 bD (.agg (jg k a b ts xs ys pr ir))=.agg l.ai:=by
 subst hk ha hb;show AV.agg ((jg l.kind l.a l.b ts xs ys pr ir).map cY)=_;unfold jg;simp only[TD,pz,Bl,h1,h2,h3,h4,h5];rw[bn.fA];rfl
abbrev vT:List AV:=[.int .i64 0,.ah,.ah]
theorem PH:vT.map cY=(bj.mk 0 [] []).ai:=by rw[bj.fA];rfl
theorem aqa{k:Int}(h1:1<=k)(h2:k<=10):(uD k=true/\sd k=false/\uQ k=false/\xw k=false)\/(uD k=false/\sd k=true/\uQ k=false/\xw k=false)\/(uD k=false/\sd k=false/\uQ k=false/\xw k=false)\/(uD k=false/\sd k=false/\uQ k=false/\xw k=true)\/(uD k=false/\sd k=true/\uQ k=true/\xw k=false):=by
 have hc:k=1\/k=2\/k=3\/k=4\/k=5\/k=6\/k=7\/k=8\/k=9\/k=10:=by omega
 rcases hc with k|k|k|k|k|k|k|k|k|k<;>subst k<;>decide
theorem amh:∀(d:Nat)(l:bn),l.Wf->l.aR d=true->d<1000->∀(S:St)(j:Nat)(r:Rd)(u:bq),S[j]? =some (eB j r)->po r (l.bytes++u)->
 DF ax nk 73 [.ptr j 0,.int .i64 (d:Int)] S=some (.agg l.ai,S.set j (eB j (r.go l.bytes.length))):=by
 intro d;induction d with
 |zero=>intro l _ h;simp[bn.aR]at h
 |succ d ih=>
  intro l hl h hd S j r u hS hr;have R:=bn.fa h;have P6:=hl.one;have hj:j<S.length:=(fI.1 hS).1;have lb:=l.AQ;have k1:=R.k1;have k10:=R.k10;have hR1:po (r.go 1) (aM l.a++((if uD l.kind=true then aM l.b else[])++((if sd l.kind=true then l.type.bytes++l.base.bytes else[])++((if uQ l.kind=true then l.back.bytes++(bI l.aO.length++l.aO.flatMap j8)else[])++(bn.eU l.bf++u))))):=by have:=hr;rw[lb,Fm]at this;simpa only[fB]using this.go1
  have Oc:=hr;rw[lb,Fm]at Oc;have RT:∀b,(S++[b])[j]? =some (eB j r):=fun b=>cd _ hS;have c1:=Nc (RT (.mem ao [] false)) Oc;rw[dL _ hj]at c1;have hk:((UInt8.ofNat l.kind.toNat).toNat:Int)=l.kind:=by rw[yA];omega
  rw[hk]at c1;have wk:IntKind.wrap .i64 l.kind=l.kind:=wrap64 (by omega);have d0:¬((d:Int)+1=0):=by omega
  have hd1:IntKind.wrap .i64 (d:Int)=(d:Int):=wrap64 (by omega);have T1:(S.set j (eB j (r.go 1))).length=S.length:=by simp
  have fk:dr ao [(0,1,.int .i64 l.kind)]=some (jg l.kind [] [] vT ab ab .ah .ah):=rfl;have JO:bg [] S.length (S.set j (eB j (r.go 1))++[.mem ao [] false,.mem ao [] false]) 20 (.ptr (S.length+1) 0) (.agg (jg l.kind [] [] vT ab ab .ah .ah))=some ([],gE S j (r.go 1) (.mem ao [] false) (.mem (jg l.kind [] [] vT ab ab .ah .ah) [] false)):=by rw[TG T1 (by rfl)];rfl
  have lk:∀r',aY (gE S j r' (.mem ao [] false) (.mem (jg l.kind [] [] vT ab ab .ah .ah) [] false)) .cell (.ptr (S.length+1) 0)=some (.int .i64 l.kind):=fun r'=>kL ..;have cu:=wu l.kind;have G3:BU l.kind=true:=by simp[BU,k1,k10]
  rw[G3]at cu;have stu:∀r' c b t y i,bg [] S.length (zG S j r' (.mem ao [] false) c [] (.mem [.bool false,.bool false,.bool false,.bool false] [] false)) 4 (.ptr (S.length+2) 0) (.agg [.bool b,.bool t,.bool y,.bool i])=some ([],zG S j r' (.mem ao [] false) c [] (.mem [.bool b,.bool t,.bool y,.bool i] [] false)):=fun r' c b t y i=>by unfold zG;rw[TG (kx S j r') (by rfl)];rfl
  have b0:du .neq (.iL ff) true .bP .bP=some (.bool false):=rfl;have b1:du .eql (.iL ff) true .bP .bP=some (.bool true):=rfl;have lu0:∀r' z c bt b t y i,aY (zG S j r' z c bt (.mem [.bool b,.bool t,.bool y,.bool i] [] false)) .cell (.ptr (S.length+2) 0)=some (.bool b):=fun _ _ _ _ _ _ _ _=>Sk ..;have lu1:∀r' z c bt b t y i,aY (zG S j r' z c bt (.mem [.bool b,.bool t,.bool y,.bool i] [] false)) .cell (.ptr (S.length+2) 1)=some (.bool t):=fun _ _ _ _ _ _ _ _=>Sk ..;have lu2:∀r' z c bt b t y i,aY (zG S j r' z c bt (.mem [.bool b,.bool t,.bool y,.bool i] [] false)) .cell (.ptr (S.length+2) 2)=some (.bool y):=fun _ _ _ _ _ _ _ _=>Sk ..;have lu3:∀r' z c bt b t y i,aY (zG S j r' z c bt (.mem [.bool b,.bool t,.bool y,.bool i] [] false)) .cell (.ptr (S.length+2) 3)=some (.bool i):=fun _ _ _ _ _ _ _ _=>Sk ..;have er:=fun{r':Rd}{u':bq}(z:cF)(c:List AV)(bt)(b:cF)(h':po r' u')=>Ad (zH hS r' z c bt b) h';have ne0:l.a≠[]:=by have:=fN R.a;intro e;have h2:=R.a;rw[e]at h2;exact absurd h2 (by decide)
  have c2:=fun U=>ab8 (o:=[]) (zH hS (r.go 1) (.mem ao [] false) (jg l.kind [] [] vT ab ab .ah .ah) [] U) R.a ne0 hR1;simp only[vR hS]at c2;have s2:∀r' U,bg [] S.length (zG S j r' (.mem ao [] false) (jg l.kind [] [] vT ab ab .ah .ah) [] U) 1 (.ptr (S.length+1) 1) (.str l.a)=some ([],zG S j r' (.mem ao [] false) (jg l.kind l.a [] vT ab ab .ah .ah) [] U):=fun r' U=>PG (YQ l.a) 1 1 rfl (by rw[mM rfl rfl rfl];omega) rfl [];have R2:=hR1.go;have lA:∀r' z a b(ts xs ys:List AV) pr ir bt U,ts.length=3->xs.length=6->ys.length=6->ts.map aB=ts->xs.map aB=xs->ys.map aB=ys->aY (zG S j r' z (jg l.kind a b ts xs ys pr ir) bt U) (.agg 20) (.ptr (S.length+1) 0)=some (.agg (jg l.kind a b ts xs ys (aB pr) (aB ir))):=fun r' z a b ts xs ys pr ir bt U h1 h2 h3 g1 g2 g3=>by rw[aei,cP _ (mM h1 h2 h3),XO g1 g2 g3]
  have lZ:∀r' a b(ts xs ys:List AV) pr ir c bt U,ts.length=3->xs.length=6->ys.length=6->ts.map aB=ts->xs.map aB=xs->ys.map aB=ys->aB pr=pr->aB ir=ir->aY (zG S j r' (.mem (jg l.kind a b ts xs ys pr ir) [] false) c bt U) (.agg 20) (.ptr S.length 0)=some (.agg (jg l.kind a b ts xs ys pr ir)):=fun r' a b ts xs ys pr ir c bt U h1 h2 h3 g1 g2 g3 g4 g5=>by rw[amf,cP _ (mM h1 h2 h3),XO g1 g2 g3,g4,g5]
  have res:∀r' aa C c bt U,bD (.agg C)=.agg l.ai->cC 73 aa [.agg C] S (zG S j r' (.mem C [] false) c bt U)=some (.agg l.ai,S.set j (eB j r')):=fun r' aa C c bt U hC=>by rw[lL,hC];simp[bu,ajX]
  have tS:=(bj.fJ l.type).dN;have tP:=(bj.fJ l.type).aS;have tN:=(bj.fJ l.type).kU;have xS:=(aX.fJ l.base).dN;have xP:=(aX.fJ l.base).aS;have xN:=(aX.fJ l.base).kU;have yS:=(aX.fJ l.back).dN;have yP:=(aX.fJ l.back).aS;have yN:=(aX.fJ l.back).kU;have z3:vT.map aB=vT:=rfl;have z3P:ck vT=true:=rfl;have tr:∀b t y i o,aT [] (.cT [.agg (rJ b t y i),.bool o])=(.cT [.agg (rJ b t y i),.bool o],[]):=fun _ _ _ _ _=>rfl;have sn:aB .ah=.ah:=rfl;have i0:l.bf=[]->bn.eU l.bf=[]:=fun h=>by rw[h];rfl
  rcases aqa k1 k10 with⟨hb,ht,hy,hi⟩|⟨hb,ht,hy,hi⟩|⟨hb,ht,hy,hi⟩|⟨hb,ht,hy,hi⟩|⟨hb,ht,hy,hi⟩
  ·
    have e1:=R.b1 hb;have e2:=R.t0 ht;have e3:=R.y0 hy;have e4:=R.i0 hi;rw[hb,ht,hy,hi]at cu;simp only[hb,ht,hy,i0 e4,if_true,rL,if_false,yu]at R2 lb;have c3:=fun U=>ab8 (o:=l.a) (zH hS ((r.go 1).go (aM l.a).length) (.mem ao [] false) (jg l.kind l.a [] vT ab ab .ah .ah) [] U) e1.1 e1.2 R2;simp only[vR hS]at c3;have R3:=R2.go;have l1:∀r' U,aY (zG S j r' (.mem ao [] false) (jg l.kind l.a [] vT ab ab .ah .ah) [] U) .cell (.ptr (S.length+1) 1)=some (.str l.a):=fun _ _=>aei ..;have s3:∀r' U,bg [] S.length (zG S j r' (.mem ao [] false) (jg l.kind l.a [] vT ab ab .ah .ah) [] U) 1 (.ptr (S.length+1) 2) (.str l.b)=some ([],zG S j r' (.mem ao [] false) (jg l.kind l.a l.b vT ab ab .ah .ah) [] U):=fun r' U=>PG (YQ l.b) 2 1 rfl (by rw[mM rfl rfl rfl];omega) rfl [];have hC:bD (.agg (jg l.kind l.a l.b vT ab ab .ah .ah))=.agg l.ai:=Dt rfl rfl rfl (by rw[e2.1];exact PH) (by rw[e2.2];exact uw) (by rw[e3.1];exact uw) (by rw[e3.2];rfl) (by rw[e4];rfl);have XP:=fun r' z U=>lA r' z l.a l.b vT ab ab .ah .ah [] U rfl rfl rfl rfl rfl rfl;have lZ':=fun r' c U=>lZ r' l.a l.b vT ab ab .ah .ah c [] U rfl rfl rfl rfl rfl rfl rfl rfl;have sZ':=fun r' c U=>UX (S:=S) (j:=j) (r:=r') (cs:=ao) (c:=c) (bt:=[]) (u:=U) (C:=jg l.kind l.a l.b vT ab ab .ah .ah) (Ds rfl rfl rfl rfl rfl) rfl (mM rfl rfl rfl) [];have er1:=fun U=>er (.mem ao [] false) (jg l.kind [] [] vT ab ab .ah .ah) [] U hR1;have er3:=fun U=>er (.mem ao [] false) (jg l.kind l.a l.b vT ab ab .ah .ah) [] U R3;have rr:=fun r' aa c U=>res r' aa _ c [] U hC;simp only[sn]at XP;rw[rY,ak qh.eq_1];rw[lb];generalize hc0:jg l.kind [] [] vT ab ab .ah .ah=C0 at*;generalize Vp:jg l.kind l.a [] vT ab ab .ah .ah=C1 at*;generalize hc2:jg l.kind l.a l.b vT ab ab .ah .ah=C2 at*;simp at c2 c3 er3 XP;simp[d0,c1,wk,fk,JO,lk,cu,tr,bF,UU,N1,stu,er1,b0,c2,s2,lu0,lu1,lu2,lu3,l1,c3,s3,ou,er3,XP,sZ',lZ',rr];congr 3;omega
  ·
    have e1:=R.b0 hb;have e2:=R.t1 ht;have e3:=R.y0 hy;have e4:=R.i0 hi;have fr:=nU e2;rw[hb,ht,hy,hi]at cu;simp only[hb,ht,hy,i0 e4,if_true,rL,if_false,yu,fB]at R2 lb;have c3:=fun U=>XM l.type P6.type fr.2 (zH hS ((r.go 1).go (aM l.a).length) (.mem ao [] false) (jg l.kind l.a [] vT ab ab .ah .ah) [] U) R2;simp only[vR hS]at c3;have R3:=R2.go;have s3:∀r' U,bg [] S.length (zG S j r' (.mem ao [] false) (jg l.kind l.a [] vT ab ab .ah .ah) [] U) 3 (.ptr (S.length+1) 3) (.agg l.type.ai)=some ([],zG S j r' (.mem ao [] false) (jg l.kind l.a [] l.type.ai ab ab .ah .ah) [] U):=fun r' U=>PG (jE (bj.fJ l.type)) 3 3 (by simp[AV.cells]) (by rw[mM rfl rfl rfl];omega) (ajQ rfl (by simp[AV.cells])) [];have R4:=R3.go;have c4:=fun U=>Jq (m:=S.length+1) l.base P6.base fr.1 (zH hS (((r.go 1).go (aM l.a).length).go l.type.bytes.length) (.mem ao [] false) (jg l.kind l.a [] l.type.ai ab ab .ah .ah) [] U) R3 118 rfl rfl (by refine Ch (k:=l.kind) (a:=l.a) (b:=[]) (t:=l.type) (xs:=ab) (ys:=ab) (pr:=.ah) (ir:=.ah) (bt:=[]) (q:=false) ?_ l.base P6.base P6.type e2;unfold gE;refine cd _ ?_;rw[vR hS];exact Dr ..);simp only[vR hS]at c4;have s4:∀r' U,bg [] S.length (zG S j r' (.mem ao [] false) (jg l.kind l.a [] l.type.ai ab ab .ah .ah) [] U) 6 (.ptr (S.length+1) 6) (.agg l.base.ai)=some ([],zG S j r' (.mem ao [] false) (jg l.kind l.a [] l.type.ai l.base.ai ab .ah .ah) [] U):=fun r' U=>PG (jE (aX.fJ l.base)) 6 6 (by simp[AV.cells]) (by rw[mM (by simp) rfl rfl];omega) (ajR (by simp) rfl (by simp[AV.cells])) [];have hC:bD (.agg (jg l.kind l.a [] l.type.ai l.base.ai ab .ah .ah))=.agg l.ai:=Dt rfl rfl e1.symm tN xN (by rw[e3.1];exact uw) (by rw[e3.2];rfl) (by rw[e4];rfl);have XP:=fun r' z U=>lA r' z l.a [] l.type.ai l.base.ai ab .ah .ah [] U (by simp) (by simp) rfl tS xS rfl;have lZ':=fun r' c U=>lZ r' l.a [] l.type.ai l.base.ai ab .ah .ah c [] U (by simp) (by simp) rfl tS xS rfl rfl rfl;have sZ':=fun r' c U=>UX (S:=S) (j:=j) (r:=r') (cs:=ao) (c:=c) (bt:=[]) (u:=U) (C:=jg l.kind l.a [] l.type.ai l.base.ai ab .ah .ah) (Ds tP xP rfl rfl rfl) rfl (mM (by simp) (by simp) rfl) [];have er1:=fun U=>er (.mem ao [] false) (jg l.kind [] [] vT ab ab .ah .ah) [] U hR1;have er3:=fun U=>er (.mem ao [] false) (jg l.kind l.a [] l.type.ai l.base.ai ab .ah .ah) [] U R4;have rr:=fun r' aa c U=>res r' aa _ c [] U hC;simp only[sn]at XP;rw[rY,ak qh.eq_1];rw[lb];generalize hc0:jg l.kind [] [] vT ab ab .ah .ah=C0 at*;generalize Vp:jg l.kind l.a [] vT ab ab .ah .ah=C1 at*;generalize hc2:jg l.kind l.a [] l.type.ai ab ab .ah .ah=C2 at*;generalize hc3:jg l.kind l.a [] l.type.ai l.base.ai ab .ah .ah=C3 at*;simp at c2 c3 c4 er3 XP;simp[d0,c1,wk,fk,JO,lk,cu,tr,bF,UU,N1,stu,er1,b0,c2,s2,lu0,lu1,lu2,lu3,c3,s3,c4,s4,ou,er3,XP,sZ',lZ',rr];congr 3;omega
  ·
    have e1:=R.b0 hb;have e2:=R.t0 ht;have e3:=R.y0 hy;have e4:=R.i0 hi;rw[hb,ht,hy,hi]at cu;simp only[hb,ht,hy,i0 e4,rL,if_false,yu]at R2 lb;have hC:bD (.agg (jg l.kind l.a [] vT ab ab .ah .ah))=.agg l.ai:=Dt rfl rfl e1.symm (by rw[e2.1];exact PH) (by rw[e2.2];exact uw) (by rw[e3.1];exact uw) (by rw[e3.2];rfl) (by rw[e4];rfl);have XP:=fun r' z U=>lA r' z l.a [] vT ab ab .ah .ah [] U rfl rfl rfl rfl rfl rfl;have lZ':=fun r' c U=>lZ r' l.a [] vT ab ab .ah .ah c [] U rfl rfl rfl rfl rfl rfl rfl rfl;have sZ':=fun r' c U=>UX (S:=S) (j:=j) (r:=r') (cs:=ao) (c:=c) (bt:=[]) (u:=U) (C:=jg l.kind l.a [] vT ab ab .ah .ah) (Ds rfl rfl rfl rfl rfl) rfl (mM rfl rfl rfl) [];have er1:=fun U=>er (.mem ao [] false) (jg l.kind [] [] vT ab ab .ah .ah) [] U hR1;have er3:=fun U=>er (.mem ao [] false) (jg l.kind l.a [] vT ab ab .ah .ah) [] U R2;have rr:=fun r' aa c U=>res r' aa _ c [] U hC;simp only[sn]at XP;rw[rY,ak qh.eq_1];rw[lb];generalize hc0:jg l.kind [] [] vT ab ab .ah .ah=C0 at*;generalize Vp:jg l.kind l.a [] vT ab ab .ah .ah=C1 at*;simp at c2 er3 XP;simp[d0,c1,wk,fk,JO,lk,cu,tr,bF,UU,N1,stu,er1,b0,c2,s2,lu0,lu1,lu2,lu3,ou,er3,XP,sZ',lZ',rr];try(congr 3;omega)
  ·
    have e1:=R.b0 hb;have e2:=R.t0 ht;have e3:=R.y0 hy;have e4:=R.i1 hi;obtain⟨x,ex⟩:∃x,l.bf=[x]:=Ht.1 e4;have eb:bn.eU l.bf=x.bytes:=by rw[ex];simp[bn.eU]
    rw[hb,ht,hy,hi]at cu;simp only[hb,ht,hy,eb,rL,if_false,yu]at R2 lb;have c3:=fun U=>ih x (hl.all x (by rw[ex];simp)) (R.all x (by rw[ex];simp)) (by omega) _ j ((r.go 1).go (aM l.a).length) u (zH hS ((r.go 1).go (aM l.a).length) (.mem ao [] false) (jg l.kind l.a [] vT ab ab .ah .ah) [] U) R2;simp only[vR hS]at c3;have R3:=R2.go;have bo:e_ 20 [ao] [(0,.agg x.ai)]=some [x.ai]:=by have:=(bn.fJ x).dN;simp[e_,aB,AV.cells,aaq]
    have px:aS (.sl .exact 20 [x.ai])=true:=by simp[aS,ct,(bn.fJ x).aS]
    have s3:∀r' U,bg [] S.length (zG S j r' (.mem ao [] false) (jg l.kind l.a [] vT ab ab .ah .ah) [] U) 1 (.ptr (S.length+1) 19) (.sl .exact 20 [x.ai])=some ([],zG S j r' (.mem ao [] false) (jg l.kind l.a [] vT ab ab .ah (.sl .exact 20 [x.ai])) [] U):=fun r' U=>by unfold bg;simp only[Dr];rw[if_pos ⟨rfl,rfl,by rw[mM rfl rfl rfl];exact eJ 20,.inl (by omega)⟩];show some ([],(zG ..).set _ (.mem (aL _ 19 [_]) [] false))=_;rw[UW,ap7 rfl rfl rfl];rfl
    have hC:bD (.agg (jg l.kind l.a [] vT ab ab .ah (.sl .exact 20 [x.ai])))=.agg l.ai:=Dt rfl rfl e1.symm (by rw[e2.1];exact PH) (by rw[e2.2];exact uw) (by rw[e3.1];exact uw) (by rw[e3.2];rfl) (by rw[ex];rfl);have XP:=fun r' z U=>lA r' z l.a [] vT ab ab .ah (.sl .exact 20 [x.ai]) [] U rfl rfl rfl rfl rfl rfl;have lZ':=fun r' c U=>lZ r' l.a [] vT ab ab .ah (.sl .exact 20 [x.ai]) c [] U rfl rfl rfl rfl rfl rfl rfl rfl;have sZ':=fun r' c U=>UX (S:=S) (j:=j) (r:=r') (cs:=ao) (c:=c) (bt:=[]) (u:=U) (C:=jg l.kind l.a [] vT ab ab .ah (.sl .exact 20 [x.ai])) (Ds rfl rfl rfl rfl px) rfl (mM rfl rfl rfl) [];have er1:=fun U=>er (.mem ao [] false) (jg l.kind [] [] vT ab ab .ah .ah) [] U hR1;have er3:=fun U=>er (.mem ao [] false) (jg l.kind l.a [] vT ab ab .ah (.sl .exact 20 [x.ai])) [] U R3;have rr:=fun r' aa c U=>res r' aa _ c [] U hC;have st9:aB (.sl .exact 20 [x.ai])=.sl .exact 20 [x.ai]:=rfl;simp only[st9]at XP;simp only[sn]at XP;rw[rY,ak qh.eq_1];rw[lb];generalize hc0:jg l.kind [] [] vT ab ab .ah .ah=C0 at*;generalize Vp:jg l.kind l.a [] vT ab ab .ah .ah=C1 at*;generalize hc2:jg l.kind l.a [] vT ab ab .ah (.sl .exact 20 [x.ai])=C2 at*;simp at c2 c3 er3 XP bo;simp[d0,hd1,c1,wk,fk,JO,lk,cu,tr,bF,UU,N1,stu,er1,b0,c2,s2,lu0,lu1,lu2,lu3,c3,s3,bo,ou,er3,XP,sZ',lZ',rr];congr 3;omega
  ·
    have e1:=R.b0 hb;have e2:=R.t1 ht;have e3:=R.y1 hy;have e4:=R.i0 hi;have fr:=nU e2;have tk1:=TX e2;rw[hb,ht,hy,hi]at cu;simp only[hb,ht,hy,i0 e4,if_true,rL,if_false,yu,fB]at R2 lb;have c3:=fun U=>XM l.type P6.type fr.2 (zH hS ((r.go 1).go (aM l.a).length) (.mem ao [] false) (jg l.kind l.a [] vT ab ab .ah .ah) [] U) R2;simp only[vR hS]at c3;have R3:=R2.go;have s3:∀r' U,bg [] S.length (zG S j r' (.mem ao [] false) (jg l.kind l.a [] vT ab ab .ah .ah) [] U) 3 (.ptr (S.length+1) 3) (.agg l.type.ai)=some ([],zG S j r' (.mem ao [] false) (jg l.kind l.a [] l.type.ai ab ab .ah .ah) [] U):=fun r' U=>PG (jE (bj.fJ l.type)) 3 3 (by simp[AV.cells]) (by rw[mM rfl rfl rfl];omega) (ajQ rfl (by simp[AV.cells])) [];have R4:=R3.go;have ert:=fun U=>er (.mem ao [] false) (jg l.kind l.a [] l.type.ai ab ab .ah .ah) [] U R3;have l3:∀r' U,aY (zG S j r' (.mem ao [] false) (jg l.kind l.a [] l.type.ai ab ab .ah .ah) [] U) (.agg 3) (.ptr (S.length+1) 3)=some (.agg l.type.ai):=fun r' U=>by rw[aei];exact anF (by simp) tS
    have csc:=FA l.type;have hsc:(decide (1<=l.type.kind)&&decide (l.type.kind<=4))=true:=by simp[tk1,e3.1]
    rw[hsc]at csc;have c4:=fun U=>Jq (m:=S.length+1) l.base P6.base fr.1 (zH hS (((r.go 1).go (aM l.a).length).go l.type.bytes.length) (.mem ao [] false) (jg l.kind l.a [] l.type.ai ab ab .ah .ah) [] U) R3 118 rfl rfl (by refine Ch (k:=l.kind) (a:=l.a) (b:=[]) (t:=l.type) (xs:=ab) (ys:=ab) (pr:=.ah) (ir:=.ah) (bt:=[]) (q:=false) ?_ l.base P6.base P6.type e2;unfold gE;refine cd _ ?_;rw[vR hS];exact Dr ..);simp only[vR hS]at c4;have s4:∀r' U,bg [] S.length (zG S j r' (.mem ao [] false) (jg l.kind l.a [] l.type.ai ab ab .ah .ah) [] U) 6 (.ptr (S.length+1) 6) (.agg l.base.ai)=some ([],zG S j r' (.mem ao [] false) (jg l.kind l.a [] l.type.ai l.base.ai ab .ah .ah) [] U):=fun r' U=>PG (jE (aX.fJ l.base)) 6 6 (by simp[AV.cells]) (by rw[mM (by simp) rfl rfl];omega) (ajR (by simp) rfl (by simp[AV.cells])) [];have jm:j≠S.length+1:=by omega
    have c5:=fun U=>ajU l P6 e3.1 e3.2.1 e3.2.2.1 e3.2.2.2 (k:=l.kind) (a:=l.a) (b:=[]) (xs:=l.base.ai) (ys:=ab) (ir:=.ah) (by simp) rfl (zH hS ((((r.go 1).go (aM l.a).length).go l.type.bytes.length).go l.base.bytes.length) (.mem ao [] false) (jg l.kind l.a [] l.type.ai l.base.ai ab .ah .ah) [] U) (Dr ..) jm R4;simp only[amg S j _ _ _ _ _ _ _ _ hS]at c5;have R5:po (((((r.go 1).go (aM l.a).length).go l.type.bytes.length).go l.base.bytes.length).go (l.back.bytes.length+((bI l.aO.length).length+(l.aO.flatMap j8).length))) u:=by have:=R4.go.go.go;simpa[Rd.go,pv, -List.length_flatMap]using this
    generalize MX:bk (S.length+1) 0 12 (N0 l.aO)=row at*;have hrs:aB row=dG 12 (N0 l.aO):=by rw[<-MX];exact nH ..
    have q1:=mQ (sz:=12) (XN l.aO);have hC:bD (.agg (jg l.kind l.a [] l.type.ai l.base.ai l.back.ai (dG 12 (N0 l.aO)) .ah))=.agg l.ai:=Dt rfl rfl e1.symm tN xN yN (agT _) (by rw[e4];rfl);have XP:=fun r' z U=>lA r' z l.a [] l.type.ai l.base.ai l.back.ai row .ah (ZM l.aO.length) U (by simp) (by simp) (by simp) tS xS yS;have lZ':=fun r' c U=>lZ r' l.a [] l.type.ai l.base.ai l.back.ai (dG 12 (N0 l.aO)) .ah c (ZM l.aO.length) U (by simp) (by simp) (by simp) tS xS yS q1.1 rfl;have sZ':=fun r' c U=>UX (S:=S) (j:=j) (r:=r') (cs:=ao) (c:=c) (bt:=ZM l.aO.length) (u:=U) (C:=jg l.kind l.a [] l.type.ai l.base.ai l.back.ai (dG 12 (N0 l.aO)) .ah) (Ds tP xP yP q1.2 rfl) rfl (mM (by simp) (by simp) (by simp)) [];have er1:=fun U=>er (.mem ao [] false) (jg l.kind [] [] vT ab ab .ah .ah) [] U hR1;have er3:=fun U=>er (.mem ao [] false) (jg l.kind l.a [] l.type.ai l.base.ai l.back.ai row .ah) (ZM l.aO.length) U R5;have rr:=fun r' aa c U=>res r' aa _ c (ZM l.aO.length) U hC;simp only[sn,hrs]at XP;rw[rY,ak qh.eq_1];rw[lb];generalize hc0:jg l.kind [] [] vT ab ab .ah .ah=C0 at*;generalize Vp:jg l.kind l.a [] vT ab ab .ah .ah=C1 at*;generalize hc2:jg l.kind l.a [] l.type.ai ab ab .ah .ah=C2 at*;generalize hc3:jg l.kind l.a [] l.type.ai l.base.ai ab .ah .ah=C3 at*;generalize hc4:jg l.kind l.a [] l.type.ai l.base.ai l.back.ai row .ah=C4 at*;generalize hc5:jg l.kind l.a [] l.type.ai l.base.ai l.back.ai (dG 12 (N0 l.aO)) .ah=C5 at*;simp at c2 c3 ert c4 XP;simp[-List.length_flatMap]at c5 er3;simp[d0,c1,wk,fk,JO,lk,cu,tr,b8,bF,UU,N1,stu,er1,b0,b1,c2,s2,lu0,lu1,lu2,lu3,c3,s3,ert,l3,csc,c4,s4,c5,ou,er3,XP,sZ',lZ',rr, -List.length_flatMap];congr 3;omega
theorem abD{S:St}{j:Nat}{r:Rd}{u:bq}(v:bn)(hv:v.Wf)(h:v.aR 5=true)(hS:S[j]? =some (eB j r))(hr:po r (v.bytes++u)):
 DF ax nk 33 [.ptr j 0] S=some (.agg v.ai,S.set j (eB j (r.go v.bytes.length))):=by
 have hj:j<S.length:=(fI.1 hS).1;have c1:=amh 5 v hv h (by omega) (S++[.mem ao [] false]) j r u (cd _ hS) hr;rw[dL _ hj]at c1;have T1:(S.set j (eB j (r.go v.bytes.length))).length=S.length:=by simp
 have st:=uO T1 (bn.fJ v).aS [.mem ao [] false] 0 [] S.length 20;have l4:aY (S.set j (eB j (r.go v.bytes.length))++[.mem v.ai [] false]) (.agg 20) (.ptr S.length 0)=some (.agg v.ai):=by rw[lT0 T1];simp
 have xv:∀b G,(S.set j b++G).take S.length=S.set j b:=fun b G=>by rw[ob (by simp),gO (by simp)]
 have vG:aL ao 0 v.ai=v.ai:=bX (by simp);rw[Wb,ak Is.eq_1];simp at c1 st;simp at vG;simp[c1,st,l4,xv]
theorem TO(s:bq):(bW s).flatten=aK s:=by
 induction s with
 |nil=>rfl
 |cons a r ih=>show _::(bW r).flatten=_;rw[ih];rfl
theorem Y1{s:bq}(h:s≠[]):dG 1 (bW s)=.sl .none 1 (bW s):=by unfold dG;rw[if_neg (fun e=>h ((kN _).1 e))]
theorem RW{S:St}{j:Nat}{r:Rd}{s u:bq}(hs:s.length=32)(hS:S[j]? =some (eB j r))(hr:po r (s++u)):
 DF ax nk 30 [.ptr j 0] S=some (.agg (aK s),S.set j (eB j (r.go 32))):=by
 have hj:j<S.length:=(fI.1 hS).1;have sn:s≠[]:=by intro h;rw[h]at hs;simp at hs
 have c1:=adT (cd [.mem aD [] false,.mem aD [] false] hS) 32 hs (by omega) hr;rw[dL _ hj,hs,Y1 sn]at c1;have T1:(S.set j (eB j (r.go 32))).length=S.length:=by simp
 have fl:((bW s).take 32).flatten=aK s:=by rw[gO (by simp[hs]),TO]
 have cp:CF S.length (S.set j (eB j (r.go 32))++[.mem aD [] false,.mem aD [] false]) 1 (.aref (S.length+1) 0 32 32 1) (.sl .none 1 (bW s))=some (.int .i64 32,S.set j (eB j (r.go 32))++[.mem aD [] false,.mem (aK s) [] false]):=by unfold CF;simp only[bL,G6];rw[if_neg (by omega),gT T1];simp only[Xh,v_];rw[if_pos ⟨by decide,.inl (by omega)⟩,sT T1,fl,bX (by simp[hs])];simp[hs]
 have dl:j1 (aK s):=cH s;have ld:aY (S.set j (eB j (r.go 32))++[.mem aD [] false,.mem (aK s) [] false]) (.agg 32) (.ptr (S.length+1) 0)=some (.agg (aK s)):=by rw[lT T1];simp[hs]
 have st:=uO T1 dl.aS [.mem aD [] false,.mem (aK s) [] false] 0 [] S.length 32;have ld2:aY (S.set j (eB j (r.go 32))++[.mem (aK s) [] false,.mem (aK s) [] false]) (.agg 32) (.ptr S.length 0)=some (.agg (aK s)):=by rw[lT0 T1];simp[hs]
 have xv:∀b G,(S.set j b++G).take S.length=S.set j b:=fun b G=>by rw[ob (by simp),gO (by simp)]
 have tn:aT [] (.sl .none 1 (bW s))=(.sl .none 1 (bW s),[]):=rfl;have vG:aL aD 0 (aK s)=aK s:=bX (by simp[hs])
 have rs:∀G,cC 30 [] [.agg (aK s)] S (S.set j (eB j (r.go 32))++G)=some (.agg (aK s),S.set j (eB j (r.go 32))):=fun G=>by
  have nr:bD (.agg (aK s))=.agg (aK s):=by show AV.agg ((aK s).map cY)=_;rw[dl.kU]
  rw[lL,nr];simp[bu,xv,dl]
 simp only[v_,M4]at st;rw[if_pos ⟨by simp[hs],by decide⟩,vG]at st;rw[TQ,ak D7.eq_1];simp at c1 cp;simp[c1,xD,tn,cp,ld,st,ld2,rs]
theorem Xx:∀(l:List bq)(i:Nat),wi l=true->wi (l.take i)=true
 |[],i,_=>by simp[wi]
 |[a],i,_=>by cases i<;>simp[wi]
 |a::b::r,0,_=>by simp[wi]
 |a::b::r,1,_=>by simp[wi]
 |a::b::r,i+2,h=>by simp only[wi,dk]at h;have:=Xx (b::r) (i+1) h.2;simp only[Sq]at this⊢;simp only[wi,h.1,MK];exact this
def tv(l:List bq):List (List AV):=l.map aK
theorem aiN(l:List bq):pG l=iA 32 (tv l):=rfl
@[simp]theorem avi(l:List bq):(tv l).length=l.length:=by simp[tv]
theorem OV(l:List bq):ct (tv l)=true:=jJ.2 fun x hx=>by obtain⟨s,_,rfl⟩:=Fq.1 hx;exact j1.aS (cH s)
theorem adU{S:St}{j:Nat}{r:Rd}{u:bq}(l:List bq)(hl:∀p∈l,p.length=32)(h4:l.length<=4)(hri:wi l=true)(hS:S[j]? =some (eB j r))(hr:po r (bI l.length++(l.flatten++u))):
 DF ax nk 31 [.ptr j 0] S=some (abA 32 (tv l),S.set j (eB j (r.go ((bI l.length).length+l.flatten.length)))):=by
 have c1:=k_ hS (n:=l.length) (by omega) hr;have R1:=hr.go;have xv:∀b,(S.set j b).take S.length=S.set j b:=fun b=>gO (by simp);have b1:du .eql (.iL ff) true .bP .bP=some (.bool true):=rfl;have key:∀d i(r0:Rd)(aW:AV)(aa:List (Option Nat)),i+d=l.length->po r0 ((l.drop i).flatten++u)->LZ 32 aW aa (tv (l.take i))->
  ∃dH aG,LZ 32 dH aG (tv l)/\DC ax nk (.loop jT) ⟨[(0,.ptr j 0),(3,.int .u64 (l.length:Int)),(4,aW),(5,.int .u64 (i:Int))],aa,S.length⟩ (S.set j (eB j r0))=
   some (.exit 0,⟨[(4,dH)],aG,S.length⟩,S.set j (eB j (r0.go (l.drop i).flatten.length))):=by
  intro d;induction d with
  |zero=>
   intro i r0 aW aa hi Oc ho;have K9:¬i<l.length:=by omega
   have e3:l.drop i=[]:=dV (by omega);have e4:l.take i=l:=gO (by omega);rw[e4]at ho;refine⟨aW,aa,ho, ?_⟩;rw[aj,ak jT.eq_1,e3];simp[K9,Rd.go]
  |succ d ih=>
   intro i r0 aW aa hi Oc ho;have h3:i<l.length:=by omega
   obtain⟨y,hy,gg⟩:=aE (l:=l) (i:=i) (by omega);have hw:IntKind.wrap .u64 ((i:Int)+1)=((i+1:Nat):Int):=by show((i:Int)+1)%18446744073709551616=_;omega
   have Vr:=hl y (eT hy);rw[aJ hy,P5]at Oc⊢;rw[fB]at Oc;have ce:=Ad (L3 hS r0) Oc;have c2:=RW Vr (L3 hS r0) Oc;rw[Hu]at c2;have Rn:=Oc.go;rw[Vr]at Rn;have tP:l.take (i+1)=l.take i++[y]:=by rw[sW,hy];rfl
   obtain⟨o2,t2,a1,a2⟩:=ho.app (aK y) (by simp;omega) (S.set j (eB j (r0.go 32)));have a3:LZ 32 o2 t2 (tv (l.take (i+1))):=by rw[tP];simpa[tv]using a2
   have ne:tv (l.take (i+1))≠[]:=by rw[tP];simp[tv]
   have eo:o2=.sl (.fr 0) 32 (tv (l.take (i+1))):=by
    rcases a3 with⟨h,_⟩|⟨_,h,_⟩;·exact absurd h ne
    ·exact h
   have gv:∀T,bN T o2=some (.sl .none 32 (tv (l.take (i+1)))):=fun T=>by rw[eo];rfl
   have gn:norm (.sl .none 32 (tv (l.take (i+1))))=pG (l.take (i+1)):=by
    rw[aiN];cases h:tv (l.take (i+1))with
    |nil=>exact absurd h ne
    |cons a b=>rfl
   have gl:∀T,cg T o2=T:=fun T=>by rw[eo];rfl
   have gu:∀T T',bB T T' o2=T':=fun T T'=>by rw[eo];rfl
   have c3:=HI (l.take (i+1)) (fun p hp=>hl p (adn hp)) (by simp;omega) (S.set j (eB j (r0.go 32)));rw[Xx l _ hri]at c3;obtain⟨dH,aG,n1,n2⟩:=ih (i+1) (r0.go 32) o2 t2 (by omega) Rn a3;refine⟨dH,aG,n1, ?_⟩;have bo:e_ 32 [aD] [(0,.agg (aK y))]=some [aK y]:=by have:=(cH y).dN;simp[e_,aB,AV.cells,aaq,Vr]
   rw[aj,ak jT.eq_1];simp only[gP,Vr]at n2⊢;simp[-List.length_flatten]at n2 hw c2 bo;simp[h3,ce,b1,c2,bo,a1,gv,gn,gl,gu,dW,dj,c3,bF, -List.length_flatten];rw[ae jT.eq_1];simp[hw,n2, -List.length_flatten]
 obtain⟨dH,aG,g1,g2⟩:=key l.length 0 _ .ah [] (by omega) R1 (LZ.nil 32);obtain⟨t,f1,f2,f3,f4⟩:=g1.res (OV l);have cV:((4:Int)<(l.length:Int))=False:=eq_false (by omega);rw[Na,ak xK.eq_1];simp only[jS]at g2;simp[-List.length_flatten]at g2;simp[c1,cV, -List.length_flatten];rw[ae jT.eq_1];simp[g2,f1,f2,f3,f4,xv, -List.length_flatten]
section
def jD(k:Int)(K_:List AV)(row:AV)(ops L4 key sig:List AV):List AV:=.int .i64 k::(K_++(row::(ops++(L4++(key++sig)))))
abbrev DG:List AV:=List.replicate 32 (.int .u8 0)
abbrev Fx:List AV:=List.replicate 64 (.int .u8 0)
set_option maxRecDepth 20000 in
theorem aiO(k:Int):dr jk [(0,1,.int .i64 k)]=some (jD k DG .ah aF ao DG Fx):=rfl
section
variable{k:Int}{K_ ops L4 key sig:List AV}{row:AV}(h1:K_.length=32)(h2:ops.length=10)(h3:L4.length=20)(h4:key.length=32)(h5:sig.length=64)
include h1 h2 h3 h4 h5 in
theorem oW:(jD k K_ row ops L4 key sig).length=160:=by simp[jD,h1,h2,h3,h4,h5]
include h1 in
theorem apr{aps:List AV}(h:aps.length=32):aL (jD k K_ row ops L4 key sig) 1 aps=jD k aps row ops L4 key sig:=iJ (a:=[.int .i64 k]) (b:=K_) rfl rfl (by omega)
include h1 in
theorem alI{apt:AV}:aL (jD k K_ row ops L4 key sig) 33 [apt]=jD k K_ apt ops L4 key sig:=
 (iJ (l:=jD k K_ row ops L4 key sig) (off:=33) (b':=[apt]) (a:=.int .i64 k::K_) (b:=[row]) (c:=ops++(L4++(key++sig))) (by simp[jD]) (by simp[h1]) rfl).trans (by simp[jD])
include h1 h2 in
theorem alJ{QK:List AV}(h:QK.length=10):aL (jD k K_ row ops L4 key sig) 34 QK=jD k K_ row QK L4 key sig:=
 (iJ (l:=jD k K_ row ops L4 key sig) (off:=34) (b':=QK) (a:=.int .i64 k::(K_++[row])) (b:=ops) (c:=L4++(key++sig)) (by simp[jD]) (by simp[h1]) (by omega)).trans (by simp[jD])
include h1 h2 h3 in
theorem alK{alL:List AV}(h:alL.length=20):aL (jD k K_ row ops L4 key sig) 44 alL=jD k K_ row ops alL key sig:=
 (iJ (l:=jD k K_ row ops L4 key sig) (off:=44) (b':=alL) (a:=.int .i64 k::(K_++(row::ops))) (b:=L4) (c:=key++sig) (by simp[jD]) (by simp[h1,h2]) (by omega)).trans (by simp[jD])
include h1 h2 h3 h4 in
theorem ae6{alM:List AV}(h:alM.length=32):aL (jD k K_ row ops L4 key sig) 64 alM=jD k K_ row ops L4 alM sig:=
 (iJ (l:=jD k K_ row ops L4 key sig) (off:=64) (b':=alM) (a:=.int .i64 k::(K_++(row::(ops++L4)))) (b:=key) (c:=sig) (by simp[jD]) (by simp[h1,h2,h3]) (by omega)).trans (by simp[jD])
include h1 h2 h3 h4 h5 in
theorem ae7{alN:List AV}(h:alN.length=64):aL (jD k K_ row ops L4 key sig) 96 alN=jD k K_ row ops L4 key alN:=
 (iJ (l:=jD k K_ row ops L4 key sig) (off:=96) (b':=alN) (a:=.int .i64 k::(K_++(row::(ops++(L4++key))))) (b:=sig) (c:=[]) (by simp[jD]) (by simp[h1,h2,h3,h4]) (by omega)).trans (by simp[jD])
end
theorem RY(f:AV->AV)(hf:∀k,f (.int .i64 k)=.int .i64 k){k:Int}{K_ ops L4 key sig:List AV}{row:AV}:(jD k K_ row ops L4 key sig).map f=jD k (K_.map f) (f row) (ops.map f) (L4.map f) (key.map f) (sig.map f):=by simp[jD,hf]
theorem OW{k:Int}{K_ ops L4 key sig:List AV}{row:AV}(h1:ck K_=true)(h2:aS row=true)(h3:ck ops=true)(h4:ck L4=true)(h5:ck key=true)(h6:ck sig=true):ck (jD k K_ row ops L4 key sig)=true:=by
 rw[z8]at*;intro x hx;unfold jD at hx;simp only[yi,MJ]at hx;rcases hx with rfl|hx|rfl|hx|hx|hx|hx;·rfl
 ·exact h1 x hx
 ·exact h2
 ·exact h3 x hx
 ·exact h4 x hx
 ·exact h5 x hx
 ·exact h6 x hx
def F3(S:St)(z:List AV)(r:Rd)(c:List AV)(bt:List (Option Nat)):St:=S++[.mem z [] false,eB (S.length+1) r,.mem c bt false]
section
variable(S:St)(z:List AV)(r:Rd)(c:List AV)(bt:List (Option Nat))
theorem vJ:(F3 S z r c bt)[S.length+1]? =some (eB (S.length+1) r):=get_at S _ 1
theorem Bo(r':Rd):(F3 S z r c bt).set (S.length+1) (eB (S.length+1) r')=F3 S z r' c bt:=qW S _ 1 _
theorem HW:(F3 S z r c bt)[S.length+2]? =some (.mem c bt false):=get_at S _ 2
theorem Nb(c':List AV)(bt':List (Option Nat)):(F3 S z r c bt).set (S.length+2) (.mem c' bt' false)=F3 S z r c' bt':=qW S _ 2 _
theorem aiP:(F3 S z r c bt)[S.length]? =some (.mem z [] false):=by have:=get_at S [.mem z [] false,eB (S.length+1) r,.mem c bt false] 0;rw[sR]at this;exact this
theorem Y2(sh:Sh)(off:Nat):aY (F3 S z r c bt) sh (.ptr (S.length+2) off)=fC sh c off:=bd (HW ..) sh off
theorem ae8(sh:Sh)(off:Nat):aY (F3 S z r c bt) sh (.ptr S.length off)=fC sh z off:=bd (aiP ..) sh off
theorem abB:(F3 S z r c bt).take S.length=S:=Fu rfl
end
theorem TR{S:St}{z:List AV}{r:Rd}{c c':List AV}{bt:List (Option Nat)}{v:AV}(hv:CO v)(off n:Nat)(hn:v.cells.length=n)(ho:off+n<=c.length)(hc:aL c off v.cells=c')(aa:List (Option Nat)):
 bg aa S.length (F3 S z r c bt) n (.ptr (S.length+2) off) v=some (aa,F3 S z r c' bt):=by
 rw[fT hv (HW ..),Nb,if_pos ⟨hn,ho⟩,hc]
theorem aiQ{S:St}{z:List AV}{r:Rd}{c C:List AV}{bt:List (Option Nat)}(hp:ck C=true)(h1:z.length=160)(h2:C.length=160)(aa:List (Option Nat)):
 bg aa S.length (F3 S z r c bt) 160 (.ptr S.length 0) (.agg C)=some (aa,F3 S C r c bt):=by
 have:=uO (S:=S) rfl hp [.mem z [] false,eB (S.length+1) r,.mem c bt false] 0 aa S.length 160;refine this.trans ?_;simp only[v_];rw[if_pos ⟨h2,by omega⟩,bX (by omega)];rfl
theorem po.end_{r:Rd}(h:po r []):r.adV=none:=by unfold Rd.adV;have h1:=h.hl;unfold Rd.left at h1;have:r.b.length<=r.at_:=List.drop_eq_nil_iff.1 h1;rw[if_neg (by omega),h.he]
theorem aiR{S:St}{j:Nat}{r:Rd}(hS:S[j]? =some (eB j r))(h:po r []):DF ax nk 35 [.ptr j 0] S=some (.bP,S):=by rw[Y3 hS h.ho h.hb,h.end_];rfl
theorem agx(e:aaf)(he:e.Wf)(hs:e.cO=true)(hl:e.bytes.length<=4096)(S:St):DF ax nk 11 [bO e.bytes] S=some (.cT [.agg e.ai,.bP],S):=by
 have A:=he.toOk;unfold aaf.cO at hs;simp only[dk,P1,decide_eq_true_eq]at hs;obtain⟨⟨h4,hri⟩,hk⟩:=hs;have Fw:=A.aP;have LY:=A.key;have Xw:=A.sig;have sn:e.sig≠[]:=by intro h;rw[h]at Xw;simp at Xw
 have eb:e.bytes=UInt8.ofNat e.kind.toNat::(e.aP++(bI e.az.length++(e.az.flatten++(e.part++(e.key++(e.sig++[])))))):=by simp[aaf.bytes,aaf.od]
 have lb:∀s,gj (bO s)=some (.int .i64 (s.length:Int)):=fun s=>by cases s<;>simp[bO,iA,gj]
 have cV:((4096:Int)<(e.bytes.length:Int))=False:=eq_false (by omega);have c0:=abC e.bytes (by omega) (S++[.mem jk [] false]);have R0:po ⟨e.bytes,0,none⟩ (UInt8.ofNat e.kind.toNat::(e.aP++(bI e.az.length++(e.az.flatten++(e.part++(e.key++(e.sig++[]))))))):=⟨rfl,by show e.bytes.length<=_;omega,sU _,by rw[<-eb];rfl⟩;generalize hZ:jk=Z at*;have Zl:Z.length=160:=by rw[<-hZ];rfl
 have hg:(S++[.mem Z [] false]++[eB (S.length+1) ⟨e.bytes,0,none⟩])[S.length+1]? =some (eB (S.length+1) ⟨e.bytes,0,none⟩):=by rw[fB];exact get_at S _ 1
 have c1:=Nc hg R0;have R1:=R0.go1;have ahR:∀r,(S++[cF.mem Z [] false]++[eB (S.length+1) ⟨e.bytes,0,none⟩]).set (S.length+1) (eB (S.length+1) r)=S++[cF.mem Z [] false,eB (S.length+1) r]:=fun r=>by rw[fB];exact qW S _ 1 _
 rw[ahR]at c1;have ef:dr Z [(0,1,.int .i64 e.kind)]=some (jD e.kind DG .ah aF ao DG Fx):=by rw[<-hZ];exact aiO _
 have zp:ck (jD e.kind DG .ah aF ao DG Fx)=true:=OW rfl rfl rfl rfl rfl rfl;have JO:∀r,bg [] S.length (S++[.mem Z [] false,eB (S.length+1) r,.mem Z [] false]) 160 (.ptr (S.length+2) 0) (.agg (jD e.kind DG .ah aF ao DG Fx))=some ([],F3 S Z r (jD e.kind DG .ah aF ao DG Fx) []):=fun r=>by rw[TG (S:=S) rfl zp];simp only[v_,Xh];rw[if_pos ⟨oW rfl rfl rfl rfl rfl,by omega⟩,bX (by rw[oW rfl rfl rfl rfl rfl,Zl])];rfl
 have kk:((UInt8.ofNat e.kind.toNat).toNat:Int)=e.kind:=by rw[yA];omega
 rw[kk]at c1;have wk:IntKind.wrap .i64 e.kind=e.kind:=wrap64 (by omega);have l0:∀r,aY (F3 S Z r (jD e.kind DG .ah aF ao DG Fx) []) .cell (.ptr (S.length+2) 0)=some (.int .i64 e.kind):=fun r=>Y2 ..;have c2:=RW Fw (vJ S Z _ (jD e.kind DG .ah aF ao DG Fx) []) R1;rw[Bo]at c2;have s2:∀r aa,bg aa S.length (F3 S Z r (jD e.kind DG .ah aF ao DG Fx) []) 32 (.ptr (S.length+2) 1) (.agg (aK e.aP))=some (aa,F3 S Z r (jD e.kind (aK e.aP) .ah aF ao DG Fx) []):=fun r aa=>TR (jE (cH e.aP)) 1 32 (by simp[AV.cells,Fw]) (by rw[oW rfl rfl rfl rfl rfl];omega) (apr rfl (by simp[AV.cells,Fw])) aa;have R2:=R1.go;rw[Fw]at R2;have c3:=adU e.az A.az h4 hri (vJ S Z _ (jD e.kind (aK e.aP) .ah aF ao DG Fx) []) R2;rw[Bo]at c3;have R4:po (((((⟨e.bytes,0,none⟩:Rd).go 1).go 32).go ((bI e.az.length).length+e.az.flatten.length))) (e.part++(e.key++(e.sig++[]))):=by have:=R2.go.go;simpa[Rd.go,pv, -List.length_flatten]using this
 obtain⟨v3,t3,t4,p1,p2⟩:=aiS (sz:=32) (o:=33) (tv e.az) [] [] (HW S Z (((⟨e.bytes,0,none⟩:Rd).go 1).go 32|>.go ((bI e.az.length).length+e.az.flatten.length)) (jD e.kind (aK e.aP) .ah aF ao DG Fx) []) (by rw[oW (by simp[Fw]) rfl rfl rfl rfl];omega) (OV _) S.length (by omega);rw[Nb,alI (by simp[Fw])]at p2;generalize hbt:(if tv e.az=[]then([]:List (Option Nat))else[]++[some (tv e.az).length])=bt at p2;have hl0:([]:List (Option Nat)).length=0:=rfl;rw[hl0]at p2;generalize MX:bk (S.length+2) 0 32 (tv e.az)=row at*;have hrs:aB row=dG 32 (tv e.az):=by rw[<-MX];exact nH ..
 have q1:=mQ (sz:=32) (OV e.az);have l33:∀r k,aY (F3 S Z r (jD k (aK e.aP) row aF ao DG Fx) bt) .cell (.ptr (S.length+2) 0)=some (.int .i64 k):=fun r k=>Y2 ..;have fl:((bW e.sig).take 64).flatten=aK e.sig:=by rw[gO (by simp[Xw]),TO]
 rcases hk with⟨k,hr,hz⟩|⟨k,hr,hz⟩
 ·
   have ep:e.part=wm e.op:=by unfold aaf.part;rw[if_pos k]
   rw[ep]at R4;have c4:=atB e.op he.op hr (vJ S Z ((((⟨e.bytes,0,none⟩:Rd).go 1).go 32).go ((bI e.az.length).length+e.az.flatten.length)) (jD 1 (aK e.aP) row aF ao DG Fx) bt) R4;simp only[Bo]at c4;have R5:=R4.go;have s4:∀r aa,bg aa S.length (F3 S Z r (jD 1 (aK e.aP) row aF ao DG Fx) bt) 10 (.ptr (S.length+2) 34) (.agg e.op.ai)=some (aa,F3 S Z r (jD 1 (aK e.aP) row e.op.ai ao DG Fx) bt):=fun r aa=>TR (jE (ph.fJ e.op)) 34 10 (by simp[AV.cells]) (by rw[oW (by simp[Fw]) rfl rfl rfl rfl];omega) (alJ (by simp[Fw]) rfl (by simp[AV.cells])) aa;have c5:=fun r(h:po r (e.key++(e.sig++[])))=>RW LY (vJ S Z r (jD 1 (aK e.aP) row e.op.ai ao DG Fx) bt) h;simp only[Bo]at c5;have c5:=c5 _ R5;have s5:∀r aa,bg aa S.length (F3 S Z r (jD 1 (aK e.aP) row e.op.ai ao DG Fx) bt) 32 (.ptr (S.length+2) 64) (.agg (aK e.key))=some (aa,F3 S Z r (jD 1 (aK e.aP) row e.op.ai ao (aK e.key) Fx) bt):=fun r aa=>TR (jE (cH e.key)) 64 32 (by simp[AV.cells,LY]) (by rw[oW (by simp[Fw]) (by simp) rfl rfl rfl];omega) (ae6 (by simp[Fw]) (by simp) rfl rfl (by simp[AV.cells,LY])) aa;have R6:=R5.go;rw[LY]at R6;have c6:=adT (vJ S Z _ (jD 1 (aK e.aP) row e.op.ai ao (aK e.key) Fx) bt) 64 Xw (by omega) R6;rw[Bo,Xw,Y1 sn]at c6;have R7:=R6.go;rw[Xw]at R7;have cp:∀r,CF S.length (F3 S Z r (jD 1 (aK e.aP) row e.op.ai ao (aK e.key) Fx) bt) 1 (.aref (S.length+2) 96 64 64 1) (.sl .none 1 (bW e.sig))=some (.int .i64 64,F3 S Z r (jD 1 (aK e.aP) row e.op.ai ao (aK e.key) (aK e.sig)) bt):=fun r=>by unfold CF;simp only[bL,G6];rw[if_neg (by omega),HW];simp only;rw[if_pos ⟨by rw[oW (by simp[Fw]) (by simp) rfl (by simp[LY]) rfl];omega,.inl (by omega)⟩,Nb,fl,ae7 (by simp[Fw]) (by simp) rfl (by simp[LY]) rfl (by simp[Xw])];simp[Xw]
   have aiT:=aiR (vJ S Z _ (jD 1 (aK e.aP) row e.op.ai ao (aK e.key) (aK e.sig)) bt) R7;have hzc:ao.map cY=e.lens.ai:=by have e1:=mR.1 hz;rw[e1];have:=YV;show _=YT.ai;injection this
   have CL:(jD 1 (aK e.aP) (dG 32 (tv e.az)) e.op.ai ao (aK e.key) (aK e.sig)).length=160:=oW (by simp[Fw]) (by simp) rfl (by simp[LY]) (by simp[Xw]);have py:∀rw',aB rw'=dG 32 (tv e.az)->(jD 1 (aK e.aP) rw' e.op.ai ao (aK e.key) (aK e.sig)).map aB=(jD 1 (aK e.aP) (dG 32 (tv e.az)) e.op.ai ao (aK e.key) (aK e.sig)):=fun rw' h=>by rw[RY aB (fun _=>rfl),h,(cH e.aP).dN,(cH e.key).dN,(cH e.sig).dN,show e.op.ai.map aB=e.op.ai from(ph.fJ e.op).dN,show ao.map aB=ao from rfl]
   have lA:∀r,aY (F3 S Z r (jD 1 (aK e.aP) row e.op.ai ao (aK e.key) (aK e.sig)) bt) (.agg 160) (.ptr (S.length+2) 0)=some (.agg (jD 1 (aK e.aP) (dG 32 (tv e.az)) e.op.ai ao (aK e.key) (aK e.sig))):=fun r=>by rw[Y2,cP _ (oW (by simp[Fw]) (by simp) rfl (by simp[LY]) (by simp[Xw])),py row hrs]
   have sZ:=fun r aa=>aiQ (S:=S) (z:=Z) (r:=r) (c:=(jD 1 (aK e.aP) row e.op.ai ao (aK e.key) (aK e.sig))) (bt:=bt) (C:=(jD 1 (aK e.aP) (dG 32 (tv e.az)) e.op.ai ao (aK e.key) (aK e.sig))) (OW (cH _).aS q1.2 (ph.fJ e.op).aS rfl (cH _).aS (cH _).aS) Zl CL aa;have lZ:∀r,aY (F3 S (jD 1 (aK e.aP) (dG 32 (tv e.az)) e.op.ai ao (aK e.key) (aK e.sig)) r (jD 1 (aK e.aP) row e.op.ai ao (aK e.key) (aK e.sig)) bt) (.agg 160) (.ptr S.length 0)=some (.agg (jD 1 (aK e.aP) (dG 32 (tv e.az)) e.op.ai ao (aK e.key) (aK e.sig))):=fun r=>by rw[ae8,cP _ CL,py _ q1.1]
   have hn:bD (.agg (jD 1 (aK e.aP) (dG 32 (tv e.az)) e.op.ai ao (aK e.key) (aK e.sig)))=.agg e.ai:=by show AV.agg ((jD 1 (aK e.aP) (dG 32 (tv e.az)) e.op.ai ao (aK e.key) (aK e.sig)).map cY)=_;rw[RY cY (fun _=>rfl),(cH e.aP).kU,(cH e.key).kU,(cH e.sig).kU,pF,show e.op.ai.map cY=e.op.ai from(ph.fJ e.op).kU,show ao.map cY=e.lens.ai from hzc];unfold aaf.ai;rw[k];rfl
   have rs:∀r aa,cC 11 aa [.agg (jD 1 (aK e.aP) (dG 32 (tv e.az)) e.op.ai ao (aK e.key) (aK e.sig)),.bP] S (F3 S (jD 1 (aK e.aP) (dG 32 (tv e.az)) e.op.ai ao (aK e.key) (aK e.sig)) r (jD 1 (aK e.aP) row e.op.ai ao (aK e.key) (aK e.sig)) bt)=some (.cT [.agg e.ai,.bP],S):=fun r aa=>by have gb:∀t,a9 t .bP=(.bP,t):=fun _=>rfl;have ga:a9 aa (.agg e.ai)=(.agg e.ai,aa):=rfl;have n2:bD .bP=.bP:=rfl;rw[z5,hn,n2,ga,gb];simp[bu,abB,aw,aS,(aaf.fJ e).aS]
   have pd:∀i:Nat,IntKind.wrap .i64 (64:Int)=64:=fun _=>rfl;have l33:=fun r=>l33 r 1;rw[CX,ak tU.eq_1];rw[k]at c1 wk ef JO l0 c2 s2 c3 p2;generalize hC0:jD 1 DG .ah aF ao DG Fx=C0 at*;generalize hC1:jD 1 (aK e.aP) .ah aF ao DG Fx=C1 at*;generalize hC2:jD 1 (aK e.aP) row aF ao DG Fx=C2 at*;generalize hC3:jD 1 (aK e.aP) row e.op.ai ao DG Fx=C3 at*;generalize hC4:jD 1 (aK e.aP) row e.op.ai ao (aK e.key) Fx=C4 at*;generalize hC5:(jD 1 (aK e.aP) row e.op.ai ao (aK e.key) (aK e.sig))=C5 at*;generalize hC6:(jD 1 (aK e.aP) (dG 32 (tv e.az)) e.op.ai ao (aK e.key) (aK e.sig))=C6 at*;have tn:∀aa,aT aa (.sl .none 1 (bW e.sig))=(.sl .none 1 (bW e.sig),aa):=fun _=>rfl;have tq:∀aa i o,aT aa (.ptr i o)=(.ptr i o,aa):=fun _ _ _=>rfl;have b0:du .neq (.iL ff) true .bP .bP=some (.bool false):=rfl;simp[-List.length_flatten]at c0 c1 c2 c3 c4 c5 c6 aiT p2;simp[lb,cV,hZ,tq,c0,c1,wk,ef,JO,l0,c2,s2,c3,p1,p2,l33,c4,s4,c5,s5,xD,c6,tn,cp,aiT,b0,lA,sZ,lZ,rs, -List.length_flatten]
 ·
   have ep:e.part=e.lens.bytes:=by unfold aaf.part;rw[if_neg (by omega)]
   rw[ep]at R4;have c4:=abD e.lens he.lens hr (vJ S Z ((((⟨e.bytes,0,none⟩:Rd).go 1).go 32).go ((bI e.az.length).length+e.az.flatten.length)) (jD 2 (aK e.aP) row aF ao DG Fx) bt) R4;simp only[Bo]at c4;have R5:=R4.go;have s4:∀r aa,bg aa S.length (F3 S Z r (jD 2 (aK e.aP) row aF ao DG Fx) bt) 20 (.ptr (S.length+2) 44) (.agg e.lens.ai)=some (aa,F3 S Z r (jD 2 (aK e.aP) row aF e.lens.ai DG Fx) bt):=fun r aa=>TR (jE (bn.fJ e.lens)) 44 20 (by simp[AV.cells]) (by rw[oW (by simp[Fw]) rfl rfl rfl rfl];omega) (alK (by simp[Fw]) rfl rfl (by simp[AV.cells])) aa;have c5:=fun r(h:po r (e.key++(e.sig++[])))=>RW LY (vJ S Z r (jD 2 (aK e.aP) row aF e.lens.ai DG Fx) bt) h;simp only[Bo]at c5;have c5:=c5 _ R5;have s5:∀r aa,bg aa S.length (F3 S Z r (jD 2 (aK e.aP) row aF e.lens.ai DG Fx) bt) 32 (.ptr (S.length+2) 64) (.agg (aK e.key))=some (aa,F3 S Z r (jD 2 (aK e.aP) row aF e.lens.ai (aK e.key) Fx) bt):=fun r aa=>TR (jE (cH e.key)) 64 32 (by simp[AV.cells,LY]) (by rw[oW (by simp[Fw]) rfl (by simp) rfl rfl];omega) (ae6 (by simp[Fw]) rfl (by simp) rfl (by simp[AV.cells,LY])) aa;have R6:=R5.go;rw[LY]at R6;have c6:=adT (vJ S Z _ (jD 2 (aK e.aP) row aF e.lens.ai (aK e.key) Fx) bt) 64 Xw (by omega) R6;rw[Bo,Xw,Y1 sn]at c6;have R7:=R6.go;rw[Xw]at R7;have cp:∀r,CF S.length (F3 S Z r (jD 2 (aK e.aP) row aF e.lens.ai (aK e.key) Fx) bt) 1 (.aref (S.length+2) 96 64 64 1) (.sl .none 1 (bW e.sig))=some (.int .i64 64,F3 S Z r (jD 2 (aK e.aP) row aF e.lens.ai (aK e.key) (aK e.sig)) bt):=fun r=>by unfold CF;simp only[bL,G6];rw[if_neg (by omega),HW];simp only;rw[if_pos ⟨by rw[oW (by simp[Fw]) rfl (by simp) (by simp[LY]) rfl];omega,.inl (by omega)⟩,Nb,fl,ae7 (by simp[Fw]) rfl (by simp) (by simp[LY]) rfl (by simp[Xw])];simp[Xw]
   have aiT:=aiR (vJ S Z _ (jD 2 (aK e.aP) row aF e.lens.ai (aK e.key) (aK e.sig)) bt) R7;have hzc:aF.map cY=e.op.ai:=by have e1:=mR.1 hz;rw[e1];have:=YU;show _=zOp.ai;injection this
   have CL:(jD 2 (aK e.aP) (dG 32 (tv e.az)) aF e.lens.ai (aK e.key) (aK e.sig)).length=160:=oW (by simp[Fw]) rfl (by simp) (by simp[LY]) (by simp[Xw]);have py:∀rw',aB rw'=dG 32 (tv e.az)->(jD 2 (aK e.aP) rw' aF e.lens.ai (aK e.key) (aK e.sig)).map aB=(jD 2 (aK e.aP) (dG 32 (tv e.az)) aF e.lens.ai (aK e.key) (aK e.sig)):=fun rw' h=>by rw[RY aB (fun _=>rfl),h,(cH e.aP).dN,(cH e.key).dN,(cH e.sig).dN,show aF.map aB=aF from rfl,show e.lens.ai.map aB=e.lens.ai from(bn.fJ e.lens).dN]
   have lA:∀r,aY (F3 S Z r (jD 2 (aK e.aP) row aF e.lens.ai (aK e.key) (aK e.sig)) bt) (.agg 160) (.ptr (S.length+2) 0)=some (.agg (jD 2 (aK e.aP) (dG 32 (tv e.az)) aF e.lens.ai (aK e.key) (aK e.sig))):=fun r=>by rw[Y2,cP _ (oW (by simp[Fw]) rfl (by simp) (by simp[LY]) (by simp[Xw])),py row hrs]
   have sZ:=fun r aa=>aiQ (S:=S) (z:=Z) (r:=r) (c:=(jD 2 (aK e.aP) row aF e.lens.ai (aK e.key) (aK e.sig))) (bt:=bt) (C:=(jD 2 (aK e.aP) (dG 32 (tv e.az)) aF e.lens.ai (aK e.key) (aK e.sig))) (OW (cH _).aS q1.2 rfl (bn.fJ e.lens).aS (cH _).aS (cH _).aS) Zl CL aa;have lZ:∀r,aY (F3 S (jD 2 (aK e.aP) (dG 32 (tv e.az)) aF e.lens.ai (aK e.key) (aK e.sig)) r (jD 2 (aK e.aP) row aF e.lens.ai (aK e.key) (aK e.sig)) bt) (.agg 160) (.ptr S.length 0)=some (.agg (jD 2 (aK e.aP) (dG 32 (tv e.az)) aF e.lens.ai (aK e.key) (aK e.sig))):=fun r=>by rw[ae8,cP _ CL,py _ q1.1]
   have hn:bD (.agg (jD 2 (aK e.aP) (dG 32 (tv e.az)) aF e.lens.ai (aK e.key) (aK e.sig)))=.agg e.ai:=by show AV.agg ((jD 2 (aK e.aP) (dG 32 (tv e.az)) aF e.lens.ai (aK e.key) (aK e.sig)).map cY)=_;rw[RY cY (fun _=>rfl),(cH e.aP).kU,(cH e.key).kU,(cH e.sig).kU,pF,show aF.map cY=e.op.ai from hzc,show e.lens.ai.map cY=e.lens.ai from(bn.fJ e.lens).kU];unfold aaf.ai;rw[k];rfl
   have rs:∀r aa,cC 11 aa [.agg (jD 2 (aK e.aP) (dG 32 (tv e.az)) aF e.lens.ai (aK e.key) (aK e.sig)),.bP] S (F3 S (jD 2 (aK e.aP) (dG 32 (tv e.az)) aF e.lens.ai (aK e.key) (aK e.sig)) r (jD 2 (aK e.aP) row aF e.lens.ai (aK e.key) (aK e.sig)) bt)=some (.cT [.agg e.ai,.bP],S):=fun r aa=>by have gb:∀t,a9 t .bP=(.bP,t):=fun _=>rfl;have ga:a9 aa (.agg e.ai)=(.agg e.ai,aa):=rfl;have n2:bD .bP=.bP:=rfl;rw[z5,hn,n2,ga,gb];simp[bu,abB,aw,aS,(aaf.fJ e).aS]
   have pd:∀i:Nat,IntKind.wrap .i64 (64:Int)=64:=fun _=>rfl;have l33:=fun r=>l33 r 2;rw[CX,ak tU.eq_1];rw[k]at c1 wk ef JO l0 c2 s2 c3 p2;generalize hC0:jD 2 DG .ah aF ao DG Fx=C0 at*;generalize hC1:jD 2 (aK e.aP) .ah aF ao DG Fx=C1 at*;generalize hC2:jD 2 (aK e.aP) row aF ao DG Fx=C2 at*;generalize hC3:jD 2 (aK e.aP) row aF e.lens.ai DG Fx=C3 at*;generalize hC4:jD 2 (aK e.aP) row aF e.lens.ai (aK e.key) Fx=C4 at*;generalize hC5:(jD 2 (aK e.aP) row aF e.lens.ai (aK e.key) (aK e.sig))=C5 at*;generalize hC6:(jD 2 (aK e.aP) (dG 32 (tv e.az)) aF e.lens.ai (aK e.key) (aK e.sig))=C6 at*;have tn:∀aa,aT aa (.sl .none 1 (bW e.sig))=(.sl .none 1 (bW e.sig),aa):=fun _=>rfl;have tq:∀aa i o,aT aa (.ptr i o)=(.ptr i o,aa):=fun _ _ _=>rfl;have b0:du .neq (.iL ff) true .bP .bP=some (.bool false):=rfl;simp[-List.length_flatten]at c0 c1 c2 c3 c4 c5 c6 aiT p2;simp[lb,cV,hZ,tq,c0,c1,wk,ef,JO,l0,c2,s2,c3,p1,p2,l33,c4,s4,c5,s5,xD,c6,tn,cp,aiT,b0,lA,sZ,lZ,rs, -List.length_flatten]
end
theorem aef{n:Nat}(h:n<128):IntKind.wrap .u8 (n:Int)=(((UInt8.ofNat n).toNat:Nat):Int)/\bI n=[UInt8.ofNat n]:=by refine⟨?_,ZB h⟩;show(n:Int)%256=_;rw[yA];omega
theorem ab3(p:List dK)(hs:∀s∈p,s.Wf)(hr:zf p=true)(S:St):∃r,J7 r (kB p)/\DF ax nk 108 [eD p] S=some (r,S):=by
 have Co:=hr;unfold zf at Co;simp only[dk,decide_eq_true_eq]at Co;have fl:=E_ p hs Co.2;obtain⟨w0,n0⟩:=aef (n:=p.length) (by omega);have key:∀d i(aW:AV)(aa:List (Option Nat))(s:bq),i+d=p.length->mU aW aa s->s.length+((p.drop i).flatMap jX).length+100<=1073741824->
  ∃dH aG,mU dH aG (s++(p.drop i).flatMap jX)/\DC ax nk (.loop eH) ⟨[(0,eD p),(3,aW),(4,.int .i64 (i:Nat))],aa,S.length⟩ S=some (.exit 0,⟨[(3,dH)],aG,S.length⟩,S):=by
  intro d;induction d with
  |zero=>
   intro i aW aa s hi ho hb;have K9:¬i<p.length:=by omega
   have e3:p.drop i=[]:=dV (by omega);refine⟨aW,aa,by rw[e3,TC,kH];exact ho, ?_⟩;rw[aj,ak eH.eq_1];simp[K9]
  |succ d ih=>
   intro i aW aa s hi ho hb;have h3:i<p.length:=by omega
   obtain⟨y,hy,gg⟩:=aE (l:=p) (i:=i) (by omega);have hw:=aV (i:=i) (by omega);have hyw:=hs y (eT hy);have e0:y.ai[0]? =some (.str y.name):=rfl;have e1:y.ai[1]? =some (.int .u64 y.id):=rfl;rw[aJ hy,z6]at hb⊢;simp only[gP]at hb;have lb:(jX y).length=(aM y.name).length+(if y.name=[]then bI y.id.toNat else[]).length:=by unfold jX;rw[gP]
   have la:y.name.length<=(aM y.name).length:=by unfold aM;simp
   obtain⟨ra,ra1,R9⟩:=tj y.name S (by omega);obtain⟨o1,t1,o2,t2,a1,a2,a3⟩:=ho.call ra1 (by omega) S;have bs:=Jn (s:=y.name) (by omega);by_cases hn:y.name=[]
   ·have es:jX y=aM y.name++bI y.id.toNat:=by unfold jX;rw[if_pos hn]
    rw[es]at hb⊢;simp only[gP]at hb;have ea:((y.id.toNat:Nat):Int)=y.id:=by have:=hyw.id0;omega
    obtain⟨rb,rb1,rb2⟩:=vD y.id.toNat (by have:=hyw.id1;omega) S;rw[ea]at rb2;obtain⟨o3,t3,o4,t4,b1,b2,b3⟩:=a3.call rb1 (by simp;omega) S;obtain⟨dH,aG,JG,MZ⟩:=ih (i+1) o4 t4 _ (by omega) b3 (by simp only[gP];omega);refine⟨dH,aG,by simpa using JG, ?_⟩;rw[aj,ak eH.eq_1];rw[hn]at bs R9 e0;simp at hw MZ;simp[h3,gg,hn,bs,so,su,lr,ma,R9,a1,a2,rb2,b1,b2];rw[ae eH.eq_1];simp[hw,MZ]
   ·have es:jX y=aM y.name:=by unfold jX;rw[if_neg hn];simp
    have Cr:y.name.isEmpty=false:=by simpa using hn
    rw[es]at hb⊢;obtain⟨dH,aG,JG,MZ⟩:=ih (i+1) o2 t2 _ (by omega) a3 (by simp only[gP];omega);refine⟨dH,aG,by simpa using JG, ?_⟩;rw[aj,ak eH.eq_1];simp at hw MZ;simp[h3,gg,Cr,bs,so,su,lr,ma,R9,a1,a2];rw[ae eH.eq_1];simp[hw,MZ]
 obtain⟨o,t,g1,g2⟩:=key p.length 0 _ [] _ (by omega) (mU.new (UInt8.ofNat p.length) []) (by simp only[jS,jC,Ov];omega);obtain⟨r,t',f1,f2,f3,f4,f5⟩:=g1.fin;have eb:kB p=[UInt8.ofNat p.length]++(p.drop 0).flatMap jX:=by unfold kB;rw[n0];rfl
 refine⟨r,by rw[eb];exact f5, ?_⟩;rw[EZ,ak qm.eq_1];generalize UInt8.ofNat p.length=u at*;simp at g2;simp[w0];rw[ae eH.eq_1];simp[g2,f1,f2,f3,f4]
theorem ab4(v:bj)(hv:v.Of)(h5:v.kind=5->v.parts.length=v.ar.length)(S:St)(nb:Nat)
 (hF:∀x∈v.parts,∀S,∃r,J7 r x.bytes/\DF ax nk 112 [.agg x.ai] S=some (r,S)):
 ∀d i(aW:AV)(aa:List (Option Nat))(s:bq),i+d=v.ar.length->mU aW aa s->s.length+(v.b_ i).length+100<=1073741824->
 ∃dH aG,mU dH aG (s++v.b_ i)/\DC ax nk (.loop cZ) ⟨[(1,.ptr S.length 0),(3,aW),(4,.int .i64 (i:Nat))],aa,nb⟩ (S++[.mem v.ai [] false])=some (.exit 0,⟨[(1,.ptr S.length 0),(3,dH)],aG,nb⟩,S++[.mem v.ai [] false]):=by
 have hl:=hv.ar;intro d;induction d with
 |zero=>
  intro i aW aa s hi ho hb;have K9:¬i<v.ar.length:=by omega
  have e3:v.ar.drop i=[]:=dV (by omega);have er:v.b_ i=[]:=by unfold bj.b_;rw[e3];split<;>simp[bj.dt]
  refine⟨aW,aa,by rw[er,kH];exact ho, ?_⟩;rw[aj,ak cZ.eq_1];simp[K9]
 |succ d ih=>
  intro i aW aa s hi ho hb;have h3:i<v.ar.length:=by omega
  obtain⟨a,ha,JY⟩:=aE (l:=v.ar) (i:=i) (by omega);have hw:=aV (i:=i) (by omega);have la:a.length<=(aM a).length:=by unfold aM;simp
  by_cases k5:v.kind=5
  ·obtain⟨y,hy,gg⟩:=aE (l:=v.parts) (i:=i) (by have:=h5 k5;omega)
   obtain⟨ry,ry1,ry2⟩:=hF y (eT hy) (S++[.mem v.ai [] false]);have er:v.b_ i=aM a++(y.bytes++v.b_ (i+1)):=by unfold bj.b_;rw[if_pos k5,if_pos k5,aJ ha,aJ hy,bj.dt]
   have lb:(aM a).length+(y.bytes.length+(v.b_ (i+1)).length)=(v.b_ i).length:=by rw[er];simp
   have bs:=Jn (s:=a) (by omega);obtain⟨ra,ra1,R9⟩:=tj a (S++[.mem v.ai [] false]) (by omega);obtain⟨o1,t1,o2,t2,a1,a2,a3⟩:=ho.call ra1 (by omega) (S++[.mem v.ai [] false]);obtain⟨o3,t3,o4,t4,b1,b2,b3⟩:=a3.call ry1 (by simp;omega) (S++[.mem v.ai [] false]);obtain⟨dH,aG,JG,hn⟩:=ih (i+1) o4 t4 (s++aM a++y.bytes) (by omega) b3 (by simp;omega);refine⟨dH,aG,by rw[er];simpa using JG, ?_⟩;rw[aj,ak cZ.eq_1];simp at hw hn a2 b2;simp[h3,hy,k5,JY,bs,so,su,lr,ma,R9,a1,a2,ry2,b1,b2];rw[ae cZ.eq_1];simp[hw,hn]
  ·have er:v.b_ i=aM a++v.b_ (i+1):=by unfold bj.b_;rw[if_neg k5,if_neg k5,aJ ha,z6]
   have lb:(aM a).length+(v.b_ (i+1)).length=(v.b_ i).length:=by rw[er];simp
   have bs:=Jn (s:=a) (by omega);obtain⟨ra,ra1,R9⟩:=tj a (S++[.mem v.ai [] false]) (by omega);obtain⟨o1,t1,o2,t2,a1,a2,a3⟩:=ho.call ra1 (by omega) (S++[.mem v.ai [] false]);obtain⟨dH,aG,JG,hn⟩:=ih (i+1) o2 t2 (s++aM a) (by omega) a3 (by simp;omega);refine⟨dH,aG,by rw[er];simpa using JG, ?_⟩;rw[aj,ak cZ.eq_1];simp at hw hn a2;simp[h3,k5,JY,bs,so,su,lr,ma,R9,a1,a2];rw[ae cZ.eq_1];simp[hw,hn]
theorem QB:∀(d:Nat)(v:bj),v.Wf->v.aR d=true->d<=5->∀S,∃r,J7 r v.bytes/\DF ax nk 112 [.agg v.ai] S=some (r,S):=by
 intro d;induction d with
 |zero=>intro v _ h;simp[bj.aR]at h
 |succ d ih=>
  intro v hv h hd S;have R:=bj.fa h;have hle:=bj.rR (d+1) v h;have h13:13^(d+1)<=13^5:=Xk (by decide) hd;have e13:13^5=371293:=by decide
  have lb:=v.lS;have kr:=R.kind;have VO:=Bm (k:=v.kind) (by omega) (by omega);have ho:=mU.new (UInt8.ofNat v.kind.toNat) [];have hlp:=ab4 v hv.one;have hF:∀x∈v.parts,∀S,∃r,J7 r x.bytes/\DF ax nk 112 [.agg x.ai] S=some (r,S):=fun x hx S=>ih x (hv.all x hx) (R.all x hx) (by omega) S;rw[E6,ak qp.eq_1];by_cases axg:v.kind=1\/v.kind=2\/v.kind=3
  ·obtain⟨hw0,hp0⟩:=R.k13 axg
   have eb:v.bytes=[UInt8.ofNat v.kind.toNat]:=by rw[lb,if_neg (by omega),if_neg (by omega),if_neg (by omega),hp0];simp[bj.eU]
   have n4:¬v.kind=4:=by omega
   have n5:¬v.kind=5:=by omega
   have n6:¬v.kind=6:=by omega
   have er:v.b_ 0=[]:=by unfold bj.b_;rw[hw0,if_neg (by omega)];rfl
   obtain⟨o3,t3,g1,g2⟩:=hlp (fun g=>by omega) S S.length hF v.ar.length 0 _ [] _ (by omega) ho (by rw[er];simp);rw[er,kH]at g1;obtain⟨r,t,f1,f2,f3,f4,f5⟩:=g1.fin;refine⟨r,by rw[eb];exact f5, ?_⟩;generalize UInt8.ofNat v.kind.toNat=u at*;simp at g2;simp[VO,n4,n5];rw[ae cZ.eq_1];simp[g2,n6,f1,f2,f3,f4]
  by_cases k6:v.kind=6
  ·obtain⟨hw0,hp1⟩:=R.k6 k6
   obtain⟨x,hx⟩:=Ht.1 hp1;have eb:v.bytes=[UInt8.ofNat v.kind.toNat]++x.bytes:=by rw[lb,if_neg (by omega),if_neg (by omega),if_neg (by omega),hx];simp[bj.eU]
   have er:v.b_ 0=[]:=by unfold bj.b_;rw[hw0,if_neg (by omega)];rfl
   rw[eb]at hle;simp at hle;obtain⟨o3,t3,g1,g2⟩:=hlp (fun g=>by omega) S S.length hF v.ar.length 0 _ [] _ (by omega) ho (by rw[er];simp);rw[er,kH]at g1;obtain⟨ry,ry1,ry2⟩:=hF x (by rw[hx];simp) (S++[.mem v.ai [] false]);obtain⟨o4,t4,o5,t5,b1,b2,b3⟩:=g1.call ry1 (by simp;omega) (S++[.mem v.ai [] false]);obtain⟨r,t,f1,f2,f3,f4,f5⟩:=b3.fin;have ix:=z_ v.parts .i64 0;rw[hx]at ix;refine⟨r,by rw[eb];exact f5, ?_⟩;have wk:IntKind.wrap .u8 6=(((UInt8.ofNat v.kind.toNat).toNat:Nat):Int):=by rw[<-VO,k6]
   generalize UInt8.ofNat v.kind.toNat=u at*;simp at g2 ix;simp[wk,k6];rw[ae cZ.eq_1];simp[g2,k6,hx,ix,ry2,b1,b2,f1,f2,f3,f4]
  have k45:v.kind=4\/v.kind=5:=by omega
  have hw8:v.ar.length<=8:=by
   rcases k45 with k|k;·exact(R.k4 k).2.1
   ·exact(R.k5 k).2.1
  obtain⟨w0,n0⟩:=aef (n:=v.ar.length) (by omega);have n6:¬v.kind=6:=by omega
  have er:v.b_ 0=if v.kind=4 then v.ar.flatMap aM else if v.kind=5 then bj.dt v.ar v.parts else bj.eU v.parts:=by
   unfold bj.b_;rcases k45 with k|k;·rw[if_neg (by omega),if_pos k];rfl
   ·rw[if_pos k,if_neg (by omega),if_pos k];rfl
  have eb:v.bytes=[UInt8.ofNat v.kind.toNat]++[UInt8.ofNat v.ar.length]++v.b_ 0:=by rw[lb,if_pos k45,er,n0];rfl
  rw[eb]at hle;simp at hle;obtain⟨o2,t2,a1,a2⟩:=ho.one (UInt8.ofNat v.ar.length) (by simp) (S++[.mem v.ai [] false]);obtain⟨o3,t3,g1,g2⟩:=hlp (fun g=>(R.k5 g).2.2) S S.length hF v.ar.length 0 _ _ _ (by omega) a2 (by simp;omega);obtain⟨r,t,f1,f2,f3,f4,f5⟩:=g1.fin;refine⟨r,by rw[eb];exact f5, ?_⟩;rcases k45 with k|k
  ·have wk:IntKind.wrap .u8 4=(((UInt8.ofNat v.kind.toNat).toNat:Nat):Int):=by rw[<-VO,k]
   generalize UInt8.ofNat v.kind.toNat=u at*;generalize UInt8.ofNat v.ar.length=w at*;simp at g2;simp[wk,w0,k,a1];rw[ae cZ.eq_1];simp[g2,k,f1,f2,f3,f4]
  ·have wk:IntKind.wrap .u8 5=(((UInt8.ofNat v.kind.toNat).toNat:Nat):Int):=by rw[<-VO,k]
   generalize UInt8.ofNat v.kind.toNat=u at*;generalize UInt8.ofNat v.ar.length=w at*;simp at g2;simp[wk,w0,k,a1];rw[ae cZ.eq_1];simp[g2,k,f1,f2,f3,f4]
theorem abF(o:ph)(ho:o.Wf)(hr:Oe o=true)(S:St):∃r,J7 r (wm o)/\DF ax nk 64 [.agg o.ai] S=some (r,S):=by
 have kr:=UN hr;have hle:=Y5 ho hr;have VO:=Bm (k:=o.kind) (by omega) (by omega);have pl:=UO ho.path (Dm hr);have b1:=eN (n:=o.id.toNat) (by have:=ho.id1;omega);have b2:=eN (n:=o.after.toNat) (by have:=ho.af1;omega);have ea:((o.id.toNat:Nat):Int)=o.id:=by have:=ho.id0;omega
 have eb:((o.after.toNat:Nat):Int)=o.after:=by have:=ho.af0;omega
 have hb:=mU.new (UInt8.ofNat o.kind.toNat) [];obtain⟨rp,rp1,rp2⟩:=ab3 o.path ho.path (Dm hr) (S++[.mem o.ai [] false]);obtain⟨o1,t1,o2,t2,a1,a2,a3⟩:=hb.call rp1 (by simp;omega) (S++[.mem o.ai [] false]);obtain⟨ri,ri1,ri2⟩:=vD o.id.toNat (by have:=ho.id1;omega) (S++[.mem o.ai [] false]);obtain⟨ra,ra1,R9⟩:=vD o.after.toNat (by have:=ho.af1;omega) (S++[.mem o.ai [] false]);rw[ea]at ri2;rw[eb]at R9;have hV:=u7 o.kind (S++[.mem o.ai [] false]);rw[ET,ak qc.eq_1];rcases kr with k|k|k|k
 ·have hvr:=JP hr (.inl k)
  have vl:=aX.kZ ho.value hvr;obtain⟨rv,rv1,rv2⟩:=qx 5 o.value ho.value hvr (by omega) (S++[.mem o.ai [] false]);obtain⟨o3,t3,o4,t4,c1,c2,c3⟩:=a3.call rv1 (by simp;omega) (S++[.mem o.ai [] false]);obtain⟨r,t,f1,f2,f3,f4,f5⟩:=c3.fin;have e:wm o=[UInt8.ofNat o.kind.toNat]++kB o.path++o.value.bytes:=by unfold wm;simp[k]
  refine⟨r,by rw[e];exact f5, ?_⟩;have wk:IntKind.wrap .u8 1=(((UInt8.ofNat o.kind.toNat).toNat:Nat):Int):=by rw[<-VO,k]
  rw[k]at hV;generalize UInt8.ofNat o.kind.toNat=u at*;simp at hV;simp[wk,k,rp2,a1,a2,hV,rv2,c1,c2,f1,f2,f3,f4]
 ·have hvr:=JP hr (.inr k)
  have vl:=aX.kZ ho.value hvr;obtain⟨o3,t3,o4,t4,c1,c2,c3⟩:=a3.call ri1 (by simp;omega) (S++[.mem o.ai [] false]);obtain⟨o5,t5,o6,t6,d1,d2,d3⟩:=c3.call ra1 (by simp;omega) (S++[.mem o.ai [] false]);obtain⟨rv,rv1,rv2⟩:=qx 5 o.value ho.value hvr (by omega) (S++[.mem o.ai [] false]);obtain⟨o7,t7,o8,t8,e1,e2,e3⟩:=d3.call rv1 (by simp;omega) (S++[.mem o.ai [] false]);obtain⟨r,t,f1,f2,f3,f4,f5⟩:=e3.fin;have e:wm o=[UInt8.ofNat o.kind.toNat]++kB o.path++bI o.id.toNat++bI o.after.toNat++o.value.bytes:=by unfold wm;simp[k]
  refine⟨r,by rw[e];exact f5, ?_⟩;have wk:IntKind.wrap .u8 2=(((UInt8.ofNat o.kind.toNat).toNat:Nat):Int):=by rw[<-VO,k]
  rw[k]at hV;generalize UInt8.ofNat o.kind.toNat=u at*;simp at hV;simp[wk,k,rp2,a1,a2,hV,ri2,c1,c2,R9,d1,d2,rv2,e1,e2,f1,f2,f3,f4]
 ·obtain⟨o3,t3,o4,t4,c1,c2,c3⟩:=a3.call ri1 (by simp;omega) (S++[.mem o.ai [] false])
  obtain⟨r,t,f1,f2,f3,f4,f5⟩:=c3.fin;have e:wm o=[UInt8.ofNat o.kind.toNat]++kB o.path++bI o.id.toNat:=by unfold wm;simp[k]
  refine⟨r,by rw[e];exact f5, ?_⟩;have wk:IntKind.wrap .u8 3=(((UInt8.ofNat o.kind.toNat).toNat:Nat):Int):=by rw[<-VO,k]
  rw[k]at hV;generalize UInt8.ofNat o.kind.toNat=u at*;simp at hV;simp[wk,k,rp2,a1,a2,hV,ri2,c1,c2,f1,f2,f3,f4]
 ·obtain⟨o3,t3,o4,t4,c1,c2,c3⟩:=a3.call ri1 (by simp;omega) (S++[.mem o.ai [] false])
  obtain⟨o5,t5,o6,t6,d1,d2,d3⟩:=c3.call ra1 (by simp;omega) (S++[.mem o.ai [] false]);obtain⟨r,t,f1,f2,f3,f4,f5⟩:=d3.fin;have e:wm o=[UInt8.ofNat o.kind.toNat]++kB o.path++bI o.id.toNat++bI o.after.toNat:=by unfold wm;simp[k]
  refine⟨r,by rw[e];exact f5, ?_⟩;have wk:IntKind.wrap .u8 4=(((UInt8.ofNat o.kind.toNat).toNat:Nat):Int):=by rw[<-VO,k]
  rw[k]at hV;generalize UInt8.ofNat o.kind.toNat=u at*;simp at hV;simp[wk,k,rp2,a1,a2,hV,ri2,c1,c2,R9,d1,d2,f1,f2,f3,f4]
end Go.Proofs.YtampclodiifalaaGreatDoor.am
