/- Parts. No condition. -/
import Derived.MapKept
import Derived.WideKeyRuns
import Derived.Tactics
import Derived.LoopN
import Derived.Test.YthiocmkadpdekaaGreatDoorSB
set_option linter.all false
namespace Go.Proofs.YthiocmkadpdekaaGreatDoor.am
open Go Go.RowKit
section
section
variable{P:Program}{base:Nat}{prot:Nat→Prop}{tips tips':List (Option Nat)}{S S':St}{w w':World}{mu:Nat→Option Nat}{hw hw':Nat→Nat}{ti ti':Id→TI}
theorem inv_still(I:Inv base prot tips S w mu hw ti){bx0:Box}{o:Obj}{r:AV}{v:Value}(hst:∀cs bt l,bx0≠.mem cs bt l)
 (hbx:∀mu' hw' lk',BoxR (w.alloc o) mu' hw' lk' bx0 w.heap.size) (hr:∀mu' lk',mu' S.length=some w.heap.size→RV (w.alloc o) mu' hw lk' r v) (hf:∀lv ti',Flag lv ti' r v):
 Step base prot tips S w mu hw ti tips (S++[bx0]) (w.alloc o) r v:=by
 have h0:hw w.heap.size=0:=I.iout _ (Nat.le_refl _)
 have hdom:∀j b,mu j=some b→j<S.length:=fun j b h=>(I.idom j b h).1
 have hmu:∀j,j<S.length→upd mu S.length (some w.heap.size) j=mu j:=fun j h=>upd_ne _ _ _ _ (by omega)
 have hlk:∀b,lkS S mu b→lkS (S++[bx0]) (upd mu S.length (some w.heap.size)) b:=by
  rintro b ⟨i,cs,bt,h1,h2⟩
  have hlt:=hdom i b h2
  exact⟨i,cs,bt,by rw[List.getElem?_append_left hlt];exact h1,by rw[hmu i hlt];exact h2⟩
 have e:Ext base prot S w mu hw (S++[bx0]) (w.alloc o) (upd mu S.length (some w.heap.size)) hw:=by
  refine⟨fun i b h=>by rw[hmu i (hdom i b h)];exact h,fun _=>Nat.le_refl _,hlk,fun b o' v _ h=>?_,fun b h=>⟨heap_alloc _ _ _ (I.iprot b h),rfl⟩,(Belo.refl _ _).alloc I.ibase _,by simp⟩
  rw[World.cell?_alloc_lt _ _ _ (World.block_lt_of_cell? w _ h)];exact h
 have hlive:∀id,(∀j,id≠.bx S.length j)→live tips (S++[bx0]) (upd mu S.length (some w.heap.size)) id=live tips S mu id:=
  fun id hid=>live_push _ _ _ hdom hid _ rfl
 have hlnew:∀j,live tips (S++[bx0]) (upd mu S.length (some w.heap.size)) (.bx S.length j)=none:=by
  intro j
  simp only[live,upd_same,List.getElem?_append_right (Nat.le_refl _),Nat.sub_self,List.getElem?_cons_zero]
  cases bx0 with
  |mem cs bt l=>exact absurd rfl (hst _ _ _)
  |_=>rfl
 have hlold:∀j,live tips S mu (.bx S.length j)=none:=by
  intro j
  simp only[live]
  cases hm:mu S.length with
  |none=>rfl
  |some b=>exact absurd (hdom _ _ hm) (by omega)
 have hall:∀id,live tips (S++[bx0]) (upd mu S.length (some w.heap.size)) id=live tips S mu id:=by
  intro id
  by_cases h:∃j,id=.bx S.length j
  ·obtain⟨j,rfl⟩:=h;rw[hlnew,hlold]
  ·exact hlive id (fun j hj=>h ⟨j,hj⟩)
 have hlv:live tips (S++[bx0]) (upd mu S.length (some w.heap.size))=live tips S mu:=funext hall
 refine⟨upd mu S.length (some w.heap.size),hw,ti,⟨fun i bx b h1 h2=>?_,fun i cells bt l b h1 h2 vs' el' h3=>?_,fun i j b h1 h2=>?_,fun i b h=>?_,fun b h=>?_,fun id L h=>?_,fun id id' L L' h h'=>?_,fun b h=>?_, ?_,e.glb I.iglb⟩,e, ?_, ?_, ?_, ?_⟩
 ·by_cases hi:i=S.length
  ·subst hi
   rw[upd_same]at h2
   obtain rfl:=Option.some.inj h2
   simp at h1;subst h1
   exact hbx _ _ _
  ·rw[upd_ne _ _ _ _ hi]at h2
   have hlt:=hdom i b h2
   rw[List.getElem?_append_left hlt]at h1
   exact(I.ibox i bx b h1 h2).ext e (heap_alloc _ _ _ (I.idom i b h2).2.2.1)
 ·by_cases hi:i=S.length
  ·subst hi
   rw[upd_same]at h2
   obtain rfl:=Option.some.inj h2
   simp at h1
   exact absurd h1 (hst _ _ _)
  ·rw[upd_ne _ _ _ _ hi]at h2
   have hlt:=hdom i b h2
   rw[List.getElem?_append_left hlt]at h1
   rw[hlv]
   exact I.iflag i cells bt l b h1 h2 vs' el' (by rw[←heap_alloc w o b (I.idom i b h2).2.2.1];exact h3)
 ·by_cases hi:i=S.length
  ·subst hi
   rw[upd_same]at h1
   obtain rfl:=Option.some.inj h1
   by_cases hj:j=S.length
   ·exact hj.symm
   ·rw[upd_ne _ _ _ _ hj]at h2
    have:=(I.idom j _ h2).2.2.1
    omega
  ·rw[upd_ne _ _ _ _ hi]at h1
   by_cases hj:j=S.length
   ·subst hj
    rw[upd_same]at h2
    obtain rfl:=Option.some.inj h2
    have:=(I.idom i _ h1).2.2.1
    omega
   ·rw[upd_ne _ _ _ _ hj]at h2
    exact I.iinj i j b h1 h2
 ·by_cases hi:i=S.length
  ·subst hi
   rw[upd_same]at h
   obtain rfl:=Option.some.inj h
   exact⟨by simp,I.ibase,by simp,h0,fun hp=>by have:=I.iprot _ hp;omega⟩
  ·rw[upd_ne _ _ _ _ hi]at h
   obtain⟨a,b',c,d,f⟩:=I.idom i b h
   exact⟨by simp;omega,b',by simp;omega,d,f⟩
 ·exact I.iout b (by have:w.heap.size+1≤b:=(by simpa using h);omega)
 ·rw[hlv]at h
  obtain⟨a,b,c⟩:=I.itip id L h
  refine⟨a.keep rfl (heap_alloc _ _ _ a.lt),b,fun i hi=>?_⟩
  by_cases hi':i=S.length
  ·subst hi'
   rw[upd_same]at hi
   have:=a.lt
   have:=Option.some.inj hi
   omega
  ·rw[upd_ne _ _ _ _ hi']at hi
   exact c i hi
 ·rw[hlv]at h h'
  exact I.itinj id id' L L' h h'
 ·have:=I.iprot b h;simp;omega
 ·have:=I.ibase;simp;omega
 ·rw[hlv];exact LvExt.refl _ _
 ·exact hr _ _ (upd_same _ _ _)
 ·exact hf _ _
 ·intro i hi hlt
  exact⟨List.getElem?_append_left hlt,by rw[hmu i hlt];exact hi⟩
theorem inv_turn(I:Inv base prot tips S w mu hw ti){i b:Nat}{b0 b1:Box}{w':World}(hst:∀cs bt l,b0≠.mem cs bt l)(hst1:∀cs bt l,b1≠.mem cs bt l)
 (hS:S[i]? =some b0) (hm:mu i=some b)
 (hb':Ext base prot S w mu hw (S.set i b1) w' mu hw→BoxR w' mu hw (lkS (S.set i b1) mu) b1 b) (hnc:∀vs el p,w.heap[b]?≠some (.cells vs el p)) (hsame:∀k,k≠b→w'.heap[k]? =w.heap[k]?) (hsz:w'.heap.size=w.heap.size)
 (hos:w'.os=w.os∧w'.tape=w.tape∧w'.output=w.output∧w.drawn≤w'.drawn):
 Inv base prot tips (S.set i b1) w' mu hw ti∧Ext base prot S w mu hw (S.set i b1) w' mu hw:=by
 obtain⟨di,dbase,dlt,dhw,dprot⟩:=I.idom i b hm
 have hget:∀k,k≠i→(S.set i b1)[k]? =S[k]? :=fun k hk=>List.getElem?_set_ne (by omega)
 have hgeti:(S.set i b1)[i]? =some b1:=by rw[List.getElem?_set_self di]
 have hlv:live tips (S.set i b1) mu=live tips S mu:=by
  funext id
  cases id with
  |fr n=>rfl
  |bx k j=>
   by_cases hk:k=i
   ·subst hk;simp only[live,hm,hS,hgeti]
    cases b0 with
    |mem cs bt l=>exact absurd rfl (hst _ _ _)
    |_=>cases b1 with
     |mem cs bt l=>exact absurd rfl (hst1 _ _ _)
     |_=>rfl
   ·simp only[live,hget k hk]
 have hlk:∀b',lkS S mu b'→b'≠b:=by
  rintro b' ⟨k,c,t,h1,h2⟩ rfl
  have:=I.iinj k i b' h2 hm
  subst this
  rw[hS]at h1
  exact hst _ _ _ (Option.some.inj h1)
 have e:Ext base prot S w mu hw (S.set i b1) w' mu hw:=by
  refine⟨fun _ _ h=>h,fun _=>Nat.le_refl _, ?_,fun b' o v hc h=>?_,fun b' h=>⟨hsame b' (fun e=>dprot (e▸h)),rfl⟩,⟨⟨hos.1,hos.2.1,hos.2.2.1,by omega,fun k hk=>hsame k (by omega)⟩,fun _=>hos.2.2.2⟩,by simp⟩
  ·rintro b' ⟨k,c,t,h1,h2⟩
   have hk:k≠i:=fun ek=>by subst ek;rw[hS]at h1;exact hst _ _ _ (Option.some.inj h1)
   exact⟨k,c,t,by rw[hget k hk];exact h1,h2⟩
  ·have hne:b'≠b:=by
    rcases hc with hc|hc
    ·intro eb;subst eb;omega
    ·exact hlk b' hc
   rw[cell_eq (hsame b' hne)];exact h
 have hne:∀k b',mu k=some b'→k≠i→b'≠b:=fun k b' h hk eb=>hk (I.iinj k i b' h (eb▸hm))
 refine⟨⟨fun k bx b' h1 h2=>?_,fun k cells bt0 l b' h1 h2 vs0 el0 h3 j x y hx hy=>?_,I.iinj,fun k b' h=>?_,fun b' h=>I.iout b' (by omega),fun id L h=>?_,by rw[hlv];exact I.itinj,fun b' h=>by have:=I.iprot b' h;omega,by have:=I.ibase;omega,e.glb I.iglb⟩,e⟩
 ·by_cases hk:k=i
  ·subst hk
   rw[hgeti]at h1
   obtain rfl:=Option.some.inj h1
   obtain rfl:b'=b:=by rw[hm]at h2;exact(Option.some.inj h2).symm
   exact hb' e
  ·rw[hget k hk]at h1
   exact(I.ibox k bx b' h1 h2).ext e (hsame b' (hne k b' h2 hk))
 ·by_cases hk:k=i
  ·subst hk
   rw[hgeti]at h1
   exact absurd (Option.some.inj h1) (hst1 _ _ _)
  ·rw[hget k hk]at h1
   obtain⟨a1,a2⟩:=I.iflag k cells bt0 l b' h1 h2 vs0 el0 (by rw[←hsame b' (hne k b' h2 hk)];exact h3) j x y hx hy
   rw[hlv];exact⟨a1,a2⟩
 ·obtain⟨a1,a2,a3,a4,a5⟩:=I.idom k b' h
  exact⟨by simpa using a1,a2,by omega,a4,a5⟩
 ·rw[hlv]at h
  obtain⟨a1,a2,a3⟩:=I.itip id L h
  refine⟨a1.keep rfl (hsame _ (fun eb=>a3 i (eb▸hm))),a2,a3⟩
theorem mkm_sound(I:Inv base prot tips S w mu hw ti):
 Step base prot tips S w mu hw ti tips (S++[.map []]) (w.alloc (.map #[] 0)) (.mref S.length) (.map (some w.heap.size)):=
 inv_still I (fun _ _ _ h=>by cases h) (fun _ _ _=>⟨#[],0,heap_alloc_new _ _,rfl,fun j k v m h=>by simp at h⟩) (fun _ _ h=>.mref _ _ h) fun _ _=>trivial
def toI:AV→Value
 |.int k n=>.int k n
 |_=>undef
theorem int_toI{k:IntKind}{a:AV}(h:isIntK k a=true):∃n,a=.int k n:=by
 cases a<;>simp[isIntK]at h
 subst h
 exact⟨_,rfl⟩
theorem rl_ints{lk:Nat→Prop}{k:IntKind}{cs:List AV}{vs:Array Value}(h:RL w mu hw lk cs vs)(hi:∀x∈cs,isIntK k x=true):vs.toList=cs.map toI:=by
 apply List.ext_getElem?
 intro j
 rw[List.getElem?_map,Array.getElem?_toList]
 cases hc:cs[j]? with
 |none=>
  have:cs.length≤j:=by rcases Nat.lt_or_ge j cs.length with h1|h1;· simp[h1]at hc
                       ·exact h1
  have h1:=h.1
  rw[Array.getElem?_eq_none (by omega)];rfl
 |some a=>
  obtain⟨y,y1,y2,y3⟩:=h.2 j a hc
  obtain⟨n,rfl⟩:=int_toI (hi a (List.mem_of_getElem? hc))
  cases y3
  rw[y2];rfl
theorem keqL_eq{k:IntKind}:∀{a b:List AV},(∀x∈a,isIntK k x=true)→(∀x∈b,isIntK k x=true)→keqL a b=true→a=b
 |[],[],_,_,_=>rfl
 |[],b::s,_,hb,h=>by simp[keqL]at h
 |a::r,[],ha,_,h=>by cases a<;>simp[keqL]at h
 |a::r,b::s,ha,hb,h=>by
  obtain⟨m,rfl⟩:=int_toI (ha a (by simp))
  obtain⟨n,rfl⟩:=int_toI (hb b (by simp))
  simp only[keqL,Bool.and_eq_true,beq_iff_eq]at h
  rw[h.1,keqL_eq (fun x hx=>ha x (by simp[hx])) (fun x hx=>hb x (by simp[hx])) h.2]
theorem eqK_ints{k:IntKind}:∀{ks:List Kd}{a b:List AV},allI ks=true→a.length=ks.length→b.length=ks.length→(∀x∈a,isIntK k x=true)→(∀x∈b,isIntK k x=true)→eqK ks a b=some (keqL a b)
 |[],[],[],_,_,_,_,_=>rfl
 |[],a::r,_,_,h,_,_,_=>by simp at h
 |[],_,b::s,_,_,h,_,_=>by simp at h
 |q::ks,[],_,_,h,_,_,_=>by simp at h
 |q::ks,_,[],_,_,h,_,_=>by simp at h
 |q::ks,a::r,b::s,hq,h1,h2,ha,hb=>by
  obtain⟨m,rfl⟩:=int_toI (ha a (by simp))
  obtain⟨n,rfl⟩:=int_toI (hb b (by simp))
  cases q<;>simp[allI]at hq
  simp only[eqK,if_true,keqL]
  rw[eqK_ints hq (by simpa using h1) (by simpa using h2) (fun x hx=>ha x (by simp[hx])) (fun x hx=>hb x (by simp[hx]))]
  rfl
theorem sameBits_ints{k:IntKind}(n:Nat):∀{l:List AV},(∀x∈l,isIntK k x=true)→((l.map toI).zip (l.map toI)).all (fun(x,y)=>Instr.sameBits n x y)=true
 |[],_=>rfl
 |a::r,h=>by
  obtain⟨m,rfl⟩:=int_toI (h a (by simp))
  have:=sameBits_ints n (l:=r) (fun x hx=>h x (by simp[hx]))
  simp only[List.map_cons,List.zip_cons_cons,List.all_cons,toI,this,Bool.and_true]
  cases n<;>simp[Instr.sameBits]
def MR(w:World)(mu:Nat→Option Nat)(hw:Nat→Nat)(lk:Nat→Prop)(es:List (AV × AV))(ms:List MapEntry):Prop:=
 ms.length=es.length∧∀(j:Nat)(k v:AV)(m:MapEntry),es[j]? =some (k,v)→ms[j]? =some m→RV w mu hw lk k m.key∧nfa v=true∧RV w mu hw lk v m.val
theorem MR.tail{lk:Nat→Prop}{e:AV × AV}{m:MapEntry}{es:List (AV × AV)}{ms:List MapEntry}(h:MR w mu hw lk (e::es) (m::ms)):MR w mu hw lk es ms:=
 ⟨by have:=h.1;simpa using this,fun j k v m' h1 h2=>h.2 (j+1) k v m' (by simpa using h1) (by simpa using h2)⟩
def Found(kk:KK)(x:AV)(es:List (AV × AV))(ms:List MapEntry)(i:Nat):Option (Nat × AV)→Option (Nat × Value)→Prop
 |none,r=>r=none
 |some (j,v),r=>∃e m,i≤j∧es[j -i]? =some e∧e.2=v∧ms[j -i]? =some m∧keyIn kk e.1=true∧keq x e.1=true∧r=some (j,m.val)
theorem Found.cons{kk:KK}{x:AV}{es:List (AV × AV)}{ms:List MapEntry}{i:Nat}{e:AV × AV}{m:MapEntry}{r:Option (Nat × AV)}{q:Option (Nat × Value)}(h:Found kk x es ms (i+1) r q):Found kk x (e::es) (m::ms) i r q:=by
 cases r with
 |none=>exact h
 |some p=>
  obtain⟨j,v⟩:=p
  obtain⟨e',m',h1,h2,h3,h4,h5⟩:=h
  refine⟨e',m',by omega, ?_,h3, ?_,h5⟩
  ·rw[show j -i=(j -(i+1))+1 by omega,List.getElem?_cons_succ];exact h2
  ·rw[show j -i=(j -(i+1))+1 by omega,List.getElem?_cons_succ];exact h4
theorem findNow_sound{lk:Nat→Prop}{kk:KK}{d:TypeDesc}{x:AV}{vx:Value}(H:∀(e:AV)(v:Value),RV w mu hw lk e v→keyIn kk e=true→Instr.sameNow d vx v=some (keq x e)):
 ∀{es:List (AV × AV)}{ms:List MapEntry}(i:Nat){r:Option (Nat × AV)},MR w mu hw lk es ms→findE kk x es i=some r→∃q,Instr.findNow d vx ms i=some q∧Found kk x es ms i r q
 |[],ms,i,r,h,hf=>by
  obtain rfl:ms=[]:=List.eq_nil_of_length_eq_zero (by have:=h.1;simpa using this)
  simp[findE]at hf
  subst hf
  exact⟨none,rfl,rfl⟩
 |e::es,[],i,r,h,hf=>by have:=h.1;simp at this
 |e::es,m::ms,i,r,h,hf=>by
  unfold findE at hf
  split at hf
  case isFalse=>cases hf
  rename_i hin
  obtain⟨h1,_,h3⟩:=h.2 0 e.1 e.2 m rfl rfl
  have:=H _ _ h1 hin
  unfold Instr.findNow
  rw[this]
  split at hf
  ·rename_i hq
   simp at hf
   subst hf
   rw[hq]
   exact⟨_,rfl,e,m,Nat.le_refl _,by simp,rfl,by simp,hin,hq,rfl⟩
  ·rename_i hq
   have hq':keq x e.1=false:=by simpa using hq
   rw[hq']
   obtain⟨q,q1,q2⟩:=findNow_sound H (i+1) h.tail hf
   exact⟨q,q1,q2.cons⟩
theorem findAsk_sound{lk:Nat→Prop}{kk:KK}{t:TypeId}{x:AV}{vx:Value}(H:∀(e:AV)(v:Value),RV w mu hw lk e v→keyIn kk e=true→(Op.equal t vx v).run P w=.ok (keq x e) w):
 ∀{es:List (AV × AV)}{ms:List MapEntry}(i:Nat){r:Option (Nat × AV)},MR w mu hw lk es ms→findE kk x es i=some r→∃q,(Instr.findAsking t vx ms i).run P w=.ok q w∧Found kk x es ms i r q
 |[],ms,i,r,h,hf=>by
  obtain rfl:ms=[]:=List.eq_nil_of_length_eq_zero (by have:=h.1;simpa using this)
  simp[findE]at hf
  subst hf
  exact⟨none,by simp[Instr.findAsking],rfl⟩
 |e::es,[],i,r,h,hf=>by have:=h.1;simp at this
 |e::es,m::ms,i,r,h,hf=>by
  unfold findE at hf
  split at hf
  case isFalse=>cases hf
  rename_i hin
  obtain⟨h1,_,h3⟩:=h.2 0 e.1 e.2 m rfl rfl
  have:=H _ _ h1 hin
  unfold Instr.findAsking
  rw[Sem.run_bind,this,Result.andThen_ok]
  split at hf
  ·rename_i hq
   simp at hf
   subst hf
   rw[hq]
   exact⟨_,by simp,e,m,Nat.le_refl _,by simp,rfl,by simp,hin,hq,rfl⟩
  ·rename_i hq
   have hq':keq x e.1=false:=by simpa using hq
   rw[hq']
   obtain⟨q,q1,q2⟩:=findAsk_sound H (i+1) h.tail hf
   exact⟨q,by simpa using q1,q2.cons⟩
theorem rv_arr{lk:Nat→Prop}{n:Nat}{k:IntKind}{x:AV}{v:Value}(h:RV w mu hw lk x v)(hk:keyIn (.a n k) x=true):∃cs vs,x=.agg cs∧v=.agg vs∧cs.length=n∧(∀y∈cs,isIntK k y=true)∧RL w mu hw lk cs vs∧vs.toList=cs.map toI:=by
 cases x<;>simp[keyIn]at hk
 rename_i cs
 obtain⟨vs,rfl,hr⟩:=h.rl
 have:=rl_ints hr hk.2
 exact⟨cs,vs,rfl,rfl,hk.1,hk.2,hr,this⟩
theorem checkKey_sound{lk:Nat→Prop}{t:TypeId}{kk:KK}{x:AV}{v:Value}(ht:kkOf P t=some kk)(h:RV w mu hw lk x v)(hk:keyIn kk x=true)(em:Bool):(Instr.checkKey em 10000 t v).run P w=.ok () w:=by
 unfold kkOf at ht
 split at ht
 ·rename_i q hu
  simp at ht;subst ht
  obtain⟨n,rfl⟩:=int_toI (show isIntK q x=true from hk)
  cases h
  exact MapKept.run_checkKey (d:=.int q) (k:=.int q n) hu rfl em 9999
 ·rename_i hu
  simp at ht;subst ht
  cases x<;>simp[keyIn]at hk
  cases h with
  |str s=>exact MapKept.run_checkKey (d:=.string) (k:=.string s) hu trivial em 9999
 ·rename_i n e hu
  split at ht
  case h_2=>cases ht
  rename_i q ks hue hsz _
  split at ht
  case isFalse=>cases ht
  simp at ht;subst ht
  obtain⟨cs,vs,rfl,rfl,hn,hall,hr,_⟩:=rv_arr h hk
  rw[show(10000:Nat)=9999+1 from rfl,Instr.checkKey]
  simp only[Sem.run_bind,und_of hu,Result.andThen_ok]
  simp only[Std.Legacy.Range.forIn_eq_forIn_range',Std.Legacy.Range.size,Nat.sub_zero,Nat.add_one_sub_one,Nat.div_one]
  have hle:∀j∈List.range' 0 n,j<n:=fun j hj=>by simp[List.mem_range']at hj;omega
  generalize List.range' 0 n=is at hle
  induction is with
  |nil=>simp
  |cons j is ih=>
   have hj:j<n:=hle j (by simp)
   have hjc:cs[j]? =some cs[j]:=by simp[hn,hj]
   obtain⟨y,y1,y2,y3⟩:=hr.2 j cs[j] hjc
   obtain⟨m,hm⟩:=int_toI (hall cs[j] (by simp))
   rw[hm]at y3
   cases y3
   have hlt:j<vs.size:=(Array.getElem?_eq_some_iff.1 y2).1
   have hagg:aggT P e=false:=by simp[aggT,hue]
   have p1:(Go.part e vs j).run P w=.ok (.int q m) w:=by
    rw[run_part_asV (n:=1) hsz (.inr rfl) (by omega)]
    have:vs[j]=.int q m:=by simpa[hlt]using y2
    simp[asV,hagg,this]
    have e2:(vs.extract j (j+1))[0]? =some vs[j]:=by rw[Array.getElem?_extract];simp[hlt];omega
    simp[e2,this,Array.getD_eq_getD_getElem?]
   have p2:=MapKept.run_checkKey (P:=P) (w:=w) (d:=.int q) (k:=.int q m) hue rfl em 9998
   simp only[List.forIn_cons,Sem.run_bind,sizeOf_of hsz,Result.andThen_ok,Nat.mul_one,p1,p2,Sem.run_pure]
   exact ih fun y hy=>hle y (by simp[hy])
 ·cases ht
theorem stays_sound{lk:Nat→Prop}{kk:KK}{x y:AV}{v u:Value}(h:RV w mu hw lk x v)(hk:keyIn kk x=true)(h':RV w mu hw lk y u)(hk':keyIn kk y=true)(e:keq x y=true):(Instr.keyThatStays u v).run P w=.ok v w:=by
 have:Instr.sameBits 10000 u v=true:=by
  cases kk with
  |i q=>
   obtain⟨m,rfl⟩:=int_toI (show isIntK q x=true from hk)
   obtain⟨n,rfl⟩:=int_toI (show isIntK q y=true from hk')
   cases h;cases h'
   simp[keq]at e
   subst e
   simp[Instr.sameBits]
  |s=>
   cases x<;>simp[keyIn]at hk
   cases y<;>simp[keyIn]at hk'
   cases h with
   |str s=>cases h' with
    |str s'=>
     simp[keq]at e
     have:s=s':=by cases s;cases s';simp at e;simp[e]
     subst this
     simp only[Instr.sameBits]
     exact(MapKept.bytes_beq _ _).2 rfl
  |a n q=>
   obtain⟨cs,vs,rfl,rfl,_,h3,_,h4⟩:=rv_arr h hk
   obtain⟨cs',vs',rfl,rfl,_,h3',_,h4'⟩:=rv_arr h' hk'
   obtain rfl:=keqL_eq h3 h3' e
   have hv:vs'=vs:=by apply Array.toList_inj.1;rw[h4,h4']
   subst hv
   simp only[Instr.sameBits,beq_self_eq_true,Bool.true_and,h4]
   exact sameBits_ints 9999 h3
 simp[Instr.keyThatStays,this]
theorem findKey_sound{lk:Nat→Prop}{t:TypeId}{kk:KK}{x:AV}{vx:Value}{es:List (AV × AV)}{ms:List MapEntry}{r:Option (Nat × AV)}(ht:kkOf P t=some kk)(h:RV w mu hw lk x vx)(hk:keyIn kk x=true)(hm:MR w mu hw lk es ms)(hf:findE kk x es 0=some r):
 ∃q,(Instr.findKey t vx ms).run P w=.ok q w∧Found kk x es ms 0 r q:=by
 unfold kkOf at ht
 split at ht
 ·rename_i q hu
  simp at ht;subst ht
  obtain⟨n,rfl⟩:=int_toI (show isIntK q x=true from hk)
  cases h
  obtain⟨a,a1,a2⟩:=findNow_sound (d:=.int q) (vx:=.int q n) (fun e v he hi=>by
   obtain⟨m,rfl⟩:=int_toI (show isIntK q e=true from hi)
   cases he
   simp[Instr.sameNow,keq]) 0 hm hf
  exact⟨a,MapKept.run_findKey hu a1,a2⟩
 ·rename_i hu
  simp at ht;subst ht
  cases x<;>simp[keyIn]at hk
  cases h with
  |str s=>
   obtain⟨a,a1,a2⟩:=findNow_sound (d:=.string) (vx:=.string s) (fun e v he hi=>by
    cases e<;>simp[keyIn]at hi
    cases he with
    |str s'=>
     simp only[Instr.sameNow,keq,Option.some.injEq]
     cases hb:(s==s')with
     |true=>rw[(MapKept.bytes_beq _ _).1 hb];simp
     |false=>
      have:s≠s':=fun h=>by rw[(MapKept.bytes_beq _ _).2 h]at hb;cases hb
      symm
      rw[beq_eq_false_iff_ne]
      intro h'
      apply this
      cases s;cases s';simp at h';simp[h']) 0 hm hf
   exact⟨a,MapKept.run_findKey hu a1,a2⟩
 ·rename_i n e hu
  split at ht
  case h_2=>cases ht
  rename_i q ks hue hsz hks
  split at ht
  case isFalse=>cases ht
  rename_i hc
  simp at ht;subst ht
  have hx:=h
  obtain⟨cs,vs,rfl,rfl,hn,hall,hr,_⟩:=rv_arr h hk
  obtain⟨a,a1,a2⟩:=findAsk_sound (P:=P) (t:=t) (vx:=.agg vs) (fun y v hy hi=>by
   have hy':=hy
   obtain⟨cs',vs',rfl,rfl,hn',hall',hr',_⟩:=rv_arr hy hi
   refine evEq_sound hx hy' ?_
   simp only[evEq,hu,hc.2.2,hks,Bool.false_eq_true,if_false]
   exact eqK_ints hc.2.1 (by rw[hn,hc.1]) (by rw[hn',hc.1]) hall hall') 0 hm hf
  exact⟨a,by rw[run_findKey_eq w (by simp[hu])];exact a1,a2⟩
 ·cases ht
theorem mup_sound(I:Inv base prot tips S w mu hw ti){t:TypeId}{m k x:AV}{vm vk vx:Value}(hm:RV w mu hw (lkS S mu) m vm)(hk:RV w mu hw (lkS S mu) k vk)(hx:RV w mu hw (lkS S mu) x vx){nb:Nat}(h:evMup P nb S t m k x=some S'):
 ∃w',(Instr.mapUpdate t vm vk vx).run P w=.ok () w'∧Step base prot tips S w mu hw ti tips S' w' .undef undef:=by
 unfold evMup at h
 split at h
 case h_2=>cases h
 rename_i kt et hu
 split at h
 case h_2=>cases h
 rename_i kk hkk
 unfold mupK at h
 split at h
 case h_2=>cases h
 rename_i i
 split at h
 case h_2=>cases h
 rename_i es hS
 split at h
 case isFalse=>cases h
 rename_i hc
 cases hm with
 |mref _ b hb=>
  obtain⟨ms,clock,hB,hsz,hrel⟩:=I.ibox i _ b hS hb
  have hMR:MR w mu hw (lkS S mu) es ms.toList:=⟨by simpa using hsz,fun j k v m h1 h2=>hrel j k v m h1 (by simpa using h2)⟩
  have hblt:b<w.heap.size:=(I.idom i b hb).2.2.1
  have fin:∀(es':List (AV × AV))(ms':Array MapEntry)(clock':Nat),ms'.size=es'.length→
   (∀(j:Nat)(k' v':AV)(m':MapEntry),es'[j]? =some (k',v')→ms'[j]? =some m'→RV w mu hw (lkS S mu) k' m'.key∧nfa v'=true∧RV w mu hw (lkS S mu) v' m'.val)→
   Step base prot tips S w mu hw ti tips (S.set i (.map es')) {w with heap:=w.heap.setIfInBounds b (.map ms' clock')} .undef undef:=by
   intro es' ms' clock' hs hr
   obtain⟨I',e⟩:=inv_turn (b1:=.map es') (w':={w with heap:=w.heap.setIfInBounds b (.map ms' clock')}) I (fun _ _ _ h=>by cases h) (fun _ _ _ h=>by cases h) hS hb
    (fun e=>⟨ms',clock',by simp[hblt],hs,fun j k' v' m' h1 h2=>by
     obtain⟨a1,a2,a3⟩:=hr j k' v' m' h1 h2
     exact⟨e.rv a1,a2,e.rv a3⟩⟩)
    (fun _ _ _ h=>by rw[hB]at h;cases h) (fun k hk=>by simp[Array.getElem?_setIfInBounds,Ne.symm hk]) (by simp) ⟨rfl,rfl,rfl,Nat.le_refl _⟩
   have hlv:live tips (S.set i (.map es')) mu=live tips S mu:=by
    funext id
    cases id with
    |fr n=>rfl
    |bx k j=>
     by_cases hk:k=i
     ·subst hk;simp only[live,hb,hS,List.getElem?_set_self (lt_of_get hS)]
     ·simp only[live,List.getElem?_set_ne (fun e=>hk e.symm)]
   refine⟨mu,hw,ti,I',e,by rw[hlv];exact LvExt.refl _ _,.undef _,trivial,fun k hk hlt=>⟨?_,hk⟩⟩
   refine List.getElem?_set_ne fun e=>?_
   subst e
   rw[hk]at hb;cases hb
  have hstrip:=hx.strip
  have hnfa:=nf_strip hc.2.1
  have fk:∀r,findE kk k es 0=some r→∃q,(Instr.findKey kt vk ms.toList).run P w=.ok q w∧Found kk k es ms.toList 0 r q:=fun r hr=>findKey_sound hkk hk hc.1 hMR hr
  have ck:=checkKey_sound (em:=false) hkk hk hc.1
  split at h
  ·rename_i j v0 hf
   simp only[Option.some.injEq]at h
   subst h
   obtain⟨q,q1,e,m0,_,h2,_,h4,h5,h6,rfl⟩:=fk _ hf
   simp only[Nat.sub_zero]at h2 h4
   have h4':ms[j]? =some m0:=by simpa using h4
   obtain⟨r1,_,_⟩:=hrel j e.1 e.2 m0 h2 h4'
   have st:=stays_sound (P:=P) hk hc.1 r1 h5 h6
   refine⟨{w with heap:=w.heap.setIfInBounds b (.map (ms.modify j fun e=>{e with key:=vk,val:=vx}) clock)}, ?_,fin _ _ _ (by simp[hsz]) fun j' k' v' m' h1 h2'=>?_⟩
   ·simp[Instr.mapUpdate,und_of hu,MapKept.run_getObj_map hB,ck,q1,h4',st,MapKept.run_setObj_map _ hB]
   ·rw[Array.getElem?_modify]at h2'
    by_cases hj:j=j'
    ·subst hj
     rw[List.getElem?_set_self (lt_of_get h2)]at h1
     cases h1
     rw[if_pos rfl,h4']at h2'
     simp at h2'
     subst h2'
     exact⟨hk,hnfa,hstrip⟩
    ·rw[List.getElem?_set_ne hj]at h1
     rw[if_neg hj]at h2'
     exact hrel j' k' v' m' h1 h2'
  ·rename_i hf
   simp only[Option.some.injEq]at h
   subst h
   obtain⟨q,q1,rfl⟩:=fk _ hf
   refine⟨{w with heap:=w.heap.setIfInBounds b (.map (ms.push {key:=vk,val:=vx,born:=clock}) (clock+1))}, ?_,fin _ _ _ (by simp[hsz]) fun j' k' v' m' h1 h2'=>?_⟩
   ·simp[Instr.mapUpdate,und_of hu,MapKept.run_getObj_map hB,ck,q1,MapKept.run_setObj_map _ hB]
   ·rw[Array.getElem?_push]at h2'
    split at h2'
    ·rename_i hj
     simp at h2'
     subst h2'
     rw[hj,hsz,List.getElem?_append_right (Nat.le_refl _)]at h1
     simp at h1
     obtain⟨rfl,rfl⟩:=h1
     exact⟨hk,hnfa,hstrip⟩
    ·have hlt:j'<es.length:=by rw[←hsz];exact(Array.getElem?_eq_some_iff.1 h2').1
     rw[List.getElem?_append_left hlt]at h1
     exact hrel j' k' v' m' h1 h2'
  ·cases h
theorem lkp_sound{lv:Live}(ib:∀i bx b,S[i]? =some bx→mu i=some b→BoxR w mu hw (lkS S mu) bx b){t:TypeId}{m k r:AV}{vm vk:Value}(hm:RV w mu hw (lkS S mu) m vm)(hk:RV w mu hw (lkS S mu) k vk){ok:Bool}(h:evLkp P S t m k ok=some r):
 ∃y,(Instr.lookup t vm vk ok).run P w=.ok y w∧RV w mu hw (lkS S mu) r y∧Flag lv ti r y:=by
 unfold evLkp at h
 split at h
 case h_2=>cases h
 rename_i kt et hu
 split at h
 case h_2=>cases h
 rename_i kk z hkk hz
 unfold lkpK at h
 split at h
 case isFalse=>cases h
 rename_i hc
 have fin:∀(es:List (AV × AV))(ms:Array MapEntry),MR w mu hw (lkS S mu) es ms.toList→
  (match findE kk k es 0 with
   |some (some (_,v))=>some (if ok=true then .tup [v,.bool true]else v)
   |some none=>some (if ok=true then .tup [z,.bool false]else z)
   |none=>none)=some r→
  ∃(q:Option (Nat × Value))(y:Value × Bool),(Instr.findKey kt vk ms.toList).run P w=.ok q w∧(match q with|some (_,v)=>(pure (v,true):Sem (Value × Bool))|none=>do pure (←zeroValue et,false)).run P w=.ok y w∧RV w mu hw (lkS S mu) r (if ok then .tuple #[y.1,.bool y.2]else y.1)∧Flag lv ti r (if ok then .tuple #[y.1,.bool y.2]else y.1):=by
  intro es ms hMR hr
  have two:∀(a:AV)(v:Value)(bb:Bool),nfa a=true→RV w mu hw (lkS S mu) a v→(if ok=true then AV.tup [a,.bool bb]else a)=r→RV w mu hw (lkS S mu) r (if ok then .tuple #[v,.bool bb]else v)∧Flag lv ti r (if ok then .tuple #[v,.bool bb]else v):=by
   intro a v bb hn ha hr
   subst hr
   cases ok with
   |false=>exact⟨ha,Flag.of_nfa hn⟩
   |true=>
    simp only[if_true]
    refine⟨?_, ?_⟩
    ·have:=RV.tup (w:=w) (mu:=mu) (hw:=hw) (lk:=lkS S mu) [a,.bool bb] (fun j=>if j=0 then v else .bool bb) (by
      intro j x hj
      rcases j with _|_|j
      ·simp at hj;subst hj;exact ha
      ·simp at hj;subst hj;exact .bool _
      ·simp at hj)
     simpa[List.range,List.range.loop]using this
    ·intro arr e j x y hx hy
     simp at e
     subst e
     rcases j with _|_|j
     ·simp at hx hy;subst hx;subst hy
      have:=Flag.of_nfa (lv:=lv) (ti:=ti) (v:=v) hn
      cases a with
      |sl r sz es=>exact this
      |tup _=>simp[nfa,nf]at hn
      |aggx _=>simp[nfa,nf]at hn
      |_=>trivial
     ·simp at hx hy;subst hx;trivial
     ·simp at hx
  split at hr
  ·rename_i j v hf
   obtain⟨q,q1,e,m0,_,h2,h3,h4,_,_,rfl⟩:=findKey_sound hkk hk hc hMR hf
   simp only[Nat.sub_zero]at h2 h4
   obtain⟨_,n1,n2⟩:=hMR.2 j e.1 e.2 m0 h2 h4
   rw[h3]at n1 n2
   simp only[Option.some.injEq]at hr
   obtain⟨a1,a2⟩:=two v m0.val true n1 n2 hr
   exact⟨_,(m0.val,true),q1,by simp,a1,a2⟩
  ·rename_i hf
   obtain⟨q,q1,rfl⟩:=findKey_sound hkk hk hc hMR hf
   obtain⟨vz,z1,z2,z3⟩:=zeroVal_sound (P:=P) (w:=w) (mu:=mu) (hw:=hw) (lk:=lkS S mu) hz
   simp only[Option.some.injEq]at hr
   obtain⟨a1,a2⟩:=two z vz false z3 z2 hr
   exact⟨_,(vz,false),q1,by simp[z1],a1,a2⟩
  ·cases hr
 have ck:=fun em=>checkKey_sound (em:=em) hkk hk hc
 cases m with
 |nilm=>
  cases hm
  obtain⟨q,y,q1,y1,y2,y3⟩:=fin [] #[] ⟨rfl,fun j k v m h=>by simp at h⟩ h
  refine⟨_, ?_,y2,y3⟩
  simp only[Instr.lookup,Sem.run_bind,und_of hu,Result.andThen_ok,Sem.run_pure,ck,q1]
  clear fin
  cases q with
  |none=>
   cases hzv:(zeroValue et).run P w<;>simp[hzv,Result.andThen]at y1⊢
   obtain⟨rfl,rfl⟩:=y1
   simp
  |some p=>
   simp at y1
   subst y1
   simp
 |mref i=>
  cases hm with
  |mref _ b hb=>
   simp only at h
   cases hS:S[i]? with
   |none=>simp[hS]at h
   |some bx=>cases bx with
    |map es=>
     simp only[hS]at h
     obtain⟨ms,clock,hB,hsz,hrel⟩:=ib i _ b hS hb
     obtain⟨q,y,q1,y1,y2,y3⟩:=fin es ms ⟨by simpa using hsz,fun j k v m h1 h2=>hrel j k v m h1 (by simpa using h2)⟩ h
     refine⟨_, ?_,y2,y3⟩
     simp only[Instr.lookup,Sem.run_bind,und_of hu,Result.andThen_ok,Sem.run_pure,MapKept.run_getObj_map hB,ck,q1]
     clear fin
     cases q with
     |none=>
      cases hzv:(zeroValue et).run P w<;>simp[hzv,Result.andThen]at y1⊢
      obtain⟨rfl,rfl⟩:=y1
      simp
     |some p=>
      simp at y1
      subst y1
      simp
    |_=>simp[hS]at h
 |_=>simp at h
end
end
section
section
variable{P:Program}{base:Nat}{prot:Nat→Prop}{tips tips':List (Option Nat)}{S S':St}{w w':World}{mu:Nat→Option Nat}{hw hw':Nat→Nat}{ti ti':Id→TI}
theorem new_sound(I:Inv base prot tips S w mu hw ti){o:Oper}{r:AV}(ρ:Operand→AV)(ev:Operand→Value)(hρ:∀x,RV w mu hw (lkS S mu) (ρ x) (ev x))(h:evNew P ρ o.op=some r):
 ∃v w',(execOp ev o).run P w=.ok (.value v) w'∧Step base prot tips S w mu hw ti tips S w' r v:=by
 have wrap:∀{s:Sem Value}{v:Value}{w':World},s.run P w=.ok v w'→(do pure (.value (←s)):Sem Next).run P w=.ok (.value v) w':=by
  intro s v w' hs;simp[hs]
 obtain⟨dst,op,type,pos,after,guard⟩:=o
 simp only at h
 unfold evNew at h
 split at h
 ·obtain⟨y,w',h1,h2⟩:=buildSlice_sound I ρ ev hρ h
  exact⟨y,w',wrap h1,h2⟩
 ·obtain⟨y,w',h1,h2⟩:=bytes_sound I (hρ _) h
  exact⟨y,w',wrap h1,h2⟩
 ·simp at h
theorem boxV_sound(I:Inv base prot tips S w mu hw ti){n:Nat}{x r:AV}{v:Value}{t:TypeId}(hx:RV w mu hw (lkS S mu) x v)(hf:Flag (live tips S mu) ti x v)(h:boxV n tips S x=some (r,tips',S')):
 Step base prot tips S w mu hw ti tips' S' (w.alloc (.cells v.cells t)) r (.pointer (some ⟨w.heap.size,0,none⟩)):=by
 unfold boxV at h
 split at h
 ·rename_i cs
  split at h
  case isFalse=>cases h
  rename_i hc
  simp only[Option.some.injEq,Prod.mk.injEq]at h
  obtain⟨rfl,rfl,rfl⟩:=h
  cases hx with
  |aggx _ f h2=>
   have hn:∀(j:Nat)(a:AV),cs[j]? =some a→nf (strip a)=true:=fun j a hj=>List.all_eq_true.1 hc.2 a (List.mem_of_getElem? hj)
   have get:∀(j:Nat)(a:AV),cs[j]? =some a→((List.range cs.length).map f).toArray[j]? =some (f j):=fun j a hj=>by
    have:j<cs.length:=lt_of_get hj
    simp[this]
   obtain⟨mu1,hw1,ti1,I1,e1,l1,r1,_,o1⟩:=inv_box (el:=t) I (z:=cs.map strip) (vs:=((List.range cs.length).map f).toArray) ⟨by simp,fun j x hj=>by
    simp only[List.getElem?_map,Option.map_eq_some_iff]at hj
    obtain⟨a,ha,rfl⟩:=hj
    exact⟨hn j a ha,f j,get j a ha,(h2 j a ha).strip⟩⟩
   cases r1 with
   |ptr _ _ b hb=>
    obtain⟨mu2,hw2,ti2,I2,e2,l2,o2⟩:=regCells_sound (ys:=((List.range cs.length).map f).toArray) (el:=t) cs 0 tips _ mu1 hw1 ti1 I1 hb (heap_alloc_new _ _) ⟨cs.map strip,[],by simp,by simp⟩
     (fun j a hj=>⟨hn j a hj,f j,by rw[Nat.zero_add];exact get j a hj,e1.rv (h2 j a hj),(hf _ rfl j a _ hj (get j a hj)).mono l1⟩)
    refine⟨mu2,hw2,ti2,I2,e1.trans e2,l1.trans l2,.ptr _ _ _ (e2.emu _ _ hb),by simp[Flag,Flag1],fun j h hj=>?_⟩
    obtain⟨p1,p2⟩:=o1 j h hj
    obtain⟨q1,q2⟩:=o2 j p2 (by simp;omega)
    exact⟨q2.trans p1,q1⟩
 ·split at h
  case isFalse=>cases h
  rename_i hc
  simp only[Option.some.injEq,Prod.mk.injEq]at h
  obtain⟨rfl,rfl,rfl⟩:=h
  exact inv_box I (vcells hx hc.1)
theorem mem_sound{E:Env}(I:Inv base prot E.tips S w mu hw ti){o:Oper}{r:AV}(ev:Operand→Value)(hρ:∀x,RV w mu hw (lkS S mu) (E.ev x) (ev x)∧Flag (live E.tips S mu) ti (E.ev x) (ev x))
 (h:evMem P E E.ev S o.op=some (r,tips',S')):
 ∃nx v w',(execOp ev o).run P w=.ok nx w'∧(nx=.value v∨nx=.skip∧v=undef)∧Step base prot E.tips S w mu hw ti tips' S' w' r v:=by
 have wrap:∀{s:Sem Value}{v:Value}{w':World},s.run P w=.ok v w'→(do pure (.value (←s)):Sem Next).run P w=.ok (.value v) w':=by
  intro s v w' hs;simp[hs]
 obtain⟨dst,op,type,pos,after,guard⟩:=o
 simp only at h
 unfold evMem at h
 split at h
 ·rename_i t
  simp only[Option.map_eq_some_iff,Prod.mk.injEq]at h
  obtain⟨z,hz,rfl,rfl,rfl⟩:=h
  obtain⟨vz,z1,z2⟩:=zero_sound (P:=P) (w:=w) (mu:=mu) (hw:=hw) (lk:=lkS S mu) hz
  refine⟨_,_,_,wrap (v:=.pointer (some ⟨w.heap.size,0,none⟩)) (w':=w.alloc (.cells vz.cells t)) ?_,.inl rfl,inv_box I z2⟩
  simp[Instr.alloc,z1,newVar,newRow]
 ·rename_i t x
  split at h
  case h_2=>simp at h
  rename_i n hn
  exact⟨_,_,_,wrap (v:=.pointer (some ⟨w.heap.size,0,none⟩)) (w':=w.alloc (.cells (ev x).cells t)) (by simp[Instr.box,newVar,newRow]),.inl rfl,boxV_sound I (hρ x).1 (hρ x).2 h⟩
 ·rename_i t p
  simp only[Option.map_eq_some_iff,Prod.mk.injEq]at h
  obtain⟨v,hv,rfl,rfl,rfl⟩:=h
  obtain⟨y,h1,h2,h3⟩:=load_run (P:=P) I (hρ p).1 hv
  exact⟨_,y,w,wrap h1,.inl rfl,Step.pure I h2 h3⟩
 ·rename_i t p x
  simp only[Option.map_eq_some_iff,Prod.mk.injEq]at h
  obtain⟨rr,hrr,rfl,rfl,rfl⟩:=h
  obtain⟨w',h1,h2⟩:=store_sound (P:=P) I rfl (hρ p).1 (hρ x).1 (hρ x).2 hrr
  exact⟨.skip,undef,w',by simp[execOp,h1],.inr ⟨rfl,rfl⟩,h2 _⟩
 ·rename_i args ts
  split at h
  case h_2=>simp at h
  rename_i s x h0 h1
  obtain⟨y,w',a1,a2⟩:=append_sound (P:=P) (ty:=type) (args:=args.map ev) (v:=ev s) (vx:=ev x) I (by simp[h0]) (by simp[h1]) (hρ s).1 (hρ s).2 (hρ x).1 h
  exact⟨_,y,w',by simp[execOp,resolve,invoke,builtin,a1],.inl rfl,a2⟩
 ·rename_i args ts
  split at h
  case h_2=>simp at h
  rename_i d x h0 h1
  simp only[Option.map_eq_some_iff,Prod.mk.injEq]at h
  obtain⟨rr,hrr,rfl,rfl,rfl⟩:=h
  obtain⟨y,w',a1,a2⟩:=copy_sound (P:=P) (ty:=type) (args:=args.map ev) (vd:=ev d) (vx:=ev x) I (by simp[h0]) (by simp[h1]) (hρ d).1 (hρ x).1 hrr
  exact⟨_,y,w',by simp[execOp,resolve,invoke,builtin,a1],.inl rfl,a2⟩
 ·rename_i args ts
  split at h
  case h_2=>simp at h
  rename_i d h0
  simp only[Option.map_eq_some_iff,Prod.mk.injEq]at h
  obtain⟨rr,hrr,rfl,rfl,rfl⟩:=h
  obtain⟨w',a1,a2⟩:=clear_sound (P:=P) (ty:=type) (args:=args.map ev) (vd:=ev d) I (by simp[h0]) (hρ d).1 hrr
  exact⟨_,_,w',by simp[execOp,resolve,invoke,builtin,a1],.inl rfl,a2⟩
 ·rename_i t l c
  simp only[Option.map_eq_some_iff,Prod.mk.injEq]at h
  obtain⟨rr,hrr,rfl,rfl,rfl⟩:=h
  obtain⟨y,w',a1,a2⟩:=make_sound (P:=P) I (hρ l).1 (hρ c).1 hrr
  exact⟨_,y,w',wrap a1,.inl rfl,a2⟩
 ·rename_i t x
  simp only[Option.map_eq_some_iff,Prod.mk.injEq]at h
  obtain⟨rr,hrr,rfl,rfl,rfl⟩:=h
  obtain⟨y,w',a1,a2⟩:=range_sound (P:=P) I (hρ x).1 hrr
  exact⟨_,y,w',wrap a1,.inl rfl,a2⟩
 ·rename_i p
  simp only[Option.map_eq_some_iff,Prod.mk.injEq]at h
  obtain⟨rr,hrr,rfl,rfl,rfl⟩:=h
  obtain⟨y,w',a1,a2⟩:=next_sound (P:=P) (ty:=type) I (hρ p).1 hrr
  exact⟨_,y,w',wrap a1,.inl rfl,a2⟩
 ·simp only[Option.some.injEq,Prod.mk.injEq]at h
  obtain⟨rfl,rfl,rfl⟩:=h
  exact⟨_,_,_,wrap (by simp[Instr.makeMap]),.inl rfl,mkm_sound I⟩
 iterate 2
  ·rename_i t m k x
   simp only[Option.map_eq_some_iff,Prod.mk.injEq]at h
   obtain⟨rr,hrr,rfl,rfl,rfl⟩:=h
   obtain⟨w',a1,a2⟩:=mup_sound (P:=P) I (hρ m).1 (hρ k).1 (hρ x).1 hrr
   exact⟨.skip,undef,w',by simp[execOp,a1],.inr ⟨rfl,rfl⟩,a2⟩
 ·rename_i t m k ok
  simp only[Option.map_eq_some_iff,Prod.mk.injEq]at h
  obtain⟨rr,hrr,rfl,rfl,rfl⟩:=h
  obtain⟨y,a1,a2,a3⟩:=lkp_sound (P:=P) (lv:=live E.tips S mu) (ti:=ti) I.ibox (hρ m).1 (hρ k).1 hrr
  exact⟨_,y,w,wrap a1,.inl rfl,Step.pure I a2 a3⟩
 ·simp at h
def isCall:Op→Bool
 |.call ⟨.value _,_,_⟩=>true
 |.call ⟨.invoke _ _,_,_⟩=>true
 |_=>false
theorem op_sound{E:Env}{call:Caller}(I:Inv base prot E.tips S w mu hw ti){o:Oper}{r:AV}{a:Act}(SL:Slots S w mu hw (live E.tips S mu) ti E.slots a.tmps)(hn:isCall o.op=false)
 (h:evOp P call E S o.op=some (r,tips',S')):
 ∃nx v w',(execOp a.eval o).run P w=.ok nx w'∧(nx=.value v∨nx=.skip∧v=undef)∧Step base prot E.tips S w mu hw ti tips' S' w' r v:=by
 have hρ:=fun x=>SL.eval (E:=E) (a:=a) I.iglb x
 unfold evOp at h
 split at h
 ·rename_i heq
  rw[heq]at hn
  simp[isCall]at hn
 ·rename_i heq
  rw[heq]at hn
  simp[isCall]at hn
 ·split at h
  ·rename_i v hv
   simp at h
   obtain⟨rfl,rfl,rfl⟩:=h
   obtain⟨y,h1,h2,h3⟩:=pure_sound (P:=P) E.ev a.eval hρ hv
   exact⟨_,y,w,h1,.inl rfl,Step.pure I h2 h3⟩
  ·split at h
   ·rename_i v hv
    simp at h
    obtain⟨rfl,rfl,rfl⟩:=h
    obtain⟨y,w',h1,h2⟩:=new_sound (P:=P) I E.ev a.eval (fun x=>(hρ x).1) hv
    exact⟨_,y,w',h1,.inl rfl,h2⟩
   ·exact mem_sound I a.eval hρ h
theorem own_sound{E:Env}(I:Inv base prot E.tips S w mu hw ti){o:Oper}{r:AV}{a:Act}{os ox:Operand}{ts:Array TypeId}(SL:Slots S w mu hw (live E.tips S mu) ti E.slots a.tmps)(ho:ownOp o=some (os,ox,ts))
 (h:evAppendO P S ts (E.ev os) (E.ev ox)=some (r,S')):
 ∃v w',(execOp a.eval o).run P w=.ok (.value v) w'∧Step base prot E.tips S w mu hw ti E.tips S' w' r v:=by
 have hρ:=fun x=>SL.eval (E:=E) (a:=a) I.iglb x
 obtain⟨dst,op,type,pos,after,guard⟩:=o
 unfold ownOp at ho
 simp only at ho
 split at ho
 case h_3=>simp at ho
 ·rename_i s d x
  split at ho
  case isFalse=>simp at ho
  simp at ho
  obtain⟨rfl,rfl,rfl⟩:=ho
  simp only[evAppendO,List.size_toArray,List.length_cons,List.length_nil,if_true,List.getElem?_toArray,List.getElem?_cons_zero,List.getElem?_cons_succ]at h
  split at h
  case isFalse=>cases h
  rename_i hb
  simp only[Option.map_eq_some_iff,Prod.mk.injEq]at h
  obtain⟨r1,h1,rfl,rfl⟩:=h
  obtain⟨y,a1,a2⟩:=strM_sound (P:=P) I (hρ x).1 hb h1
  exact⟨y,w,by simp[execOp,a1],a2⟩
 rename_i args ts'
 split at ho
 case isFalse=>simp at ho
 rename_i hcc
 split at ho
 case h_2=>simp at ho
 rename_i s' x' h0 h1
 simp at ho
 obtain⟨rfl,rfl,rfl⟩:=ho
 obtain⟨y,w',a1,a2⟩:=appendO_sound (P:=P) (hts:=hcc.2) (ty:=type) (args:=args.map a.eval) (v:=a.eval s') (vx:=a.eval x') I (by simp[h0]) (by simp[h1]) (hρ s').1 (hρ x').1 h
 exact⟨y,w',by simp[execOp,resolve,invoke,builtin,a1],a2⟩
end
end
theorem ltL_iff{m:Nat}{q:Nat→Bool}:∀{l:List AV},ltL m q l=true↔∀x∈l,lt m q x=true
 |[]=>by simp[ltL]
 |v::r=>by simp[ltL,ltL_iff (l:=r)]
theorem ltEs_iff{m:Nat}{q:Nat→Bool}:∀{l:List (List AV)},ltEs m q l=true↔∀x∈l,ltL m q x=true
 |[]=>by simp[ltEs]
 |v::r=>by simp[ltEs,ltEs_iff (l:=r)]
theorem ltL_get{m:Nat}{q:Nat→Bool}{l:List AV}(h:ltL m q l=true){j:Nat}{x:AV}(hj:l[j]? =some x):lt m q x=true:=ltL_iff.1 h x (List.mem_of_getElem? hj)
theorem ltEs_get{m:Nat}{q:Nat→Bool}{l:List (List AV)}(h:ltEs m q l=true){i j:Nat}{cs:List AV}{x:AV}(hi:l[i]? =some cs)(hj:cs[j]? =some x):lt m q x=true:=
 ltL_get (ltEs_iff.1 h cs (List.mem_of_getElem? hi)) hj
theorem immR_restrict{r:Right}{mu mu':Nat→Option Nat}{hw:Nat→Nat}{lk lk':Nat→Prop}{m b o:Nat}{q:Nat→Bool}(hr:rlt m q r=true)(hmu:∀i b,i<m→mu i=some b→mu' i=some b)(hlk:∀i b,i<m→q i=true→mu i=some b→lk b→lk' b)
 (h:immR r mu hw lk b o):immR r mu' hw lk' b o:=by
 cases r with
 |loan i=>
  have hi:i<m∧q i=true:=by simpa[rlt]using hr
  exact⟨hmu i b hi.1 h.1,hlk i b hi.1 hi.2 h.1 h.2⟩
 |_=>exact h
theorem RV.restrict{w:World}{mu mu':Nat→Option Nat}{hw:Nat→Nat}{lk lk':Nat→Prop}{m:Nat}{q:Nat→Bool}(hmu:∀i b,i<m→mu i=some b→mu' i=some b)(hlk:∀i b,i<m→q i=true→mu i=some b→lk b→lk' b)
 {a:AV} {v:Value} (h:RV w mu hw lk a v):lt m q a=true→RV w mu' hw lk' a v:=by
 induction h with
 |undef v=>exact fun _=>.undef v
 |bool b=>exact fun _=>.bool b
 |int k n=>exact fun _=>.int k n
 |str s=>exact fun _=>.str s
 |nilp=>exact fun _=>.nilp
 |ptr i off b h=>exact fun hl=>.ptr i off b (hmu i b (by simpa[lt]using hl) h)
 |rptr r cs off b o f hr h1 h2 ih=>
  intro hl
  simp only[lt,Bool.and_eq_true]at hl
  refine .rptr r cs off b o f (hr.imp id fun⟨i,e,p,hk⟩=>by
   subst e
   have hi:i<m∧q i=true:=by simpa[rlt]using hl.1
   exact⟨i,rfl,hmu i b hi.1 p,hlk i b hi.1 hi.2 p hk⟩) (fun j a hj=>?_) fun j a hj=>ih j a hj (ltL_get hl.2 hj)
  obtain⟨x,y,z⟩:=h1 j a hj
  exact⟨x,immR_restrict hl.1 hmu hlk y,z⟩
 |nils=>exact fun _=>.nils
 |sl r sz es b o len cap f h0 hr hb hlo hs h1 h2 ih=>
  intro hl
  simp only[lt,Bool.and_eq_true]at hl
  refine .sl r sz es b o len cap f h0 hr (fun i j e=>?_) (fun i e=>?_) hs (fun i cs j a hi hj=>?_) fun i cs j a hi hj=>ih i cs j a hi hj (ltEs_get hl.2 hi hj)
  ·subst e
   obtain⟨b',hb'⟩:=hb i j rfl
   exact⟨b',hmu i b' (by simpa[rlt]using hl.1) hb'⟩
  ·subst e
   obtain⟨h3,h4⟩:=hlo i rfl
   have hi:i<m∧q i=true:=by simpa[rlt]using hl.1
   exact⟨hmu i b hi.1 h3,hlk i b hi.1 hi.2 h3 h4⟩
  ·obtain⟨x,y,z⟩:=h1 i cs j a hi hj
   exact⟨x,immR_restrict hl.1 hmu hlk y,z⟩
 |emp sz p cap=>exact fun _=>.emp sz p cap
 |emp0 sz p=>exact fun _=>.emp0 sz p
 |oref i off len sz b cap h h0=>exact fun hl=>.oref i off len sz b cap (hmu i b (by simpa[lt]using hl) h) h0
 |aref i off len cap sz b h h0=>exact fun hl=>.aref i off len cap sz b (hmu i b (by simpa[lt]using hl) h) h0
 |fn g first caps f1 f2 n1 n2 ih1 ih2=>
  intro hl
  simp only[lt,Bool.and_eq_true]at hl
  exact .fn g first caps f1 f2 (fun j a hj=>ih1 j a hj (ltL_get hl.1 hj)) (fun j a hj=>ih2 j a hj (ltL_get hl.2 hj))
 |nilfn=>exact fun _=>.nilfn
 |ifc t a v h1 h ih=>exact fun hl=>.ifc t a v h1 (ih (by simpa[lt]using hl))
 |nili=>exact fun _=>.nili
 |nilm=>exact fun _=>.nilm
 |mref i b h=>exact fun hl=>.mref i b (hmu i b (by simpa[lt]using hl) h)
 |agg cs f h1 h2 ih=>exact fun hl=>.agg cs f h1 fun j a hj=>ih j a hj (ltL_get (by simpa[lt]using hl) hj)
 |aggx vs f h2 ih=>exact fun hl=>.aggx vs f fun j a hj=>ih j a hj (ltL_get (by simpa[lt]using hl) hj)
 |tup vs f h2 ih=>exact fun hl=>.tup vs f fun j a hj=>ih j a hj (ltL_get (by simpa[lt]using hl) hj)
mutual
theorem plain_lt(m:Nat)(q:Nat→Bool):∀(a:AV),plain a=true→lt m q a=true
 |.undef,h=>by simp[plain]at h
 |.bool _,_=>rfl
 |.int _ _,_=>rfl
 |.str _,_=>rfl
 |.nilp,_=>rfl
 |.ptr _ _,h=>by simp[plain]at h
 |.rptr .none cs _,h=>by simp only[plain]at h;simp[lt,rlt,plainL_lt m q cs h]
 |.rptr .exact _ _,h=>by simp[plain]at h
 |.rptr .fresh _ _,h=>by simp[plain]at h
 |.rptr (.fr _) _ _,h=>by simp[plain]at h
 |.rptr (.bx _ _) _ _,h=>by simp[plain]at h
 |.rptr (.loan _) _ _,h=>by simp[plain]at h
 |.nils,_=>rfl
 |.sl .none _ es,h=>by simp only[plain]at h;simp[lt,rlt,plainEs_lt m q es h]
 |.sl .exact _ es,h=>by simp only[plain]at h;simp[lt,rlt,plainEs_lt m q es h]
 |.sl .fresh _ _,h=>by simp[plain]at h
 |.sl (.fr _) _ _,h=>by simp[plain]at h
 |.sl (.bx _ _) _ _,h=>by simp[plain]at h
 |.sl (.loan _) _ _,h=>by simp[plain]at h
 |.aref _ _ _ _ _,h=>by simp[plain]at h
 |.oref _ _ _ _,h=>by simp[plain]at h
 |.fn _ _ _,h=>by simp[plain]at h
 |.nilfn,_=>rfl
 |.nilm,_=>rfl
 |.mref _,h=>by simp[plain]at h
 |.ifc _ v,h=>by simp only[plain]at h;simp[lt,plain_lt m q v h]
 |.nili,_=>rfl
 |.agg cs,h=>by simp only[plain]at h;simp[lt,plainL_lt m q cs h]
 |.tup _,h=>by simp[plain]at h
 |.aggx _,h=>by simp[plain]at h
theorem plainL_lt(m:Nat)(q:Nat→Bool):∀(l:List AV),plainL l=true→ltL m q l=true
 |[],_=>rfl
 |v::r,h=>by simp only[plainL,Bool.and_eq_true]at h;simp[ltL,plain_lt m q v h.1,plainL_lt m q r h.2]
theorem plainEs_lt(m:Nat)(q:Nat→Bool):∀(l:List (List AV)),plainEs l=true→ltEs m q l=true
 |[],_=>rfl
 |v::r,h=>by simp only[plainEs,Bool.and_eq_true]at h;simp[ltEs,plainL_lt m q v h.1,plainEs_lt m q r h.2]
end
def OldOK(D:Nat→Prop)(m:Nat)(q:Nat→Bool)(S:St):Prop:=∀(i:Nat)(bx:Box),i<m→D i→S[i]? =some bx→ltL m q bx.cs=true
theorem boxR_cs{w:World}{mu:Nat→Option Nat}{hw:Nat→Nat}{lk:Nat→Prop}{bx:Box}{b:Nat}(h:BoxR w mu hw lk bx b):∀x∈bx.cs,∃y,RV w mu hw lk x y:=by
 intro x hx
 cases bx with
 |mem cs bt l=>
  obtain⟨vs,el,_,q⟩:=h
  obtain⟨j,hj⟩:=List.getElem?_of_mem (show x∈cs from hx)
  obtain⟨_,y,_,hr⟩:=q.2 j x hj
  exact⟨y,hr⟩
 |iter s pos=>simp[Box.cs]at hx
 |map es=>
  obtain⟨ms,clock,_,h2,h3⟩:=h
  simp only[Box.cs,List.mem_flatMap]at hx
  obtain⟨⟨k,v⟩,he,hx⟩:=hx
  obtain⟨j,hj⟩:=List.getElem?_of_mem he
  have hlt:j<ms.size:=by rw[h2];exact(List.getElem?_eq_some_iff.1 hj).1
  obtain⟨a,_,c⟩:=h3 j k v ms[j] hj (by simp[hlt])
  simp at hx
  rcases hx with rfl|rfl
  ·exact⟨_,a⟩
  ·exact⟨_,c⟩
structure SameC(S S':St):Prop where
 len:S'.length=S.length
 get:∀(i:Nat),S'[i]? =S[i]?∨∃(cs:List AV)(bt bt':List (Option Nat))(l l':Bool),S[i]? =some (Box.mem cs bt l)∧S'[i]? =some (Box.mem cs bt' l')
theorem SameC.refl(S:St):SameC S S:=⟨rfl,fun _=>.inl rfl⟩
theorem SameC.trans{S S' S'':St}(h:SameC S S')(k:SameC S' S''):SameC S S'':=by
 refine⟨k.len.trans h.len,fun i=>?_⟩
 rcases k.get i with k1|⟨cs,bt,bt',l,l',k1,k2⟩<;>rcases h.get i with h1|⟨cs0,bt0,bt0',l0,l0',h1,h2⟩
 ·exact .inl (k1.trans h1)
 ·exact .inr ⟨cs0,bt0,bt0',l0,l0',h1,k1.trans h2⟩
 ·exact .inr ⟨cs,bt,bt',l,l',h1▸k1,k2⟩
 ·rw[h2]at k1
  cases k1
  exact .inr ⟨cs,bt0,bt',l0,l',h1,k2⟩
theorem SameC.set{S:St}{i:Nat}{cs:List AV}{bt bt':List (Option Nat)}{l l':Bool}(h:S[i]? =some (.mem cs bt l)):SameC S (S.set i (.mem cs bt' l')):=by
 have hi:i<S.length:=by
  rcases Nat.lt_or_ge i S.length with h1|h1
  ·exact h1
  ·simp[List.getElem?_eq_none h1]at h
 refine⟨by simp,fun k=>?_⟩
 by_cases hk:k=i
 ·subst hk;exact .inr ⟨cs,bt,bt',l,l',h,by rw[List.getElem?_set_self hi]⟩
 ·exact .inl (List.getElem?_set_ne fun e=>hk e.symm)
theorem SameC.old{D:Nat→Prop}{m:Nat}{q:Nat→Bool}{S S':St}(h:SameC S S')(o:OldOK D m q S):OldOK D m q S':=by
 intro i bx hi hd hS
 rcases h.get i with g|⟨cs0,bt0,bt',l0,l',g1,g2⟩
 ·exact o i bx hi hd (g▸hS)
 ·rw[g2]at hS
  cases hS
  exact o i (.mem cs0 bt0 l0) hi hd g1
theorem sameC_lockOne(S:St)(v:AV):SameC S (lockOne S v):=by
 unfold lockOne
 split
 ·split
  ·rename_i h;exact SameC.set h
  ·exact SameC.refl S
 ·exact SameC.refl S
theorem sameC_lockAll:∀(l:List AV)(S:St),SameC S (lockAll S l)
 |[],S=>SameC.refl S
 |v::r,S=>(sameC_lockOne S v).trans (sameC_lockAll r _)
theorem sameC_unlockOne(S₀ S:St)(v:AV):SameC S (unlockOne S₀ S v):=by
 unfold unlockOne
 split
 ·split
  ·rename_i h;exact SameC.set h
  ·exact SameC.refl S
 ·exact SameC.refl S
theorem sameC_unlockAll(S₀:St):∀(l:List AV)(S:St),SameC S (unlockAll S₀ S l)
 |[],S=>SameC.refl S
 |v::r,S=>(sameC_unlockOne S₀ S v).trans (sameC_unlockAll S₀ r _)
structure Keeps(nb:Nat)(S S':St):Prop where
 len:S.length≤S'.length
 old:∀(D:Nat→Prop)(m:Nat)(q:Nat→Bool),m≤nb→OldOK D m q S→OldOK D m q S'
theorem Keeps.refl(nb:Nat)(S:St):Keeps nb S S:=⟨Nat.le_refl _,fun _ _ _ _ h=>h⟩
theorem Keeps.trans{nb:Nat}{S S' S'':St}(h:Keeps nb S S')(k:Keeps nb S' S''):Keeps nb S S'':=⟨Nat.le_trans h.len k.len,fun D m q hm o=>k.old D m q hm (h.old D m q hm o)⟩
theorem SameC.keeps{S S':St}(h:SameC S S')(nb:Nat):Keeps nb S S':=⟨by rw[h.len];exact Nat.le_refl _,fun _ _ _ _ o=>h.old o⟩
theorem Keeps.push{nb:Nat}{S:St}(h:nb≤S.length)(bx:Box):Keeps nb S (S++[bx]):=by
 refine⟨by simp,fun D m q hm o i bx hi hd hS=>?_⟩
 rw[List.getElem?_append_left (by omega)]at hS
 exact o i bx hi hd hS
theorem Keeps.write{nb:Nat}{S:St}{i off:Nat}{cs new:List AV}{bt bt':List (Option Nat)}{l l':Bool}(h:S[i]? =some (.mem cs bt l))(hn:nb≤i∨∀m q,i<m→ltL m q new=true):Keeps nb S (S.set i (.mem (splice cs off new) bt' l')):=by
 have hi:i<S.length:=by
  rcases Nat.lt_or_ge i S.length with h1|h1
  ·exact h1
  ·simp[List.getElem?_eq_none h1]at h
 refine⟨by simp,fun D m q hm o k bx0 hk hd hS=>?_⟩
 by_cases hki:k=i
 ·subst hki
  rw[List.getElem?_set_self hi]at hS
  cases hS
  show ltL m q (splice cs off new)=true
  rcases hn with hn|hn
  ·omega
  have h1:ltL m q cs=true:=o k _ hk hd h
  have h2:=hn m q hk
  rw[ltL_iff]at h1 h2⊢
  intro x hx
  simp only[splice,List.mem_append]at hx
  rcases hx with(hx|hx)|hx
  ·exact h1 x (List.mem_of_mem_take hx)
  ·exact h2 x hx
  ·exact h1 x (List.mem_of_mem_drop hx)
 ·rw[List.getElem?_set_ne fun e=>hki e.symm]at hS
  exact o k bx0 hk hd hS
def NewOK(n:Nat)(S':St):Prop:=∀(i:Nat)(bx:Box),n≤i→S'[i]? =some bx→ltL S'.length (fun k=>decide (n≤k)) bx.cs=true
def CallOld(call:Caller):Prop:=∀f args S r S',call f args S=some (r,S')→S.length≤S'.length∧fineRes S'.length (fun k=>decide (S.length≤k)) r=true∧Keeps S.length S S'∧NewOK S.length S'
theorem plainRes_fine{r:AV}(h:plainRes r=true)(m:Nat)(q:Nat→Bool):fineRes m q r=true:=by
 have one:∀v:AV,(match v with|.sl .fresh _ es=>plainEs es|v=>plain v)=true→fine1 m q v=true:=by
  intro v hv
  split at hv
  ·simp[fine1,plainEs_lt m q _ hv]
  ·rename_i x hx
   have hl:=plain_lt m q v hv
   cases v with
   |sl r sz es=>cases r<;>first|exact hl|exact absurd rfl (hx _ _)|simp[plain]at hv
   |tup vs=>simp[plain]at hv
   |aggx vs=>simp[plain]at hv
   |_=>exact hl
 cases r with
 |tup vs=>
  simp only[plainRes,List.all_eq_true]at h
  simp only[fineRes,List.all_eq_true]
  exact fun x hx=>one x (h x hx)
 |sl rr sz es=>exact one (.sl rr sz es) (by cases rr<;>exact h)
 |undef=>exact one .undef h
 |bool b=>exact one (.bool b) h
 |int k n=>exact one (.int k n) h
 |str s=>exact one (.str s) h
 |nilp=>exact one .nilp h
 |ptr i o=>exact one (.ptr i o) h
 |rptr r cs o=>exact one (.rptr r cs o) h
 |nils=>exact one .nils h
 |aref i o l c z=>exact one (.aref i o l c z) h
 |oref i o l z=>exact one (.oref i o l z) h
 |fn f a b=>exact one (.fn f a b) h
 |nilfn=>exact one .nilfn h
 |ifc t v=>exact one (.ifc t v) h
 |nili=>exact one .nili h
 |nilm=>exact one .nilm h
 |mref i=>exact one (.mref i) h
 |agg cs=>exact one (.agg cs) h
 |aggx cs=>exact one (.aggx cs) h
theorem ofLeaf_plain{v:Value}{a:AV}(h:ofLeaf v=some a):plain a=true:=by
 unfold ofLeaf at h
 split at h<;>simp at h<;>subst h<;>rfl
theorem zero_plain{P:Program}{t:TypeId}{z:List AV}(h:zeroOf P t=some z)(m:Nat)(q:Nat→Bool):ltL m q z=true:=by
 unfold zeroOf at h
 split at h
 case h_2=>simp at h
 split at h
 case h_2=>simp at h
 rename_i z0 _
 rw[ltL_iff]
 intro x hx
 have:∀(l:List Value)(z:List AV),l.mapM ofLeaf=some z→∀x∈z,plain x=true:=by
  intro l
  induction l with
  |nil=>intro z h x hx;simp at h;subst h;simp at hx
  |cons v l ih=>
   intro z h x hx
   rw[List.mapM_cons]at h
   cases hv:ofLeaf v with
   |none=>simp[hv]at h
   |some a=>
    cases hl:l.mapM ofLeaf with
    |none=>simp[hv,hl]at h
    |some z'=>
     simp[hv,hl]at h
     subst h
     rcases List.mem_cons.1 hx with rfl|hx
     ·exact ofLeaf_plain hv
     ·exact ih z' hl x hx
 exact plain_lt m q x (this _ _ h x hx)
theorem Keeps.iter{nb:Nat}{S:St}{i:Nat}{s:List UInt8}{pos:Nat}:Keeps nb S (S.set i (.iter s pos)):=by
 refine⟨by simp,fun D m q hm o k bx hk hd hS=>?_⟩
 by_cases e:k=i
 ·subst e
  rw[List.getElem?_set]at hS
  simp at hS
  obtain⟨_,rfl⟩:=hS
  rfl
 ·rw[List.getElem?_set_ne fun a=>e a.symm]at hS
  exact o k bx hk hd hS
theorem lt_noFr{m:Nat}{q:Nat→Bool}{a:AV}(h:plain (strip a)=true):∀x∈a.cells,∀i,i<m→(∀(r:Right) sz es,x=.sl r sz es→∀i' j',r=.bx i' j'→i'<m)→lt m q x=true:=by
 intro x hx i _ hb
 cases a with
 |sl r sz es=>
  simp[AV.cells]at hx
  subst hx
  have hb:=hb r sz es rfl
  cases r with
  |loan k=>simp[strip,plain]at h
  |bx k j=>
   simp only[strip,plain]at h
   simp[lt,rlt,hb k j rfl,plainEs_lt m q es h]
  |_=>
   simp only[strip,plain]at h
   simp[lt,rlt,plainEs_lt m q es h]
 |agg cs=>
  simp only[strip,plain]at h
  exact ltL_iff.1 (plainL_lt m q cs h) x hx
 |_=>
  simp[AV.cells]at hx
  subst hx
  exact plain_lt m q _ h
theorem keeps_store{P:Program}{E:Env}{S S':St}{t:TypeId}{p v:AV}{tips':List (Option Nat)}(he:evStore P E S t p v=some (tips',S')):Keeps E.nb S S':=by
 unfold evStore at he
 split at he
 case h_2=>simp at he
 split at he
 case h_2=>simp at he
 rename_i i off n hn _ cs bt hS
 split at he
 case isFalse=>simp at he
 rename_i hc
 obtain⟨hval,hlen,hle,hq⟩:=hc
 simp only[Option.some.injEq,Prod.mk.injEq]at he
 obtain⟨rfl,rfl⟩:=he
 refine Keeps.write hS (hq.imp id fun hp m q hm=>?_)
 rw[ltL_iff]
 intro x hx
 unfold regBox at hx
 split at hx
 ·rename_i k sz es
  simp only[strip,plain]at hp
  split at hx<;>simp[AV.cells]at hx<;>subst hx<;>simp[lt,rlt,hm,plainEs_lt m q es hp]
 ·rename_i i' j sz es
  simp only[strip,plain]at hp
  split at hx
  ·rename_i e
   simp[AV.cells]at hx
   subst hx
   simp[lt,rlt,e,hm,plainEs_lt m q es hp]
  ·simp[AV.cells]at hx
   subst hx
   simp[lt,rlt,plainEs_lt m q es hp]
 ·rename_i hn1 hn2
  refine lt_noFr (m:=m) hp x hx i hm fun r sz es e i' j' er=>?_
  subst er
  cases v with
  |sl r sz' es'=>simp[AV.cells]at hx;subst hx;cases e;exact absurd rfl (hn2 _ _ _ _)
  |agg cs'=>
   simp only[strip,plain]at hp
   have:=ltL_iff.1 (plainL_lt m q cs' hp) x hx
   subst e
   simpa[lt,rlt]using(by simpa[lt]using this:rlt m q (.bx i' j')=true∧_).1
  |_=>simp[AV.cells]at hx;subst hx;cases e
theorem keeps_append{P:Program}{tips tips':List (Option Nat)}{nb:Nat}{S S':St}{ts:Array TypeId}{s x r:AV}(h:evAppend P tips S ts s x=some (r,tips',S')):Keeps nb S S':=by
 unfold evAppend at h
 repeat' split at h
 all_goals first
  |(simp at h;done)
  |(simp only[Option.some.injEq,Prod.mk.injEq]at h;obtain⟨_,_,rfl⟩:=h;first|exact Keeps.refl _ _|(apply SameC.keeps;apply SameC.set;assumption))
theorem keeps_clear{P:Program}{nb:Nat}{S S':St}{ts:Array TypeId}{d:AV}(h:evClear P S ts d=some S'):Keeps nb S S':=by
 unfold evClear at h
 split at h
 case h_2=>simp at h
 split at h
 case h_2=>simp at h
 rename_i sz z hsz hz
 split at h
 ·simp at h;subst h;exact Keeps.refl _ _
 ·simp at h;subst h;exact Keeps.refl _ _
 ·split at h
  case h_2=>simp at h
  split at h
  ·simp at h
  split at h
  case h_2=>simp at h
  rename_i hS
  split at h
  case isFalse=>simp at h
  simp at h;subst h
  refine Keeps.write hS (.inr fun m q _=>?_)
  rw[ltL_iff]
  intro x hx
  simp only[List.mem_flatten]at hx
  obtain⟨l,hl,hx⟩:=hx
  rw[List.eq_of_mem_replicate hl]at hx
  exact ltL_iff.1 (zero_plain hz m q) x hx
theorem keeps_regCells{nb i:Nat}(hi:nb≤i):∀(cs:List AV)(k:Nat)(tips:List (Option Nat))(S:St),Keeps nb S (regCells i k cs tips S).2:=by
 intro cs
 induction cs with
 |nil=>exact fun k tips S=>Keeps.refl _ _
 |cons a cs ih=>
  intro k tips S
  unfold regCells
  split
  ·rename_i h;cases h
  ·rename_i e
   cases e
   split
   ·rename_i hS;exact(Keeps.write hS (.inl hi)).trans (ih _ _ _)
   ·exact Keeps.refl _ _
  ·rename_i e;cases e;exact ih _ _ _
theorem keeps_boxV{nb n:Nat}{tips tips':List (Option Nat)}{S S':St}{x r:AV}(hnb:nb≤S.length)(h:boxV n tips S x=some (r,tips',S')):Keeps nb S S':=by
 unfold boxV at h
 split at h<;>split at h
 ·simp only[Option.some.injEq,Prod.mk.injEq]at h
  obtain⟨_,_,rfl⟩:=h
  exact(Keeps.push hnb _).trans (keeps_regCells hnb _ _ _ _)
 ·cases h
 ·simp only[Option.some.injEq,Prod.mk.injEq]at h
  obtain⟨_,_,rfl⟩:=h
  exact Keeps.push hnb _
 ·cases h
theorem Keeps.setBox{nb:Nat}{S:St}{i:Nat}{b0 b1:Box}(h:S[i]? =some b0)(hn:nb≤i∨∀m q,ltL m q b0.cs=true→ltL m q b1.cs=true):Keeps nb S (S.set i b1):=by
 have hi:i<S.length:=by
  rcases Nat.lt_or_ge i S.length with h1|h1
  ·exact h1
  ·simp[List.getElem?_eq_none h1]at h
 refine⟨by simp,fun D m q hm o k bx0 hk hd hS=>?_⟩
 by_cases hki:k=i
 ·subst hki
  rw[List.getElem?_set_self hi]at hS
  cases hS
  rcases hn with hn|hn
  ·omega
  exact hn m q (o k _ hk hd h)
 ·rw[List.getElem?_set_ne fun e=>hki e.symm]at hS
  exact o k bx0 hk hd hS
theorem keyIn_plain{kk:KK}{k:AV}(h:keyIn kk k=true):plain k=true:=by
 have one:∀{q:IntKind}{v:AV},isIntK q v=true→plain v=true:=by
  intro q v hv
  cases v<;>simp[isIntK,plain]at hv⊢
 cases kk with
 |i q=>exact one h
 |s=>cases k<;>simp[keyIn,plain]at h⊢
 |a n q=>
  cases k<;>simp[keyIn]at h
  rename_i cs
  have:∀l:List AV,(∀x∈l,isIntK q x=true)→plainL l=true:=by
   intro l
   induction l with
   |nil=>intro _;rfl
   |cons x l ih=>
    intro hl
    simp only[plainL,Bool.and_eq_true]
    exact⟨one (hl x (by simp)),ih fun y hy=>hl y (by simp[hy])⟩
  exact this cs h.2
theorem mapcs_iff{m:Nat}{q:Nat→Bool}{es:List (AV × AV)}:ltL m q (Box.map es).cs=true↔∀e∈es,lt m q e.1=true∧lt m q e.2=true:=by
 rw[ltL_iff]
 simp only[Box.cs,List.mem_flatMap]
 constructor
 ·intro h e he
  exact⟨h _ ⟨e,he,by simp⟩,h _ ⟨e,he,by simp⟩⟩
 ·rintro h x ⟨e,he,hx⟩
  simp at hx
  rcases hx with rfl|rfl
  ·exact(h e he).1
  ·exact(h e he).2
theorem keeps_mup{kk:KK}{nb:Nat}{S S':St}{m k v:AV}(h:mupK kk nb S m k v=some S'):Keeps nb S S':=by
 unfold mupK at h
 split at h
 case h_2=>cases h
 rename_i i
 split at h
 case h_2=>cases h
 rename_i es hS
 split at h
 case isFalse=>cases h
 rename_i hc
 have key:∀es':List (AV × AV),(∀e∈es',e∈es∨e=(k,strip v))→Keeps nb S (S.set i (.map es')):=by
  intro es' he
  refine Keeps.setBox hS (hc.2.2.imp id fun hp m q ho=>?_)
  rw[mapcs_iff]at ho⊢
  intro e hm
  rcases he e hm with h1|rfl
  ·exact ho e h1
  ·exact⟨plain_lt m q _ (keyIn_plain hc.1),plain_lt m q _ hp⟩
 split at h
 ·rename_i j _ _
  simp at h
  subst h
  exact key _ fun e he=>by
   rcases List.mem_or_eq_of_mem_set he with h1|h1
   ·exact .inl h1
   ·exact .inr h1
 ·simp at h
  subst h
  exact key _ fun e he=>by simpa using he
 ·cases h
theorem keeps_mem{P:Program}{E:Env}{ρ:Operand→AV}{S S':St}{o:Op}{r:AV}{tips':List (Option Nat)}(hnb:E.nb≤S.length)(h:evMem P E ρ S o=some (r,tips',S')):Keeps E.nb S S':=by
 unfold evMem at h
 split at h
 ·simp only[Option.map_eq_some_iff,Prod.mk.injEq]at h
  obtain⟨z,_,_,_,rfl⟩:=h
  exact Keeps.push hnb _
 ·split at h
  ·exact keeps_boxV hnb h
  ·simp at h
 ·simp only[Option.map_eq_some_iff,Prod.mk.injEq]at h
  obtain⟨z,_,_,_,rfl⟩:=h
  exact Keeps.refl _ _
 ·simp only[Option.map_eq_some_iff,Prod.mk.injEq]at h
  obtain⟨z,hz,_,_,rfl⟩:=h
  exact keeps_store hz
 ·split at h
  ·exact keeps_append h
  ·simp at h
 ·split at h
  ·simp only[Option.map_eq_some_iff,Prod.mk.injEq]at h
   obtain⟨z,hz,_,_,rfl⟩:=h
   unfold evCopy at hz
   repeat' split at hz
   all_goals first
    |(simp at hz;done)
    |(rename_i hS hc
      simp only[Option.some.injEq]at hz
      subst hz
      refine Keeps.write hS (hc.2.imp id fun hp m q _=>?_)
      rw[ltL_iff]
      intro x hx
      simp only[List.mem_flatten]at hx
      obtain⟨l,hl,hx⟩:=hx
      exact ltL_iff.1 (ltEs_iff.1 (plainEs_lt m q _ hp) l (List.mem_of_mem_take hl)) x hx)
  ·simp at h
 ·split at h
  ·simp only[Option.map_eq_some_iff,Prod.mk.injEq]at h
   obtain⟨z,hz,_,_,rfl⟩:=h
   exact keeps_clear hz
  ·simp at h
 ·simp only[Option.map_eq_some_iff,Prod.mk.injEq]at h
  obtain⟨⟨r1,S1⟩,hz,_,_,rfl⟩:=h
  unfold evMake at hz
  repeat' split at hz
  all_goals first
   |(simp at hz;done)
   |(simp at hz;obtain⟨_,rfl⟩:=hz;exact Keeps.push hnb _)
 ·simp only[Option.map_eq_some_iff,Prod.mk.injEq]at h
  obtain⟨⟨r1,S1⟩,hz,_,_,rfl⟩:=h
  unfold evRange at hz
  split at hz
  ·simp at hz;obtain⟨_,rfl⟩:=hz;exact Keeps.push hnb _
  ·simp at hz
 ·simp only[Option.map_eq_some_iff,Prod.mk.injEq]at h
  obtain⟨⟨r1,S1⟩,hz,_,_,rfl⟩:=h
  unfold evNext at hz
  repeat' split at hz
  all_goals first
   |(simp at hz;done)
   |(simp at hz;obtain⟨_,rfl⟩:=hz;first|exact Keeps.iter|exact Keeps.refl _ _)
 ·simp only[Option.some.injEq,Prod.mk.injEq]at h
  obtain⟨_,_,rfl⟩:=h
  exact Keeps.push hnb _
 iterate 2
  ·simp only[Option.map_eq_some_iff,Prod.mk.injEq]at h
   obtain⟨z,hz,_,_,rfl⟩:=h
   unfold evMup at hz
   split at hz
   case h_2=>cases hz
   split at hz
   case h_2=>cases hz
   exact keeps_mup hz
 ·simp only[Option.map_eq_some_iff,Prod.mk.injEq]at h
  obtain⟨z,_,_,_,rfl⟩:=h
  exact Keeps.refl _ _
 ·simp at h
theorem keeps_own{call:Caller}(hc:CallOld call){nb:Nat}{tips:List (Option Nat)}{S S':St}{f:FuncId}{args:List AV}{r:AV}{tips':List (Option Nat)}(hnb:nb≤S.length)(h:ownCall call tips S f args=some (r,tips',S')):Keeps nb S S':=by
 unfold ownCall at h
 split at h
 ·simp at h
 split at h
 ·simp at h
 rename_i args' k rest _ _ r0 S1 hcall
 simp only[Option.some.injEq,Prod.mk.injEq]at h
 obtain⟨_,_,rfl⟩:=h
 obtain⟨h1,_,h2,_⟩:=hc _ _ _ _ _ hcall
 have hl:=sameC_lockAll rest S
 exact(hl.keeps nb).trans (Keeps.trans ⟨h2.len,fun D m q hm o=>h2.old D m q (by rw[hl.len];omega) o⟩ ((sameC_unlockAll S rest S1).keeps _))
theorem keeps_call{P:Program}{call:Caller}(hc:CallOld call){E:Env}{S S':St}{c:Call}{r:AV}{tips':List (Option Nat)}(hnb:E.nb≤S.length)(h:evCall P call E S c=some (r,tips',S')):Keeps E.nb S S':=by
 unfold evCall at h
 split at h
 ·simp at h
 split at h
 ·split at h
  ·simp at h
  split at h
  ·simp at h
  rename_i r0 S1 hcall
  simp only[Option.some.injEq,Prod.mk.injEq]at h
  obtain⟨_,_,rfl⟩:=h
  obtain⟨h1,_,h2,_⟩:=hc _ _ _ _ _ hcall
  exact⟨h2.len,fun D m q hm o=>h2.old D m q (by omega) o⟩
 ·split at h
  ·simp at h
  split at h
  ·simp at h
  rename_i f args _ _ _ args' _ _ r0 S1 hcall
  simp only[Option.some.injEq,Prod.mk.injEq]at h
  obtain⟨_,_,rfl⟩:=h
  obtain⟨h1,_,h2,_⟩:=hc _ _ _ _ _ hcall
  have hl:=sameC_lockAll args S
  refine(hl.keeps E.nb).trans (Keeps.trans ⟨h2.len,fun D m q hm o=>h2.old D m q (by rw[hl.len];omega) o⟩ ((sameC_unlockAll S args S1).keeps _))
theorem keeps_op{P:Program}{call:Caller}(hc:CallOld call){E:Env}{S S':St}{o:Op}{r:AV}{tips':List (Option Nat)}(hnb:E.nb≤S.length)(h:evOp P call E S o=some (r,tips',S')):Keeps E.nb S S':=by
 unfold evOp at h
 split at h
 ·split at h
  ·simp only[Option.map_eq_some_iff,Prod.mk.injEq]at h
   obtain⟨_,_,_,_,rfl⟩:=h
   exact Keeps.refl _ _
  ·split at h
   ·exact keeps_own hc hnb h
   ·exact keeps_call hc hnb h
 ·exact keeps_call hc hnb h
 ·split at h
  ·simp at h;obtain⟨_,_,rfl⟩:=h;exact Keeps.refl _ _
  ·split at h
   ·simp at h;obtain⟨_,_,rfl⟩:=h;exact Keeps.refl _ _
   ·exact keeps_mem hnb h
theorem keeps_opr{P:Program}{call:Caller}(hc:CallOld call){E:Env}{S S':St}{o:Oper}{r:AV}{tips':List (Option Nat)}(hnb:E.nb≤S.length)(h:evOpr P call E S o=some (r,tips',S')):Keeps E.nb S S':=by
 unfold evOpr at h
 split at h
 ·simp only[Option.map_eq_some_iff,Prod.mk.injEq]at h
  obtain⟨⟨r1,S1⟩,hz,_,_,rfl⟩:=h
  unfold evAppendO at hz
  repeat' split at hz
  all_goals first
   |(simp at hz;done)
   |(simp at hz;obtain⟨_,rfl⟩:=hz;first|exact Keeps.push hnb _|exact Keeps.refl _ _)
   |(simp at hz;obtain⟨_,_,_,rfl⟩:=hz;exact Keeps.refl _ _)
 ·exact keeps_op hc hnb h
theorem keeps_ops{P:Program}{call:Caller}(hc:CallOld call){ops:Array Oper}:∀(l:List Oper)(E:Env)(S:St)(E':Env)(S':St),E.nb≤S.length→evOps P call ops l E S=some (E',S')→E'.nb=E.nb∧Keeps E.nb S S':=by
 intro l
 induction l with
 |nil=>intro E S E' S' _ h;simp[evOps]at h;obtain⟨rfl,rfl⟩:=h;exact⟨rfl,Keeps.refl _ _⟩
 |cons o l ih=>
  intro E S E' S' hnb h
  unfold evOps at h
  split at h
  case isFalse=>simp at h
  split at h
  ·split at h
   case h_2=>simp at h
   rename_i v tips S1 h1
   have k:=keeps_opr hc hnb h1
   obtain⟨a,b⟩:=ih (E.put o.dst v tips) S1 E' S' (Nat.le_trans hnb k.len) h
   exact⟨a,k.trans b⟩
  ·exact ih (E.put o.dst (.tup []) E.tips) S E' S' hnb h
theorem keeps_allocs{P:Program}:∀(l:List Oper)(E:Env)(S:St)(E':Env)(S':St),E.nb≤S.length→evAllocs P l E S=some (E',S')→E'.nb=E.nb∧Keeps E.nb S S':=by
 intro l
 induction l with
 |nil=>intro E S E' S' _ h;simp[evAllocs]at h;obtain⟨rfl,rfl⟩:=h;exact⟨rfl,Keeps.refl _ _⟩
 |cons o l ih=>
  intro E S E' S' hnb h
  unfold evAllocs at h
  split at h
  ·split at h
   case h_2=>simp at h
   have k:=Keeps.push hnb (by assumption)
   obtain⟨a,b⟩:=ih _ _ E' S' (by simp[Env.put];omega) h
   exact⟨a,k.trans b⟩
  ·exact ih E S E' S' hnb h
theorem keeps_trace{P:Program}{call:Caller}(hc:CallOld call){ops:Array Oper}:∀(l:List (Oper × Nat))(E:Env)(S:St)(ss:List St)(ls:List Load)(E':Env)(S':St)(ss':List St)(ls':List Load),E.nb≤S.length→
 evTrace P call ops l E S ss ls=some (E',S',ss',ls')→E'.nb=E.nb∧Keeps E.nb S S':=by
 intro l
 induction l with
 |nil=>intro E S ss ls E' S' ss' ls' _ h;simp[evTrace]at h;obtain⟨rfl,rfl,_⟩:=h;exact⟨rfl,Keeps.refl _ _⟩
 |cons o l ih=>
  obtain⟨o,i⟩:=o
  intro E S ss ls E' S' ss' ls' hnb h
  unfold evTrace at h
  split at h
  ·exact ih _ _ _ _ _ _ _ _ hnb h
  split at h
  case isFalse=>simp at h
  split at h
  ·split at h
   case h_2=>simp at h
   rename_i v tips S1 h1
   have k:=keeps_opr hc hnb h1
   obtain⟨a,b⟩:=ih (E.put o.dst v tips) S1 _ _ E' S' _ _ (Nat.le_trans hnb k.len) h
   exact⟨a,k.trans b⟩
  ·exact ih (E.put o.dst (.tup []) E.tips) S _ _ E' S' _ _ hnb h
theorem keeps_draw{P:Program}{call:Caller}(hc:CallOld call){ops:Array Oper}{E E':Env}{S S':St}(hnb:E.nb≤S.length)(h:evDraw P call ops E S=some (E',S')):E'.nb=E.nb∧Keeps E.nb S S':=by
 unfold evDraw at h
 split at h
 ·simp at h
 split at h
 ·simp at h
 split at h
 case isFalse=>simp at h
 rename_i E0 S0 h0 _ E1 S1 ss ls h1 _
 simp at h
 obtain⟨rfl,rfl⟩:=h
 obtain⟨a,b⟩:=keeps_allocs _ _ _ _ _ hnb h0
 obtain⟨c,d⟩:=keeps_trace hc _ _ _ _ _ _ _ _ _ (by rw[a];exact Nat.le_trans hnb b.len) h1
 exact⟨c.trans a,b.trans (a▸d)⟩
section
def After(P:Program)(base:Nat)(prot:Nat→Prop)(S:St)(w:World)(mu:Nat→Option Nat)(hw:Nat→Nat)(ti:Id→TI)(r:AV)(S':St)(e:Ending)(w':World):Prop:=
 ∃v,e=.returned v∧∃mu' hw' ti',Inv base prot (takeRet [] r).2 S' w' mu' hw' ti'∧Ext base prot S w mu hw S' w' mu' hw'∧LvExt (live [] S mu) ti (live (takeRet [] r).2 S' mu') ti'∧
  RV w' mu' hw' (lkS S' mu') (takeRet [] r).1 v∧Flag (live (takeRet [] r).2 S' mu') ti' (takeRet [] r).1 v∧∀i,mu i=none→i<S.length→S'[i]? =S[i]?∧mu' i=none
def CallSim(P:Program)(call:Caller):Prop:=
 ∀f args S r S',call f args S=some (r,S')→∀(base:Nat)(prot:Nat→Prop)(w:World)(mu:Nat→Option Nat)(hw:Nat→Nat)(ti:Id→TI)(vargs:Array Value),Inv base prot (ownT f args) S w mu hw ti→args.length=vargs.size→
  (∀(j:Nat)(a:AV),(ownA f args)[j]? =some a→∃v,vargs[j]? =some v∧RV w mu hw (lkS S mu) a v∧Flag (live (ownT f args) S mu) ti a v)→
  (∃fn c,P.funcs[f]? =some fn∧fn.body=some c)∧Calls P f vargs w (After P base prot S w mu hw ti r S')
section
variable{P:Program}{base:Nat}{prot:Nat→Prop}{tips tips':List (Option Nat)}{S S':St}{w w':World}{mu:Nat→Option Nat}{hw hw':Nat→Nat}{ti ti':Id→TI}
def shift1(n:Nat):AV→AV
 |.sl (.fr k) sz es=>.sl (.fr (n+k)) sz es
 |v=>v
def shift(n:Nat):AV→AV
 |.tup vs=>.tup (vs.map (shift1 n))
 |.aggx vs=>.aggx (vs.map (shift1 n))
 |v=>shift1 n v
def noFrv:AV→Bool
 |.sl (.fr _) _ _=>false
 |_=>true
theorem takeRes_shift(t u:List (Option Nat))(v:AV)(h:noFrv v=true):takeRes (t++u) v=(shift1 t.length (takeRes u v).1,t++(takeRes u v).2):=by
 cases v with
 |sl r sz es=>cases r<;>first|(simp[takeRes,shift1];done)|(simp[noFrv]at h)
 |_=>simp[takeRes,shift1]
theorem takeResL_shift(t:List (Option Nat)):∀(vs:List AV)(u:List (Option Nat)),(∀v∈vs,noFrv v=true)→takeResL (t++u) vs=((takeResL u vs).1.map (shift1 t.length),t++(takeResL u vs).2):=by
 intro vs
 induction vs with
 |nil=>intro u _;simp[takeResL]
 |cons v vs ih=>
  intro u h
  simp only[takeResL,takeRes_shift t u v (h v (by simp)),ih (takeRes u v).2 fun x hx=>h x (by simp[hx]),List.map_cons]
theorem noFrv_fine{m:Nat}{q:Nat→Bool}{v:AV}(h:fine1 m q v=true):noFrv v=true:=by
 cases v with
 |sl r sz es=>cases r<;>first|rfl|simp[fine1]at h
 |_=>rfl
theorem takeRet_shift(t:List (Option Nat))(r:AV){m:Nat}{q:Nat→Bool}(h:fineRes m q r=true):takeRet t r=(shift t.length (takeRet [] r).1,t++(takeRet [] r).2):=by
 cases r with
 |tup vs=>
  have hv:∀v∈vs,noFrv v=true:=by
   intro v hv
   simp only[fineRes,List.all_eq_true]at h
   exact noFrv_fine (h v hv)
  have:=takeResL_shift t vs [] hv
  simp only[List.append_nil]at this
  simp only[takeRet,this,shift]
 |sl rr sz es=>
  have:=takeRes_shift t [] (.sl rr sz es) (by cases rr<;>first|rfl|simp[fineRes,fine1]at h)
  simp only[List.append_nil]at this
  simp only[takeRet,this]
  cases rr<;>rfl
 |aggx vs=>simp[fineRes,fine1]at h
 |_=>simp[takeRet,takeRes,shift,shift1]
theorem RV.shift1{lk:Nat→Prop}{x:AV}{v:Value}(n:Nat)(h:RV w mu hw lk x v):RV w mu hw lk (shift1 n x) v:=by
 cases x with
 |sl r sz es=>cases r<;>first|exact h|exact h.reright (by simp) (by simp) (by simp) (by simp) (by simp)
 |_=>exact h
theorem RV.shift{lk:Nat→Prop}{x:AV}{v:Value}(n:Nat)(h:RV w mu hw lk x v):RV w mu hw lk (shift n x) v:=by
 cases x with
 |tup vs=>
  cases h with
  |tup _ f h2=>
   have:=RV.tup (w:=w) (mu:=mu) (hw:=hw) (lk:=lk) (vs.map (am.shift1 n)) f (fun j a hj=>by
    simp only[List.getElem?_map,Option.map_eq_some_iff]at hj
    obtain⟨y,hy,rfl⟩:=hj
    exact(h2 j y hy).shift1 n)
   simpa[am.shift]using this
 |aggx vs=>
  cases h with
  |aggx _ f h2=>
   have:=RV.aggx (w:=w) (mu:=mu) (hw:=hw) (lk:=lk) (vs.map (am.shift1 n)) f (fun j a hj=>by
    simp only[List.getElem?_map,Option.map_eq_some_iff]at hj
    obtain⟨y,hy,rfl⟩:=hj
    exact(h2 j y hy).shift1 n)
   simpa[am.shift]using this
 |sl r sz es=>exact h.shift1 n
 |_=>exact h
theorem Flag1.shift1{lv lv':Live}{x:AV}{v:Value}(n:Nat)(h1:∀k o,lv (.fr k)=some o→lv' (.fr (n+k))=some o∧ti' (.fr (n+k))=ti (.fr k))(h2:∀i j o,lv (.bx i j)=some o→lv' (.bx i j)=some o∧ti' (.bx i j)=ti (.bx i j))
 (h:Flag1 lv ti x v):Flag1 lv' ti' (shift1 n x) v:=by
 cases x with
 |sl r sz es=>
  cases r with
  |fr k=>
   obtain⟨o,a,b⟩:=h
   obtain⟨c,d⟩:=h1 k o a
   exact⟨o,c,fun L e=>by rw[d];exact b L e⟩
  |bx i j=>
   obtain⟨o,a,b⟩:=h
   obtain⟨c,d⟩:=h2 i j o a
   exact⟨o,c,fun L e=>by rw[d];exact b L e⟩
  |_=>exact h
 |_=>exact h
theorem Flag.shift{lv lv':Live}{x:AV}{v:Value}(n:Nat)(h1:∀k o,lv (.fr k)=some o→lv' (.fr (n+k))=some o∧ti' (.fr (n+k))=ti (.fr k))(h2:∀i j o,lv (.bx i j)=some o→lv' (.bx i j)=some o∧ti' (.bx i j)=ti (.bx i j))
 (h:Flag lv ti x v):Flag lv' ti' (shift n x) v:=by
 cases x with
 |tup vs=>
  intro arr e j a y ha hy
  simp only[am.shift,List.getElem?_map,Option.map_eq_some_iff]at ha
  obtain⟨z,hz,rfl⟩:=ha
  exact(h arr e j z y hz hy).shift1 n h1 h2
 |aggx vs=>
  intro arr e j a y ha hy
  simp only[am.shift,List.getElem?_map,Option.map_eq_some_iff]at ha
  obtain⟨z,hz,rfl⟩:=ha
  exact(h arr e j z y hz hy).shift1 n h1 h2
 |sl r sz es=>
  have:=Flag1.shift1 (ti':=ti') (lv':=lv') n h1 h2 (show Flag1 lv ti (.sl r sz es) v from h)
  cases r<;>exact this
 |_=>trivial
structure LockUp(S S':St):Prop where
 len:S'.length=S.length
 get:∀(i:Nat),S'[i]? =S[i]?∨∃(cs:List AV)(bt:List (Option Nat))(l:Bool),S[i]? =some (Box.mem cs bt l)∧S'[i]? =some (Box.mem cs bt true)
theorem LockUp.refl(S:St):LockUp S S:=⟨rfl,fun _=>.inl rfl⟩
theorem LockUp.trans{S S' S'':St}(h:LockUp S S')(k:LockUp S' S''):LockUp S S'':=by
 refine⟨k.len.trans h.len,fun i=>?_⟩
 rcases k.get i with k1|⟨cs,bt,l,k1,k2⟩<;>rcases h.get i with h1|⟨cs0,bt0,l0,h1,h2⟩
 ·exact .inl (k1.trans h1)
 ·exact .inr ⟨cs0,bt0,l0,h1,k1.trans h2⟩
 ·exact .inr ⟨cs,bt,l,h1▸k1,k2⟩
 ·rw[h2]at k1;cases k1
  exact .inr ⟨cs,bt,l0,h1,k2⟩
theorem lockUp_one(S:St)(v:AV):LockUp S (lockOne S v):=by
 unfold lockOne
 split
 ·split
  ·rename_i i _ _ cs bt l h
   refine⟨by simp,fun k=>?_⟩
   by_cases hk:k=i
   ·subst hk;exact .inr ⟨cs,bt,l,h,by rw[List.getElem?_set_self (lt_of_get h)]⟩
   ·exact .inl (List.getElem?_set_ne fun e=>hk e.symm)
  ·exact LockUp.refl S
 ·exact LockUp.refl S
theorem lockUp_all:∀(l:List AV)(S:St),LockUp S (lockAll S l)
 |[],S=>LockUp.refl S
 |v::r,S=>(lockUp_one S v).trans (lockUp_all r _)
theorem LockUp.lk(h:LockUp S S'){b:Nat}(k:lkS S mu b):lkS S' mu b:=by
 obtain⟨i,cs,bt,h1,h2⟩:=k
 rcases h.get i with g|⟨cs0,bt0,l,g1,g2⟩
 ·exact⟨i,cs,bt,g.trans h1,h2⟩
 ·exact⟨i,cs0,bt0,g2,h2⟩
theorem LockUp.live(h:LockUp S S')(tips:List (Option Nat)):live tips S' mu=live tips S mu:=by
 funext id
 cases id with
 |fr n=>rfl
 |bx i j=>
  simp only[am.live]
  rcases h.get i with g|⟨cs0,bt0,l,g1,g2⟩
  ·rw[g]
  ·rw[g1,g2];cases mu i<;>rfl
theorem live_nil_bx(tips tips':List (Option Nat))(S:St)(mu:Nat→Option Nat)(i j:Nat):live tips S mu (.bx i j)=live tips' S mu (.bx i j):=rfl
theorem lock_has{a:AV}{i:Nat}(ha:boxOf a=some i):∀(l:List AV)(S:St)(cs:List AV)(bt:List (Option Nat))(b:Bool),a∈l→S[i]? =some (.mem cs bt b)→(lockAll S l)[i]? =some (.mem cs bt true):=by
 intro l
 induction l with
 |nil=>intro S cs bt b h;simp at h
 |cons v l ih=>
  intro S cs bt b h hS
  simp only[lockAll]
  have up:=lockUp_one S v
  have hb:∃b',(lockOne S v)[i]? =some (.mem cs bt b')∧(a=v→b'=true):=by
   rcases up.get i with g|⟨cs0,bt0,l0,g1,g2⟩
   ·refine⟨b,g.trans hS,fun e=>?_⟩
    subst e
    have:(lockOne S a)[i]? =some (.mem cs bt true):=by
     simp only[lockOne,ha,hS]
     rw[List.getElem?_set_self (lt_of_get hS)]
    rw[g,hS]at this
    cases this;rfl
   ·rw[hS]at g1;cases g1
    exact⟨true,g2,fun _=>rfl⟩
  obtain⟨b',hb',hb2⟩:=hb
  by_cases hm:a∈l
  ·exact ih _ cs bt b' hm hb'
  ·simp only[List.mem_cons]at h
   have e:=h.resolve_right hm
   have hbt:=hb2 e
   subst hbt
   rcases(lockUp_all l (lockOne S v)).get i with g|⟨cs0,bt0,l0,g1,g2⟩
   ·exact g.trans hb'
   ·rw[hb']at g1;cases g1;exact g2
def guarded(prot:Nat→Prop)(tips:List (Option Nat))(ti:Id→TI)(b:Nat):Prop:=prot b∨∃n L,tips[n]? =some (some L)∧(ti (.fr n)).b=b
theorem inv_enter(I:Inv base prot tips S w mu hw ti)(h:LockUp S S'):Inv base (guarded prot tips ti) [] S' w mu hw ti:=by
 have hl0:∀id o,live [] S' mu id=some o→live tips S mu id=some o∧∃i j,id=.bx i j:=by
  intro id o hid
  rw[h.live]at hid
  cases id with
  |fr n=>simp[live]at hid
  |bx i j=>exact⟨hid,i,j,rfl⟩
 have mono:∀a v,RV w mu hw (lkS S mu) a v→RV w mu hw (lkS S' mu) a v:=fun a v r=>r.mono (fun _ _ h=>h) (fun _ _ h=>h) (fun _ k=>h.lk k) (fun _ _ _ _ h=>h)
 refine⟨fun i bx b h1 h2=>?_,fun i cells bt l b h1 h2 vs el h3 j x y hx hy=>?_,I.iinj,fun i b hi=>?_,I.iout,fun id L hid=>?_,fun id id' L L' h1 h2 hb=>?_,fun b hb=>?_,I.ibase,I.iglb⟩
 ·rcases h.get i with g|⟨cs0,bt0,l,g1,g2⟩
  ·have:=I.ibox i bx b (g▸h1) h2
   cases bx with
   |mem cells bt l=>
    obtain⟨vs,el,p,q⟩:=this
    exact⟨vs,el,p,q.1,fun j x hj=>by obtain⟨a,y,b,c⟩:=q.2 j x hj;exact⟨a,y,b,mono _ _ c⟩⟩
   |iter s pos=>exact this
   |map es=>
    obtain⟨ms,clock,a1,a2,a3⟩:=this
    exact⟨ms,clock,a1,a2,fun j k v m hj hm=>by obtain⟨a,b,c⟩:=a3 j k v m hj hm;exact⟨mono _ _ a,b,mono _ _ c⟩⟩
  ·rw[g2]at h1
   cases h1
   obtain⟨vs,el,p,q⟩:=I.ibox i _ b g1 h2
   exact⟨vs,el,p,q.1,fun j x hj=>by obtain⟨a,y,b,c⟩:=q.2 j x hj;exact⟨a,y,b,mono _ _ c⟩⟩
 ·have:∃bt0 l0,S[i]? =some (.mem cells bt0 l0):=by
   rcases h.get i with g|⟨cs0,bt0,l,g1,g2⟩
   ·exact⟨bt,l,g▸h1⟩
   ·rw[g2]at h1;cases h1;exact⟨_,_,g1⟩
  obtain⟨bt0,l0,hS⟩:=this
  obtain⟨p,q⟩:=I.iflag i cells bt0 l0 b hS h2 vs el h3 j x y hx hy
  refine⟨p, ?_⟩
  cases x with
  |sl r sz es=>
   cases r with
   |fr n=>simp[noFr]at p
   |fresh=>simp[noFr]at p
   |bx i' j'=>
    obtain⟨o,a,b⟩:=q
    exact⟨o,by rw[h.live];exact a,b⟩
   |_=>exact q
  |tup vs=>exact q
  |_=>trivial
 ·obtain⟨a,b',c,d,e⟩:=I.idom i b hi
  refine⟨by rw[h.len];exact a,b',c,d, ?_⟩
  rintro(hp|⟨n,L,hn,rfl⟩)
  ·exact e hp
  ·exact(I.itip (.fr n) L hn).2.2 i hi
 ·obtain⟨h1,i,j,rfl⟩:=hl0 id _ hid
  obtain⟨a,b,c⟩:=I.itip _ L h1
  refine⟨a, ?_,c⟩
  rintro(hp|⟨n,L',hn,hb⟩)
  ·exact b hp
  ·have:=I.itinj (.fr n) (.bx i j) _ _ hn h1 hb
   cases this
 ·exact I.itinj id id' L L' (hl0 id _ h1).1 (hl0 id' _ h2).1 hb
 ·rcases hb with hp|⟨n,L,hn,rfl⟩
  ·exact I.iprot b hp
  ·exact(I.itip (.fr n) L hn).1.lt
theorem mapM_opt{α β:Type}(f:α→Option β):∀(l:List α)(r:List β),l.mapM f=some r→r.length=l.length∧∀(j:Nat)(y:β),r[j]? =some y→∃x,l[j]? =some x∧f x=some y:=by
 intro l
 induction l with
 |nil=>intro r h;simp at h;subst h;simp
 |cons a l ih=>
  intro r h
  simp only[List.mapM_cons,Option.bind_eq_bind,Option.bind_eq_some_iff,Option.pure_def,Option.some.injEq]at h
  obtain⟨b,hb,r',hr,rfl⟩:=h
  obtain⟨h1,h2⟩:=ih r' hr
  refine⟨by simp[h1],fun j y hj=>?_⟩
  cases j with
  |zero=>simp at hj;subst hj;exact⟨a,rfl,hb⟩
  |succ j=>simpa using h2 j y (by simpa using hj)
theorem lock_other{i:Nat}:∀(l:List AV)(S:St),(∀a∈l,boxOf a≠some i)→(lockAll S l)[i]? =S[i]? :=by
 intro l
 induction l with
 |nil=>intro S _;rfl
 |cons v l ih=>
  intro S h
  simp only[lockAll]
  rw[ih _ fun a hm=>h a (by simp[hm])]
  unfold lockOne
  split
  ·rename_i k hk
   have hk:k≠i:=fun e=>h v (by simp) (by rw[hk,e])
   split
   ·exact List.getElem?_set_ne hk
   ·rfl
  ·rfl
theorem unlock_other{S₀:St}{i:Nat}:∀(l:List AV)(S:St),(∀a∈l,boxOf a≠some i)→(unlockAll S₀ S l)[i]? =S[i]? :=by
 intro l
 induction l with
 |nil=>intro S _;rfl
 |cons v l ih=>
  intro S h
  simp only[unlockAll]
  rw[ih _ fun a hm=>h a (by simp[hm])]
  unfold unlockOne
  split
  ·rename_i k hk
   have hk:k≠i:=fun e=>h v (by simp) (by rw[hk,e])
   split
   ·exact List.getElem?_set_ne hk
   ·rfl
  ·rfl
structure Dn(S₀ S S':St):Prop where
 len:S'.length=S.length
 get:∀(i:Nat),S'[i]? =S[i]?∨∃(cs cs0:List AV)(bt bt0:List (Option Nat))(l b:Bool),S[i]? =some (Box.mem cs bt l)∧S₀[i]? =some (Box.mem cs0 bt0 b)∧S'[i]? =some (Box.mem cs bt b)
theorem Dn.refl(S₀ S:St):Dn S₀ S S:=⟨rfl,fun _=>.inl rfl⟩
theorem Dn.trans{S₀ S S' S'':St}(h:Dn S₀ S S')(k:Dn S₀ S' S''):Dn S₀ S S'':=by
 refine⟨k.len.trans h.len,fun i=>?_⟩
 rcases k.get i with k1|⟨cs,cs0,bt,bt0,l,b,k1,k2,k3⟩<;>rcases h.get i with h1|⟨cs',cs0',bt',bt0',l',b',h1,h2,h3⟩
 ·exact .inl (k1.trans h1)
 ·exact .inr ⟨cs',cs0',bt',bt0',l',b',h1,h2,k1.trans h3⟩
 ·exact .inr ⟨cs,cs0,bt,bt0,l,b,h1▸k1,k2,k3⟩
 ·rw[h3]at k1;cases k1
  exact .inr ⟨cs,cs0,bt,bt0,l',b,h1,k2,k3⟩
theorem dn_one(S₀ S:St)(v:AV):Dn S₀ S (unlockOne S₀ S v):=by
 unfold unlockOne
 split
 ·split
  ·rename_i i _ _ _ cs0 bt0 b cs bt l h0 h
   refine⟨by simp,fun k=>?_⟩
   by_cases hk:k=i
   ·subst hk;exact .inr ⟨cs,cs0,bt,bt0,l,b,h,h0,by rw[List.getElem?_set_self (lt_of_get h)]⟩
   ·exact .inl (List.getElem?_set_ne fun e=>hk e.symm)
  ·exact Dn.refl _ _
 ·exact Dn.refl _ _
theorem dn_all(S₀:St):∀(l:List AV)(S:St),Dn S₀ S (unlockAll S₀ S l)
 |[],S=>Dn.refl _ _
 |v::r,S=>(dn_one S₀ S v).trans (dn_all S₀ r _)
theorem RV.lt_of{lk:Nat→Prop}{m:Nat}{q:Nat→Bool}(hm:∀i b,mu i=some b→i<m)(hq:∀i b,mu i=some b→lk b→q i=true){a:AV}{v:Value}(h:RV w mu hw lk a v):lt m q a=true:=by
 have idx:∀(l:List AV),(∀(j:Nat)(x:AV),l[j]? =some x→lt m q x=true)→ltL m q l=true:=by
  intro l hl
  rw[ltL_iff]
  intro x hx
  obtain⟨j,hj⟩:=List.getElem?_of_mem hx
  exact hl j x hj
 induction h with
 |ptr i off b h=>simp[lt,hm i b h]
 |rptr r cs off b o f hr h1 h2 ih=>
  have hcs:=idx cs fun j x hj=>ih j x hj
  rcases hr with rfl|⟨k,rfl,h3,h4⟩
  ·simp[lt,rlt,hcs]
  ·simp[lt,rlt,hcs,hm k b h3,hq k b h3 h4]
 |sl r sz es b o len cap f h0 hr hb hl hs h1 h2 ih=>
  have hes:ltEs m q es=true:=by
   rw[ltEs_iff]
   intro l hl
   obtain⟨i,hi⟩:=List.getElem?_of_mem hl
   exact idx l fun j x hj=>ih i l j x hi hj
  cases r with
  |loan k=>simp[lt,rlt,hes,hm k b (hl k rfl).1,hq k b (hl k rfl).1 (hl k rfl).2]
  |bx k l=>
   obtain⟨b',hb'⟩:=hb k l rfl
   simp[lt,rlt,hes,hm k b' hb']
  |_=>simp[lt,rlt,hes]
 |emp sz p cap=>simp[lt,rlt,ltEs]
 |emp0 sz p=>simp[lt,rlt,ltEs]
 |oref i off len sz b cap h h0=>simp[lt,hm i b h]
 |aref i off len cap sz b h h0=>simp[lt,hm i b h]
 |fn g first caps f1 f2 n1 n2 ih1 ih2=>simp[lt,idx first fun j x hj=>ih1 j x hj,idx caps fun j x hj=>ih2 j x hj]
 |mref i b h=>simp[lt,hm i b h]
 |ifc t a v h1 h ih=>simpa[lt]using ih
 |agg cs f h1 h2 ih=>simpa[lt]using idx cs fun j x hj=>ih j x hj
 |aggx vs f h2 ih=>simpa[lt]using idx vs fun j x hj=>ih j x hj
 |tup vs f h2 ih=>simpa[lt]using idx vs fun j x hj=>ih j x hj
 |_=>simp[lt]
end
end
section
section
variable{P:Program}{base:Nat}{prot:Nat→Prop}{tips tips':List (Option Nat)}{S S':St}{w w':World}{mu:Nat→Option Nat}{hw hw':Nat→Nat}{ti ti':Id→TI}
theorem fine_lt{r:AV}{m:Nat}{q:Nat→Bool}(h:fineRes m q r=true):lt m q (takeRet [] r).1=true:=by
 have one:∀(v:AV)(u:List (Option Nat)),fine1 m q v=true→lt m q (takeRes u v).1=true:=by
  intro v u hv
  cases v with
  |sl r sz es=>
   cases r with
   |fresh=>simpa[takeRes,lt,rlt,fine1]using hv
   |fr k=>simp[fine1]at hv
   |_=>exact hv
  |tup vs=>simp[fine1]at hv
  |aggx vs=>simp[fine1]at hv
  |_=>exact hv
 have all:∀(vs:List AV)(u:List (Option Nat)),(∀v∈vs,fine1 m q v=true)→ltL m q (takeResL u vs).1=true:=by
  intro vs
  induction vs with
  |nil=>intro u _;simp[takeResL,ltL]
  |cons v vs ih=>
   intro u hv
   simp only[takeResL,ltL,Bool.and_eq_true]
   exact⟨one v u (hv v (by simp)),ih _ fun x hx=>hv x (by simp[hx])⟩
 cases r with
 |tup vs=>
  simp only[fineRes,List.all_eq_true]at h
  simpa[takeRet,lt]using all vs [] h
 |sl rr sz es=>exact one (.sl rr sz es) [] h
 |undef=>exact one .undef [] h
 |bool b=>exact one (.bool b) [] h
 |int k n=>exact one (.int k n) [] h
 |str s=>exact one (.str s) [] h
 |nilp=>exact one .nilp [] h
 |ptr i o=>exact one (.ptr i o) [] h
 |rptr r cs o=>exact one (.rptr r cs o) [] h
 |nils=>exact one .nils [] h
 |aref i o l c z=>exact one (.aref i o l c z) [] h
 |oref i o l z=>exact one (.oref i o l z) [] h
 |fn f a b=>exact one (.fn f a b) [] h
 |nilfn=>exact one .nilfn [] h
 |ifc t v=>exact one (.ifc t v) [] h
 |nili=>exact one .nili [] h
 |nilm=>exact one .nilm [] h
 |mref i=>exact one (.mref i) [] h
 |agg cs=>exact one (.agg cs) [] h
 |aggx cs=>exact one (.aggx cs) [] h
theorem loan_rv(I:Inv base prot tips S w mu hw ti){lk:Nat→Prop}{i off len cap sz b:Nat}{cs:List AV}{bt:List (Option Nat)}{l:Bool}(hS:S[i]? =some (.mem cs bt l))(hc:off+len*sz≤cs.length∧sz≠0)(hb:mu i=some b)(h0:len≤cap)
 (hlk:lk b) (mono:∀a v,RV w mu hw (lkS S mu) a v→RV w mu hw lk a v):
 RV w mu hw lk (.sl (.loan i) sz ((List.range len).map fun k=>(sub cs (off+k*sz) sz).map strip)) (.slice (some ⟨b,off,none⟩) len cap):=by
 obtain⟨vs,el,hvs,hrb⟩:=I.ibox i _ b hS hb
 have get:∀(i':Nat)(c:List AV),((List.range len).map fun k=>(sub cs (off+k*sz) sz).map strip)[i']? =some c→i'<len∧c=(sub cs (off+i'*sz) sz).map strip∧off+i'*sz+sz≤cs.length:=by
  intro i' c hi
  have hlt:i'<len:=by have:=lt_of_get hi;simpa using this
  simp[hlt]at hi
  have:(i'+1)*sz≤len*sz:=Nat.mul_le_mul_right sz hlt
  rw[Nat.add_mul]at this
  exact⟨hlt,hi.symm,by omega⟩
 have elem:∀(i':Nat)(c:List AV)(j:Nat)(x:AV),((List.range len).map fun k=>(sub cs (off+k*sz) sz).map strip)[i']? =some c→c[j]? =some x→
  nf x=true∧w.cell? ⟨b,off+i'*sz+j,none⟩=some (vs.getD (off+i'*sz+j) undef)∧RV w mu hw (lkS S mu) x (vs.getD (off+i'*sz+j) undef):=by
  intro i' c j x hi hj
  obtain⟨g1,rfl,g3⟩:=get i' c hi
  obtain⟨p,y,hy,hr⟩:=(hrb.subrl (off+i'*sz) sz g3).2 j x hj
  have hjl:j<sz:=by have:=lt_of_get hj;simp[sub]at this;omega
  have hy':vs[off+i'*sz+j]? =some y:=by
   rw[Array.getElem?_extract]at hy
   split at hy
   ·exact hy
   ·cases hy
  refine⟨p, ?_, ?_⟩
  ·rw[cell_of_block hvs,hy'];simp[Array.getD_eq_getD_getElem?,hy']
  ·simpa[Array.getD_eq_getD_getElem?,hy']using hr
 refine .sl (.loan i) sz _ b off len cap (fun i' j=>vs.getD (off+i'*sz+j) undef) ⟨by simp,h0,hc.2⟩ (by simp) (by simp) (fun k e=>by cases e;exact⟨hb,hlk⟩) (fun i' c hi=>?_) (fun i' c j x hi hj=>?_) (fun i' c j x hi hj=>mono _ _ (elem i' c j x hi hj).2.2)
 ·obtain⟨g1,rfl,g3⟩:=get i' c hi
  simp[sub];omega
 ·obtain⟨e1,e2,_⟩:=elem i' c j x hi hj
  exact⟨e1,⟨hb,hlk⟩,e2⟩
theorem arg_sound(I:Inv base prot tips S w mu hw ti){args:List AV}{a a':AV}{v:Value}(hin:a∈args)(h:RV w mu hw (lkS S mu) a v)(hg:giveArg S a=some a'):
 RV w mu hw (lkS (lockAll S args) mu) a' v∧∀lv ti,Flag lv ti a' v:=by
 have up:=lockUp_all args S
 have mono:∀a v,RV w mu hw (lkS S mu) a v→RV w mu hw (lkS (lockAll S args) mu) a v:=fun a v r=>r.mono (fun _ _ h=>h) (fun _ _ h=>h) (fun _ k=>up.lk k) (fun _ _ _ _ h=>h)
 have other:boxOf a=none→giveArg S a=some a'→a'=strip a∧(∀vs,a≠.tup vs)∧(∀sz es,a≠.sl .fresh sz es)∧∀vs,a≠.aggx vs:=by
  intro h1 h2
  unfold giveArg at h2
  split at h2
  ·simp[boxOf]at h1
  ·simp[boxOf]at h1
  ·simp at h2
  ·simp at h2
  ·simp at h2
  ·rename_i g1 g2 g3 g4 g5
   simp at h2
   exact⟨h2.symm,fun vs e=>g4 vs e,fun sz es e=>g3 sz es e,fun vs e=>g5 vs e⟩
 have box:∀{i off len cap sz:Nat}{es:List (List AV)},boxOf a=some i→(match S[i]? with
  |some (.mem cs _ _)=>if off+len*sz≤cs.length∧sz≠0 then some (sz,(List.range len).map fun k=>(sub cs (off+k*sz) sz).map strip)else none
  |_=>none)=some (sz,es)→(∃b cap,mu i=some b∧v=.slice (some ⟨b,off,none⟩) len cap∧len≤cap)→RV w mu hw (lkS (lockAll S args) mu) (.sl (.loan i) sz es) v:=by
  intro i off len cap sz es hbx hes hv
  split at hes
  case h_2=>simp at hes
  rename_i cs bt l hS
  split at hes
  case isFalse=>simp at hes
  rename_i hc
  simp at hes
  subst hes
  obtain⟨b,cap,hb,rfl,h0⟩:=hv
  exact loan_rv I hS hc hb h0 ⟨i,cs,bt,lock_has hbx args S cs bt l hin hS,hb⟩ mono
 cases hbx:boxOf a with
 |none=>
  obtain⟨rfl,ht,hf,hx⟩:=other hbx hg
  refine⟨mono _ _ h.strip,fun lv ti=>?_⟩
  cases a with
  |tup vs=>exact absurd rfl (ht vs)
  |aggx vs=>exact absurd rfl (hx vs)
  |sl r sz es=>cases r<;>first|exact absurd rfl (hf _ _)|trivial
  |_=>trivial
 |some i=>
  cases a with
  |aref i' off len cap sz=>
   simp only[giveArg,Option.map_eq_some_iff]at hg
   obtain⟨⟨z,es⟩,hes,rfl⟩:=hg
   have hz:z=sz:=by
    simp only[elemsOf]at hes
    split at hes
    ·split at hes
     ·simp at hes;exact hes.1.symm
     ·simp at hes
    ·simp at hes
   subst hz
   refine⟨box (i:=i') (cap:=cap) rfl hes ?_,fun lv ti=>by simp[Flag,Flag1]⟩
   cases h with
   |aref _ _ _ _ _ b hb h0=>exact⟨b,_,hb,rfl,h0.1⟩
  |oref i' off len sz=>
   simp only[giveArg,Option.map_eq_some_iff]at hg
   obtain⟨⟨z,es⟩,hes,rfl⟩:=hg
   have hz:z=sz:=by
    simp only[elemsOf]at hes
    split at hes
    ·split at hes
     ·simp at hes;exact hes.1.symm
     ·simp at hes
    ·simp at hes
   subst hz
   refine⟨box (i:=i') (cap:=0) rfl hes ?_,fun lv ti=>by simp[Flag,Flag1]⟩
   cases h with
   |oref _ _ _ _ b cap hb h0=>exact⟨b,_,hb,rfl,h0.1⟩
  |_=>simp[boxOf]at hbx
theorem raw_sound{lk:Nat→Prop}{a a':AV}{v:Value}(h:RV w mu hw lk a v)(hg:rawArg a=some a'):RV w mu hw lk a' v∧∀lv ti,Flag lv ti a' v:=by
 unfold rawArg at hg
 split at hg
 ·simp at hg
 ·simp at hg
 ·simp at hg
 ·rename_i g1 g2 g3
  simp at hg;subst hg
  refine⟨h.strip,fun lv ti=>?_⟩
  cases a with
  |tup vs=>exact absurd rfl (g2 vs)
  |aggx vs=>exact absurd rfl (g3 vs)
  |sl r sz es=>cases r<;>first|exact absurd rfl (g1 _ _)|trivial
  |_=>trivial
def lockedIn(S:St)(i:Nat):Bool:=
 match S[i]? with
 |some (.mem _ _ true)=>true
 |_=>false
mutual
theorem lt_mono{m m':Nat}{q q':Nat→Bool}(hm:m≤m')(hq:∀k,k<m→q k=true→q' k=true):∀(a:AV),lt m q a=true→lt m' q' a=true
 |.ptr i o,h=>by simp only[lt,decide_eq_true_eq]at h⊢;omega
 |.rptr r cs o,h=>by
  simp only[lt,Bool.and_eq_true]at h⊢
  exact⟨rlt_mono hm hq r h.1,ltL_mono hm hq cs h.2⟩
 |.sl r sz es,h=>by
  simp only[lt,Bool.and_eq_true]at h⊢
  exact⟨rlt_mono hm hq r h.1,ltEs_mono hm hq es h.2⟩
 |.aref i o l c z,h=>by simp only[lt,decide_eq_true_eq]at h⊢;omega
 |.oref i o l z,h=>by simp only[lt,decide_eq_true_eq]at h⊢;omega
 |.fn f a b,h=>by
  simp only[lt,Bool.and_eq_true]at h⊢
  exact⟨ltL_mono hm hq a h.1,ltL_mono hm hq b h.2⟩
 |.ifc t v,h=>by simp only[lt]at h⊢;exact lt_mono hm hq v h
 |.agg cs,h=>by simp only[lt]at h⊢;exact ltL_mono hm hq cs h
 |.tup cs,h=>by simp only[lt]at h⊢;exact ltL_mono hm hq cs h
 |.aggx cs,h=>by simp only[lt]at h⊢;exact ltL_mono hm hq cs h
 |.undef,_=>rfl
 |.bool _,_=>rfl
 |.int _ _,_=>rfl
 |.str _,_=>rfl
 |.nilp,_=>rfl
 |.nils,_=>rfl
 |.nilfn,_=>rfl
 |.nilm,_=>rfl
 |.mref i,h=>by simp only[lt,decide_eq_true_eq]at h⊢;omega
 |.nili,_=>rfl
theorem ltL_mono{m m':Nat}{q q':Nat→Bool}(hm:m≤m')(hq:∀k,k<m→q k=true→q' k=true):∀(l:List AV),ltL m q l=true→ltL m' q' l=true
 |[],_=>rfl
 |v::r,h=>by simp only[ltL,Bool.and_eq_true]at h⊢;exact⟨lt_mono hm hq v h.1,ltL_mono hm hq r h.2⟩
theorem ltEs_mono{m m':Nat}{q q':Nat→Bool}(hm:m≤m')(hq:∀k,k<m→q k=true→q' k=true):∀(l:List (List AV)),ltEs m q l=true→ltEs m' q' l=true
 |[],_=>rfl
 |v::r,h=>by simp only[ltEs,Bool.and_eq_true]at h⊢;exact⟨ltL_mono hm hq v h.1,ltEs_mono hm hq r h.2⟩
theorem rlt_mono{m m':Nat}{q q':Nat→Bool}(hm:m≤m')(hq:∀k,k<m→q k=true→q' k=true):∀(r:Right),rlt m q r=true→rlt m' q' r=true
 |.bx i j,h=>by simp only[rlt,decide_eq_true_eq]at h⊢;omega
 |.loan i,h=>by
  simp only[rlt,Bool.and_eq_true,decide_eq_true_eq]at h⊢
  exact⟨by omega,hq i h.1 h.2⟩
 |.none,_=>rfl
 |.exact,_=>rfl
 |.fresh,_=>rfl
 |.fr _,_=>rfl
end
theorem call_step(I:Inv base prot tips S w mu hw ti){SL S'':St}{r:AV}{e:Ending}(up:LockUp S SL)(dn:Dn S S' S'')(hhole:∀i,mu i=none→SL[i]? =S[i]?∧S''[i]? =S'[i]?)(hsame:SameC S SL)
 (hlen:SL.length≤S'.length) (hpl:fineRes S'.length (fun k=>decide (SL.length≤k)) r=true) (hk:Keeps SL.length SL S') (hnew:NewOK SL.length S') (A:After P base (guarded prot tips ti) SL w mu hw ti r S' e w'):
 ∃v,e=.returned v∧Step base prot tips S w mu hw ti (takeRet tips r).2 S'' w' (takeRet tips r).1 v:=by
 obtain⟨v,rfl,mu',hw',ti',J,e,lv,rv,fl,hole⟩:=A
 refine⟨v,rfl, ?_⟩
 have hlen1:S.length≤S'.length:=by rw[←up.len];exact hlen
 rw[up.len]at hpl hk hnew
 rw[takeRet_shift tips r hpl]
 have hmu:∀i b,i<S.length→mu' i=some b→mu i=some b:=by
  intro i b hi h
  cases hm:mu i with
  |none=>rw[(hole i hm (by rw[up.len];exact hi)).2]at h;cases h
  |some b'=>rw[e.emu i b' hm]at h;exact h
 have lkup:∀b,lkS S'' mu' b→lkS S' mu' b:=by
  rintro b ⟨i,cs,bt,h1,h2⟩
  rcases dn.get i with g|⟨c,c0,t,t0,l,b0,g1,g2,g3⟩
  ·exact⟨i,cs,bt,g▸h1,h2⟩
  ·rw[g3]at h1
   cases h1
   exact e.elk b (up.lk ⟨i,c0,t0,g2,hmu i b (lt_of_get g2) h2⟩)
 have lkdn:∀i b,(lockedIn S i||decide (S.length≤i))=true→mu' i=some b→lkS S' mu' b→lkS S'' mu' b:=by
  rintro i b hq hm ⟨i',cs,bt,h1,h2⟩
  have:=J.iinj i' i b h2 hm
  subst this
  rcases dn.get i' with g|⟨c,c0,t,t0,l,b0,g1,g2,g3⟩
  ·exact⟨i',cs,bt,g.trans h1,h2⟩
  ·have hlt:=lt_of_get g2
   have hq:lockedIn S i'=true:=by
    simp only[Bool.or_eq_true,decide_eq_true_eq]at hq
    exact hq.resolve_right (by omega)
   simp only[lockedIn,g2]at hq
   have:b0=true:=by cases b0<;>simp_all
   subst this
   exact⟨i',c,t,g3,h2⟩
 have lkS1:∀b,lkS S mu b→lkS S'' mu' b:=by
  intro b hb
  obtain⟨i,cs,bt,h1,h2⟩:=hb
  exact lkdn i b (by simp[lockedIn,h1]) (e.emu i b h2) (e.elk b (up.lk ⟨i,cs,bt,h1,h2⟩))
 have old0:OldOK (fun i=>∃b,mu i=some b) S.length (lockedIn S) S:=by
  intro i bx hi ⟨b,hb⟩ hS
  rw[ltL_iff]
  intro x hx
  obtain⟨y,hr⟩:=boxR_cs (I.ibox i _ b hS hb) x hx
  refine hr.lt_of (fun i b h=>(I.idom i b h).1) (fun i b h hl=>?_)
  obtain⟨i',cs',bt',h1,h2⟩:=hl
  have:=I.iinj i' i b h2 h
  subst this
  simp[lockedIn,h1]
 have old1:OldOK (fun i=>∃b,mu i=some b) S.length (lockedIn S) S':=hk.old _ _ _ (Nat.le_refl _) (hsame.old old0)
 have cellsOK:∀(i:Nat)(bx:Box)(b:Nat),S'[i]? =some bx→mu' i=some b→ltL S'.length (fun k=>lockedIn S k||decide (S.length≤k)) bx.cs=true:=by
  intro i bx b hS hm
  rcases Nat.lt_or_ge i S.length with hi|hi
  ·exact ltL_mono hlen1 (fun k _ h=>by simp[h]) bx.cs (old1 i bx hi ⟨b,hmu i b hi hm⟩ hS)
  ·exact ltL_mono (Nat.le_refl _) (fun k _ h=>by simp only[decide_eq_true_eq]at h;simp[h]) bx.cs (hnew i bx hi hS)
 have restr:∀x y,lt S'.length (fun k=>lockedIn S k||decide (S.length≤k)) x=true→RV w' mu' hw' (lkS S' mu') x y→RV w' mu' hw' (lkS S'' mu') x y:=
  fun x y hl hr=>hr.restrict (fun _ _ _ h=>h) (fun i b _ hq hm hb=>lkdn i b hq hm hb) hl
 have same:∀(i:Nat)(bx:Box),S''[i]? =some bx→∃bx':Box,S'[i]? =some bx'∧(bx'=bx∨∃(cs:List AV)(bt:List (Option Nat))(l l':Bool),bx'=Box.mem cs bt l∧bx=Box.mem cs bt l'):=by
  intro i bx h
  rcases dn.get i with g|⟨c,c0,t,t0,l,b0,g1,g2,g3⟩
  ·exact⟨bx,g▸h,.inl rfl⟩
  ·rw[g3]at h;cases h
   exact⟨_,g1,.inr ⟨c,t,l,b0,rfl,rfl⟩⟩
 have livebx:∀t i j,live t S'' mu' (.bx i j)=live (takeRet [] r).2 S' mu' (.bx i j):=by
  intro t i j
  simp only[live]
  rcases dn.get i with g|⟨c,c0,t,t0,l,b0,g1,g2,g3⟩
  ·rw[g]
  ·rw[g1,g3];cases mu' i<;>rfl
 let ti2:Id→TI:=fun id=>match id with
  |.fr n=>if n<tips.length then ti (.fr n)else ti' (.fr (n -tips.length))
  |.bx i j=>ti' (.bx i j)
 have lvold:∀n,n<tips.length→live (tips++(takeRet [] r).2) S'' mu' (.fr n)=tips[n]? :=by
  intro n hn
  simp only[live]
  rw[List.getElem?_append_left hn]
 have lvnew:∀n,¬n<tips.length→live (tips++(takeRet [] r).2) S'' mu' (.fr n)=live (takeRet [] r).2 S' mu' (.fr (n -tips.length)):=by
  intro n hn
  simp only[live]
  rw[List.getElem?_append_right (by omega)]
 have E:Ext base prot S w mu hw S'' w' mu' hw':=by
  refine⟨e.emu,e.ehw,lkS1,fun b o v hc h=>e.ecell b o v (hc.imp id fun k=>up.lk k) h,fun b h=>e.eprot b (.inl h),e.ebelow, ?_⟩
  rw[dn.len]
  exact hlen1
 have LV:LvExt (live tips S mu) ti (live (tips++(takeRet [] r).2) S'' mu') ti2:=by
  intro id o ho
  cases id with
  |fr n=>
   have hn:n<tips.length:=lt_of_get (show tips[n]? =some o from ho)
   exact⟨o,(lvold n hn).trans ho,fun L' e=>⟨L',e,.inl ⟨rfl,by simp[ti2,hn]⟩⟩⟩
  |bx i j=>
   have ho':live [] SL mu (.bx i j)=some o:=by
    rw[up.live];exact ho
   obtain⟨o',h1,h2⟩:=lv _ o ho'
   exact⟨o',by rw[livebx];exact h1,h2⟩
 have kind:∀id L,live (tips++(takeRet [] r).2) S'' mu' id=some (some L)→(∃n,id=.fr n∧n<tips.length∧tips[n]? =some (some L)∧ti2 id=ti (.fr n))∨
  (∃id',live (takeRet [] r).2 S' mu' id'=some (some L)∧ti2 id=ti' id'∧((∃i j,id=.bx i j∧id'=.bx i j)∨∃n,id=.fr (tips.length+n)∧id'=.fr n)):=by
  intro id L h
  cases id with
  |fr n=>
   by_cases hn:n<tips.length
   ·rw[lvold n hn]at h
    exact .inl ⟨n,rfl,hn,h,by simp[ti2,hn]⟩
   ·rw[lvnew n hn]at h
    exact .inr ⟨_,h,by simp[ti2,hn],.inr ⟨n -tips.length,by congr 1;omega,rfl⟩⟩
  |bx i j=>
   rw[livebx]at h
   exact .inr ⟨_,h,rfl,.inl ⟨i,j,rfl,rfl⟩⟩
 refine⟨mu',hw',ti2,⟨fun i bx b h1 h2=>?_,fun i cells bt l b h1 h2 vs el h3 j x y hx hy=>?_,J.iinj,fun i b hi=>?_,J.iout,fun id L hid=>?_,fun id id' L L' h1 h2 hb=>?_,fun b hb=>J.iprot b (.inl hb),J.ibase,J.iglb⟩,E,LV, ?_, ?_,fun i hi hlt=>⟨?_, ?_⟩⟩
 ·obtain⟨bx',g1,g2⟩:=same i bx h1
  have hb:=J.ibox i bx' b g1 h2
  rcases g2 with rfl|⟨cs,bt,l,l',rfl,rfl⟩
  ·cases bx' with
   |mem cs bt l=>
    obtain⟨vs,el,p,q⟩:=hb
    exact⟨vs,el,p,q.1,fun j x hj=>by
     obtain⟨a,y,c,d⟩:=q.2 j x hj
     exact⟨a,y,c,restr x y (ltL_get (show ltL _ _ cs=true from cellsOK i _ b g1 h2) hj) d⟩⟩
   |iter s pos=>exact hb
   |map es=>
    obtain⟨ms,clock,a1,a2,a3⟩:=hb
    have hl:=ltL_iff.1 (cellsOK i _ b g1 h2)
    exact⟨ms,clock,a1,a2,fun j k v m hj hm=>by
     obtain⟨c1,c2,c3⟩:=a3 j k v m hj hm
     have hmem:=List.mem_of_getElem? hj
     exact⟨restr _ _ (hl k (List.mem_flatMap.2 ⟨_,hmem,by simp⟩)) c1,c2,restr _ _ (hl v (List.mem_flatMap.2 ⟨_,hmem,by simp⟩)) c3⟩⟩
  ·obtain⟨vs,el,p,q⟩:=hb
   exact⟨vs,el,p,q.1,fun j x hj=>by
    obtain⟨a,y,c,d⟩:=q.2 j x hj
    exact⟨a,y,c,restr x y (ltL_get (show ltL _ _ cs=true from cellsOK i _ b g1 h2) hj) d⟩⟩
 ·have:∃l0,S'[i]? =some (.mem cells bt l0):=by
   obtain⟨bx',g1,g2⟩:=same i _ h1
   rcases g2 with rfl|⟨cs,bt',l0,l',rfl,h⟩
   ·exact⟨_,g1⟩
   ·cases h;exact⟨_,g1⟩
  obtain⟨l0,hS⟩:=this
  obtain⟨p,q⟩:=J.iflag i cells bt l0 b hS h2 vs el h3 j x y hx hy
  refine⟨p, ?_⟩
  cases x with
  |sl rr sz es=>
   cases rr with
   |fr n=>simp[noFr]at p
   |fresh=>simp[noFr]at p
   |bx i' j'=>
    obtain⟨o,a,b⟩:=q
    exact⟨o,by rw[livebx];exact a,b⟩
   |_=>exact q
  |tup vs=>exact q
  |_=>trivial
 ·obtain⟨a,b',c,d,f⟩:=J.idom i b hi
  exact⟨by rw[dn.len];exact a,b',c,d,fun h=>f (.inl h)⟩
 ·rcases kind id L hid with⟨n,rfl,hn,h1,h2⟩|⟨id',h1,h2,_⟩
  ·rw[h2]
   obtain⟨a,b,c⟩:=I.itip (.fr n) L h1
   obtain⟨d,f⟩:=e.eprot (ti (.fr n)).b (.inr ⟨n,L,h1,rfl⟩)
   exact⟨a.keep f d,b,fun i hi=>(J.idom i _ hi).2.2.2.2 (.inr ⟨n,L,h1,rfl⟩)⟩
  ·rw[h2]
   obtain⟨a,b,c⟩:=J.itip id' L h1
   exact⟨a,fun h=>b (.inl h),c⟩
 ·rcases kind id L h1 with⟨n,rfl,hn,g1,g2⟩|⟨i1,g1,g2,g3⟩<;>rcases kind id' L' h2 with⟨n',rfl,hn',k1,k2⟩|⟨i2,k1,k2,k3⟩
  ·rw[g2,k2]at hb
   exact I.itinj _ _ L L' g1 k1 hb
  ·rw[g2,k2]at hb
   exact absurd (.inr ⟨n,L,g1,hb⟩) (J.itip i2 L' k1).2.1
  ·rw[g2,k2]at hb
   exact absurd (.inr ⟨n',L',k1,hb.symm⟩) (J.itip i1 L g1).2.1
  ·rw[g2,k2]at hb
   have:=J.itinj i1 i2 L L' g1 k1 hb
   subst this
   rcases g3 with⟨i,j,rfl,rfl⟩|⟨n,rfl,rfl⟩<;>rcases k3 with⟨i',j',rfl,h⟩|⟨n',rfl,h⟩<;>cases h<;>rfl
 ·exact(restr _ _ (lt_mono (Nat.le_refl _) (fun k _ h=>by simp only[decide_eq_true_eq]at h;simp[h]) _ (fine_lt hpl)) rv).shift tips.length
 ·refine Flag.shift (ti:=ti') tips.length (fun k o hk=>⟨?_, ?_⟩) (fun i j o hk=>⟨by rw[livebx];exact hk,rfl⟩) fl
  ·rw[lvnew _ (by omega),Nat.add_sub_cancel_left];exact hk
  ·show(if tips.length+k<tips.length then ti (.fr (tips.length+k))else ti' (.fr (tips.length+k -tips.length)))=_
   rw[if_neg (by omega),Nat.add_sub_cancel_left]
 ·obtain⟨h1,h2⟩:=hhole i hi
  rw[h2,(hole i hi (by rw[up.len];exact hlt)).1,h1]
 ·exact(hole i hi (by rw[up.len];exact hlt)).2
end
end
section
section
variable{P:Program}{base:Nat}{prot:Nat→Prop}{tips tips':List (Option Nat)}{S S':St}{w w':World}{mu:Nat→Option Nat}{hw hw':Nat→Nat}{ti ti':Id→TI}
def RA(w:World)(mu:Nat→Option Nat)(hw:Nat→Nat)(lk:Nat→Prop)(l:List AV)(vs:Array Value):Prop:=
 l.length=vs.size∧∀(j:Nat)(a:AV),l[j]? =some a→∃v,vs[j]? =some v∧RV w mu hw lk a v
theorem RA.append{lk:Nat→Prop}{l m:List AV}{vs us:Array Value}(h:RA w mu hw lk l vs)(k:RA w mu hw lk m us):RA w mu hw lk (l++m) (vs++us):=by
 refine⟨by simp[h.1,k.1],fun j a hj=>?_⟩
 rcases Nat.lt_or_ge j l.length with hlt|hge
 ·rw[List.getElem?_append_left hlt]at hj
  obtain⟨v,hv,hr⟩:=h.2 j a hj
  exact⟨v,by rw[Array.getElem?_append_left (lt_of_aget hv)];exact hv,hr⟩
 ·rw[List.getElem?_append_right hge]at hj
  obtain⟨v,hv,hr⟩:=k.2 _ a hj
  have hl:=h.1
  exact⟨v,by rw[Array.getElem?_append_right (by omega),←hl];exact hv,hr⟩
theorem RA.range{lk:Nat→Prop}{l:List AV}{f:Nat→Value}(h:∀(j:Nat)(a:AV),l[j]? =some a→RV w mu hw lk a (f j)):RA w mu hw lk l ((List.range l.length).map f).toArray:=by
 refine⟨by simp,fun j a hj=>⟨f j, ?_,h j a hj⟩⟩
 have:=lt_of_get hj
 simp[this]
def Named(P:Program):Prop:=(∀(f:FuncId)(fn:Func),P.funcs[f]? =some fn→(fn.name== "runtime.NumGoroutine")=false)∧
 ∀(f:FuncId)(e:Nat)(args:List AV)(r:AV)(vs:Array Value)(w:World)(mu:Nat→Option Nat)(hw:Nat→Nat)(lk:Nat→Prop),extF f=some e→extV e args=some r→RA w mu hw lk args vs→
  ∃y,(callFunc f vs).run P w=.ok (.value y) w∧RV w mu hw lk r y∧∀(lv:Live)(ti:Id→TI),Flag lv ti r y
theorem callee_sound(hN:Named P){E:Env}{lk:Nat→Prop}{o:Oper}{a:Act}{c:Call}(ho:o.op=.call c)(hρ:∀x,RV w mu hw lk (E.ev x) (a.eval x)){g:FuncId}{L:List AV}(h:callee P E.ev c=some (g,L)):
 ∃vargs:Array Value,RA w mu hw lk L vargs∧∀(fn:Func)(c':Code),P.funcs[g]? =some fn→fn.body=some c'→(execOp a.eval o).run P w=.ok (.enter g vargs) w:=by
 obtain⟨ce,args,ts⟩:=c
 have RArgs:RA w mu hw lk (args.toList.map (fun x=>E.ev x)) (args.map a.eval):=by
  refine⟨by simp,fun j x hj=>?_⟩
  simp only[List.getElem?_map,Option.map_eq_some_iff]at hj
  obtain⟨y,hy,rfl⟩:=hj
  refine⟨a.eval y, ?_,hρ y⟩
  simp only[Array.getElem?_map,Option.map_eq_some_iff]
  exact⟨y,by simpa using hy,rfl⟩
 cases ce with
 |value f=>
  simp only[callee]at h
  split at h
  case h_2=>simp at h
  rename_i g' first caps hf
  simp at h
  obtain⟨rfl,rfl⟩:=h
  have H:=hρ f
  rw[hf]at H
  generalize hvf:a.eval f=vf at H
  cases H with
  |fn _ _ _ f1 f2 n1 n2=>
   have RAall:RA w mu hw lk (first++(args.toList.map (fun x=>E.ev x)++caps)) ((((List.range first.length).map f1).toArray++args.map a.eval)++((List.range caps.length).map f2).toArray):=by
    rw[←List.append_assoc]
    exact((RA.range n1).append RArgs).append (RA.range n2)
   refine⟨_,RAall,fun fn c hfn hb=>?_⟩
   simp only[execOp,ho,resolve,hvf,Deferred.ofValue,invoke,callFunc,Sem.run_bind,Sem.run_pure,Result.andThen_ok,run_program,hfn,hN.1 _ _ hfn,hb,Bool.false_eq_true,if_false,Option.isNone_some]
 |builtin b=>simp[callee]at h
 |invoke x name=>
  simp only[callee]at h
  split at h
  case h_2=>simp at h
  rename_i t v hx
  simp only[Option.map_eq_some_iff,Prod.mk.injEq]at h
  obtain⟨g',hg,rfl,rfl⟩:=h
  have H:=hρ x
  rw[hx]at H
  generalize hvx:a.eval x=vx at H
  cases H with
  |ifc _ _ y h1 hy=>
   refine⟨#[y]++args.map a.eval, ?_,fun fn c hfn hb=>?_⟩
   ·exact RA.append (l:=[v]) (vs:= #[y]) ⟨rfl,fun j b hj=>by
     rcases j with _|j
     ·simp at hj;subst hj;exact⟨y,by simp,hy⟩
     ·simp at hj⟩ RArgs
   ·have hm:∀n,(method (n+1) t y name).run P w=.ok (g',y) w:=by
     intro n
     unfold invF at hg
     split at hg
     case h_2=>simp at hg
     rename_i i d hi hd
     split at hg
     case h_2=>simp at hg
     rename_i m hm
     split at hg
     case isFalse=>simp at hg
     rename_i hp
     have hpl:m.path.toList=[]:=by
      have:m.path= #[]:=by simpa using hp
      rw[this]
     unfold method
     simp only[typeInfo,Sem.run_bind,run_program,Result.andThen_ok,hi,Sem.run_pure,hm,hpl,follow]
     split at hg
     ·rename_i f e hf
      simp at hg;subst hg
      simp[hf,receiverAt,und_of hd,Place.get]
     ·simp at hg
     ·rename_i f hf hnp
      simp at hg;subst hg
      simp only[hf,receiverAt,Sem.run_bind,und_of hd,Result.andThen_ok]
      simp[Place.get]
     ·simp at hg
    have e8:∃n,P.types.size+Made.depth=n+1:=⟨_,rfl⟩
    obtain⟨n,e8⟩:=e8
    have e9:(#[a.eval x]++args.map a.eval).extract 1 (#[a.eval x]++args.map a.eval).size=args.map a.eval:=by
     apply Array.toList_inj.1
     simp
     exact List.take_of_length_le (by simp)
    rw[hvx]at e9
    simp only[execOp,ho,resolve,hvx,Sem.run_bind,Sem.run_pure,Result.andThen_ok,invoke]
    have e10:(#[Value.iface t y]++args.map a.eval)[0]? =some (.iface t y):=by rw[Array.getElem?_append_left (by simp)];rfl
    have e11:(callMethod (.iface t y) name (args.map a.eval)).run P w=.ok (.enter g' (#[y]++args.map a.eval)) w:=by
     simp only[callMethod,Sem.run_bind,Sem.run_pure,Result.andThen_ok,run_program,e8,hm n,callFunc,hfn,hN.1 _ _ hfn,hb,Bool.false_eq_true,if_false,Option.isNone_some]
    simp only[e10,e9]
    exact e11
theorem giveArg_nofresh{S:St}{a a':AV}(h:giveArg S a=some a'):∀sz es,a'≠.sl .fresh sz es:=by
 intro sz es e
 subst e
 unfold giveArg at h
 split at h
 ·simp at h
 ·simp at h
 ·cases h
 ·cases h
 ·cases h
 ·rename_i hn _ _ _
  simp only[Option.some.injEq]at h
  cases a with
  |sl r sz' es'=>cases r<;>simp[strip]at h<;>exact absurd rfl (hn _ _)
  |_=>simp[strip]at h
theorem takeResL_nofresh:∀(l:List AV)(u:List (Option Nat)),(∀x∈l,∀sz es,x≠.sl .fresh sz es)→takeResL u l=(l,u)
 |[],_,_=>rfl
 |x::l,u,h=>by
  have e:takeRes u x=(x,u):=by
   have:=h x (by simp)
   cases x with
   |sl r sz es=>cases r<;>first|rfl|exact absurd rfl (this _ _)
   |_=>rfl
  simp only[takeResL,e,takeResL_nofresh l u fun y hy=>h y (by simp[hy])]
theorem RV.fr_fr{lk:Nat→Prop}{k sz:Nat}{es:List (List AV)}{v:Value}(h:RV w mu hw lk (.sl (.fr k) sz es) v)(k':Nat):RV w mu hw lk (.sl (.fr k') sz es) v:=by
 cases h with
 |sl _ _ _ b o len cap f h0 hr hb hlo hs h1 h2=>exact .sl _ _ _ b o len cap f h0 (by simp) (by simp) (by simp) hs h1 h2
theorem inv_lose(I:Inv base prot tips S w mu hw ti)(k:Nat):Inv base prot (tips.set k none) S w mu hw ti:=by
 have hl:∀id L,live (tips.set k none) S mu id=some (some L)→live tips S mu id=some (some L):=by
  intro id L h
  cases id with
  |fr n=>
   simp only[live]at h⊢
   rw[List.getElem?_set]at h
   split at h
   ·split at h<;>simp at h
   ·exact h
  |bx i j=>exact h
 refine⟨I.ibox,fun i cells bt l b h1 h2 vs el h3 j x y hx hy=>?_,I.iinj,I.idom,I.iout,fun id L h=>I.itip id L (hl id L h),fun id id' L L' h h'=>I.itinj id id' L L' (hl _ _ h) (hl _ _ h'),I.iprot,I.ibase,I.iglb⟩
 obtain⟨p,q⟩:=I.iflag i cells bt l b h1 h2 vs el h3 j x y hx hy
 refine⟨p, ?_⟩
 cases x with
 |sl r sz es=>
  cases r with
  |fr n=>simp[noFr]at p
  |fresh=>simp[noFr]at p
  |_=>exact q
 |tup vs=>exact q
 |_=>exact q
theorem lv_lose(k:Nat):LvExt (live tips S mu) ti (live (tips.set k none) S mu) ti:=by
 intro id o h
 cases id with
 |fr n=>
  simp only[live]at h⊢
  rw[List.getElem?_set]
  split
  ·rename_i e
   subst e
   exact⟨none,by rw[if_pos (lt_of_get h)],fun L' e=>by cases e⟩
  ·exact⟨o,h,fun L' e=>⟨L',e,.inl (by simp)⟩⟩
 |bx i j=>exact⟨o,h,fun L' e=>⟨L',e,.inl ⟨rfl,rfl⟩⟩⟩
theorem Step.lose{k:Nat}{r:AV}{v:Value}(h:Step base prot (tips.set k none) S w mu hw ti tips' S' w' r v):Step base prot tips S w mu hw ti tips' S' w' r v:=by
 obtain⟨mu1,hw1,ti1,I1,e1,l1,r1,f1,n1⟩:=h
 exact⟨mu1,hw1,ti1,I1,e1,(lv_lose k).trans l1,r1,f1,n1⟩
theorem After.ti_eq{ti3:Id→TI}{r:AV}{e:Ending}(A:After P base prot S w mu hw ti3 r S' e w')(h:∀i j,ti3 (.bx i j)=ti (.bx i j)):After P base prot S w mu hw ti r S' e w':=by
 obtain⟨v,h0,mu1,hw1,ti1,I1,e1,l1,r1,f1,n1⟩:=A
 refine⟨v,h0,mu1,hw1,ti1,I1,e1,fun id o ho=>?_,r1,f1,n1⟩
 obtain⟨o',a1,a2⟩:=l1 id o ho
 refine⟨o',a1,fun L' e=>?_⟩
 obtain⟨L,b1,b2⟩:=a2 L' e
 refine⟨L,b1,b2.imp (fun⟨c1,c2⟩=>⟨c1, ?_⟩) fun h=>h⟩
 cases id with
 |fr n=>simp[live]at ho
 |bx i j=>rw[c2,h]
theorem inv_own{SL:St}{k L:Nat}(I:Inv base prot tips S w mu hw ti)(I1:Inv base prot (tips.set k none) S w mu hw ti)(I2:Inv base (guarded prot (tips.set k none) ti) [] SL w mu hw ti)(up:LockUp S SL)(hk:tips[k]? =some (some L)):
 ∃ti3:Id→TI,Inv base (guarded prot (tips.set k none) ti) [some L] SL w mu hw ti3∧(∀i j,ti3 (.bx i j)=ti (.bx i j))∧ti3 (.fr 0)=ti (.fr k):=by
 refine⟨fun id=>match id with|.fr _=>ti (.fr k)|.bx i j=>ti (.bx i j), ?_,fun _ _=>rfl,rfl⟩
 have hkl:live tips S mu (.fr k)=some (some L):=hk
 obtain⟨t1,t2,t3⟩:=I.itip _ _ hkl
 have hbx:∀i j o,live [some L] SL mu (.bx i j)=some o→live tips S mu (.bx i j)=some o:=by
  intro i j o h
  have:live [some L] SL mu (.bx i j)=live tips SL mu (.bx i j):=rfl
  rw[this,up.live]at h
  exact h
 have hfr:∀n o,live [some L] SL mu (.fr n)=some o→n=0∧o=some L:=by
  intro n o h
  cases n with
  |zero=>simp[live]at h;exact⟨rfl,h.symm⟩
  |succ n=>simp[live]at h
 refine⟨I2.ibox,fun i cells bt l b h1 h2 vs el h3 j x y hx hy=>?_,I2.iinj,I2.idom,I2.iout,fun id L' h=>?_,fun id id' L1 L2 h h' hb=>?_,I2.iprot,I2.ibase,I2.iglb⟩
 ·obtain⟨p,q⟩:=I2.iflag i cells bt l b h1 h2 vs el h3 j x y hx hy
  refine⟨p, ?_⟩
  cases x with
  |sl r sz es=>
   cases r with
   |fr n=>simp[noFr]at p
   |fresh=>simp[noFr]at p
   |_=>exact q
  |tup vs=>exact q
  |_=>exact q
 ·cases id with
  |fr n=>
   obtain⟨rfl,e⟩:=hfr n _ h
   cases e
   refine⟨t1, ?_,t3⟩
   rintro(hp|⟨n,L1,hn,hb⟩)
   ·exact t2 hp
   ·rw[List.getElem?_set]at hn
    split at hn
    ·split at hn<;>simp at hn
    ·rename_i hne
     have:=I.itinj (.fr n) (.fr k) _ _ hn hkl hb
     cases this
     exact hne rfl
  |bx i j=>exact I2.itip (.bx i j) L' h
 ·cases id with
  |fr n=>
   obtain⟨rfl,_⟩:=hfr n _ h
   cases id' with
   |fr n'=>obtain⟨rfl,_⟩:=hfr n' _ h';rfl
   |bx i j=>have:=I.itinj (.fr k) (.bx i j) _ _ hkl (hbx i j _ h') hb;cases this
  |bx i j=>
   cases id' with
   |fr n'=>have:=I.itinj (.bx i j) (.fr k) _ _ (hbx i j _ h) hkl hb;cases this
   |bx i' j'=>exact I.itinj _ _ _ _ (hbx i j _ h) (hbx i' j' _ h') hb
theorem ownT_nofresh(f:FuncId)(l:List AV)(h:∀x∈l,∀sz es,x≠.sl .fresh sz es):ownT f l=[]∧ownA f l=l:=by
 simp[ownT,ownA,takeResL_nofresh l [] h]
theorem rawArg_nofresh{a a':AV}(h:rawArg a=some a'):∀sz es,a'≠.sl .fresh sz es:=by
 intro sz es e
 subst e
 unfold rawArg at h
 split at h
 ·cases h
 ·cases h
 ·cases h
 ·rename_i hn _ _
  simp only[Option.some.injEq]at h
  cases a with
  |sl r sz' es'=>cases r<;>simp[strip]at h<;>exact absurd rfl (hn _ _)
  |_=>simp[strip]at h
theorem ownCall_sound{call:Caller}(hsim:CallSim P call)(hold:CallOld call)(hN:Named P){E:Env}(I:Inv base prot E.tips S w mu hw ti){o:Oper}{a:Act}{f:FuncId}{args:Array Operand}{ts:Array TypeId}(hown:ownF f=true)
 (ho:o.op=.call ⟨.value (.func f),args,ts⟩) (SL:Slots S w mu hw (live E.tips S mu) ti E.slots a.tmps) {r:AV} (h:ownCall call E.tips S f (args.toList.map fun x=>E.ev x)=some (r,tips',S')):
 ∃g vargs,(execOp a.eval o).run P w=.ok (.enter g vargs) w∧Calls P g vargs w fun e w'=>∃v,e=.returned v∧Step base prot E.tips S w mu hw ti tips' S' w' r v:=by
 have hρ:=fun x=>SL.eval (E:=E) (a:=a) I.iglb x
 have RAall:RA w mu hw (lkS S mu) (args.toList.map (fun x=>E.ev x)) (args.map a.eval):=by
  refine⟨by simp,fun j x hj=>?_⟩
  simp only[List.getElem?_map,Option.map_eq_some_iff]at hj
  obtain⟨y,hy,rfl⟩:=hj
  refine⟨a.eval y, ?_,(hρ y).1⟩
  simp only[Array.getElem?_map,Option.map_eq_some_iff]
  exact⟨y,by simpa using hy,rfl⟩
 have flag:∀(j:Nat)(x:AV)(v:Value),(args.toList.map (fun x=>E.ev x))[j]? =some x→(args.map a.eval)[j]? =some v→Flag (live E.tips S mu) ti x v:=by
  intro j x v hj hv
  simp only[List.getElem?_map,Option.map_eq_some_iff,Array.getElem?_map]at hj hv
  obtain⟨y,hy,rfl⟩:=hj
  obtain⟨y',hy',rfl⟩:=hv
  have:y=y':=by simpa[hy']using hy.symm
  subst this
  exact(hρ y).2
 have fin:∀(fn:Func)(c':Code),P.funcs[f]? =some fn→fn.body=some c'→(execOp a.eval o).run P w=.ok (.enter f (args.map a.eval)) w:=by
  intro fn c hfn hb
  simp only[execOp,ho,resolve,Act.eval,Deferred.ofValue,invoke,callFunc,Sem.run_bind,Sem.run_pure,Result.andThen_ok,run_program,hfn,hN.1 _ _ hfn,hb,Bool.false_eq_true,if_false,Option.isNone_some,Array.append_empty,Array.empty_append]
 generalize args.toList.map (fun x=>E.ev x)=L at h RAall flag
 generalize args.map a.eval=vargs0 at RAall flag fin
 unfold ownCall at h
 split at h
 ·simp at h
 rename_i l' k rest hl'
 split at h
 ·simp at h
 rename_i r0 S1 hcall
 simp only[Option.some.injEq,Prod.mk.injEq]at h
 obtain⟨rfl,rfl,rfl⟩:=h
 unfold ownArgs at hl'
 split at hl'
 case h_2=>cases hl'
 rename_i k0 sz es rest0
 split at hl'
 case isFalse=>cases hl'
 rename_i hk0
 simp only[Option.map_eq_some_iff,Prod.mk.injEq]at hl'
 obtain⟨l1,hl1,rfl,rfl,rfl⟩:=hl'
 obtain⟨m1,m2⟩:=mapM_opt _ _ _ hl1
 obtain⟨hlen,hpl,hk,hnew⟩:=hold _ _ _ _ _ hcall
 obtain⟨v1,hv1,hr1⟩:=RAall.2 0 _ rfl
 have hf1:Tipped (live E.tips S mu) ti (.fr k0) sz es.length v1:=flag 0 _ v1 rfl hv1
 have I1:=inv_lose I k0
 have I2:=inv_enter I1 (lockUp_all rest0 S)
 obtain⟨ti3,I3,hti,hti0⟩:=inv_own I I1 I2 (lockUp_all rest0 S) hk0
 have hft:ownT f (.sl .fresh sz es::l1)=[some es.length]∧ownA f (.sl .fresh sz es::l1)=.sl (.fr 0) sz es::l1:=by
  have:takeResL [some es.length] l1=(l1,[some es.length]):=takeResL_nofresh _ _ fun x hx=>by
   obtain⟨j,hj⟩:=List.getElem?_of_mem hx
   obtain⟨y,_,hg⟩:=m2 j x hj
   exact giveArg_nofresh hg
  simp[ownT,ownA,hown,takeResL,takeRes,this]
 obtain⟨⟨fn,c,hfn,hb⟩,hcl⟩:=hsim _ _ _ _ _ hcall base (guarded prot (E.tips.set k0 none) ti) w mu hw ti3 vargs0 (by rw[hft.1];exact I3) (by simp[m1];have:=RAall.1;simpa using this) (fun j x hj=>by
  rw[hft.2]at hj
  rw[hft.1]
  cases j with
  |zero=>
   simp at hj
   subst hj
   refine⟨v1,hv1,(hr1.fr_fr 0).mono (fun _ _ h=>h) (fun _ _ h=>h) (fun _ k=>(lockUp_all rest0 S).lk k) (fun _ _ _ _ h=>h), ?_⟩
   obtain⟨o,h1,h2⟩:=hf1
   have ho':o=some es.length:=by
    have:live E.tips S mu (.fr k0)=some (some es.length):=hk0
    rw[this]at h1
    exact(Option.some.inj h1).symm
   refine⟨some es.length,rfl,fun L hL=>?_⟩
   cases hL
   obtain⟨h3,h4⟩:=h2 es.length ho'
   exact⟨h3,fun h=>by rw[hti0];exact h4 h⟩
  |succ j=>
   rw[List.getElem?_cons_succ]at hj
   obtain⟨y,hy,hg⟩:=m2 j x hj
   obtain⟨v,hv,hr⟩:=RAall.2 (j+1) y (by simpa using hy)
   obtain⟨q1,q2⟩:=arg_sound I (List.mem_of_getElem? hy) hr hg
   exact⟨v,hv,q1,q2 _ _⟩)
 have hbox:∀i,mu i=none→∀x∈rest0,boxOf x≠some i:=by
  intro i hi x hx e
  obtain⟨j,hj⟩:=List.getElem?_of_mem hx
  obtain⟨v,_,hr⟩:=RAall.2 (j+1) x (by simpa using hj)
  cases hr with
  |aref _ _ _ _ _ b hb _=>simp only[boxOf,Option.some.injEq]at e;subst e;rw[hi]at hb;cases hb
  |oref _ _ _ _ b _ hb _=>simp only[boxOf,Option.some.injEq]at e;subst e;rw[hi]at hb;cases hb
  |_=>simp[boxOf]at e
 refine⟨f,_,fin fn c hfn hb,hcl.mono fun e w' A=>?_⟩
 obtain⟨v,e1,s1⟩:=call_step I1 (lockUp_all rest0 S) (dn_all S rest0 S1) (fun i hi=>⟨lock_other rest0 S (hbox i hi),unlock_other rest0 S1 (hbox i hi)⟩) (sameC_lockAll rest0 S) hlen hpl hk hnew (A.ti_eq hti)
 exact⟨v,e1,s1.lose⟩
theorem evCall_sound{call:Caller}(hsim:CallSim P call)(hold:CallOld call)(hN:Named P){E:Env}(I:Inv base prot E.tips S w mu hw ti){o:Oper}{a:Act}{c:Call}
 (ho:o.op=.call c) (SL:Slots S w mu hw (live E.tips S mu) ti E.slots a.tmps) {r:AV} (h:evCall P call E S c=some (r,tips',S')):
 ∃g vargs,(execOp a.eval o).run P w=.ok (.enter g vargs) w∧Calls P g vargs w fun e w'=>∃v,e=.returned v∧Step base prot E.tips S w mu hw ti tips' S' w' r v:=by
 have hρ:=fun x=>(SL.eval (E:=E) (a:=a) I.iglb x).1
 unfold evCall at h
 split at h
 ·simp at h
 rename_i g' L hc
 obtain⟨vargs0,RAall,fin⟩:=callee_sound hN ho hρ hc
 split at h
 ·split at h
  ·simp at h
  rename_i l' hl'
  split at h
  ·simp at h
  rename_i r0 S1 hcall
  simp only[Option.some.injEq,Prod.mk.injEq]at h
  obtain⟨rfl,rfl,rfl⟩:=h
  obtain⟨m1,m2⟩:=mapM_opt _ _ _ hl'
  have nofr:∀x∈l',∀sz es,x≠.sl .fresh sz es:=fun x hx=>by
   obtain⟨j,hj⟩:=List.getElem?_of_mem hx
   obtain⟨y,_,hg⟩:=m2 j x hj
   exact rawArg_nofresh hg
  obtain⟨hlen,hpl,hk,hnew⟩:=hold _ _ _ _ _ hcall
  have I2:=inv_enter I (LockUp.refl S)
  obtain⟨⟨fn,c,hfn,hb⟩,hcl⟩:=hsim _ _ _ _ _ hcall base (guarded prot E.tips ti) w mu hw ti _ (by rw[(ownT_nofresh g' l' nofr).1];exact I2) (by rw[m1];exact RAall.1) (fun j x hj=>by
   rw[(ownT_nofresh g' l' nofr).2]at hj
   rw[(ownT_nofresh g' l' nofr).1]
   obtain⟨y,hy,hg⟩:=m2 j x hj
   obtain⟨v,hv,hr⟩:=RAall.2 j y hy
   obtain⟨q1,q2⟩:=raw_sound hr hg
   exact⟨v,hv,q1,q2 _ _⟩)
  exact⟨g',_,fin fn c hfn hb,hcl.mono fun e w' A=>call_step I (LockUp.refl S) (Dn.refl _ _) (fun _ _=>⟨rfl,rfl⟩) (SameC.refl S) hlen hpl hk hnew A⟩
 ·split at h
  ·simp at h
  rename_i l' hl'
  split at h
  ·simp at h
  rename_i r0 S1 hcall
  simp only[Option.some.injEq,Prod.mk.injEq]at h
  obtain⟨rfl,rfl,rfl⟩:=h
  obtain⟨m1,m2⟩:=mapM_opt _ _ _ hl'
  have nofr:∀x∈l',∀sz es,x≠.sl .fresh sz es:=fun x hx=>by
   obtain⟨j,hj⟩:=List.getElem?_of_mem hx
   obtain⟨y,_,hg⟩:=m2 j x hj
   exact giveArg_nofresh hg
  obtain⟨hlen,hpl,hk,hnew⟩:=hold _ _ _ _ _ hcall
  have I2:=inv_enter I (lockUp_all L S)
  obtain⟨⟨fn,c,hfn,hb⟩,hcl⟩:=hsim _ _ _ _ _ hcall base (guarded prot E.tips ti) w mu hw ti _ (by rw[(ownT_nofresh g' l' nofr).1];exact I2) (by rw[m1];exact RAall.1) (fun j x hj=>by
   rw[(ownT_nofresh g' l' nofr).2]at hj
   rw[(ownT_nofresh g' l' nofr).1]
   obtain⟨y,hy,hg⟩:=m2 j x hj
   obtain⟨v,hv,hr⟩:=RAall.2 j y hy
   obtain⟨q1,q2⟩:=arg_sound I (List.mem_of_getElem? hy) hr hg
   exact⟨v,hv,q1,q2 _ _⟩)
  have hbox:∀i,mu i=none→∀x∈L,boxOf x≠some i:=by
   intro i hi x hx e
   obtain⟨j,hj⟩:=List.getElem?_of_mem hx
   obtain⟨v,_,hr⟩:=RAall.2 j x hj
   cases hr with
   |aref _ _ _ _ _ b hb _=>simp only[boxOf,Option.some.injEq]at e;subst e;rw[hi]at hb;cases hb
   |oref _ _ _ _ b _ hb _=>simp only[boxOf,Option.some.injEq]at e;subst e;rw[hi]at hb;cases hb
   |_=>simp[boxOf]at e
  exact⟨g',_,fin fn c hfn hb,hcl.mono fun e w' A=>call_step I (lockUp_all L S) (dn_all S L S1) (fun i hi=>⟨lock_other L S (hbox i hi),unlock_other L S1 (hbox i hi)⟩) (sameC_lockAll L S) hlen hpl hk hnew A⟩
theorem op_wp{call:Caller}(hsim:CallSim P call)(hold:CallOld call)(hN:Named P){E:Env}(I:Inv base prot E.tips S w mu hw ti){o:Oper}{a:Act}(SL:Slots S w mu hw (live E.tips S mu) ti E.slots a.tmps){r:AV}
 (h:evOp P call E S o.op=some (r,tips',S')) {K:Act→World→Prop} {Q:Exit→Act→World→Prop}
 (hK:∀v w',Step base prot E.tips S w mu hw ti tips' S' w' r v→K (a.put o.dst v) w'):o.wp P a w K Q:=by
 unfold Oper.wp
 by_cases hc:isCall o.op=true
 ·have:(∃c,o.op=.call c∧evOp P call E S (.call c)=evCall P call E S c)∨(∃f args ts,ownF f=true∧o.op=.call ⟨.value (.func f),args,ts⟩∧ownCall call E.tips S f (args.toList.map fun x=>E.ev x)=some (r,tips',S'))∨∃f args ts e v,o.op=.call ⟨.value (.func f),args,ts⟩∧extF f=some e∧extV e (args.toList.map fun x=>E.ev x)=some v∧(r,tips',S')=(v,E.tips,S):=by
   unfold isCall at hc
   split at hc
   ·rename_i f args ts ho
    rw[ho]at h
    simp only[evOp]at h
    cases hx:extOf f with
    |none=>
     cases hy:ownOf f with
     |none=>exact .inl ⟨_,ho,by simp only[evOp,hx,hy]⟩
     |some g=>
      simp only[hx,hy]at h
      cases f with
      |func f=>
       simp only[ownOf]at hy
       split at hy
       ·rename_i hown
        cases hy
        exact .inr (.inl ⟨_,_,_,hown,ho,h⟩)
       ·cases hy
      |_=>simp[ownOf]at hy
    |some e=>
     simp only[hx,Option.map_eq_some_iff]at h
     obtain⟨v,hv,h3⟩:=h
     cases f with
     |func g=>exact .inr (.inr ⟨g,args,ts,e,v,ho,hx,hv,h3.symm⟩)
     |_=>simp[extOf]at hx
   ·exact .inl ⟨_,by assumption,rfl⟩
   ·simp at hc
  rcases this with this|⟨f,args,ts,hown,ho,h3⟩|⟨f,args,ts,e,v,ho,he,hv,h3⟩
  case inr.inl=>
   obtain⟨g,vargs,h1,h2⟩:=ownCall_sound hsim hold hN I hown ho SL h3
   rw[h1,Oper.upon_enter]
   refine h2.mono fun e w' hh=>?_
   obtain⟨v,rfl,hs⟩:=hh
   exact hK v w' hs
  case inr.inr=>
   cases h3
   have RArgs:RA w mu hw (lkS S mu) (args.toList.map (fun x=>E.ev x)) (args.map a.eval):=by
    refine⟨by simp,fun j x hj=>?_⟩
    simp only[List.getElem?_map,Option.map_eq_some_iff]at hj
    obtain⟨y,hy,rfl⟩:=hj
    refine⟨a.eval y, ?_,(SL.eval (E:=E) (a:=a) I.iglb y).1⟩
    simp only[Array.getElem?_map,Option.map_eq_some_iff]
    exact⟨y,by simpa using hy,rfl⟩
   obtain⟨y,y1,y2,y3⟩:=hN.2 f e _ _ _ w mu hw (lkS S mu) he hv RArgs
   have:(execOp a.eval o).run P w=.ok (.value y) w:=by
    simp only[execOp,ho,resolve,Act.eval,Deferred.ofValue,invoke,Sem.run_bind,Sem.run_pure,Result.andThen_ok,Array.append_empty]
    simpa using y1
   rw[this]
   exact hK y w (Step.pure I y2 (y3 _ _))
  obtain⟨c,ho,he⟩:=this
  rw[ho,he]at h
  obtain⟨g,vargs,h1,h2⟩:=evCall_sound hsim hold hN I ho SL h
  rw[h1,Oper.upon_enter]
  refine h2.mono fun e w' hh=>?_
  obtain⟨v,rfl,hs⟩:=hh
  exact hK v w' hs
 ·obtain⟨nx,v,w',h1,h2,h3⟩:=op_sound I SL (by simpa using hc) h
  rw[h1]
  rcases h2 with rfl|⟨rfl,rfl⟩
  ·exact hK v w' h3
  ·exact hK _ w' h3
theorem opr_wp{call:Caller}(hsim:CallSim P call)(hold:CallOld call)(hN:Named P){E:Env}(I:Inv base prot E.tips S w mu hw ti){o:Oper}{a:Act}(SL:Slots S w mu hw (live E.tips S mu) ti E.slots a.tmps){r:AV}
 (h:evOpr P call E S o=some (r,tips',S')) {K:Act→World→Prop} {Q:Exit→Act→World→Prop}
 (hK:∀v w',Step base prot E.tips S w mu hw ti tips' S' w' r v→K (a.put o.dst v) w'):o.wp P a w K Q:=by
 unfold evOpr at h
 split at h
 ·rename_i os ox ts ho
  simp only[Option.map_eq_some_iff,Prod.mk.injEq]at h
  obtain⟨⟨r1,S1⟩,hz,rfl,rfl,rfl⟩:=h
  obtain⟨v,w',h1,h2⟩:=own_sound I SL ho hz
  unfold Oper.wp
  rw[h1]
  exact hK v w' h2
 ·exact op_wp hsim hold hN I SL h hK
theorem guard_ok{ops:Array Oper}{E:Env}{a:Act}{lv:Live}{o:Oper}(SL:Slots S w mu hw lv ti E.slots a.tmps)(ht:guardTold ops E o=true):Region.wanted o (yielded ops a.tmps)=guardOK ops E o:=by
 unfold guardTold at ht
 unfold Region.wanted guardOK yielded
 split at ht
 ·rename_i h;simp[h]
 ·rename_i j want h
  simp only[h]
  split at ht
  case h_2=>simp at ht
  rename_i d hd
  simp only[hd,Option.bind_some]
  obtain⟨hr,_⟩:=SL.2 d
  split at ht
  ·rename_i b hb
   rw[hb]at hr⊢
   have:∃x,x=a.tmps.getD d undef:=⟨_,rfl⟩
   generalize hv:a.tmps.getD d undef=v at hr
   cases hr
   have hd2:a.tmps[d]? =some (.bool b):=by
    rw[Array.getD_eq_getD_getElem?]at hv
    cases hx:a.tmps[d]? with
    |none=>simp[hx,undef]at hv
    |some y=>simp[hx]at hv;rw[hv]
   simp[hd2]
  ·rename_i hb
   rw[hb]at hr⊢
   generalize hv:a.tmps.getD d undef=v at hr
   have hnb:∀b,v≠.bool b:=by cases hr<;>simp
   have hd2:∀b,a.tmps[d]?≠some (.bool b):=by
    intro b hx
    rw[Array.getD_eq_getD_getElem?,hx]at hv
    exact hnb b hv.symm
   cases hx:a.tmps[d]? with
   |none=>simp
   |some y=>cases y<;>first|rfl|exact absurd hx (hd2 _)
  ·simp at ht
def Run(base:Nat)(prot:Nat→Prop)(S0:St)(w0:World)(mu0:Nat→Option Nat)(hw0:Nat→Nat)(ti0:Id→TI)(E:Env)(S:St)(a:Act)(w:World):Prop:=
 ∃mu hw ti,Inv base prot E.tips S w mu hw ti∧Slots S w mu hw (live E.tips S mu) ti E.slots a.tmps∧Ext base prot S0 w0 mu0 hw0 S w mu hw∧LvExt (live [] S0 mu0) ti0 (live E.tips S mu) ti∧a.defers=[]∧
  ∀i,mu0 i=none→i<S0.length→S[i]? =S0[i]?∧mu i=none
theorem put_defers(a:Act)(d:Option Tmp)(v:Value):(a.put d v).defers=a.defers:=by cases d<;>rfl
theorem slots_step{E:Env}{a:Act}{r:AV}{v:Value}{d:Option Tmp}{mu':Nat→Option Nat}(SL:Slots S w mu hw (live E.tips S mu) ti E.slots a.tmps)(e:Ext base prot S w mu hw S' w' mu' hw')(l:LvExt (live E.tips S mu) ti (live tips' S' mu') ti')
 (rv:RV w' mu' hw' (lkS S' mu') r v) (fl:Flag (live tips' S' mu') ti' r v):Slots S' w' mu' hw' (live (E.put d r tips').tips S' mu') ti' (E.put d r tips').slots (a.put d v).tmps:=
 (SL.ext e l).put d rv fl
theorem skip_slots{E:Env}{a:Act}{lv:Live}(d:Option Tmp)(SL:Slots S w mu hw lv ti E.slots a.tmps):Slots S w mu hw lv ti (setSlot E.slots d (.tup [])) (a.put d undef).tmps:=by
 refine SL.put d ?_ ?_
 ·have:=RV.tup (w:=w) (mu:=mu) (hw:=hw) (lk:=lkS S mu) [] (fun _=>undef) (by simp)
  simpa[undef]using this
 ·intro arr _ j x y hx;simp at hx
theorem ops_wp{call:Caller}(hsim:CallSim P call)(hold:CallOld call)(hN:Named P){S0:St}{w0:World}{mu0:Nat→Option Nat}{hw0:Nat→Nat}{ti0:Id→TI}{ops:Array Oper}{Q:Exit→Act→World→Prop}:
 ∀(l:List Oper)(E:Env)(S:St)(a:Act)(w:World)(E':Env)(S':St),evOps P call ops l E S=some (E',S')→Run base prot S0 w0 mu0 hw0 ti0 E S a w→
  (∀a' w',Run base prot S0 w0 mu0 hw0 ti0 E' S' a' w'→Q .normal a' w')→wpList P ops Q l a w:=by
 intro l
 induction l with
 |nil=>
  intro E S a w E' S' h R hQ
  simp[evOps]at h
  obtain⟨rfl,rfl⟩:=h
  exact hQ a w R
 |cons o l ih=>
  intro E S a w E' S' h R hQ
  obtain⟨mu,hw,ti,I,SL,e,lv,hd,hh⟩:=R
  unfold evOps at h
  split at h
  case isFalse=>simp at h
  rename_i ht
  have hg:=guard_ok SL ht
  unfold wpList
  split at h
  ·rename_i hok
   rw[if_pos (by rw[hg];exact hok)]
   split at h
   case h_2=>simp at h
   rename_i v tips1 S1 h1
   refine .inl (opr_wp hsim hold hN I SL h1 fun y w1 hs=>?_)
   obtain⟨mu1,hw1,ti1,I1,e1,l1,r1,f1,n1⟩:=hs
   refine ih _ _ _ _ E' S' h ⟨mu1,hw1,ti1,I1,slots_step SL e1 l1 r1 f1,e.trans e1,lv.trans l1,by rw[put_defers];exact hd,fun i hi hlt=>?_⟩ hQ
   obtain⟨q1,q2⟩:=hh i hi hlt
   have hlt2:i<S.length:=Nat.lt_of_lt_of_le hlt e.elen
   obtain⟨q3,q4⟩:=n1 i q2 hlt2
   exact⟨q3.trans q1,q4⟩
  ·rename_i hok
   rw[if_neg (by rw[hg];exact hok)]
   exact ih _ _ _ _ E' S' h ⟨mu,hw,ti,I,skip_slots o.dst SL,e,lv,by rw[put_defers];exact hd,hh⟩ hQ
end
end
section
def DrawSim(P:Program)(call:Caller):Prop:=
 ∀(id:Nat)(ops:Array Oper)(E:Env)(S:St)(E':Env)(S':St),regionOK ops=true→evDraw P call ops E S=some (E',S')→
  ∀(base:Nat)(prot:Nat→Prop)(S0:St)(w0:World)(mu0:Nat→Option Nat)(hw0:Nat→Nat)(ti0:Id→TI)(a:Act)(w:World)(Q:Exit→Act→World→Prop),Run base prot S0 w0 mu0 hw0 ti0 E S a w→
   (∀a' w',Run base prot S0 w0 mu0 hw0 ti0 E' S' a' w'→Q .normal a' w')→(Code.region id ops true).wp P Q a w
def exitOf:Out→Exit
 |.normal=>.normal
 |.exit id=>.exit id
 |.ret=>.ret
section
variable{P:Program}{base:Nat}{prot:Nat→Prop}{S0:St}{w0:World}{mu0:Nat→Option Nat}{hw0:Nat→Nat}{ti0:Id→TI}
theorem region_list{id:Nat}{ops:Array Oper}{Q:Exit→Act→World→Prop}{a:Act}{w:World}(h:wpList P ops Q ops.toList a w):(Code.region id ops false).wp P Q a w:=by
 refine wp_region ?_
 have:=wpOps_eq_wpList (P:=P) (ops:=ops) (Q:=Q) ops.toList 0 (fun j=>by simp)
 rw[List.range_eq_range']
 have e:ops.toList.length=ops.size:=by simp
 rw[e]at this
 rw[this]
 exact h
end
end
section
section
variable{P:Program}{base:Nat}{prot:Nat→Prop}{tips tips':List (Option Nat)}{S S':St}{w w':World}{mu:Nat→Option Nat}{hw hw':Nat→Nat}{ti ti':Id→TI}
structure Taken(orig tips u:List (Option Nat))(ks:List Nat):Prop where
 len:ks.length=u.length
 from_:∀(m:Nat)(L:Nat),u[m]? =some (some L)→∃k,ks[m]? =some k∧orig[k]? =some (some L)∧∀L',tips[k]?≠some (some L')
 inj:∀(m m' k:Nat),ks[m]? =some k→ks[m']? =some k→m=m'
 sub:∀(k L:Nat),tips[k]? =some (some L)→orig[k]? =some (some L)
 gone:∀(m k:Nat),ks[m]? =some k→∀L',tips[k]?≠some (some L')
def tiOf(ti:Id→TI)(ks:List Nat):Id→TI
 |.fr m=>ti (.fr (ks.getD m 0))
 |.bx i j=>ti (.bx i j)
theorem Taken.take{orig tips u:List (Option Nat)}{ks:List Nat}(h:Taken orig tips u ks){k L:Nat}(hk:tips[k]? =some (some L)):Taken orig (tips.set k none) (u++[some L]) (ks++[k]):=by
 have hlt:k<tips.length:=lt_of_get hk
 have hgone:∀k' L',(tips.set k none)[k']? =some (some L')→k'≠k∧tips[k']? =some (some L'):=by
  intro k' L' h'
  by_cases e:k'=k
  ·subst e;rw[List.getElem?_set_self hlt]at h';cases h'
  ·rw[List.getElem?_set_ne fun a=>e a.symm]at h';exact⟨e,h'⟩
 refine⟨by simp[h.len],fun m L' hm=>?_,fun m m' k' h1 h2=>?_,fun k' L' h'=>h.sub k' L' (hgone k' L' h').2,fun m k' hm L' h'=>?_⟩
 ·rcases Nat.lt_or_ge m u.length with hl|hl
  ·rw[List.getElem?_append_left hl]at hm
   obtain⟨k',a,b,c⟩:=h.from_ m L' hm
   exact⟨k',by rw[List.getElem?_append_left (lt_of_get a)];exact a,b,fun L'' h''=>c L'' (hgone k' L'' h'').2⟩
  ·have:=lt_of_get hm
   simp at this
   obtain rfl:m=u.length:=by omega
   simp at hm
   subst hm
   exact⟨k,by rw[←h.len];simp,h.sub k L hk,fun L'' h''=>(hgone k L'' h'').1 rfl⟩
 ·have split:∀m,(ks++[k])[m]? =some k'→(ks[m]? =some k'∧m<ks.length)∨(m=ks.length∧k'=k):=by
   intro m hm
   rcases Nat.lt_or_ge m ks.length with hl|hl
   ·rw[List.getElem?_append_left hl]at hm;exact .inl ⟨hm,hl⟩
   ·have:=lt_of_get hm
    simp at this
    obtain rfl:m=ks.length:=by omega
    simp at hm
    exact .inr ⟨rfl,hm.symm⟩
  rcases split m h1 with⟨a,b⟩|⟨a,b⟩<;>rcases split m' h2 with⟨c,d⟩|⟨c,d⟩
  ·exact h.inj m m' k' a c
  ·subst d;exact absurd hk (h.gone m k' a L)
  ·subst b;exact absurd hk (h.gone m' k' c L)
  ·omega
 ·rcases Nat.lt_or_ge m ks.length with hl|hl
  ·rw[List.getElem?_append_left hl]at hm
   exact h.gone m k' hm L' (hgone k' L' h').2
  ·have:=lt_of_get hm
   simp at this
   obtain rfl:m=ks.length:=by omega
   simp at hm
   subst hm
   exact(hgone k L' h').1 rfl
theorem give_take1{orig tips u:List (Option Nat)}{ks:List Nat}(h:Taken orig tips u ks){x:AV}{v:Value}(hr:RV w mu hw (lkS S mu) x v)(hf:Flag1 (live orig S mu) ti x v):
 ∃ks',Taken orig (giveRes tips x).2 (takeRes u (giveRes tips x).1).2 (ks++ks')∧RV w mu hw (lkS S mu) (takeRes u (giveRes tips x).1).1 v∧
  (∃u',(takeRes u (giveRes tips x).1).2=u++u')∧Flag1 (live (takeRes u (giveRes tips x).1).2 S mu) (tiOf ti (ks++ks')) (takeRes u (giveRes tips x).1).1 v:=by
 have same:∀y,giveRes tips x=(y,tips)→(takeRes u y)=(y,u)→RV w mu hw (lkS S mu) y v→Flag1 (live u S mu) (tiOf ti ks) y v→
  ∃ks',Taken orig (giveRes tips x).2 (takeRes u (giveRes tips x).1).2 (ks++ks')∧RV w mu hw (lkS S mu) (takeRes u (giveRes tips x).1).1 v∧
  (∃u',(takeRes u (giveRes tips x).1).2=u++u')∧Flag1 (live (takeRes u (giveRes tips x).1).2 S mu) (tiOf ti (ks++ks')) (takeRes u (giveRes tips x).1).1 v:=by
  intro y h1 h2 h3 h4
  refine⟨[], ?_⟩
  rw[h1,h2,List.append_nil]
  exact⟨h,h3,⟨[],by simp⟩,h4⟩
 cases x with
 |sl r sz es=>
  have hno:(∀i,r≠.loan i)→RV w mu hw (lkS S mu) (.sl .none sz es) v:=fun hl=>hr.reright (by simp) hl (by simp) (by simp) (by simp)
  cases r with
  |fr k=>
   by_cases hk:tips[k]? =some (some es.length)
   ·have h1:giveRes tips (.sl (.fr k) sz es)=(.sl .fresh sz es,tips.set k none):=by simp[giveRes,hk]
    refine⟨[k], ?_⟩
    rw[h1]
    simp only[takeRes]
    have T:=h.take hk
    refine⟨T,hr.reright (by simp) (by simp) (by simp) (by simp) (by simp),⟨_,rfl⟩, ?_⟩
    obtain⟨o,a,b⟩:=hf
    have ha:orig[k]? =some o:=a
    rw[h.sub k _ hk]at ha
    obtain rfl:=Option.some.inj ha
    refine⟨some es.length,by simp[live],fun L e=>?_⟩
    obtain rfl:=Option.some.inj e
    refine⟨Nat.le_refl _,fun _=>?_⟩
    have:tiOf ti (ks++[k]) (.fr u.length)=ti (.fr k):=by
     simp[tiOf,←h.len]
    rw[this]
    exact(b _ rfl).2 rfl
   ·exact same (.sl .none sz es) (by simp[giveRes,hk]) rfl (hno (by simp)) trivial
  |bx i j=>exact same (.sl .none sz es) rfl rfl (hno (by simp)) trivial
  |fresh=>exact hf.elim
  |none=>exact same _ rfl rfl hr trivial
  |exact=>exact same _ rfl rfl hr trivial
  |loan i=>exact same _ rfl rfl hr trivial
 |tup vs=>exact hf.elim
 |aggx vs=>exact hf.elim
 |_=>exact same _ rfl rfl hr trivial
theorem live_mono_fr{u u':List (Option Nat)}{ks ks':List Nat}(hl:ks.length=u.length){x:AV}{v:Value}(h:Flag1 (live u S mu) (tiOf ti ks) x v):Flag1 (live (u++u') S mu) (tiOf ti (ks++ks')) x v:=by
 cases x with
 |sl r sz es=>
  cases r with
  |fr k=>
   obtain⟨o,a,b⟩:=h
   have hk:k<u.length:=lt_of_get (show u[k]? =some o from a)
   refine⟨o, ?_,fun L e=>?_⟩
   ·simp only[live]at a⊢
    rw[List.getElem?_append_left hk];exact a
   ·have:tiOf ti (ks++ks') (.fr k)=tiOf ti ks (.fr k):=by
     simp only[tiOf,List.getD_eq_getElem?_getD]
     rw[List.getElem?_append_left (by omega)]
    rw[this]
    exact b L e
  |bx i j=>exact h
  |_=>exact h
 |_=>exact h
theorem give_take{orig:List (Option Nat)}:∀(l:List AV)(vs:List Value)(tips u:List (Option Nat))(ks:List Nat),Taken orig tips u ks→l.length=vs.length→
 (∀(j:Nat)(x:AV)(v:Value),l[j]? =some x→vs[j]? =some v→RV w mu hw (lkS S mu) x v∧Flag1 (live orig S mu) ti x v)→
 ∃ks' tips',Taken orig tips' (takeResL u (giveResL tips l)).2 (ks++ks')∧(∃u',(takeResL u (giveResL tips l)).2=u++u')∧(takeResL u (giveResL tips l)).1.length=l.length∧
  ∀(j:Nat)(x:AV)(v:Value),(takeResL u (giveResL tips l)).1[j]? =some x→vs[j]? =some v→RV w mu hw (lkS S mu) x v∧Flag1 (live (takeResL u (giveResL tips l)).2 S mu) (tiOf ti (ks++ks')) x v:=by
 intro l
 induction l with
 |nil=>
  intro vs tips u ks h hl _
  refine⟨[],tips,by simpa[giveResL,takeResL]using h,⟨[],by simp[giveResL,takeResL]⟩,by simp[giveResL,takeResL],fun j x v hj=>by simp[giveResL,takeResL]at hj⟩
 |cons x l ih=>
  intro vs tips u ks h hl hall
  cases vs with
  |nil=>simp at hl
  |cons v vs=>
   obtain⟨hr,hf⟩:=hall 0 x v rfl rfl
   obtain⟨k1,T1,r1,⟨u1,e1⟩,f1⟩:=give_take1 h hr hf
   obtain⟨k2,t2,T2,⟨u2,e2⟩,l2,a2⟩:=ih vs (giveRes tips x).2 (takeRes u (giveRes tips x).1).2 (ks++k1) T1 (by simpa using hl) (fun j y z hy hz=>hall (j+1) y z (by simpa using hy) (by simpa using hz))
   refine⟨k1++k2,t2, ?_⟩
   simp only[giveResL,takeResL]
   rw[←List.append_assoc]
   refine⟨T2,⟨u1++u2,by rw[e2,e1,List.append_assoc]⟩,by simp[l2],fun j y z hy hz=>?_⟩
   cases j with
   |zero=>
    simp at hy hz
    subst hy;subst hz
    refine⟨r1, ?_⟩
    rw[e2]
    exact live_mono_fr T1.len f1
   |succ j=>exact a2 j y z (by simpa using hy) (by simpa using hz)
theorem ptr_of_deref{lk:Nat→Prop}{p:AV}{v:Value}{t:TypeId}{a:AV}(h:RV w mu hw lk p v)(he:evLoad P S t p=some a):∃ad,v=.pointer (some ad):=by
 unfold evLoad at he
 split at he
 case h_2=>simp at he
 rename_i cs off hd
 unfold deref at hd
 split at hd
 ·cases h;exact⟨_,rfl⟩
 ·cases h;exact⟨_,rfl⟩
 ·simp at hd
theorem res_run{E:Env}{a:Act}(I:Inv base prot E.tips S w mu hw ti)(SL:Slots S w mu hw (live E.tips S mu) ti E.slots a.tmps){fn:Func}:∀(l:List ResultVar)(vs:List AV),evRes P fn E S l=some vs→
 ∃ys:List Value,(l.mapM (fun r=>match r with
  |.tmp t=>pure (a.tmps.getD t undef)
  |.cell a' t=>do loadVar t (←asAddr (a.tmps.getD a' undef)):ResultVar→Sem Value)).run P w=.ok ys w∧vs.length=ys.length∧
  ∀(j:Nat)(x:AV)(v:Value),vs[j]? =some x→ys[j]? =some v→RV w mu hw (lkS S mu) x v∧Flag (live E.tips S mu) ti x v:=by
 intro l
 induction l with
 |nil=>
  intro vs h
  simp[evRes]at h
  subst h
  exact⟨[],rfl,rfl,fun j x v hj=>by simp at hj⟩
 |cons r l ih=>
  intro vs h
  cases r with
  |tmp t=>
   simp only[evRes,Option.map_eq_some_iff]at h
   obtain⟨vs',h1,rfl⟩:=h
   obtain⟨ys,a1,a2,a3⟩:=ih vs' h1
   refine⟨a.tmps.getD t undef::ys, ?_,by simp[a2],fun j x v hx hv=>?_⟩
   ·rw[List.mapM_cons]
    simp only[Sem.run_bind,Sem.run_pure,Result.andThen_ok,a1]
   ·cases j with
    |zero=>simp at hx hv;subst hx;subst hv;simpa using SL.2 t
    |succ j=>exact a3 j x v (by simpa using hx) (by simpa using hv)
  |cell a' t=>
   simp only[evRes]at h
   split at h
   ·rename_i v0 vs' h0 h1
    simp at h
    subst h
    obtain⟨ys,a1,a2,a3⟩:=ih vs' h1
    obtain⟨hp,_⟩:=SL.2 a'
    obtain⟨y,b1,b2,b3⟩:=load_run (P:=P) I hp h0
    obtain⟨ad,had⟩:=ptr_of_deref hp h0
    refine⟨y::ys, ?_,by simp[a2],fun j x v hx hv=>?_⟩
    ·rw[had]at b1
     have b1':(loadVar t ad).run P w=.ok y w:=by simpa[Instr.loadAt,Instr.sureAddr]using b1
     have hrun:(do loadVar t (←asAddr (a.tmps.getD a' undef)):Sem Value).run P w=.ok y w:=by rw[had];exact b1'
     rw[List.mapM_cons,Sem.run_bind]
     show((do loadVar t (←asAddr (a.tmps.getD a' undef)):Sem Value).run P w).andThen _=_
     rw[hrun,Result.andThen_ok,Sem.run_bind,a1]
     rfl
    ·cases j with
     |zero=>simp at hx hv;subst hx;subst hv;exact⟨b2,b3⟩
     |succ j=>exact a3 j x v (by simpa using hx) (by simpa using hv)
   ·simp at h
end
end
section
section
variable{P:Program}{base:Nat}{prot:Nat→Prop}{tips tips':List (Option Nat)}{S S1:St}{w w':World}{mu mu1:Nat→Option Nat}{hw hw1:Nat→Nat}{ti ti1:Id→TI}{n0:Nat}
theorem old_of_inv(I:Inv base prot tips S w mu hw ti):OldOK (fun i=>∃b,mu i=some b) S.length (fun _=>true) S:=by
 intro i bx hi ⟨b,hb⟩ hS
 rw[ltL_iff]
 intro x hx
 obtain⟨y,hr⟩:=boxR_cs (I.ibox i _ b hS hb) x hx
 exact hr.lt_of (fun i b h=>(I.idom i b h).1) fun _ _ _ _=>rfl
theorem leave_tips{orig tr:List (Option Nat)}{ks:List Nat}{tipsE:List (Option Nat)}(I1:Inv base prot orig S1 w' mu1 hw1 ti1)(lv:LvExt (live [] S mu) ti (live orig S1 mu1) ti1)(T:Taken orig tipsE tr ks):
 Inv base prot tr S1 w' mu1 hw1 (tiOf ti1 ks)∧LvExt (live [] S mu) ti (live tr S1 mu1) (tiOf ti1 ks):=by
 have kind:∀id L,live tr S1 mu1 id=some (some L)→∃id',live orig S1 mu1 id'=some (some L)∧tiOf ti1 ks id=ti1 id'∧((∃i j,id=.bx i j∧id'=.bx i j)∨∃m k,id=.fr m∧id'=.fr k∧ks[m]? =some k):=by
  intro id L h
  cases id with
  |fr m=>
   obtain⟨k,a,b,_⟩:=T.from_ m L h
   exact⟨.fr k,b,by simp[tiOf,a],.inr ⟨m,k,rfl,rfl,a⟩⟩
  |bx i j=>exact⟨.bx i j,h,rfl,.inl ⟨i,j,rfl,rfl⟩⟩
 refine⟨⟨I1.ibox,fun i cells bt l b h1 h2 vs el h3 j x y hx hy=>?_,I1.iinj,I1.idom,I1.iout,fun id L hid=>?_,fun id id' L L' h1 h2 hb=>?_,I1.iprot,I1.ibase,I1.iglb⟩,fun id o ho=>?_⟩
 ·obtain⟨p,q⟩:=I1.iflag i cells bt l b h1 h2 vs el h3 j x y hx hy
  refine⟨p, ?_⟩
  cases x with
  |sl rr sz es=>
   cases rr with
   |fr n=>simp[noFr]at p
   |fresh=>simp[noFr]at p
   |bx i' j'=>exact q
   |_=>exact q
  |tup vs=>exact q
  |_=>trivial
 ·obtain⟨id',h1,h2,_⟩:=kind id L hid
  rw[h2]
  exact I1.itip id' L h1
 ·obtain⟨i1,a1,a2,a3⟩:=kind id L h1
  obtain⟨i2,b1,b2,b3⟩:=kind id' L' h2
  rw[a2,b2]at hb
  have:=I1.itinj i1 i2 L L' a1 b1 hb
  subst this
  rcases a3 with⟨i,j,rfl,rfl⟩|⟨m,k,rfl,rfl,hk⟩<;>rcases b3 with⟨i',j',rfl,h⟩|⟨m',k',rfl,h,hk'⟩
  ·cases h;rfl
  ·cases h
  ·cases h
  ·cases h
   rw[T.inj m m' k hk hk']
 ·cases id with
  |fr n=>simp[live]at ho
  |bx i j=>exact lv _ o ho
noncomputable def settle(w:World)(n:Nat)(mu:Nat→Option Nat)(hw:Nat→Nat)(b:Nat):Nat:=
 open Classical in if∃i,n≤i∧mu i=some b then(match w.heap[b]? with|some (.cells vs _ _)=>vs.size|_=>0)else hw b
theorem settle_no{n b:Nat}(h:∀i,n≤i→mu i≠some b):settle w n mu hw b=hw b:=by
 unfold settle
 rw[if_neg]
 rintro⟨i,a,c⟩
 exact h i a c
theorem settle_yes{n b i:Nat}{vs:Array Value}{el:TypeId}{fr:Nat × Nat}(h:n≤i)(hm:mu i=some b)(hb:w.heap[b]? =some (.cells vs el fr)):settle w n mu hw b=vs.size:=by
 unfold settle
 rw[if_pos ⟨i,h,hm⟩,hb]
theorem settle_ge{n b:Nat}(I:Inv base prot tips S w mu hw ti):hw b≤settle w n mu hw b:=by
 by_cases h:∃i,n≤i∧mu i=some b
 ·obtain⟨i,_,hm⟩:=h
  rw[(I.idom i b hm).2.2.2.1]
  exact Nat.zero_le _
 ·rw[settle_no fun i a c=>h ⟨i,a,c⟩]
  exact Nat.le_refl _
theorem inv_drop{tr:List (Option Nat)}(I:Inv base prot [] S w mu hw ti)(I1:Inv base prot tr S1 w' mu1 hw1 ti1)(e:Ext base prot S w mu hw S1 w' mu1 hw1)
 (lv:LvExt (live [] S mu) ti (live tr S1 mu1) ti1) (hole:∀i,mu i=none→i<S.length→S1[i]? =S[i]?∧mu1 i=none) (K:Keeps S.length S S1):
 Inv base prot tr (S1.take S.length) w' mu (settle w' S.length mu1 hw1) ti1∧Ext base prot S w mu hw (S1.take S.length) w' mu (settle w' S.length mu1 hw1)∧LvExt (live [] S mu) ti (live tr (S1.take S.length) mu) ti1∧
  (∀r v,lt S.length (fun _=>true) r=true→RV w' mu1 hw1 (lkS S1 mu1) r v→RV w' mu (settle w' S.length mu1 hw1) (lkS (S1.take S.length) mu) r v)∧
  (∀id,(∀i j,id=.bx i j→i<S.length)→live tr (S1.take S.length) mu id=live tr S1 mu1 id)∧∀i,mu i=none→i<S.length→(S1.take S.length)[i]? =S[i]? :=by
 have hmu:∀i b,i<S.length→mu1 i=some b→mu i=some b:=by
  intro i b hi h
  cases hm:mu i with
  |none=>rw[(hole i hm hi).2]at h;cases h
  |some b'=>rw[e.emu i b' hm]at h;exact h
 have hmu2:∀i,i<S.length→mu i=mu1 i:=by
  intro i hi
  cases hm:mu i with
  |none=>exact(hole i hm hi).2.symm
  |some b'=>exact(e.emu i b' hm).symm
 have htake:∀(i:Nat),i<S.length→(S1.take S.length)[i]? =S1[i]? :=fun i hi=>List.getElem?_take_of_lt hi
 have hin:∀(i:Nat)(bx:Box),(S1.take S.length)[i]? =some bx→i<S.length∧S1[i]? =some bx:=by
  intro i bx h
  have hi:i<S.length:=by have:=lt_of_get h;simp at this;omega
  exact⟨hi,by rw[←htake i hi];exact h⟩
 have hlk:∀i b,i<S.length→mu1 i=some b→lkS S1 mu1 b→lkS (S1.take S.length) mu b:=by
  rintro i b hi hm ⟨i',cs,bt,h1,h2⟩
  have:=I1.iinj i' i b h2 hm
  subst this
  exact⟨i',cs,bt,by rw[htake i' hi];exact h1,hmu i' b hi hm⟩
 have old:=K.old (fun i=>∃b,mu i=some b) S.length (fun _=>true) (Nat.le_refl _) (old_of_inv I)
 have hge:∀b o,o<hw1 b→o<settle w' S.length mu1 hw1 b:=fun b o h=>Nat.lt_of_lt_of_le h (settle_ge I1)
 have restr:∀x y,lt S.length (fun _=>true) x=true→RV w' mu1 hw1 (lkS S1 mu1) x y→RV w' mu (settle w' S.length mu1 hw1) (lkS (S1.take S.length) mu) x y:=
  fun x y hl h=>(h.restrict hmu (fun i b hi _ hm hb=>hlk i b hi hm hb) hl).mono (fun _ _ h=>h) hge (fun _ h=>h) (fun _ _ _ _ h=>h)
 have hlive:∀id,(∀i j,id=.bx i j→i<S.length)→live tr (S1.take S.length) mu id=live tr S1 mu1 id:=by
  intro id hid
  cases id with
  |fr n=>rfl
  |bx i j=>
   have hi:=hid i j rfl
   simp only[live,hmu2 i hi,htake i hi]
 have hbx:∀t i j L,live t (S1.take S.length) mu (.bx i j)=some (some L)→i<S.length:=by
  intro t i j L h
  cases hm:mu i with
  |none=>simp[live,hm]at h
  |some b=>exact(I.idom i b hm).1
 have up:∀id L,live tr (S1.take S.length) mu id=some (some L)→live tr S1 mu1 id=some (some L):=by
  intro id L h
  rw[←h]
  refine(hlive id fun i j e=>?_).symm
  subst e
  exact hbx tr i j L h
 have old0:∀i b,i<S.length→mu1 i=some b→settle w' S.length mu1 hw1 b=hw1 b:=by
  intro i b hi hm
  refine settle_no fun i' h hm'=>?_
  have:=I1.iinj i i' b hm hm'
  omega
 refine⟨⟨fun i bx b h1 h2=>?_,fun i cells bt l b h1 h2 vs el h3 j x y hx hy=>?_,I.iinj,fun i b hi=>?_,fun b hb=>?_,fun id L hid=>?_,fun id id' L L' h1 h2 hb=>I1.itinj id id' L L' (up _ _ h1) (up _ _ h2) hb,I1.iprot,I1.ibase,I1.iglb.mono (fun b=>settle_ge I1) (fun _ _ _ _ h=>h)⟩, ?_, ?_,restr,hlive,fun i hi hl=>?_⟩
 ·obtain⟨hi,hS⟩:=hin i bx h1
  have:=I1.ibox i bx b hS (e.emu i b h2)
  cases bx with
  |mem cs bt l=>
   obtain⟨vs,el,p,q⟩:=this
   exact⟨vs,el,p,q.1,fun j x hj=>by
    obtain⟨a,y,c,d⟩:=q.2 j x hj
    exact⟨a,y,c,restr x y (ltL_get (show ltL _ _ cs=true from old i _ hi ⟨b,h2⟩ hS) hj) d⟩⟩
  |iter s pos=>exact this
  |map es=>
   obtain⟨ms,clock,a1,a2,a3⟩:=this
   have hl:=ltL_iff.1 (old i _ hi ⟨b,h2⟩ hS)
   exact⟨ms,clock,a1,a2,fun j k v m hj hm=>by
    obtain⟨c1,c2,c3⟩:=a3 j k v m hj hm
    have hmem:=List.mem_of_getElem? hj
    exact⟨restr _ _ (hl k (List.mem_flatMap.2 ⟨_,hmem,by simp⟩)) c1,c2,restr _ _ (hl v (List.mem_flatMap.2 ⟨_,hmem,by simp⟩)) c3⟩⟩
 ·obtain⟨hi,hS⟩:=hin i _ h1
  obtain⟨p,q⟩:=I1.iflag i cells bt l b hS (e.emu i b h2) vs el h3 j x y hx hy
  have hxl:=ltL_get (show ltL _ _ cells=true from old i _ hi ⟨b,h2⟩ hS) hx
  refine⟨p, ?_⟩
  cases x with
  |sl rr sz es=>
   cases rr with
   |fr n=>simp[noFr]at p
   |fresh=>simp[noFr]at p
   |bx i' j'=>
    obtain⟨o,a,b⟩:=q
    have hi':i'<S.length:=by simp only[lt,rlt,Bool.and_eq_true,decide_eq_true_eq]at hxl;exact hxl.1
    exact⟨o,by rw[hlive _ fun i0 j0 e0=>by cases e0;exact hi'];exact a,b⟩
   |_=>exact q
  |tup vs=>exact q
  |_=>trivial
 ·obtain⟨a,b',c,d,f⟩:=I1.idom i b (e.emu i b hi)
  have hi2:=(I.idom i b hi).1
  exact⟨by simp;omega,b',c,by rw[old0 i b hi2 (e.emu i b hi)];exact d,f⟩
 ·rw[settle_no fun i _ hm=>by have:=(I1.idom i b hm).2.2.1;omega]
  exact I1.iout b hb
 ·obtain⟨a,b,c⟩:=I1.itip id L (up id L hid)
  exact⟨a.keep (settle_no fun i _=>c i) rfl,b,fun i hi=>c i (e.emu i _ hi)⟩
 ·refine⟨fun _ _ h=>h,fun b=>Nat.le_trans (e.ehw b) (settle_ge I1),fun b hb=>?_,e.ecell,fun b hb=>⟨(e.eprot b hb).1, ?_⟩,e.ebelow,by have:=e.elen;simp;omega⟩
  ·obtain⟨i,cs,bt,h1,h2⟩:=hb
   exact hlk i b (I.idom i b h2).1 (e.emu i b h2) (e.elk b ⟨i,cs,bt,h1,h2⟩)
  ·rw[settle_no fun i _ hm=>(I1.idom i b hm).2.2.2.2 hb]
   exact(e.eprot b hb).2
 ·intro id o ho
  cases id with
  |fr n=>simp[live]at ho
  |bx i j=>
   have hi:i<S.length:=by
    cases hm:mu i with
    |none=>simp[live,hm]at ho
    |some b=>exact(I.idom i b hm).1
   obtain⟨o',h1,h2⟩:=lv _ o ho
   exact⟨o',by rw[hlive _ fun i' j' e0=>by cases e0;exact hi];exact h1,h2⟩
 ·rw[htake i hl];exact(hole i hi hl).1
theorem plain_rv{mu2:Nat→Option Nat}{hw2:Nat→Nat}{lk lk2:Nat→Prop}(hge:∀b o,o<hw b→o<hw2 b){a:AV}{v:Value}(hp:plain a=true)(h:RV w mu hw lk a v):RV w mu2 hw2 lk2 a v:=by
 have h1:RV w mu2 hw lk2 a v:=h.restrict (m:=0) (q:=fun _=>false) (fun i b h=>by omega) (fun i b h=>by omega) (plain_lt 0 _ a hp)
 exact h1.mono (fun _ _ h=>h) hge (fun _ h=>h) (fun _ _ _ _ h=>h)
theorem mapM_get{α β:Type}{f:α→Option β}{l:List α}{r:List β}(h:l.mapM f=some r):r.length=l.length∧∀(j:Nat)(y:β),r[j]? =some y→∃x,l[j]? =some x∧f x=some y:=mapM_opt f l r h
theorem plainL_of:∀{r:List AV},(∀x∈r,plain x=true)→plainL r=true
 |[],_=>rfl
 |a::r,h=>by simp[plainL,h a (by simp),plainL_of (r:=r) fun x hx=>h x (by simp[hx])]
theorem plainEs_of:∀{r:List (List AV)},(∀x∈r,plainL x=true)→plainEs r=true
 |[],_=>rfl
 |a::r,h=>by simp[plainEs,h a (by simp),plainEs_of (r:=r) fun x hx=>h x (by simp[hx])]
theorem frz_plain:∀(d:Nat)(v v':AV),frz S1 n0 d v=some v'→plain v'=true∧(nf v=true→nf v'=true):=by
 intro d
 induction d with
 |zero=>intro v v' h;simp[frz]at h
 |succ d ih=>
  intro v v' h
  have cells:∀(l r:List AV),l.mapM (frz S1 n0 d)=some r→plainL r=true:=by
   intro l r h
   obtain⟨_,h2⟩:=mapM_get h
   have:∀x∈r,plain x=true:=by
    intro x hx
    obtain⟨j,hj⟩:=List.getElem?_of_mem hx
    obtain⟨y,_,hy⟩:=h2 j x hj
    exact(ih y x hy).1
   exact plainL_of this
  have rows:∀(es r:List (List AV)),(es.mapM fun(l:List AV)=>l.mapM (frz S1 n0 d))=some r→plainEs r=true:=by
   intro es r h
   obtain⟨_,h2⟩:=mapM_get h
   have:∀x∈r,plainL x=true:=by
    intro x hx
    obtain⟨j,hj⟩:=List.getElem?_of_mem hx
    obtain⟨y,_,hy⟩:=h2 j x hj
    exact cells y x hy
   exact plainEs_of this
  unfold frz at h
  split at h
  ·rename_i hp;simp at h;subst h;exact⟨hp,id⟩
  ·split at h
   ·split at h
    ·simp at h
    split at h
    ·simp only[Option.map_eq_some_iff]at h
     obtain⟨r,hr,rfl⟩:=h
     exact⟨rows _ r hr,fun _=>rfl⟩
    ·simp at h
   ·split at h
    ·simp at h
    split at h
    ·simp only[Option.map_eq_some_iff]at h
     obtain⟨r,hr,rfl⟩:=h
     exact⟨rows _ r hr,fun _=>rfl⟩
    ·simp at h
   ·split at h
    ·simp at h
    split at h
    ·simp only[Option.map_eq_some_iff]at h
     obtain⟨r,hr,rfl⟩:=h
     refine⟨?_,fun _=>rfl⟩
     rename_i cs _ _ _
     refine cells (cs.map strip) r ?_
     rw[←hr,List.mapM_map]
     rfl
    ·simp at h
   ·simp only[Option.map_eq_some_iff]at h
    obtain⟨r,hr,rfl⟩:=h
    exact⟨rows _ r hr,fun _=>rfl⟩
   ·simp only[Option.map_eq_some_iff]at h
    obtain⟨r,hr,rfl⟩:=h
    exact⟨rows _ r hr,fun _=>rfl⟩
   ·simp only[Option.map_eq_some_iff]at h
    obtain⟨r,hr,rfl⟩:=h
    exact⟨(ih _ _ hr).1,fun _=>rfl⟩
   ·simp only[Option.map_eq_some_iff]at h
    obtain⟨r,hr,rfl⟩:=h
    exact⟨cells _ r hr,fun h=>by simp[nf]at h⟩
   ·simp at h
theorem nfa_nf{a:AV}(h:nf a=true):nfa a=true:=by
 cases a<;>first|rfl|exact h
set_option maxHeartbeats 1000000 in
theorem frz_rv{tr:List (Option Nat)}{mu2:Nat→Option Nat}{lk2:Nat→Prop}(I1:Inv base prot tr S1 w' mu1 hw1 ti1):∀(d:Nat)(v v':AV)(x:Value),RV w' mu1 hw1 (lkS S1 mu1) v x→frz S1 n0 d v=some v'→RV w' mu2 (settle w' n0 mu1 hw1) lk2 v' x:=by
 have hge:∀b o,o<hw1 b→o<settle w' n0 mu1 hw1 b:=fun b o h=>Nat.lt_of_lt_of_le h (settle_ge I1)
 intro d
 induction d with
 |zero=>intro v v' x _ h;simp[frz]at h
 |succ d ih=>
  intro v v' x hr h
  have box:∀(i off len cap sz b:Nat)(es:List (List AV))(z:Nat),¬i<n0→mu1 i=some b→len≤cap→sz≠0→
   (match S1[i]? with
    |some (.mem cs _ _)=>if off+len*sz≤cs.length∧sz≠0 then some (sz,(List.range len).map fun k=>(sub cs (off+k*sz) sz).map strip)else none
    |_=>none)=some (z,es)→∀es',(es.mapM fun(l:List AV)=>l.mapM (frz S1 n0 d))=some es'→
   RV w' mu2 (settle w' n0 mu1 hw1) lk2 (.sl .none sz es') (.slice (some ⟨b,off,none⟩) len cap):=by
   intro i off len cap sz b es z hi hm h0 hsz hes es' hes'
   split at hes
   case h_2=>simp at hes
   rename_i cs bt l hS
   split at hes
   case isFalse=>simp at hes
   rename_i hc
   simp at hes
   obtain⟨rfl,rfl⟩:=hes
   obtain⟨vs,el,hvs,hrb⟩:=I1.ibox i _ b hS hm
   have hset:=settle_yes (n:=n0) (hw:=hw1) (Nat.le_of_not_lt hi) hm hvs
   obtain⟨l1,l2⟩:=mapM_get hes'
   have get:∀(i':Nat)(c':List AV),es'[i']? =some c'→i'<len∧(((sub cs (off+i'*sz) sz).map strip).mapM (frz S1 n0 d))=some c'∧off+i'*sz+sz≤cs.length:=by
    intro i' c' hi'
    obtain⟨c,hc1,hc2⟩:=l2 i' c' hi'
    have hlt:i'<len:=by have:=lt_of_get hc1;simpa using this
    simp[hlt]at hc1
    have:(i'+1)*sz≤len*sz:=Nat.mul_le_mul_right sz hlt
    rw[Nat.add_mul]at this
    exact⟨hlt,hc1▸hc2,by omega⟩
   have elem:∀(i':Nat)(c:List AV)(j:Nat)(a:AV),es'[i']? =some c→c[j]? =some a→
    nf a=true∧off+i'*sz+j<settle w' n0 mu1 hw1 b∧w'.cell? ⟨b,off+i'*sz+j,none⟩=some (vs.getD (off+i'*sz+j) undef)∧RV w' mu2 (settle w' n0 mu1 hw1) lk2 a (vs.getD (off+i'*sz+j) undef):=by
    intro i' c j a hi' hj
    obtain⟨g1,g2,g3⟩:=get i' c hi'
    obtain⟨k1,k2⟩:=mapM_get g2
    obtain⟨y,hy1,hy2⟩:=k2 j a hj
    obtain⟨p,u,hu,hru⟩:=(hrb.subrl (off+i'*sz) sz g3).2 j y hy1
    have hjl:j<sz:=by have:=lt_of_get hy1;simp[sub]at this;omega
    have hu':vs[off+i'*sz+j]? =some u:=by
     rw[Array.getElem?_extract]at hu
     split at hu
     ·exact hu
     ·cases hu
    have eg:vs.getD (off+i'*sz+j) undef=u:=by simp[Array.getD_eq_getD_getElem?,hu']
    rw[eg]
    exact⟨(frz_plain d y a hy2).2 p,by rw[hset];exact lt_of_aget hu',by rw[cell_of_block hvs,hu'],ih y a u hru hy2⟩
   refine .sl .none sz es' b off len cap (fun i' j=>vs.getD (off+i'*sz+j) undef) ⟨by rw[l1];simp,h0,hsz⟩ (by simp) (by simp) (by simp) (fun i' c hi'=>?_) (fun i' c j a hi' hj=>?_) (fun i' c j a hi' hj=>(elem i' c j a hi' hj).2.2.2)
   ·obtain⟨g1,g2,g3⟩:=get i' c hi'
    rw[(mapM_get g2).1]
    simp[sub];omega
   ·obtain⟨e1,e2,e3,_⟩:=elem i' c j a hi' hj
    exact⟨e1,e2,e3⟩
  have slc:∀(r:Right)(sz:Nat)(es es':List (List AV)),(r=.none∨r=.exact)→RV w' mu1 hw1 (lkS S1 mu1) (.sl r sz es) x→(es.mapM fun(l:List AV)=>l.mapM (frz S1 n0 d))=some es'→RV w' mu2 (settle w' n0 mu1 hw1) lk2 (.sl .none sz es') x:=by
   intro r sz es es' hrr hr hes'
   obtain⟨l1,l2⟩:=mapM_get hes'
   cases hr with
   |emp _ p cap=>
    obtain rfl:es'=[]:=by simpa using hes'.symm
    exact .emp sz p cap
   |emp0 _ p=>
    obtain rfl:es'=[]:=by simpa using hes'.symm
    exact .emp sz p 0
   |sl _ _ _ b o len cap f h0 hrx hb hl hs h1 h2=>
    refine .sl .none sz es' b o len cap f ⟨by rw[l1];exact h0.1,h0.2⟩ (by simp) (by simp) (by simp) (fun i c hi=>?_) (fun i c j a hi hj=>?_) (fun i c j a hi hj=>?_)
    ·obtain⟨c0,hc1,hc2⟩:=l2 i c hi
     rw[(mapM_get hc2).1]
     exact hs i c0 hc1
    ·obtain⟨c0,hc1,hc2⟩:=l2 i c hi
     obtain⟨y,hy1,hy2⟩:=(mapM_get hc2).2 j a hj
     obtain⟨p,q,z⟩:=h1 i c0 j y hc1 hy1
     refine⟨(frz_plain d y a hy2).2 p, ?_,z⟩
     rcases hrr with rfl|rfl<;>exact hge _ _ q
    ·obtain⟨c0,hc1,hc2⟩:=l2 i c hi
     obtain⟨y,hy1,hy2⟩:=(mapM_get hc2).2 j a hj
     exact ih y a _ (h2 i c0 j y hc1 hy1) hy2
  unfold frz at h
  split at h
  ·rename_i hp;simp at h;subst h;exact plain_rv hge hp hr
  ·split at h
   ·rename_i i off len sz _
    split at h
    ·simp at h
    rename_i hi
    split at h
    case h_2=>simp at h
    rename_i z es hes
    simp only[Option.map_eq_some_iff]at h
    obtain⟨es',hes',rfl⟩:=h
    cases hr with
    |oref _ _ _ _ b cap hb h0=>exact box i off len cap sz b es z hi hb h0.1 h0.2 hes es' hes'
   ·rename_i i off len cap sz _
    split at h
    ·simp at h
    rename_i hi
    split at h
    case h_2=>simp at h
    rename_i z es hes
    simp only[Option.map_eq_some_iff]at h
    obtain⟨es',hes',rfl⟩:=h
    cases hr with
    |aref _ _ _ _ _ b hb h0=>exact box i off len cap sz b es z hi hb h0.1 h0.2 hes es' hes'
   ·rename_i i off _
    split at h
    ·simp at h
    rename_i hi
    split at h
    case h_2=>simp at h
    rename_i cs bt l hS
    simp only[Option.map_eq_some_iff]at h
    obtain⟨cs',hcs',rfl⟩:=h
    cases hr with
    |ptr _ _ b hb=>
     obtain⟨vs,el,hvs,hrb⟩:=I1.ibox i _ b hS hb
     have hset:=settle_yes (n:=n0) (hw:=hw1) (Nat.le_of_not_lt hi) hb hvs
     have elem:∀(j:Nat)(a:AV),cs'[j]? =some a→nf a=true∧j<settle w' n0 mu1 hw1 b∧w'.cell? ⟨b,j,none⟩=some (vs.getD j undef)∧RV w' mu2 (settle w' n0 mu1 hw1) lk2 a (vs.getD j undef):=by
      intro j a hj
      obtain⟨y,hy1,hy2⟩:=(mapM_get hcs').2 j a hj
      obtain⟨p,u,hu,hru⟩:=hrb.2 j y hy1
      have eg:vs.getD j undef=u:=by simp[Array.getD_eq_getD_getElem?,hu]
      rw[eg]
      exact⟨(frz_plain d _ a hy2).2 p,by rw[hset];exact lt_of_aget hu,by rw[cell_of_block hvs,hu],ih _ a u hru.strip hy2⟩
     have:=RV.rptr (w:=w') (mu:=mu2) (hw:=settle w' n0 mu1 hw1) (lk:=lk2) .none cs' off b 0 (fun j=>vs.getD j undef) (.inl rfl) (fun j a hj=>by
      obtain⟨e1,e2,e3,_⟩:=elem j a hj
      exact⟨e1,by simpa[immR]using e2,by simpa using e3⟩) (fun j a hj=>(elem j a hj).2.2.2)
     simpa using this
   ·simp only[Option.map_eq_some_iff]at h
    obtain⟨es',hes',rfl⟩:=h
    exact slc .none _ _ _ (.inl rfl) hr hes'
   ·simp only[Option.map_eq_some_iff]at h
    obtain⟨es',hes',rfl⟩:=h
    exact slc .exact _ _ _ (.inr rfl) hr hes'
   ·rename_i t a _
    simp only[Option.map_eq_some_iff]at h
    obtain⟨a',ha',rfl⟩:=h
    cases hr with
    |ifc _ _ y h1 h2=>
     refine .ifc t a' y ?_ (ih a a' y h2 ha')
     cases a with
     |agg cs=>
      cases d with
      |zero=>simp[frz]at ha'
      |succ d=>
       unfold frz at ha'
       split at ha'
       ·simp at ha';subst ha';rfl
       ·simp only[Option.map_eq_some_iff]at ha'
        obtain⟨_,_,rfl⟩:=ha'
        rfl
     |_=>
      exact nfa_nf ((frz_plain d _ a' ha').2 h1)
   ·rename_i cs _
    simp only[Option.map_eq_some_iff]at h
    obtain⟨cs',hcs',rfl⟩:=h
    cases hr with
    |agg _ f h1 h2=>
     obtain⟨l1,l2⟩:=mapM_get hcs'
     rw[←l1]
     refine .agg cs' f (fun j a hj=>?_) (fun j a hj=>?_)
     ·obtain⟨y,hy1,hy2⟩:=l2 j a hj
      exact(frz_plain d y a hy2).2 (h1 j y hy1)
     ·obtain⟨y,hy1,hy2⟩:=l2 j a hj
      exact ih y a _ (h2 j y hy1) hy2
   ·simp at h
theorem giveRes_notTup(tips:List (Option Nat))(x:AV)(h:notTup x=true):notTup (giveRes tips x).1=true:=by
 cases x with
 |sl r sz es=>cases r<;>first|rfl|(simp only[giveRes];split<;>rfl)
 |tup vs=>simp[notTup]at h
 |aggx vs=>simp[notTup]at h
 |_=>rfl
theorem takeRes_notTup(u:List (Option Nat))(x:AV)(h:notTup x=true):notTup (takeRes u x).1=true:=by
 cases x with
 |sl r sz es=>cases r<;>rfl
 |tup vs=>simp[notTup]at h
 |aggx vs=>simp[notTup]at h
 |_=>rfl
theorem Flag.of1{lv:Live}{x:AV}{v:Value}(h:Flag1 lv ti x v):Flag lv ti x v:=by
 cases x with
 |tup vs=>exact h.elim
 |aggx vs=>exact h.elim
 |sl r sz es=>exact h
 |_=>trivial
theorem Flag.to1{lv:Live}{x:AV}{v:Value}(h:Flag lv ti x v)(hn:notTup x=true):Flag1 lv ti x v:=by
 cases x with
 |tup vs=>simp[notTup]at hn
 |aggx vs=>simp[notTup]at hn
 |sl r sz es=>exact h
 |_=>trivial
end
end
mutual
theorem avEq_sound:∀(a b:AV),avEq a b=true→a=b
 |.undef,b,h=>by cases b<;>simp_all[avEq]
 |.bool _,b,h=>by cases b<;>simp_all[avEq]
 |.int _ _,b,h=>by cases b<;>simp_all[avEq]
 |.str _,b,h=>by cases b<;>simp_all[avEq]
 |.nilp,b,h=>by cases b<;>simp_all[avEq]
 |.ptr _ _,b,h=>by cases b<;>simp_all[avEq]
 |.rptr r cs o,b,h=>by
  cases b<;>simp[avEq]at h
  rename_i r' cs' o'
  obtain⟨⟨rfl,rfl⟩,h⟩:=h
  rw[avEqL_sound cs cs' h]
 |.nils,b,h=>by cases b<;>simp_all[avEq]
 |.sl r sz es,b,h=>by
  cases b<;>simp[avEq]at h
  rename_i r' sz' es'
  obtain⟨⟨rfl,rfl⟩,h⟩:=h
  rw[avEqLL_sound es es' h]
 |.aref _ _ _ _ _,b,h=>by cases b<;>simp_all[avEq]
 |.oref _ _ _ _,b,h=>by cases b<;>simp_all[avEq]
 |.fn f x y,b,h=>by
  cases b<;>simp[avEq]at h
  rename_i f' x' y'
  obtain⟨⟨rfl,h1⟩,h2⟩:=h
  rw[avEqL_sound x x' h1,avEqL_sound y y' h2]
 |.nilfn,b,h=>by cases b<;>simp_all[avEq]
 |.nilm,b,h=>by cases b<;>simp_all[avEq]
 |.mref _,b,h=>by cases b<;>simp_all[avEq]
 |.ifc t v,b,h=>by
  cases b<;>simp[avEq]at h
  rename_i t' v'
  obtain⟨rfl,h⟩:=h
  rw[avEq_sound v v' h]
 |.nili,b,h=>by cases b<;>simp_all[avEq]
 |.agg cs,b,h=>by
  cases b<;>simp[avEq]at h
  rename_i cs'
  rw[avEqL_sound cs cs' h]
 |.aggx cs,b,h=>by
  cases b<;>simp[avEq]at h
  rename_i cs'
  rw[avEqL_sound cs cs' h]
 |.tup cs,b,h=>by
  cases b<;>simp[avEq]at h
  rename_i cs'
  rw[avEqL_sound cs cs' h]
theorem avEqL_sound:∀(a b:List AV),avEqL a b=true→a=b
 |[],b,h=>by cases b<;>simp_all[avEqL]
 |x::r,b,h=>by
  cases b<;>simp[avEqL]at h
  rename_i y s
  rw[avEq_sound x y h.1,avEqL_sound r s h.2]
theorem avEqLL_sound:∀(a b:List (List AV)),avEqLL a b=true→a=b
 |[],b,h=>by cases b<;>simp_all[avEqLL]
 |x::r,b,h=>by
  cases b<;>simp[avEqLL]at h
  rename_i y s
  rw[avEqL_sound x y h.1,avEqLL_sound r s h.2]
end
theorem map_parts{ρ ρ':Operand→AV}{ps:Array (Nat × Operand)}(h:∀x∈ps.toList.map (·.2),ρ x=ρ' x):(ps.toList.map fun x=>(x.1,ρ x.2))=ps.toList.map fun x=>(x.1,ρ' x.2):=
 List.map_congr_left fun x hx=>by rw[h x.2 (List.mem_map_of_mem hx)]
theorem map_args{ρ ρ':Operand→AV}{ps:Array Operand}(h:∀x∈ps,ρ x=ρ' x):ps.toList.map ρ=ps.toList.map ρ':=
 List.map_congr_left fun x hx=>h x (by simpa using hx)
theorem evPure_congr{P:Program}{ρ ρ':Operand→AV}{o:Op}(h:∀x∈o.operands,ρ x=ρ' x):evPure P ρ o=evPure P ρ' o:=by
 cases o with
 |move x=>simp[evPure,h x (by simp[Op.operands])]
 |assign x=>simp[evPure,h x (by simp[Op.operands])]
 |pick c a b=>simp only[evPure,h c (by simp[Op.operands]),h a (by simp[Op.operands]),h b (by simp[Op.operands])]
 |build t ps=>simp only[evPure,map_parts (ρ:=ρ) (ρ':=ρ') (ps:=ps) fun x hx=>h x (by simpa[Op.operands]using hx)]
 |nilCheck x=>simp only[evPure,h x (by simp[Op.operands])]
 |binOp op t x y yt=>simp only[evPure,h x (by simp[Op.operands]),h y (by simp[Op.operands])]
 |unOp op t x=>simp only[evPure,h x (by simp[Op.operands])]
 |convert s d x=>simp only[evPure,h x (by simp[Op.operands])]
 |makeInterface t x=>simp only[evPure,h x (by simp[Op.operands])]
 |makeFunc fn first caps=>
  cases fn with
  |func f=>
   simp only[evPure]
   have hs:∀(l:Array Operand),(∀x∈l,ρ x=ρ' x)→(l.toList.map fun x=>strip (ρ x))=l.toList.map fun x=>strip (ρ' x):=by
    intro l hl
    exact List.map_congr_left fun x hx=>by rw[hl x (by simpa using hx)]
   rw[hs first fun x hx=>h x (by simp[Op.operands];exact .inl hx),hs caps fun x hx=>h x (by simp[Op.operands];exact .inr hx)]
  |_=>rfl
 |slice t x lo hi mx=>
  simp only[evPure,h x (by simp[Op.operands])]
  have hm:∀(o:Option Operand),(∀y,o=some y→ρ y=ρ' y)→o.map ρ=o.map ρ':=by
   intro o ho
   cases o with
   |none=>rfl
   |some y=>simp[ho y rfl]
  rw[hm lo fun y hy=>h y (by subst hy;simp[Op.operands]),hm hi fun y hy=>h y (by subst hy;simp[Op.operands]),hm mx fun y hy=>h y (by subst hy;simp[Op.operands])]
 |fieldAddr t x f=>simp only[evPure,h x (by simp[Op.operands])]
 |field t x f=>simp only[evPure,h x (by simp[Op.operands])]
 |indexAddr t x i=>simp only[evPure,h x (by simp[Op.operands]),h i (by simp[Op.operands])]
 |index t x i=>simp only[evPure,h x (by simp[Op.operands]),h i (by simp[Op.operands])]
 |extract x i=>simp only[evPure,h x (by simp[Op.operands])]
 |typeAssert x t u ok=>simp only[evPure,h x (by simp[Op.operands])]
 |call c=>
  obtain⟨callee,args,ts⟩:=c
  cases callee with
  |builtin b=>
   have ha:∀x∈args,ρ x=ρ' x:=fun x hx=>h x (by simp[Op.operands,Call.operands];exact hx)
   cases b with
   |len=>
    simp only[evPure]
    cases ht:ts[0]? with
    |none=>rfl
    |some t=>
     cases hx:args[0]? with
     |none=>rfl
     |some x=>simp only[ha x (Array.mem_of_getElem? hx)]
   |max=>simp only[evPure,map_args ha]
   |min=>simp only[evPure,map_args ha]
   |_=>rfl
  |_=>rfl
 |_=>rfl
theorem evNew_congr{P:Program}{ρ ρ':Operand→AV}{o:Op}(h:∀x∈o.operands,ρ x=ρ' x):evNew P ρ o=evNew P ρ' o:=by
 cases o with
 |buildSlice t n ps=>simp only[evNew,map_parts (ρ:=ρ) (ρ':=ρ') (ps:=ps) fun x hx=>h x (by simpa[Op.operands]using hx)]
 |convert s d x=>simp only[evNew,h x (by simp[Op.operands])]
 |_=>rfl
theorem evMem_congr{P:Program}{E E':Env}(ht:E.tips=E'.tips)(hn:E.nb=E'.nb){S:St}{o:Op}(h:∀x∈o.operands,E.ev x=E'.ev x):evMem P E E.ev S o=evMem P E' E'.ev S o:=by
 cases o with
 |alloc t=>simp only[evMem,ht]
 |box t x=>simp only[evMem,ht,h x (by simp[Op.operands])]
 |load t p=>simp only[evMem,ht,h p (by simp[Op.operands])]
 |store t p x=>simp only[evMem,evStore,ht,hn,h p (by simp[Op.operands]),h x (by simp[Op.operands])]
 |call c=>
  obtain⟨callee,args,ts⟩:=c
  cases callee with
  |builtin b=>
   have ha:∀x∈args,E.ev x=E'.ev x:=fun x hx=>h x (by simp[Op.operands,Call.operands];exact hx)
   cases b with
   |append=>
    simp only[evMem,ht]
    cases h0:args[0]? with
    |none=>rfl
    |some s=>
     cases h1:args[1]? with
     |none=>rfl
     |some x=>simp only[ha s (Array.mem_of_getElem? h0),ha x (Array.mem_of_getElem? h1)]
   |copy=>
    simp only[evMem,ht,hn]
    cases h0:args[0]? with
    |none=>rfl
    |some s=>
     cases h1:args[1]? with
     |none=>rfl
     |some x=>simp only[ha s (Array.mem_of_getElem? h0),ha x (Array.mem_of_getElem? h1)]
   |clear=>
    simp only[evMem,ht]
    cases h0:args[0]? with
    |none=>rfl
    |some s=>simp only[ha s (Array.mem_of_getElem? h0)]
   |_=>rfl
  |_=>rfl
 |makeSlice t l c=>simp only[evMem,ht,h l (by simp[Op.operands]),h c (by simp[Op.operands])]
 |range t x=>simp only[evMem,ht,h x (by simp[Op.operands])]
 |next p b=>
  cases b with
  |true=>simp only[evMem,ht,h p (by simp[Op.operands])]
  |false=>rfl
 |makeMap t r=>
  cases r with
  |none=>simp only[evMem,ht]
  |some _=>rfl
 |mapUpdate t m k x=>simp only[evMem,ht,hn,h m (by simp[Op.operands]),h k (by simp[Op.operands]),h x (by simp[Op.operands])]
 |insert t m k x=>simp only[evMem,ht,hn,h m (by simp[Op.operands]),h k (by simp[Op.operands]),h x (by simp[Op.operands])]
 |lookup t m k ok=>simp only[evMem,ht,h m (by simp[Op.operands]),h k (by simp[Op.operands])]
 |_=>rfl
theorem evOp_congr{P:Program}{call:Caller}{E E':Env}(ht:E.tips=E'.tips)(hn:E.nb=E'.nb){S:St}{o:Op}(h:∀x∈o.operands,E.ev x=E'.ev x):evOp P call E S o=evOp P call E' S o:=by
 unfold evOp
 split
 ·rename_i f args ts
  have hf:E.ev f=E'.ev f:=h f (by simp[Op.operands,Call.operands])
  have ha:∀x∈args,E.ev x=E'.ev x:=fun x hx=>h x (by simp[Op.operands,Call.operands];exact .inr hx)
  have hm:(args.toList.map fun x=>E.ev x)=args.toList.map fun x=>E'.ev x:=map_args ha
  cases extOf f with
  |some e=>simp only[hm,ht]
  |none=>cases ownOf f with
   |some g=>simp only[hm,ht]
   |none=>simp only[evCall,callee,hf,hm,ht]
 ·rename_i f n args ts
  have hf:E.ev f=E'.ev f:=h f (by simp[Op.operands,Call.operands])
  have ha:∀x∈args,E.ev x=E'.ev x:=fun x hx=>h x (by simp[Op.operands,Call.operands];exact .inr hx)
  have hm:(args.toList.map fun x=>E.ev x)=args.toList.map fun x=>E'.ev x:=map_args ha
  simp only[evCall,callee,hf,hm,ht]
 ·rw[evPure_congr h,evNew_congr h,evMem_congr ht hn h,ht]
theorem evOpr_congr{P:Program}{call:Caller}{E E':Env}(ht:E.tips=E'.tips)(hn:E.nb=E'.nb){S:St}{o:Oper}(h:∀x∈o.op.operands,E.ev x=E'.ev x):evOpr P call E S o=evOpr P call E' S o:=by
 unfold evOpr
 cases ho:ownOp o with
 |none=>exact evOp_congr ht hn h
 |some q=>
  obtain⟨s,x,ts⟩:=q
  have:s∈o.op.operands∧x∈o.op.operands:=by
   unfold ownOp at ho
   split at ho
   case h_3=>simp at ho
   ·rename_i s1 d1 x1 he
    split at ho
    case isFalse=>simp at ho
    simp at ho
    obtain⟨rfl,rfl,rfl⟩:=ho
    rw[he]
    simp[Op.operands]
   rename_i args ts' he
   split at ho
   case isFalse=>simp at ho
   split at ho
   case h_2=>simp at ho
   rename_i s' x' h0 h1
   simp at ho
   obtain⟨rfl,rfl,rfl⟩:=ho
   rw[he]
   simp only[Op.operands,Call.operands]
   exact⟨by simpa using Array.mem_of_getElem? h0,by simpa using Array.mem_of_getElem? h1⟩
  simp only[h s this.1,h x this.2,ht]
theorem evOp_load{P:Program}{call:Caller}{E:Env}{S:St}{t:TypeId}{p:Operand}:evOp P call E S (.load t p)=(evLoad P S t (E.ev p)).map fun v=>(v,E.tips,S):=rfl
theorem own_none{o:Oper}(h:isEff o=false):ownOp o=none:=by
 unfold ownOp
 split
 ·rename_i s d x he
  simp only[isEff,he]at h
  rw[if_neg (by rw[h];simp)]
 ·rename_i args ts he
  simp[isEff,he]at h
 ·rfl
theorem evOpr_load{P:Program}{call:Caller}{E:Env}{S:St}{o:Oper}{t:TypeId}{p:Operand}(h:o.op=.load t p):evOpr P call E S o=(evLoad P S t (E.ev p)).map fun v=>(v,E.tips,S):=by
 unfold evOpr
 rw[own_none (by simp[isEff,h]),h]
 exact evOp_load
theorem evOpr_eq{P:Program}{call:Caller}{E:Env}{S:St}{o:Oper}(h:isEff o=false):evOpr P call E S o=evOp P call E S o.op:=by
 unfold evOpr
 rw[own_none h]
theorem box_noeff{o:Oper}(h:isEff o=false):∀t x,o.op≠.box t x:=fun t x e=>by simp[isEff,e]at h
theorem op_still{P:Program}{call:Caller}{E:Env}{S S':St}{o:Oper}{v:AV}{tips:List (Option Nat)}(he:isEff o=false)(ha:isAlloc o=false)(hb:∀t x,o.op≠.box t x)(hl:isLoad o=false)
 (h:evOpr P call E S o=some (v,tips,S')):tips=E.tips∧S'=S∧∀S2,evOpr P call E S2 o=some (v,E.tips,S2):=by
 rw[evOpr_eq he]at h
 suffices tips=E.tips∧S'=S∧∀S2,evOp P call E S2 o.op=some (v,E.tips,S2)by
  refine⟨this.1,this.2.1,fun S2=>?_⟩
  rw[evOpr_eq he]
  exact this.2.2 S2
 obtain⟨dst,op,type,pos,after,guard⟩:=o
 simp only[isEff,isAlloc,isLoad]at he ha hl
 simp only at hb h
 have hm:∀S,evMem P E E.ev S op=none:=by
  intro S
  unfold evMem
  split<;>first|rfl|(simp at he;done)|(simp at ha;done)|(simp at hl;done)|exact absurd rfl (hb _ _)
 unfold evOp at h
 split at h
 ·simp at he
 ·simp at he
 ·rename_i hne hne'
  split at h
  ·rename_i y hy
   simp at h
   obtain⟨rfl,rfl,rfl⟩:=h
   refine⟨rfl,rfl,fun S2=>?_⟩
   unfold evOp
   split
   ·rename_i heq;exact(hne _ _ _ heq).elim
   ·rename_i heq;exact(hne' _ _ _ _ heq).elim
   ·rw[hy]
  ·rename_i hy
   split at h
   ·rename_i y hy2
    simp at h
    obtain⟨rfl,rfl,rfl⟩:=h
    refine⟨rfl,rfl,fun S2=>?_⟩
    unfold evOp
    split
    ·rename_i heq;exact(hne _ _ _ heq).elim
    ·rename_i heq;exact(hne' _ _ _ _ heq).elim
    ·rw[hy,hy2]
   ·rw[hm]at h;cases h
theorem op_still'{P:Program}{call:Caller}{E E2:Env}{S S':St}{o:Oper}{v:AV}{tips:List (Option Nat)}(he:isEff o=false)(ha:isAlloc o=false)(hb:∀t x,o.op≠.box t x)(hl:isLoad o=false)
 (h:evOpr P call E S o=some (v,tips,S')) (hx:∀x∈o.op.operands,E.ev x=E2.ev x) (S2:St):evOpr P call E2 S2 o=some (v,E2.tips,S2):=by
 obtain⟨_,_,h3⟩:=op_still he ha hb hl h
 have h4:=h3 S2
 rw[evOpr_eq he]at h4⊢
 have hc:=evOp_congr (P:=P) (call:=call) (E:=⟨E.slots,E2.tips,E2.nb⟩) (E':=E2) rfl rfl (S:=S2) (o:=o.op) hx
 rw[←hc]
 obtain⟨dst,op,type,pos,after,guard⟩:=o
 simp only[isEff,isAlloc,isLoad]at he ha hl
 simp only at hb h4⊢
 have hm:∀(E:Env) S,evMem P E E.ev S op=none:=by
  intro E S
  unfold evMem
  split<;>first|rfl|(simp at he;done)|(simp at ha;done)|(simp at hl;done)|exact absurd rfl (hb _ _)
 unfold evOp at h4⊢
 split at h4
 ·simp at he
 ·simp at he
 ·have e1:Env.ev ⟨E.slots,E2.tips,E2.nb⟩=Env.ev E:=by funext x;cases x<;>rfl
  rw[e1]
  cases hp:evPure P E.ev op with
  |some y=>
   rw[hp]at h4
   simp at h4
   simp[h4]
  |none=>
   rw[hp]at h4
   cases hq:evNew P E.ev op with
   |some y=>
    rw[hq]at h4
    simp at h4
    simp[h4]
   |none=>
    rw[hq]at h4
    simp only at h4
    rw[hm]at h4;cases h4
def effs(ops:Array Oper)(i:Nat):Nat:=((ops.toList.take i).filter isEff).length
theorem effs_succ{ops:Array Oper}{i:Nat}{o:Oper}(h:ops[i]? =some o):effs ops (i+1)=effs ops i+(if isEff o then 1 else 0):=by
 have h':ops.toList[i]? =some o:=by simpa using h
 have:ops.toList.take (i+1)=ops.toList.take i++[o]:=by
  rw[List.take_add_one,h'];rfl
 unfold effs
 rw[this,List.filter_append,List.length_append]
 congr 1
 cases he:isEff o<;>simp[he]
structure Snaps(P:Program)(call:Caller)(ops:Array Oper)(k:Nat)(E:Env)(S:St)(E':Env)(S':St)(ss':List St)(ls':List Load)(sn:Nat→Env × St):Prop where
 zero:sn k=(E,S)
 last:sn ops.size=(E',S')
 step:∀(i:Nat)(o:Oper),k≤i→ops[i]? =some o→isAlloc o=true→sn (i+1)=sn i
 run:∀(i:Nat)(o:Oper),k≤i→ops[i]? =some o→isAlloc o=false→guardTold ops (sn i).1 o=true∧
  ((guardOK ops (sn i).1 o=true∧∃v tips S1,evOpr P call (sn i).1 (sn i).2 o=some (v,tips,S1)∧sn (i+1)=((sn i).1.put o.dst v tips,S1)∧(∀t p,o.op=.load t p→(⟨i,t,(sn i).1.ev p,v⟩:Load)∈ls'))∨
   (guardOK ops (sn i).1 o=false∧sn (i+1)=((sn i).1.put o.dst (.tup []) (sn i).1.tips,(sn i).2)))
 eff:∀(i:Nat)(o:Oper),k≤i→ops[i]? =some o→isAlloc o=false→isEff o=true→ss'[effs ops i+1]? =some (sn (i+1)).2
theorem trace_snaps{P:Program}{call:Caller}{ops:Array Oper}:∀(l:List Oper)(k:Nat)(E:Env)(S:St)(ss:List St)(ls:List Load)(E':Env)(S':St)(ss':List St)(ls':List Load),
 (∀j,l[j]? =ops[k+j]?)→k+l.length=ops.size→ss.length=effs ops k+1→(∀o∈l,isAlloc o=true→isEff o=false)→evTrace P call ops (l.zipIdx k) E S ss ls=some (E',S',ss',ls')→
 (∃t,ss'=ss++t)∧(∀x∈ls,x∈ls')∧∃sn,Snaps P call ops k E S E' S' ss' ls' sn:=by
 intro l
 induction l with
 |nil=>
  intro k E S ss ls E' S' ss' ls' hl hk hss _ h
  simp[evTrace]at h
  obtain⟨rfl,rfl,rfl,rfl⟩:=h
  simp at hk
  have none_:∀i,k≤i→ops[i]? =none:=fun i hi=>Array.getElem?_eq_none (by omega)
  refine⟨⟨[],by simp⟩,fun _ h=>h,fun _=>(E,S),rfl,rfl,fun i o hi ho=>?_,fun i o hi ho=>?_,fun i o hi ho=>?_⟩<;>rw[none_ i hi]at ho<;>cases ho
 |cons o l ih=>
  intro k E S ss ls E' S' ss' ls' hl hk hss hae h
  have hok:ops[k]? =some o:=by have:=hl 0;simpa using this.symm
  have hl':∀j,l[j]? =ops[k+1+j]? :=fun j=>by have:=hl (j+1);rw[List.getElem?_cons_succ]at this;rw[this];congr 1;omega
  have hk':k+1+l.length=ops.size:=by simp at hk;omega
  have hes:=effs_succ hok
  simp only[List.zipIdx_cons,evTrace]at h
  have join:∀(E1:Env)(S1:St)(sn:Nat→Env × St),Snaps P call ops (k+1) E1 S1 E' S' ss' ls' sn→
   (isAlloc o=true→(E1,S1)=(E,S))→
   (isAlloc o=false→guardTold ops E o=true∧
    ((guardOK ops E o=true∧∃v tips S2,evOpr P call E S o=some (v,tips,S2)∧(E1,S1)=(E.put o.dst v tips,S2)∧(∀t p,o.op=.load t p→(⟨k,t,E.ev p,v⟩:Load)∈ls'))∨
     (guardOK ops E o=false∧(E1,S1)=(E.put o.dst (.tup []) E.tips,S))))→
   (isAlloc o=false→isEff o=true→ss'[effs ops k+1]? =some S1)→
   ∃sn,Snaps P call ops k E S E' S' ss' ls' sn:=by
   intro E1 S1 sn hs h1 h2 h3
   refine⟨fun i=>if i=k then(E,S)else sn i,by simp,by show(if ops.size=k then(E,S)else sn ops.size)=_;rw[if_neg (by omega)];exact hs.last,fun i o' hi ho ha=>?_,fun i o' hi ho ha=>?_,fun i o' hi ho ha he=>?_⟩
   ·by_cases e:i=k
    ·subst e
     rw[hok]at ho;cases ho
     simp only[if_true]
     rw[if_neg (by omega),hs.zero]
     exact h1 ha
    ·simp only[if_neg e]
     rw[if_neg (by omega)]
     exact hs.step i o' (by omega) ho ha
   ·by_cases e:i=k
    ·subst e
     rw[hok]at ho;cases ho
     simp only[if_true]
     rw[if_neg (by omega),hs.zero]
     exact h2 ha
    ·simp only[if_neg e]
     rw[if_neg (by omega)]
     exact hs.run i o' (by omega) ho ha
   ·by_cases e:i=k
    ·subst e
     rw[hok]at ho;cases ho
     rw[if_neg (by omega),hs.zero]
     exact h3 ha he
    ·rw[if_neg (by omega)]
     exact hs.eff i o' (by omega) ho ha he
  split at h
  ·rename_i ha
   have hne:=hae o (by simp) ha
   obtain⟨t1,t2,sn,hs⟩:=ih (k+1) E S ss ls E' S' ss' ls' hl' hk' (by rw[hes,hne];simpa using hss) (fun o' ho'=>hae o' (by simp[ho'])) h
   exact⟨t1,t2,join E S sn hs (fun _=>rfl) (fun hf=>by rw[ha]at hf;cases hf) (fun hf=>by rw[ha]at hf;cases hf)⟩
  rename_i ha
  have ha:isAlloc o=false:=by simpa using ha
  split at h
  case isFalse=>simp at h
  rename_i ht
  have more:∀(S1:St)(t:List St),ss'=(if isEff o then ss++[S1]else ss)++t→(∃t,ss'=ss++t)∧(isEff o=true→ss'[effs ops k+1]? =some S1):=by
   intro S1 t e
   by_cases he:isEff o=true
   ·rw[if_pos he]at e
    refine⟨⟨[S1]++t,by rw[e,List.append_assoc]⟩,fun _=>?_⟩
    rw[e,←hss,List.append_assoc,List.getElem?_append_right (Nat.le_refl _)]
    simp
   ·rw[if_neg he]at e
    exact⟨⟨t,e⟩,fun h=>absurd h he⟩
  have hlen:∀S1:St,(if isEff o then ss++[S1]else ss).length=effs ops (k+1)+1:=by
   intro S1
   rw[hes]
   by_cases he:isEff o=true
   ·simp[he,hss]
   ·simp[he,hss]
  split at h
  ·rename_i hok2
   split at h
   case h_2=>simp at h
   rename_i v tips S1 h1
   obtain⟨⟨t,t1⟩,t2,sn,hs⟩:=ih (k+1) _ S1 _ _ E' S' ss' ls' hl' hk' (hlen S1) (fun o' ho'=>hae o' (by simp[ho'])) h
   obtain⟨m1,m2⟩:=more S1 t t1
   refine⟨m1,fun x hx=>t2 x ?_,join _ _ sn hs (fun hf=>by rw[ha]at hf;cases hf) (fun _=>⟨ht,.inl ⟨hok2,v,tips,S1,h1,rfl,fun t p e=>t2 _ ?_⟩⟩) fun _ he=>m2 he⟩
   ·split
    ·exact List.mem_cons_of_mem _ hx
    ·exact hx
   ·rw[e];simp
  ·rename_i hok2
   obtain⟨⟨t,t1⟩,t2,sn,hs⟩:=ih (k+1) _ S _ _ E' S' ss' ls' hl' hk' (hlen S) (fun o' ho'=>hae o' (by simp[ho'])) h
   obtain⟨m1,m2⟩:=more S t t1
   exact⟨m1,t2,join _ _ sn hs (fun hf=>by rw[ha]at hf;cases hf) (fun _=>⟨ht,.inr ⟨by simpa using hok2,rfl⟩⟩) fun _ he=>m2 he⟩
theorem fold_bits(acc:Array Nat)(j:Nat):∀(l:List Edge)(s:Nat),(l.foldl (fun s e=>if Region.binds .any e then s|||2^e.on|||acc.getD e.on 0 else s) s).testBit j=true→
 s.testBit j=true∨∃e∈l,Region.binds .any e=true∧(e.on=j∨(acc.getD e.on 0).testBit j=true):=by
 intro l
 induction l with
 |nil=>intro s h;exact .inl h
 |cons e l ih=>
  intro s h
  rw[List.foldl_cons]at h
  rcases ih _ h with h|⟨e',h1,h2⟩
  ·by_cases hb:Region.binds .any e=true
   ·rw[if_pos hb]at h
    simp only[Nat.testBit_or,Bool.or_eq_true,Nat.testBit_two_pow,decide_eq_true_eq]at h
    rcases h with(h|h)|h
    ·exact .inl h
    ·exact .inr ⟨e,by simp,hb,.inl h⟩
    ·exact .inr ⟨e,by simp,hb,.inr h⟩
   ·rw[if_neg hb]at h
    exact .inl h
  ·exact .inr ⟨e',by simp[h1],h2⟩
def beforeStep(acc:Array Nat)(o:Oper):Array Nat:=acc.push (o.after.foldl (fun s e=>if Region.binds .any e then s|||2^e.on|||acc.getD e.on 0 else s) 0)
theorem before_eq(ops:Array Oper):Region.before ops=ops.toList.foldl beforeStep #[]:=by
 unfold Region.before
 rw[←Array.foldl_toList]
 rfl
def Chained(p:List Oper)(acc:Array Nat):Prop:=acc.size=p.length∧∀i j,(acc.getD i 0).testBit j=true→∃o,p[i]? =some o∧∃e∈o.after,Region.binds .any e=true∧(e.on=j∨e.on<i∧(acc.getD e.on 0).testBit j=true)
theorem chained_step{p:List Oper}{acc:Array Nat}(h:Chained p acc)(o:Oper):Chained (p++[o]) (beforeStep acc o):=by
 refine⟨by simp[beforeStep,h.1],fun i j hij=>?_⟩
 have old:∀k,k<acc.size→(beforeStep acc o).getD k 0=acc.getD k 0:=by
  intro k hk
  simp[beforeStep,Array.getD_eq_getD_getElem?,Array.getElem?_push,Nat.ne_of_lt hk]
 rcases Nat.lt_or_ge i acc.size with hi|hi
 ·rw[old i hi]at hij
  obtain⟨o',h1,e,h2,h3,h4⟩:=h.2 i j hij
  refine⟨o',by rw[List.getElem?_append_left (by rw[←h.1];exact hi)];exact h1,e,h2,h3,h4.imp id fun⟨h5,h6⟩=>⟨h5,by rw[old _ (by omega)];exact h6⟩⟩
 ·by_cases he:i=acc.size
  ·subst he
   have hv:(beforeStep acc o).getD acc.size 0=o.after.foldl (fun s e=>if Region.binds .any e then s|||2^e.on|||acc.getD e.on 0 else s) 0:=by
    simp[beforeStep,Array.getD_eq_getD_getElem?]
   rw[hv,←Array.foldl_toList]at hij
   rcases fold_bits acc j _ _ hij with h0|⟨e,h1,h2,h3⟩
   ·simp at h0
   ·refine⟨o,by rw[h.1];simp,e,by simpa using h1,h2,h3.imp id fun h3=>?_⟩
    have hlt:e.on<acc.size:=by
     rcases Nat.lt_or_ge e.on acc.size with hl|hl
     ·exact hl
     ·simp[Array.getD_eq_getD_getElem?,Array.getElem?_eq_none hl]at h3
    exact⟨hlt,by rw[old _ hlt];exact h3⟩
  ·have:(beforeStep acc o).getD i 0=0:=by
    rw[Array.getD_eq_getD_getElem?,Array.getElem?_eq_none (by simp[beforeStep];omega)];rfl
   rw[this]at hij
   simp at hij
theorem chained_fold:∀(l p:List Oper)(acc:Array Nat),Chained p acc→Chained (p++l) (l.foldl beforeStep acc):=by
 intro l
 induction l with
 |nil=>intro p acc h;simpa using h
 |cons o l ih=>
  intro p acc h
  have:=ih (p++[o]) (beforeStep acc o) (chained_step h o)
  simpa using this
theorem before_chain(ops:Array Oper):Chained ops.toList (Region.before ops):=by
 rw[before_eq]
 have:=chained_fold ops.toList [] #[] ⟨rfl,fun i j h=>by simp at h⟩
 simpa using this
theorem before_listed{ops:Array Oper}{listed:Array Bool}(hd:∀(i:Nat)(o:Oper),ops[i]? =some o→listed.getD i false=true→∀e∈o.after,Region.binds .any e=true→listed.getD e.on false=true):
 ∀(n i j:Nat),i<n→((Region.before ops).getD i 0).testBit j=true→(∀o,ops[i]? =some o→∀e∈o.after,Region.binds .any e=true→listed.getD e.on false=true)→listed.getD j false=true:=by
 intro n
 induction n with
 |zero=>intro i j hi;omega
 |succ n ih=>
  intro i j hi hb hr
  obtain⟨o,h1,e,h2,h3,h4⟩:=(before_chain ops).2 i j hb
  have ho:ops[i]? =some o:=by simpa using h1
  have hl:=hr o ho e h2 h3
  rcases h4 with rfl|⟨h5,h6⟩
  ·exact hl
  ·exact ih e.on j (by omega) h6 fun o' ho'=>hd e.on o' ho' hl
theorem nodupB_spec:∀{l:List Nat},nodupB l=true→l.Nodup
 |[],_=>List.nodup_nil
 |a::r,h=>by
  simp only[nodupB,Bool.and_eq_true,Bool.not_eq_true',List.contains_eq_mem,decide_eq_false_iff_not]at h
  exact List.nodup_cons.2 ⟨h.1,nodupB_spec h.2⟩
structure RegOK(ops:Array Oper):Prop where
 back:∀(i:Nat)(o:Oper),ops[i]? =some o→∀e∈o.after,Region.binds .any e=true→e.on<i
 nodup:(ops.toList.filterMap (·.dst)).Nodup
 alloc:∀(i:Nat)(o:Oper),ops[i]? =some o→isAlloc o=true→o.guard=none∧∃d,o.dst=some d∧∀(j:Nat)(x:Oper),j<i→ops[j]? =some x→d∉x.looksAt ops
 pair:∀(i j:Nat)(o x:Oper),ops[i]? =some o→ops[j]? =some x→j<i→((Region.before ops).getD i 0).testBit j=true∨(Oper.apart ops x o=true∧¬(isEff x=true∧isEff o=true))
theorem regionOK_spec{ops:Array Oper}(h:regionOK ops=true):RegOK ops:=by
 unfold regionOK at h
 simp only[Bool.and_eq_true,List.all_eq_true]at h
 obtain⟨h0,h⟩:=h
 have get:∀(i:Nat)(o:Oper),ops[i]? =some o→(o,i)∈ops.toList.zipIdx:=by
  intro i o ho
  rw[List.mem_zipIdx_iff_getElem?]
  simpa using ho
 refine⟨fun i o ho e he hb=>?_,nodupB_spec h0,fun i o ho ha=>?_,fun i j o x ho hx hji=>?_⟩
 ·have:=(h _ (get i o ho)).1.1.1
  simp only[Array.all_eq_true_iff_forall_mem]at this
  have:=this e he
  simpa[hb]using this
 ·have:=(h _ (get i o ho)).1.2
  simp only[ha,Bool.not_true,Bool.false_or,Bool.and_eq_true]at this
  obtain⟨⟨g1,g2⟩,g3⟩:=this
  cases hd:o.dst with
  |none=>simp[hd]at g2
  |some d=>
   refine⟨by simpa using g1,d,rfl,fun j x hji hx=>?_⟩
   rw[List.all_eq_true]at g3
   have:=g3 x (by
    rw[List.mem_take_iff_getElem]
    have hx':ops.toList[j]? =some x:=by simpa using hx
    obtain⟨hl,e⟩:=List.getElem?_eq_some_iff.1 hx'
    exact⟨j,by omega,e⟩)
   simpa[hd]using this
 ·have:=(h _ (get i o ho)).2 _ (get j x hx)
  simp only[Bool.or_eq_true,Bool.not_eq_true',decide_eq_false_iff_not,Bool.and_eq_true]at this
  rcases this with(g|g)|g
  ·exact absurd hji g
  ·exact .inl g
  ·refine .inr ⟨g.1,fun hh=>?_⟩
   simp[hh.1,hh.2]at g
section
section
variable{P:Program}{base:Nat}{prot:Nat→Prop}{tips:List (Option Nat)}{S:St}{w:World}{mu:Nat→Option Nat}{hw:Nat→Nat}{ti:Id→TI}
theorem inv_fill(I:Inv base prot tips S w mu hw ti){i:Nat}{bx0:Box}{ob:Obj}(hbx:Ext base prot S w mu hw S (w.alloc ob) (upd mu i (some w.heap.size)) hw→BoxR (w.alloc ob) (upd mu i (some w.heap.size)) hw (lkS S (upd mu i (some w.heap.size))) bx0 w.heap.size)
 (hcs:∀cs bt l,bx0=.mem cs bt l→bt=[]∧∀x∈cs,nf x=true) (hS:S[i]? =some bx0) (hm:mu i=none):
 Inv base prot tips S (w.alloc ob) (upd mu i (some w.heap.size)) hw ti∧Ext base prot S w mu hw S (w.alloc ob) (upd mu i (some w.heap.size)) hw∧
  live tips S (upd mu i (some w.heap.size))=live tips S mu:=by
 have h0:hw w.heap.size=0:=I.iout _ (Nat.le_refl _)
 have hmu:∀j b,mu j=some b→upd mu i (some w.heap.size) j=some b:=by
  intro j b h
  rw[upd_ne _ _ _ _ (fun e=>by subst e;rw[hm]at h;cases h)];exact h
 have hlk:∀b,lkS S mu b→lkS S (upd mu i (some w.heap.size)) b:=by
  rintro b ⟨k,cs,bt,h1,h2⟩
  exact⟨k,cs,bt,h1,hmu k b h2⟩
 have e:Ext base prot S w mu hw S (w.alloc ob) (upd mu i (some w.heap.size)) hw:=by
  refine⟨hmu,fun _=>Nat.le_refl _,hlk,fun b o' v _ h=>?_,fun b h=>⟨heap_alloc _ _ _ (I.iprot b h),rfl⟩,(Belo.refl _ _).alloc I.ibase _,Nat.le_refl _⟩
  rw[World.cell?_alloc_lt _ _ _ (World.block_lt_of_cell? w _ h)];exact h
 have hlv:live tips S (upd mu i (some w.heap.size))=live tips S mu:=by
  funext id
  cases id with
  |fr n=>rfl
  |bx k j=>
   by_cases hk:k=i
   ·subst hk
    cases bx0 with
    |mem cs bt l=>
     obtain⟨rfl,_⟩:=hcs _ _ _ rfl
     simp[live,upd_same,hm,hS]
    |_=>simp[live,upd_same,hm,hS]
   ·simp[live,upd_ne _ _ _ _ hk]
 refine⟨⟨fun k bx b h1 h2=>?_,fun k cells bt l b h1 h2 vs' el' h3=>?_,fun k j b h1 h2=>?_,fun k b h=>?_,fun b h=>?_,fun id L h=>?_,fun id id' L L' h h'=>?_,fun b h=>?_, ?_,e.glb I.iglb⟩,e,hlv⟩
 ·by_cases hk:k=i
  ·subst hk
   rw[upd_same]at h2
   obtain rfl:=Option.some.inj h2
   rw[hS]at h1
   obtain rfl:=Option.some.inj h1
   exact hbx e
  ·rw[upd_ne _ _ _ _ hk]at h2
   exact(I.ibox k bx b h1 h2).ext e (heap_alloc _ _ _ (I.idom k b h2).2.2.1)
 ·rw[hlv]
  by_cases hk:k=i
  ·subst hk
   rw[hS]at h1
   obtain rfl:bx0=.mem cells bt l:=by simpa using h1
   intro j x y hx _
   have:=(hcs _ _ _ rfl).2 x (List.mem_of_getElem? hx)
   exact⟨nf_noFr this,Flag1.of_nf this⟩
  ·rw[upd_ne _ _ _ _ hk]at h2
   exact I.iflag k cells bt l b h1 h2 vs' el' (by rw[←heap_alloc w ob b (I.idom k b h2).2.2.1];exact h3)
 ·by_cases hk:k=i<;>by_cases hj:j=i
  ·rw[hk,hj]
  ·subst hk
   rw[upd_same]at h1
   obtain rfl:=Option.some.inj h1
   rw[upd_ne _ _ _ _ hj]at h2
   have:=(I.idom j _ h2).2.2.1
   omega
  ·subst hj
   rw[upd_same]at h2
   obtain rfl:=Option.some.inj h2
   rw[upd_ne _ _ _ _ hk]at h1
   have:=(I.idom k _ h1).2.2.1
   omega
  ·rw[upd_ne _ _ _ _ hk]at h1
   rw[upd_ne _ _ _ _ hj]at h2
   exact I.iinj k j b h1 h2
 ·by_cases hk:k=i
  ·subst hk
   rw[upd_same]at h
   obtain rfl:=Option.some.inj h
   exact⟨lt_of_get hS,I.ibase,by simp,h0,fun hp=>by have:=I.iprot _ hp;omega⟩
  ·rw[upd_ne _ _ _ _ hk]at h
   obtain⟨a,b',c,d,f⟩:=I.idom k b h
   exact⟨a,b',by simp;omega,d,f⟩
 ·exact I.iout b (by have:w.heap.size+1≤b:=(by simpa using h);omega)
 ·rw[hlv]at h
  obtain⟨a,b,c⟩:=I.itip id L h
  refine⟨a.keep rfl (heap_alloc _ _ _ a.lt),b,fun k hk=>?_⟩
  by_cases hk':k=i
  ·subst hk'
   rw[upd_same]at hk
   have:=a.lt
   have:=Option.some.inj hk
   omega
  ·rw[upd_ne _ _ _ _ hk']at hk
   exact c k hk
 ·rw[hlv]at h h'
  exact I.itinj id id' L L' h h'
 ·have:=I.iprot b h;simp;omega
 ·have:=I.ibase;simp;omega
end
end
def nAl(l:List Oper)(j:Nat):Nat:=((l.take j).filter isAlloc).length
theorem nAl_cons(o:Oper)(l:List Oper)(j:Nat):nAl (o::l) (j+1)=(if isAlloc o then 1 else 0)+nAl l j:=by
 simp only[nAl,List.take_succ_cons,List.filter_cons]
 cases isAlloc o<;>simp<;>omega
theorem isAlloc_iff{o:Oper}:isAlloc o=true↔(∃t,o.op=.alloc t)∨∃t,o.op=.makeMap t none:=by
 unfold isAlloc
 constructor
 ·intro h;split at h
  ·exact .inl ⟨_,by assumption⟩
  ·exact .inr ⟨_,by assumption⟩
  ·simp at h
 ·rintro(⟨t,h⟩|⟨t,h⟩)<;>simp[h]
theorem setSlot_len(l:List AV)(d:Option Tmp)(v:AV):(setSlot l d v).length=l.length:=by cases d<;>simp[setSlot]
theorem setSlot_ne(l:List AV)(d:Option Tmp)(v:AV)(t:Tmp)(h:d≠some t):(setSlot l d v).getD t .undef=l.getD t .undef:=by
 cases d with
 |none=>rfl
 |some d=>
  have:d≠t:=fun e=>h (by rw[e])
  simp[setSlot,List.getD_eq_getElem?_getD,List.getElem?_set_ne this]
theorem setSlot_eq(l:List AV)(v:AV)(t:Tmp)(h:t<l.length):(setSlot l (some t) v).getD t .undef=v:=by
 simp[setSlot,List.getD_eq_getElem?_getD,h]
theorem allocs_spec{P:Program}:∀(l:List Oper)(E:Env)(S:St)(E':Env)(S':St),evAllocs P l E S=some (E',S')→(l.filterMap (·.dst)).Nodup→
 E'.tips=E.tips∧E'.nb=E.nb∧E'.slots.length=E.slots.length∧(∃bs,S'=S++bs)∧
 (∀(j:Nat)(o:Oper),l[j]? =some o→isAlloc o=true→∃bx,newBox P o.op=some bx∧S'[S.length+nAl l j]? =some bx∧(∀d,o.dst=some d→d<E.slots.length→E'.slots.getD d .undef=newRef (S.length+nAl l j) o.op))∧
 (∀d,(∀(o:Oper),o∈l→isAlloc o=true→o.dst≠some d)→E'.slots.getD d .undef=E.slots.getD d .undef):=by
 intro l
 induction l with
 |nil=>
  intro E S E' S' h _
  simp[evAllocs]at h
  obtain⟨rfl,rfl⟩:=h
  exact⟨rfl,rfl,rfl,⟨[],by simp⟩,fun j o hj=>by simp at hj,fun _ _=>rfl⟩
 |cons o l ih=>
  intro E S E' S' h hn
  have hn':(l.filterMap (·.dst)).Nodup:=by
   rw[List.filterMap_cons]at hn
   split at hn
   ·exact hn
   ·exact(List.nodup_cons.1 hn).2
  have hnd:∀d,o.dst=some d→∀x∈l,x.dst≠some d:=by
   intro d hd x hx e
   rw[List.filterMap_cons,hd]at hn
   exact(List.nodup_cons.1 hn).1 (List.mem_filterMap.2 ⟨x,hx,e⟩)
  unfold evAllocs at h
  split at h
  ·rename_i hal
   split at h
   case h_2=>simp at h
   rename_i bx hz
   obtain⟨a1,a2,a3,⟨bs,a4⟩,a5,a6⟩:=ih _ _ E' S' h hn'
   refine⟨a1,a2,by rw[a3];simp[Env.put,setSlot_len],⟨[bx]++bs,by rw[a4,List.append_assoc]⟩,fun j o' hj ho'=>?_,fun d hd=>?_⟩
   ·cases j with
    |zero=>
     simp at hj
     subst hj
     refine⟨bx,hz,by rw[a4];simp[nAl],fun d hd hlt=>?_⟩
     rw[a6 d fun x hx _=>hnd d hd x hx]
     simp only[Env.put,hd]
     rw[setSlot_eq _ _ _ hlt]
     simp[nAl]
    |succ j=>
     have hj':l[j]? =some o':=by simpa using hj
     obtain⟨z',b1,b2,b3⟩:=a5 j o' hj' ho'
     have e:S.length+nAl (o::l) (j+1)=(S++[bx]).length+nAl l j:=by
      rw[nAl_cons,hal];simp;omega
     rw[e]
     exact⟨z',b1,b2,fun d hd hlt=>b3 d hd (by simpa[Env.put,setSlot_len]using hlt)⟩
   ·rw[a6 d fun x hx hx2=>hd x (by simp[hx]) hx2]
    exact setSlot_ne _ _ _ _ (hd o (by simp) hal)
  ·rename_i hal0
   have hal:isAlloc o=false:=by simpa using hal0
   obtain⟨a1,a2,a3,a4,a5,a6⟩:=ih E S E' S' h hn'
   refine⟨a1,a2,a3,a4,fun j o' hj ho'=>?_,fun d hd=>a6 d fun x hx hx2=>hd x (by simp[hx]) hx2⟩
   cases j with
   |zero=>
    simp at hj
    subst hj
    exact absurd ho' hal0
   |succ j=>
    rw[nAl_cons,hal]
    simpa using a5 j o' (by simpa using hj) ho'
section
section
variable{P:Program}{call:Caller}{ops:Array Oper}{E0 E':Env}{S0 S':St}{ss':List St}{ls':List Load}{sn:Nat→Env × St}
theorem sn_still(R:RegOK ops)(H:Snaps P call ops 0 E0 S0 E' S' ss' ls' sn){i:Nat}{o:Oper}(ho:ops[i]? =some o)(he:isEff o=false):(sn (i+1)).1.tips=(sn i).1.tips∧(sn (i+1)).2=(sn i).2:=by
 by_cases ha:isAlloc o=true
 ·rw[H.step i o (Nat.zero_le _) ho ha];exact⟨rfl,rfl⟩
 have ha:isAlloc o=false:=by simpa using ha
 obtain⟨_,⟨_,v,tips,S1,h1,h2,_⟩|⟨_,h2⟩⟩:=H.run i o (Nat.zero_le _) ho ha
 ·rw[h2]
  by_cases hl:isLoad o=true
  ·have:∃t p,o.op=.load t p:=by
    unfold isLoad at hl;split at hl
    ·exact⟨_,_,by assumption⟩
    ·simp at hl
   obtain⟨t,p,hop⟩:=this
   rw[evOpr_load hop]at h1
   simp only[Option.map_eq_some_iff,Prod.mk.injEq]at h1
   obtain⟨_,_,rfl,rfl,rfl⟩:=h1
   exact⟨rfl,rfl⟩
  ·obtain⟨a,b,_⟩:=op_still he ha (box_noeff he) (by simpa using hl) h1
   exact⟨a,b⟩
 ·rw[h2];exact⟨rfl,rfl⟩
theorem same_state(R:RegOK ops)(H:Snaps P call ops 0 E0 S0 E' S' ss' ls' sn):∀(n i:Nat),i+n≤ops.size→(∀j o,i≤j→j<i+n→ops[j]? =some o→isEff o=false)→(sn (i+n)).1.tips=(sn i).1.tips∧(sn (i+n)).2=(sn i).2:=by
 intro n
 induction n with
 |zero=>intro i _ _;exact⟨rfl,rfl⟩
 |succ n ih=>
  intro i hi h
  obtain⟨a,b⟩:=ih i (by omega) fun j o h1 h2=>h j o h1 (by omega)
  have hlt:i+n<ops.size:=by omega
  obtain⟨c,d⟩:=sn_still R H (i:=i+n) (Array.getElem?_eq_getElem hlt) (h (i+n) _ (by omega) (by omega) (Array.getElem?_eq_getElem hlt))
  exact⟨c.trans a,d.trans b⟩
theorem same_state'(R:RegOK ops)(H:Snaps P call ops 0 E0 S0 E' S' ss' ls' sn){m i:Nat}(hm:m≤ops.size)(hi:i≤ops.size)(h:∀(j:Nat)(o:Oper),ops[j]? =some o→isEff o=true→(j<m↔j<i)):(sn m).1.tips=(sn i).1.tips∧(sn m).2=(sn i).2:=by
 have key:∀a b,a≤b→b≤ops.size→(∀j o,ops[j]? =some o→isEff o=true→(j<a↔j<b))→(sn b).1.tips=(sn a).1.tips∧(sn b).2=(sn a).2:=by
  intro a b hab hb hh
  have:=same_state R H (b -a) a (by omega) fun j o h1 h2 ho=>by
   cases he:isEff o with
   |false=>rfl
   |true=>have:=hh j o ho he;omega
  rwa [Nat.add_sub_cancel' hab]at this
 rcases Nat.le_total m i with hle|hle
 ·obtain⟨a,b⟩:=key m i hle hi h
  exact⟨a.symm,b.symm⟩
 ·exact key i m hle hm fun j o ho he=>(h j o ho he).symm
theorem effs_zero:effs ops 0=0:=by simp[effs]
theorem ss_at(R:RegOK ops)(H:Snaps P call ops 0 E0 S0 E' S' ss' ls' sn)(h0:ss'[0]? =some S0)(hae:∀(i:Nat)(o:Oper),ops[i]? =some o→isAlloc o=true→isEff o=false):∀i,i≤ops.size→ss'[effs ops i]? =some (sn i).2:=by
 intro i
 induction i with
 |zero=>intro _;rw[effs_zero,h0,H.zero]
 |succ i ih=>
  intro hi
  have hlt:i<ops.size:=by omega
  have ho:ops[i]? =some ops[i]:=Array.getElem?_eq_getElem hlt
  rw[effs_succ ho]
  by_cases he:isEff ops[i]=true
  ·rw[if_pos he]
   have ha:isAlloc ops[i]=false:=by
    cases hx:isAlloc ops[i]with
    |false=>rfl
    |true=>have:=hae i _ ho hx;rw[he]at this;cases this
   exact H.eff i _ (Nat.zero_le _) ho ha he
  ·have he:isEff ops[i]=false:=by simpa using he
   rw[he]
   rw[(sn_still R H ho he).2]
   exact ih (by omega)
theorem alloc_noeff{o:Oper}(h:isAlloc o=true):isEff o=false:=by
 rcases isAlloc_iff.1 h with⟨t,ht⟩|⟨t,ht⟩<;>simp[isEff,ht]
theorem sn_slot_step(H:Snaps P call ops 0 E0 S0 E' S' ss' ls' sn){i:Nat}{o:Oper}(ho:ops[i]? =some o){t:Tmp}(h:isAlloc o=false→o.dst≠some t):(sn (i+1)).1.slots.getD t .undef=(sn i).1.slots.getD t .undef:=by
 by_cases ha:isAlloc o=true
 ·rw[H.step i o (Nat.zero_le _) ho ha]
 have ha:isAlloc o=false:=by simpa using ha
 obtain⟨_,⟨_,v,tips,S1,_,h2,_⟩|⟨_,h2⟩⟩:=H.run i o (Nat.zero_le _) ho ha
 ·rw[h2];exact setSlot_ne _ _ _ _ (h ha)
 ·rw[h2];exact setSlot_ne _ _ _ _ (h ha)
theorem sn_slot(H:Snaps P call ops 0 E0 S0 E' S' ss' ls' sn){t:Tmp}:∀(n i:Nat),i+n≤ops.size→(∀(j:Nat)(o:Oper),i≤j→j<i+n→ops[j]? =some o→isAlloc o=false→o.dst≠some t)→
 (sn (i+n)).1.slots.getD t .undef=(sn i).1.slots.getD t .undef:=by
 intro n
 induction n with
 |zero=>intro i _ _;rfl
 |succ n ih=>
  intro i hi h
  have hlt:i+n<ops.size:=by omega
  have ho:ops[i+n]? =some ops[i+n]:=Array.getElem?_eq_getElem hlt
  exact(sn_slot_step H ho (h (i+n) _ (by omega) (by omega) ho)).trans (ih i (by omega) fun j o h1 h2=>h j o h1 (by omega))
theorem sn_len(H:Snaps P call ops 0 E0 S0 E' S' ss' ls' sn):∀i,i≤ops.size→(sn i).1.slots.length=E0.slots.length∧(sn i).1.nb=E0.nb:=by
 intro i
 induction i with
 |zero=>intro _;rw[H.zero];exact⟨rfl,rfl⟩
 |succ i ih=>
  intro hi
  have hlt:i<ops.size:=by omega
  have ho:ops[i]? =some ops[i]:=Array.getElem?_eq_getElem hlt
  have:=ih (by omega)
  by_cases ha:isAlloc ops[i]=true
  ·rw[H.step i _ (Nat.zero_le _) ho ha];exact this
  have ha:isAlloc ops[i]=false:=by simpa using ha
  obtain⟨_,⟨_,v,tips,S1,_,h2,_⟩|⟨_,h2⟩⟩:=H.run i _ (Nat.zero_le _) ho ha
  ·rw[h2];exact⟨by simp[Env.put,setSlot_len,this.1],by simp[Env.put,this.2]⟩
  ·rw[h2];exact⟨by simp[Env.put,setSlot_len,this.1],by simp[Env.put,this.2]⟩
end
end
section
theorem dst_inj{ops:Array Oper}(h:(ops.toList.filterMap (·.dst)).Nodup){i j:Nat}{o x:Oper}{d:Tmp}(hi:ops[i]? =some o)(hj:ops[j]? =some x)(ho:o.dst=some d)(hx:x.dst=some d):i=j:=by
 have key:∀(l:List Oper),(l.filterMap (·.dst)).Nodup→∀(i j:Nat)(o x:Oper),l[i]? =some o→l[j]? =some x→o.dst=some d→x.dst=some d→i=j:=by
  intro l
  induction l with
  |nil=>intro _ i j o x hi;simp at hi
  |cons a l ih=>
   intro hn i j o x hi hj ho hx
   have hn':(l.filterMap (·.dst)).Nodup:=by
    rw[List.filterMap_cons]at hn
    split at hn
    ·exact hn
    ·exact(List.nodup_cons.1 hn).2
   have hno:∀(y:Oper),y∈l→a.dst=some d→y.dst≠some d:=by
    intro y hy ha e
    rw[List.filterMap_cons,ha]at hn
    exact(List.nodup_cons.1 hn).1 (List.mem_filterMap.2 ⟨y,hy,e⟩)
   cases i with
   |zero=>
    simp at hi;subst hi
    cases j with
    |zero=>rfl
    |succ j=>exact absurd hx (hno x (List.mem_of_getElem? (by simpa using hj)) ho)
   |succ i=>
    cases j with
    |zero=>
     simp at hj;subst hj
     exact absurd ho (hno o (List.mem_of_getElem? (by simpa using hi)) hx)
    |succ j=>rw[ih hn' i j o x (by simpa using hi) (by simpa using hj) ho hx]
 exact key ops.toList h i j o x (by simpa using hi) (by simpa using hj) ho hx
structure SX(ops:Array Oper)(listed:Array Bool)(E E':Env)(S:St)(w:World)(mu:Nat→Option Nat)(hw:Nat→Nat)(lv:Live)(ti:Id→TI)(tmps:Array Value):Prop where
 len:E.slots.length=tmps.size
 done:∀(t:Tmp)(i:Nat)(o:Oper),ops[i]? =some o→o.dst=some t→listed.getD i false=true→RV w mu hw (lkS S mu) (E'.slots.getD t .undef) (tmps.getD t undef)∧Flag lv ti (E'.slots.getD t .undef) (tmps.getD t undef)
 todo:∀(t:Tmp),(∀(i:Nat)(o:Oper),ops[i]? =some o→o.dst=some t→listed.getD i false=false)→RV w mu hw (lkS S mu) (E.slots.getD t .undef) (tmps.getD t undef)∧Flag lv ti (E.slots.getD t .undef) (tmps.getD t undef)
def Closed(ops:Array Oper)(listed:Array Bool):Prop:=∀(i:Nat)(o:Oper),ops[i]? =some o→listed.getD i false=true→∀e∈o.after,Region.binds .any e=true→listed.getD e.on false=true
section
variable{P:Program}{call:Caller}{ops:Array Oper}{E E0 E':Env}{S S0 S':St}{ss':List St}{ls':List Load}{sn:Nat→Env × St}{listed:Array Bool}{w:World}{mu:Nat→Option Nat}{hw:Nat→Nat}{lv:Live}{ti:Id→TI}{tmps:Array Value}
theorem before_done(hc:Closed ops listed){i j:Nat}(hb:((Region.before ops).getD i 0).testBit j=true)(h:listed.getD i false=true∨∀o,ops[i]? =some o→∀e∈o.after,Region.binds .any e=true→listed.getD e.on false=true):listed.getD j false=true:=
 before_listed hc (i+1) i j (by omega) hb (h.elim (fun h o ho=>hc i o ho h) id)
theorem look_ok(R:RegOK ops)(H:Snaps P call ops 0 E0 S0 E' S' ss' ls' sn)(hA:∀d,(∀(o:Oper),o∈ops.toList→isAlloc o=true→o.dst≠some d)→E0.slots.getD d .undef=E.slots.getD d .undef)
 (hc:Closed ops listed) (X:SX ops listed E E' S w mu hw lv ti tmps) {i:Nat} {o:Oper} (ho:ops[i]? =some o) (hal:isAlloc o=false) (hni:listed.getD i false=false)
 (hr:∀o,ops[i]? =some o→∀e∈o.after,Region.binds .any e=true→listed.getD e.on false=true) {t:Tmp} (ht:t∈o.looksAt ops):
 RV w mu hw (lkS S mu) ((sn i).1.slots.getD t .undef) (tmps.getD t undef)∧Flag lv ti ((sn i).1.slots.getD t .undef) (tmps.getD t undef):=by
 have hisz:i<ops.size:=(Array.getElem?_eq_some_iff.1 ho).1
 by_cases hw':∃(j:Nat)(x:Oper),ops[j]? =some x∧x.dst=some t∧listed.getD j false=true
 ·obtain⟨j,x,hj,hx,hl⟩:=hw'
  have hji:j<i:=by
   rcases Nat.lt_trichotomy j i with h|h|h
   ·exact h
   ·subst h;rw[hni]at hl;cases hl
   ·exfalso
    rcases R.pair j i x o hj ho h with hb|⟨ha,_⟩
    ·have:=before_done hc hb (.inl hl)
     rw[hni]at this;cases this
    ·exact(Oper.apart_spec ha).2.2 t hx ht
  have:=sn_slot H (t:=t) (ops.size -i) i (by omega) fun k y h1 h2 hy _ e=>by
   have:=dst_inj R.nodup hj hy hx e
   omega
  rw[Nat.add_sub_cancel' (by omega),H.last]at this
  rw[←this]
  exact X.done t j x hj hx hl
 ·have hno:∀(j:Nat)(x:Oper),ops[j]? =some x→x.dst=some t→listed.getD j false=false:=by
   intro j x hj hx
   cases hl:listed.getD j false with
   |false=>rfl
   |true=>exact absurd ⟨j,x,hj,hx,hl⟩ hw'
  have hge:∀(j:Nat)(x:Oper),ops[j]? =some x→x.dst=some t→i≤j:=by
   intro j x hj hx
   rcases Nat.lt_or_ge j i with h|h
   ·exfalso
    rcases R.pair i j o x ho hj h with hb|⟨ha,_⟩
    ·have:=before_done hc hb (.inr hr)
     rw[hno j x hj hx]at this;cases this
    ·exact(Oper.apart_spec ha).1 t hx ht
   ·exact h
  have:=sn_slot H (t:=t) i 0 (by omega) fun k y h1 h2 hy _ e=>by
   have:=hge k y hy e
   omega
  rw[Nat.zero_add,H.zero]at this
  rw[this]
  simp only
  rw[hA t fun x hx hxa e=>?_]
  ·exact X.todo t hno
  ·obtain⟨j,hj⟩:=List.getElem?_of_mem hx
   have hj:ops[j]? =some x:=by simpa using hj
   have hij:=hge j x hj e
   have hne:i≠j:=by
    intro h;subst h
    rw[ho]at hj;cases hj
    rw[hal]at hxa;cases hxa
   obtain⟨_,d,hd,hlook⟩:=R.alloc j x hj hxa
   rw[hd]at e;cases e
   exact hlook i o (by omega) ho ht
end
end
theorem effs_count:∀(l:List Oper)(k m:Nat),((l.take m).filter isEff).length=(l.zipIdx k).countP (fun x=>isEff x.1&&decide (x.2<k+m)):=by
 intro l
 induction l with
 |nil=>intro k m;simp
 |cons o l ih=>
  intro k m
  cases m with
  |zero=>
   simp only[List.take_zero,List.filter_nil,List.length_nil,Nat.add_zero]
   symm
   rw[List.countP_eq_zero]
   intro x hx
   have:=List.mem_zipIdx hx
   simp;intro _;omega
  |succ m=>
   rw[List.take_succ_cons,List.zipIdx_cons,List.countP_cons,List.filter_cons]
   have:=ih (k+1) m
   have e:(fun(x:Oper × Nat)=>isEff x.1&&decide (x.2<k+1+m))=fun x=>isEff x.1&&decide (x.2<k+(m+1)):=by
    funext x;congr 2;apply propext;omega
   rw[e]at this
   rw[←this]
   have hk:decide (k<k+(m+1))=true:=by simp
   cases ho:isEff o<;>simp
theorem count_disj{α:Type}(p q r:α→Bool):∀(l:List α),(∀x∈l,p x=true→q x=true→False)→(∀x∈l,p x=true→r x=true)→(∀x∈l,q x=true→r x=true)→l.countP p+l.countP q≤l.countP r:=by
 intro l
 induction l with
 |nil=>intro _ _ _;simp
 |cons a l ih=>
  intro h1 h2 h3
  have:=ih (fun x hx=>h1 x (by simp[hx])) (fun x hx=>h2 x (by simp[hx])) (fun x hx=>h3 x (by simp[hx]))
  simp only[List.countP_cons]
  have a1:=h1 a (by simp)
  have a2:=h2 a (by simp)
  have a3:=h3 a (by simp)
  cases hp:p a<;>cases hq:q a<;>cases hr:r a<;>simp_all<;>omega
theorem zip_at{ops:Array Oper}{o:Oper}{j:Nat}(h:(o,j)∈ops.toList.zipIdx):ops[j]? =some o:=by
 rw[List.mem_zipIdx_iff_getElem?]at h
 simpa using h
theorem lowest_le{ops:Array Oper}{i m:Nat}(h:∀(j:Nat)(o:Oper),ops[j]? =some o→isEff o=true→((Region.before ops).getD i 0).testBit j=true→j<m):lowest ops (Region.before ops) i≤effs ops m:=by
 unfold lowest effs
 rw[effs_count _ 0 m,←List.countP_eq_length_filter]
 refine List.countP_mono_left fun x hx hp=>?_
 obtain⟨o,j⟩:=x
 simp only[Bool.and_eq_true]at hp
 have:=h j o (zip_at hx) hp.1 hp.2
 simp[hp.1,this]
theorem le_highest{ops:Array Oper}{i m:Nat}(h:∀(j:Nat)(o:Oper),ops[j]? =some o→isEff o=true→((Region.before ops).getD j 0).testBit i=true→m≤j):effs ops m≤highest ops (Region.before ops) i:=by
 unfold highest
 have total:(ops.toList.filter isEff).length=ops.toList.zipIdx.countP (fun x=>isEff x.1):=by
  have:=effs_count ops.toList 0 ops.toList.length
  rw[List.take_length]at this
  rw[this]
  refine List.countP_congr fun x hx=>?_
  have:=List.mem_zipIdx hx
  have h2:ops.toList.length=ops.size:=by simp
  simp;intro _;omega
 have e:effs ops m=ops.toList.zipIdx.countP (fun x=>isEff x.1&&decide (x.2<0+m)):=effs_count ops.toList 0 m
 rw[total,e,←List.countP_eq_length_filter]
 show _≤_ -List.countP (fun(x:Oper × Nat)=>isEff x.1&&((Region.before ops).getD x.2 0).testBit i) ops.toList.zipIdx
 have:=count_disj (fun(x:Oper × Nat)=>isEff x.1&&decide (x.2<0+m)) (fun x=>isEff x.1&&((Region.before ops).getD x.2 0).testBit i) (fun x=>isEff x.1) ops.toList.zipIdx
  (fun x hx hp hq=>by
   simp only[Bool.and_eq_true,decide_eq_true_eq]at hp hq
   have:=h x.2 x.1 (zip_at hx) hq.1 hq.2
   omega)
  (fun x _ hp=>by simp only[Bool.and_eq_true]at hp;exact hp.1) (fun x _ hp=>by simp only[Bool.and_eq_true]at hp;exact hp.1)
 omega
theorem load_ok{P:Program}{call:Caller}{ops:Array Oper}{E0 E':Env}{S0 S':St}{ss':List St}{ls':List Load}{sn:Nat→Env × St}(R:RegOK ops)(H:Snaps P call ops 0 E0 S0 E' S' ss' ls' sn)(h0:ss'[0]? =some S0)
 (hl:loadsOK P ops ss' ls'=true) {l:Load} (hin:l∈ls') {m:Nat} (hm:m≤ops.size)
 (h1:∀(j:Nat)(o:Oper),ops[j]? =some o→isEff o=true→((Region.before ops).getD l.idx 0).testBit j=true→j<m)
 (h2:∀(j:Nat)(o:Oper),ops[j]? =some o→isEff o=true→((Region.before ops).getD j 0).testBit l.idx=true→m≤j):∃v,evLoad P (sn m).2 l.type l.at_=some v∧avEq v l.val=true:=by
 unfold loadsOK at hl
 simp only[List.all_eq_true]at hl
 have hs:=ss_at R H h0 (fun _ _ _ h=>alloc_noeff h) m hm
 have a:=lowest_le h1
 have b:=le_highest h2
 have:=hl l hin (sn m).2 (by
  refine List.mem_of_getElem? (i:=effs ops m -lowest ops (Region.before ops) l.idx) ?_
  rw[List.getElem?_drop,Nat.add_sub_cancel' a,List.getElem?_take_of_lt (by omega)]
  exact hs)
 split at this
 ·rename_i v hv;exact⟨v,hv,this⟩
 ·cases this
section
theorem nAl_lt{l:List Oper}{i j:Nat}{o:Oper}(hi:l[i]? =some o)(ha:isAlloc o=true)(h:i<j):nAl l i<nAl l j:=by
 have h1:nAl l (i+1)=nAl l i+1:=by
  unfold nAl
  rw[List.take_add_one,hi]
  simp[ha]
 have h2:nAl l (i+1)≤nAl l j:=by
  unfold nAl
  have:(l.take j).take (i+1)=l.take (i+1):=by rw[List.take_take];congr 1;omega
  rw[←this]
  exact List.Sublist.length_le (List.Sublist.filter _ (List.take_sublist _ _))
 omega
theorem nAl_inj{l:List Oper}{i j:Nat}{o x:Oper}(hi:l[i]? =some o)(ha:isAlloc o=true)(hj:l[j]? =some x)(hx:isAlloc x=true)(h:nAl l i=nAl l j):i=j:=by
 rcases Nat.lt_trichotomy i j with h1|h1|h1
 ·have:=nAl_lt hi ha h1;omega
 ·exact h1
 ·have:=nAl_lt hj hx h1;omega
structure DS(P:Program)(ops:Array Oper)(E E':Env)(S:St)(sn:Nat→Env × St)(base:Nat)(prot:Nat→Prop)(S00:St)(w00:World)(mu00:Nat→Option Nat)(hw00:Nat→Nat)(ti00:Id→TI)
 (m:Nat) (mu:Nat→Option Nat) (hw:Nat→Nat) (ti:Id→TI) (listed:Array Bool) (a:Act) (w:World):Prop where
 mle:m≤ops.size
 eff:∀(j:Nat)(o:Oper),ops[j]? =some o→isEff o=true→(listed.getD j false=true↔j<m)
 I:Inv base prot (sn m).1.tips (sn m).2 w mu hw ti
 X:SX ops listed E E' (sn m).2 w mu hw (live (sn m).1.tips (sn m).2 mu) ti a.tmps
 ext:Ext base prot S00 w00 mu00 hw00 (sn m).2 w mu hw
 lv:LvExt (live [] S00 mu00) ti00 (live (sn m).1.tips (sn m).2 mu) ti
 holes:∀(j:Nat)(o:Oper),ops[j]? =some o→isAlloc o=true→listed.getD j false=false→mu (S.length+nAl ops.toList j)=none∧∃bx,newBox P o.op=some bx∧(sn m).2[S.length+nAl ops.toList j]? =some bx
 old:∀i,mu00 i=none→i<S00.length→(sn m).2[i]? =S00[i]?∧mu i=none
 slen:S00.length≤S.length
 defers:a.defers=[]
 closed:Closed ops listed
 lsize:listed.size=ops.size
theorem getD_set{l:Array Bool}{i j:Nat}(h:i<l.size):(l.setIfInBounds i true).getD j false=if i=j then true else l.getD j false:=by
 rw[Array.getD_eq_getD_getElem?,Array.getD_eq_getD_getElem?,Array.getElem?_setIfInBounds]
 by_cases e:i=j
 ·subst e;simp[h]
 ·simp[e]
section
variable{P:Program}{call:Caller}{ops:Array Oper}{E E0 E':Env}{S S0 S':St}{ss':List St}{ls':List Load}{sn:Nat→Env × St}{listed:Array Bool}{w:World}{mu:Nat→Option Nat}{hw:Nat→Nat}{ti:Id→TI}
 {base:Nat} {prot:Nat→Prop} {S00:St} {w00:World} {mu00:Nat→Option Nat} {hw00:Nat→Nat} {ti00:Id→TI} {m:Nat} {a:Act}
theorem DS.next(R:RegOK ops)(D:DS P ops E E' S sn base prot S00 w00 mu00 hw00 ti00 m mu hw ti listed a w){i:Nat}{o:Oper}(ho:ops[i]? =some o)(hni:listed.getD i false=false)
 (hr:∀e∈o.after,Region.binds .any e=true→listed.getD e.on false=true) {m':Nat} {v:Value} {x:AV} {w':World} {mu':Nat→Option Nat} {hw':Nat→Nat} {ti':Id→TI}
 (hm':m'≤ops.size) (heff:∀(j:Nat)(o':Oper),ops[j]? =some o'→isEff o'=true→((j=i∨listed.getD j false=true)↔j<m'))
 (I':Inv base prot (sn m').1.tips (sn m').2 w' mu' hw' ti') (e:Ext base prot (sn m).2 w mu hw (sn m').2 w' mu' hw') (l:LvExt (live (sn m).1.tips (sn m).2 mu) ti (live (sn m').1.tips (sn m').2 mu') ti')
 (rv:RV w' mu' hw' (lkS (sn m').2 mu') x v) (fl:Flag (live (sn m').1.tips (sn m').2 mu') ti' x v) (hx:∀d,o.dst=some d→d<E.slots.length→E'.slots.getD d .undef=x) (hlen:E'.slots.length=E.slots.length)
 (keep:∀k,mu k=none→k<(sn m).2.length→(isAlloc o=true→k≠S.length+nAl ops.toList i)→(sn m').2[k]? =(sn m).2[k]?∧mu' k=none):
 DS P ops E E' S sn base prot S00 w00 mu00 hw00 ti00 m' mu' hw' ti' (listed.setIfInBounds i true) (a.put o.dst v) w':=by
 have hisz:i<ops.size:=(Array.getElem?_eq_some_iff.1 ho).1
 have hil:i<listed.size:=by rw[D.lsize];exact hisz
 have gs:∀j,(listed.setIfInBounds i true).getD j false=if i=j then true else listed.getD j false:=fun j=>getD_set hil
 have hX:=D.X
 have ptmps:∀t,o.dst≠some t→(a.put o.dst v).tmps.getD t undef=a.tmps.getD t undef:=by
  intro t ht
  cases hd:o.dst with
  |none=>rfl
  |some d=>
   have:d≠t:=fun e=>ht (by rw[hd,e])
   simp[Act.put,Array.getD_eq_getD_getElem?,Array.getElem?_setIfInBounds,this]
 refine⟨hm',fun j o' hj he=>?_,I',⟨?_,fun t j o' hj hd hl=>?_,fun t hall=>?_⟩,D.ext.trans e,D.lv.trans l,fun j o' hj hop hl=>?_,fun k hk hlt=>?_,D.slen,by rw[put_defers];exact D.defers,fun j o' hj hl e' he hb=>?_,by simp[D.lsize]⟩
 ·rw[gs j,←heff j o' hj he]
  by_cases e:i=j
  ·subst e;simp
  ·rw[if_neg e]
   constructor
   ·exact .inr
   ·rintro(h|h)
    ·exact absurd h.symm e
    ·exact h
 ·have:=hX.len
  cases hd:o.dst with
  |none=>exact this
  |some d=>simp[Act.put];exact this
 ·by_cases e0:i=j
  ·subst e0
   rw[ho]at hj
   obtain rfl:=Option.some.inj hj
   by_cases hlt:t<E.slots.length
   ·rw[hx t hd hlt]
    have:(a.put o.dst v).tmps.getD t undef=v:=by
     have h2:t<a.tmps.size:=by rw[←hX.len];exact hlt
     simp[hd,Act.put,Array.getD_eq_getD_getElem?,h2]
    rw[this]
    exact⟨rv,fl⟩
   ·have:E'.slots.getD t .undef=.undef:=by
     rw[List.getD_eq_getElem?_getD,List.getElem?_eq_none (by rw[hlen];exact Nat.le_of_not_lt hlt)];rfl
    rw[this]
    exact⟨.undef _,trivial⟩
  ·rw[gs j,if_neg e0]at hl
   have hne:o.dst≠some t:=fun h=>e0 (dst_inj R.nodup ho hj h hd)
   rw[ptmps t hne]
   obtain⟨p,q⟩:=hX.done t j o' hj hd hl
   exact⟨e.rv p,q.mono l⟩
 ·have hne:o.dst≠some t:=fun h=>by
   have:=hall i o ho h
   rw[gs i,if_pos rfl]at this
   cases this
  rw[ptmps t hne]
  obtain⟨p,q⟩:=hX.todo t fun j o' hj hd=>by
   have:=hall j o' hj hd
   rw[gs j]at this
   split at this
   ·cases this
   ·exact this
  exact⟨e.rv p,q.mono l⟩
 ·rw[gs j]at hl
  split at hl
  ·cases hl
  rename_i hne
  obtain⟨p,z,hz,q⟩:=D.holes j o' hj hop hl
  have hlt:S.length+nAl ops.toList j<(sn m).2.length:=lt_of_get q
  obtain⟨k1,k2⟩:=keep _ p hlt fun ha heq=>hne (nAl_inj (l:=ops.toList) (by simpa using ho) ha (by simpa using hj) hop (by omega))
  exact⟨k2,z,hz,k1.trans q⟩
 ·obtain⟨p,q⟩:=D.old k hk hlt
  have hlt2:=Nat.lt_of_lt_of_le hlt D.ext.elen
  obtain⟨k1,k2⟩:=keep k q hlt2 fun _ heq=>by have:=D.slen;omega
  exact⟨k1.trans p,k2⟩
 ·rw[gs j]at hl
  rw[gs e'.on]
  by_cases h0:i=e'.on
  ·rw[if_pos h0]
  ·rw[if_neg h0]
   by_cases e0:i=j
   ·subst e0
    rw[ho]at hj
    obtain rfl:=Option.some.inj hj
    exact hr e' he hb
   ·rw[if_neg e0]at hl
    exact D.closed j o' hj hl e' he hb
end
end
section
def maskE(looks:List Tmp)(E:Env)(tips:List (Option Nat)):Env:=⟨(List.range E.slots.length).map fun t=>if looks.contains t then E.slots.getD t .undef else .undef,tips,E.nb⟩
theorem mask_get{looks:List Tmp}{E:Env}{tips:List (Option Nat)}{t:Tmp}:(maskE looks E tips).slots.getD t .undef=if t∈looks then E.slots.getD t .undef else .undef:=by
 simp only[maskE,List.getD_eq_getElem?_getD,List.getElem?_map]
 rcases Nat.lt_or_ge t E.slots.length with h|h
 ·rw[List.getElem?_range h]
  simp
 ·rw[List.getElem?_eq_none (by simpa using h),List.getElem?_eq_none h]
  simp
theorem mask_ev{ops:Array Oper}{o:Oper}{E:Env}{tips:List (Option Nat)}:∀x∈o.op.operands,E.ev x=(maskE (o.looksAt ops) E tips).ev x:=by
 intro x hx
 cases x with
 |tmp t=>
  have:t∈o.looksAt ops:=by
   unfold Oper.looksAt
   rw[List.mem_append]
   refine .inl (List.mem_filterMap.2 ⟨.tmp t,by simpa using hx,rfl⟩)
  show E.slots.getD t .undef=(maskE (o.looksAt ops) E tips).slots.getD t .undef
  rw[mask_get,if_pos this]
 |_=>rfl
theorem mask_guard{ops:Array Oper}{o:Oper}{E:Env}{tips:List (Option Nat)}:guardTold ops (maskE (o.looksAt ops) E tips) o=guardTold ops E o∧guardOK ops (maskE (o.looksAt ops) E tips) o=guardOK ops E o:=by
 unfold guardTold guardOK
 cases hg:o.guard with
 |none=>exact⟨rfl,rfl⟩
 |some g=>
  obtain⟨j,want⟩:=g
  simp only
  cases hd:(ops[j]?).bind (·.dst)with
  |none=>exact⟨rfl,rfl⟩
  |some d=>
   have:d∈o.looksAt ops:=by
    unfold Oper.looksAt
    rw[List.mem_append]
    refine .inr ?_
    rw[hg]
    simp[hd]
   have e:(maskE (o.looksAt ops) E tips).slots.getD d .undef=E.slots.getD d .undef:=by rw[mask_get,if_pos this]
   simp only
   rw[e]
   exact⟨rfl,rfl⟩
section
variable{P:Program}{call:Caller}{ops:Array Oper}{E E0 E':Env}{S S0 S':St}{ss':List St}{ls':List Load}{sn:Nat→Env × St}{listed:Array Bool}{w:World}{mu:Nat→Option Nat}{hw:Nat→Nat}{ti:Id→TI}
 {base:Nat} {prot:Nat→Prop} {S00:St} {w00:World} {mu00:Nat→Option Nat} {hw00:Nat→Nat} {ti00:Id→TI} {m:Nat} {a:Act}
structure Reg(P:Program)(call:Caller)(ops:Array Oper)(E E0:Env)(S S0:St)(E':Env)(S':St)(ss':List St)(ls':List Load)(sn:Nat→Env × St):Prop where
 R:RegOK ops
 H:Snaps P call ops 0 E0 S0 E' S' ss' ls' sn
 h0:ss'[0]? =some S0
 loads:loadsOK P ops ss' ls'=true
 hA:∀d,(∀(o:Oper),o∈ops.toList→isAlloc o=true→o.dst≠some d)→E0.slots.getD d .undef=E.slots.getD d .undef
 hB:∀(j:Nat)(o:Oper),ops[j]? =some o→isAlloc o=true→∃bx,newBox P o.op=some bx∧S0[S.length+nAl ops.toList j]? =some bx∧(∀d,o.dst=some d→d<E.slots.length→E0.slots.getD d .undef=newRef (S.length+nAl ops.toList j) o.op)
 hlen:E0.slots.length=E.slots.length
 htips:E0.tips=E.tips
theorem newRef_flag(n:Nat)(o:Op)(lv:Live)(ti:Id→TI)(v:Value):Flag lv ti (newRef n o) v:=by
 unfold newRef
 split<;>trivial
theorem newBox_run{o:Oper}{bx:Box}(h:newBox P o.op=some bx)(ev:Operand→Value):∃ob v,(execOp ev o).run P w=.ok (.value v) (w.alloc ob)∧
 (∀mu',Ext base prot S w mu hw S (w.alloc ob) mu' hw→BoxR (w.alloc ob) mu' hw (lkS S mu') bx w.heap.size)∧(∀cs bt l,bx=.mem cs bt l→bt=[]∧∀x∈cs,nf x=true)∧
 ∀(w':World)(mu':Nat→Option Nat)(hw':Nat→Nat)(lk':Nat→Prop)(n:Nat),mu' n=some w.heap.size→RV w' mu' hw' lk' (newRef n o.op) v:=by
 obtain⟨dst,op,type,pos,after,guard⟩:=o
 simp only at h⊢
 unfold newBox at h
 split at h
 ·rename_i t
  simp only[Option.map_eq_some_iff]at h
  obtain⟨z,hz,rfl⟩:=h
  obtain⟨vz,z1,z2⟩:=zero_sound (P:=P) (w:=w) (mu:=mu) (hw:=hw) (lk:=lkS S mu) hz
  refine⟨.cells vz.cells t,.pointer (some ⟨w.heap.size,0,none⟩),by simp[execOp,Instr.alloc,z1,newVar,newRow],fun mu' e=>⟨_,_,heap_alloc_new _ _,e.rb z2.rb⟩,fun cs bt l h=>?_,fun w' mu' hw' lk' n hn=>.ptr _ _ _ hn⟩
  cases h
  refine⟨rfl,fun x hx=>?_⟩
  obtain⟨j,hj⟩:=List.getElem?_of_mem hx
  exact(z2.2 j x hj).1
 ·simp at h
  subst h
  exact⟨.map #[] 0,.map (some w.heap.size),by simp[execOp,Instr.makeMap],fun mu' e=>⟨#[],0,heap_alloc_new _ _,rfl,fun j k v m h=>by simp at h⟩,fun cs bt l h=>(by cases h),fun w' mu' hw' lk' n hn=>.mref _ _ hn⟩
 ·cases h
theorem draw_step(G:Reg P call ops E E0 S S0 E' S' ss' ls' sn)(hsim:CallSim P call)(hold:CallOld call)(hN:Named P)(D:DS P ops E E' S sn base prot S00 w00 mu00 hw00 ti00 m mu hw ti listed a w)
 {i:Nat} (hi:i∈Region.ready .any ops listed) {Q:Exit→Act→World→Prop} {K:Act→World→Prop}
 (hK:∀m' mu' hw' ti' a' w',DS P ops E E' S sn base prot S00 w00 mu00 hw00 ti00 m' mu' hw' ti' (listed.setIfInBounds i true) a' w'→K a' w'):wpOp P ops Q i K a w:=by
 have R:=G.R
 have H:=G.H
 unfold Region.ready at hi
 rw[List.mem_filter]at hi
 obtain⟨hi1,hi2⟩:=hi
 have hisz:i<ops.size:=by simpa using hi1
 have ho:ops[i]? =some ops[i]:=Array.getElem?_eq_getElem hisz
 generalize ops[i]=o at ho
 rw[ho]at hi2
 simp only[Bool.and_eq_true,Bool.not_eq_true',Option.map_some,Option.getD_some]at hi2
 obtain⟨hi3,hi4⟩:=hi2
 have hni:listed.getD i false=false:=by
  have:i<listed.size:=by rw[D.lsize];exact hisz
  simpa[Array.getD_eq_getD_getElem?,this]using hi3
 have hr:∀e∈o.after,Region.binds .any e=true→listed.getD e.on false=true:=by
  intro e he hb
  rw[Array.all_eq_true_iff_forall_mem]at hi4
  have:=hi4 e he
  simpa[hb]using this
 have hr':∀o',ops[i]? =some o'→∀e∈o'.after,Region.binds .any e=true→listed.getD e.on false=true:=by
  intro o' ho'
  rw[ho]at ho'
  obtain rfl:=Option.some.inj ho'
  exact hr
 have hElen:E'.slots.length=E.slots.length:=by
  have:=(sn_len H ops.size (Nat.le_refl _)).1
  rw[H.last]at this
  exact this.trans G.hlen
 unfold wpOp
 simp only[ho]
 have effI:isEff o=true→∀(j:Nat)(x:Oper),ops[j]? =some x→isEff x=true→(j<m↔j<i):=by
  intro he j x hj hx
  rw[←D.eff j x hj hx]
  constructor
  ·intro hl
   rcases Nat.lt_trichotomy j i with h|h|h
   ·exact h
   ·subst h;rw[hni]at hl;cases hl
   ·exfalso
    rcases R.pair j i x o hj ho h with hb|⟨_,hb⟩
    ·have:=before_done D.closed hb (.inl hl)
     rw[hni]at this;cases this
    ·exact hb ⟨he,hx⟩
  ·intro h
   rcases R.pair i j o x ho hj h with hb|⟨_,hb⟩
   ·exact before_done D.closed hb (.inr hr')
   ·exact absurd ⟨hx,he⟩ hb
 by_cases hal:isAlloc o=true
 ·
   obtain⟨hg,d,hd,hlook⟩:=R.alloc i o ho hal
   obtain⟨hm0,bx,hz,hS⟩:=D.holes i o ho hal hni
   obtain⟨ob,v,hrun,hbx,hcs,hrv⟩:=newBox_run (P:=P) (w:=w) (mu:=mu) (hw:=hw) (base:=base) (prot:=prot) (S:=(sn m).2) hz a.eval
   obtain⟨I',e,hlv⟩:=inv_fill D.I (hbx _) hcs hS hm0
   have hwant:Region.wanted o (yielded ops a.tmps)=true:=by simp[Region.wanted,hg]
   rw[if_pos hwant]
   refine .inl ?_
   unfold Oper.wp
   rw[hrun,Oper.upon_value]
   have hne:=alloc_noeff hal
   refine hK m _ _ _ _ _ (D.next R ho hni hr (x:=newRef (S.length+nAl ops.toList i) o.op) D.mle (fun j o' hj he=>?_) I' e (by rw[hlv];exact LvExt.refl _ _) (hrv _ _ _ _ _ (upd_same _ _ _)) (newRef_flag _ _ _ _ _) (fun d' hd' hlt=>?_) hElen fun k hk hlt hne'=>⟨rfl, ?_⟩)
   ·rw[←D.eff j o' hj he]
    constructor
    ·rintro(h|h)
     ·subst h;rw[ho]at hj;obtain rfl:=Option.some.inj hj;rw[hne]at he;cases he
     ·exact h
    ·exact .inr
   ·obtain⟨z',_,_,b3⟩:=G.hB i o ho hal
    rw[←b3 d' hd' hlt]
    have:=sn_slot H (t:=d') ops.size 0 (by omega) fun k y _ _ hy hya hyd=>by
     have:=dst_inj R.nodup ho hy hd' hyd
     subst this
     rw[ho]at hy;obtain rfl:=Option.some.inj hy
     rw[hal]at hya;cases hya
    rw[Nat.zero_add,H.zero,H.last]at this
    exact this
   ·rw[upd_ne _ _ _ _ (hne' hal)];exact hk
 have hal:isAlloc o=false:=by simpa using hal
 obtain⟨hlen_i,hnb⟩:=sn_len H i (by omega)
 have hlen_i2:(sn i).1.slots.length=a.tmps.size:=by rw[hlen_i,G.hlen];exact D.X.len
 generalize hEM:maskE (o.looksAt ops) (sn i).1 (sn m).1.tips=EM
 have hEMt:EM.tips=(sn m).1.tips:=by rw[←hEM];rfl
 have SL:Slots (sn m).2 w mu hw (live EM.tips (sn m).2 mu) ti EM.slots a.tmps:=by
  refine⟨by rw[←hEM];simp[maskE];exact hlen_i2,fun t=>?_⟩
  rw[hEMt,←hEM,mask_get]
  split
  ·rename_i hmem
   exact look_ok R H G.hA D.closed D.X ho hal hni hr' hmem
  ·exact⟨.undef _,trivial⟩
 have IM:Inv base prot EM.tips (sn m).2 w mu hw ti:=by rw[hEMt];exact D.I
 obtain⟨ht,hcase⟩:=H.run i o (Nat.zero_le _) ho hal
 have mg:=mask_guard (ops:=ops) (o:=o) (E:=(sn i).1) (tips:=(sn m).1.tips)
 rw[hEM]at mg
 have hgw:=guard_ok SL (by rw[mg.1];exact ht)
 rw[hgw,mg.2]
 have slotE:∀d y,o.dst=some d→d<E.slots.length→(sn (i+1)).1.slots=setSlot (sn i).1.slots o.dst y→E'.slots.getD d .undef=y:=by
  intro d y hd hlt hs
  have:=sn_slot H (t:=d) (ops.size -(i+1)) (i+1) (by omega) fun k z h1 h2 hz _ hzd=>by
   have:=dst_inj R.nodup ho hz hd hzd
   omega
  rw[Nat.add_sub_cancel' (by omega),H.last]at this
  simp only at this
  rw[this,hs,hd]
  exact setSlot_eq _ _ _ (by rw[hlen_i,G.hlen];exact hlt)
 have eff1:isEff o=true→∀(j:Nat)(o':Oper),ops[j]? =some o'→isEff o'=true→((j=i∨listed.getD j false=true)↔j<i+1):=by
  intro he j o' hj he'
  rw[D.eff j o' hj he',effI he j o' hj he']
  omega
 have eff0:isEff o=false→∀(j:Nat)(o':Oper),ops[j]? =some o'→isEff o'=true→((j=i∨listed.getD j false=true)↔j<m):=by
  intro he j o' hj he'
  rw[←D.eff j o' hj he']
  constructor
  ·rintro(h|h)
   ·subst h;rw[ho]at hj;obtain rfl:=Option.some.inj hj;rw[he]at he';cases he'
   ·exact h
  ·exact .inr
 have noal:∀{p:Prop},isAlloc o=true→p:=by intro p h;rw[hal]at h;cases h
 rcases hcase with⟨hok,v,tips,S1,h1,h2,h3⟩|⟨hok,h2⟩
 ·rw[if_pos hok]
  refine .inl ?_
  by_cases he:isEff o=true
  ·obtain⟨st,sS⟩:=same_state' R H D.mle (by omega) (effI he)
   have hev:evOpr P call EM (sn m).2 o=some (v,tips,S1):=by
    rw[sS,←h1]
    exact(evOpr_congr (by rw[hEMt];exact st.symm) (by rw[←hEM];rfl) (by rw[←hEM];exact mask_ev)).symm
   refine opr_wp hsim hold hN IM SL hev fun y w1 hs=>?_
   obtain⟨mu1,hw1,ti1,I1,e1,l1,r1,f1,n1⟩:=hs
   have t1:(sn (i+1)).1.tips=tips:=by rw[h2];rfl
   have s1:(sn (i+1)).2=S1:=by rw[h2]
   rw[hEMt]at l1
   refine hK (i+1) mu1 hw1 ti1 _ w1 (D.next R ho hni hr (x:=v) (by omega) (eff1 he) (by rw[t1,s1];exact I1) (by rw[s1];exact e1) (by rw[t1,s1];exact l1) (by rw[s1];exact r1) (by rw[t1,s1];exact f1)
    (fun d hd hlt=>slotE d v hd hlt (by rw[h2];rfl)) hElen fun k hk hlt _=>by rw[s1];exact n1 k hk hlt)
  ·have he:isEff o=false:=by simpa using he
   have hev:evOpr P call EM (sn m).2 o=some (v,(sn m).1.tips,(sn m).2):=by
    by_cases hl:isLoad o=true
    ·have:∃t p,o.op=.load t p:=by
      unfold isLoad at hl;split at hl
      ·exact⟨_,_,by assumption⟩
      ·simp at hl
     obtain⟨t,p,hop⟩:=this
     obtain⟨v',hv',heq⟩:=load_ok R H G.h0 G.loads (h3 t p hop) D.mle (fun j x hj hx hb=>(D.eff j x hj hx).1 (before_done D.closed hb (.inr hr'))) (fun j x hj hx hb=>by
      rcases Nat.lt_or_ge j m with h|h
      ·exfalso
       have:=before_done D.closed hb (.inl ((D.eff j x hj hx).2 h))
       rw[hni]at this;cases this
      ·exact h)
     have:=avEq_sound _ _ heq
     simp only at this hv'
     subst this
     have hp:EM.ev p=(sn i).1.ev p:=by
      rw[←hEM]
      exact(mask_ev (o:=o) p (by rw[hop];simp[Op.operands])).symm
     rw[evOpr_load hop,hp,hv',hEMt]
     rfl
    ·rw[←hEMt]
     exact op_still' he hal (box_noeff he) (by simpa using hl) h1 (by rw[←hEM];exact mask_ev) _
   refine opr_wp hsim hold hN IM SL hev fun y w1 hs=>?_
   obtain⟨mu1,hw1,ti1,I1,e1,l1,r1,f1,n1⟩:=hs
   rw[hEMt]at l1
   exact hK m mu1 hw1 ti1 _ w1 (D.next R ho hni hr (x:=v) D.mle (eff0 he) I1 e1 l1 r1 f1 (fun d hd hlt=>slotE d v hd hlt (by rw[h2];rfl)) hElen fun k hk hlt _=>n1 k hk hlt)
 ·rw[if_neg (by rw[hok];simp)]
  have und:RV w mu hw (lkS (sn m).2 mu) (.tup []) undef:=by
   have:=RV.tup (w:=w) (mu:=mu) (hw:=hw) (lk:=lkS (sn m).2 mu) [] (fun _=>undef) (by simp)
   simpa[undef]using this
  have fu:∀lv:Live,Flag lv ti (.tup []) undef:=by intro lv arr _ j x y hx;simp at hx
  by_cases he:isEff o=true
  ·obtain⟨st,sS⟩:=same_state' R H D.mle (by omega) (effI he)
   have t1:(sn (i+1)).1.tips=(sn m).1.tips:=by rw[h2,st];rfl
   have s1:(sn (i+1)).2=(sn m).2:=by rw[h2,sS]
   exact hK (i+1) mu hw ti _ w (D.next R ho hni hr (x:=.tup []) (by omega) (eff1 he) (by rw[t1,s1];exact D.I) (by rw[s1];exact Ext.refl _ _ _ _ _ _) (by rw[t1,s1];exact LvExt.refl _ _) (by rw[s1];exact und) (fu _)
    (fun d hd hlt=>slotE d _ hd hlt (by rw[h2];rfl)) hElen fun k hk hlt _=>by rw[s1];exact⟨rfl,hk⟩)
  ·have he:isEff o=false:=by simpa using he
   exact hK m mu hw ti _ w (D.next R ho hni hr (x:=.tup []) D.mle (eff0 he) D.I (Ext.refl _ _ _ _ _ _) (LvExt.refl _ _) und (fu _) (fun d hd hlt=>slotE d _ hd hlt (by rw[h2];rfl)) hElen fun k hk hlt _=>⟨rfl,hk⟩)
end
end
section
section
variable{P:Program}{call:Caller}{ops:Array Oper}{E E0 E':Env}{S S0 S':St}{ss':List St}{ls':List Load}{sn:Nat→Env × St}{listed:Array Bool}{w:World}{mu:Nat→Option Nat}{hw:Nat→Nat}{ti:Id→TI}
 {base:Nat} {prot:Nat→Prop} {S00:St} {w00:World} {mu00:Nat→Option Nat} {hw00:Nat→Nat} {ti00:Id→TI} {m:Nat} {a:Act} {tips:List (Option Nat)}
theorem lkS_ahead(hdom:∀i b,mu i=some b→i<S.length)(bs:St):lkS (S++bs) mu=lkS S mu:=by
 funext b
 apply propext
 constructor
 ·rintro⟨i,cs,bt,h1,h2⟩
  exact⟨i,cs,bt,by rw[List.getElem?_append_left (hdom i b h2)]at h1;exact h1,h2⟩
 ·rintro⟨i,cs,bt,h1,h2⟩
  exact⟨i,cs,bt,by rw[List.getElem?_append_left (hdom i b h2)];exact h1,h2⟩
theorem live_ahead(hdom:∀i b,mu i=some b→i<S.length)(bs:St):live tips (S++bs) mu=live tips S mu:=by
 funext id
 cases id with
 |fr n=>rfl
 |bx i j=>
  simp only[live]
  cases h:mu i with
  |none=>rfl
  |some b=>rw[List.getElem?_append_left (hdom i b h)]
theorem inv_ahead(I:Inv base prot tips S w mu hw ti)(bs:St):Inv base prot tips (S++bs) w mu hw ti∧Ext base prot S w mu hw (S++bs) w mu hw:=by
 have hdom:∀i b,mu i=some b→i<S.length:=fun i b h=>(I.idom i b h).1
 refine⟨⟨fun i bx b h1 h2=>?_,fun i cells bt l b h1 h2=>?_,I.iinj,fun i b h=>?_,I.iout, ?_, ?_,I.iprot,I.ibase,I.iglb⟩,⟨fun _ _ h=>h,fun _=>Nat.le_refl _,fun b h=>by rw[lkS_ahead hdom];exact h,fun _ _ _ _ h=>h,fun _ _=>⟨rfl,rfl⟩,Belo.refl _ _,by simp⟩⟩
 ·rw[List.getElem?_append_left (hdom i b h2)]at h1
  rw[lkS_ahead hdom]
  exact I.ibox i bx b h1 h2
 ·rw[List.getElem?_append_left (hdom i b h2)]at h1
  rw[live_ahead hdom]
  exact I.iflag i cells bt l b h1 h2
 ·obtain⟨p,q⟩:=I.idom i b h
  exact⟨by simp;omega,q⟩
 ·rw[live_ahead hdom];exact I.itip
 ·rw[live_ahead hdom];exact I.itinj
theorem ready_nil(R:RegOK ops)(hs:listed.size=ops.size)(h:Region.ready .any ops listed=[]):∀(n i:Nat),i<n→i<ops.size→listed.getD i false=true:=by
 intro n
 induction n with
 |zero=>intro i hi;omega
 |succ n ih=>
  intro i hi hlt
  cases hc:listed.getD i false with
  |true=>rfl
  |false=>
   exfalso
   have ho:ops[i]? =some ops[i]:=Array.getElem?_eq_getElem hlt
   have:i∈Region.ready .any ops listed:=by
    unfold Region.ready
    rw[List.mem_filter]
    refine⟨by simpa using hlt, ?_⟩
    have h1:listed.getD i true=false:=by
     have h2:i<listed.size:=by omega
     rw[Array.getD_eq_getD_getElem?]at hc⊢
     rw[Array.getElem?_eq_getElem h2]at hc⊢
     exact hc
    rw[h1,ho]
    simp only[Bool.not_false,Option.map_some,Option.getD_some,Bool.true_and]
    rw[Array.all_eq_true_iff_forall_mem]
    intro e he
    cases hb:Region.binds .any e with
    |false=>rfl
    |true=>
     have h3:=R.back i _ ho e he hb
     simp only[Bool.not_true,Bool.false_or]
     exact ih e.on (by omega) (by omega)
   rw[h]at this
   cases this
theorem ready_of_all(hs:listed.size=ops.size)(h:∀i,i<ops.size→listed.getD i false=true):Region.ready .any ops listed=[]:=by
 unfold Region.ready
 rw[List.filter_eq_nil_iff]
 intro i hi
 have hlt:i<ops.size:=by simpa using hi
 have h1:listed.getD i true=true:=by
  have h0:=h i hlt
  have h2:i<listed.size:=by omega
  rw[Array.getD_eq_getD_getElem?]at h0⊢
  rw[Array.getElem?_eq_getElem h2]at h0⊢
  exact h0
 simp[h1]
theorem DS.fin(G:Reg P call ops E E0 S S0 E' S' ss' ls' sn)(D:DS P ops E E' S sn base prot S00 w00 mu00 hw00 ti00 m mu hw ti listed a w)(h:∀i,i<ops.size→listed.getD i false=true):
 Run base prot S00 w00 mu00 hw00 ti00 E' S' a w:=by
 have H:=G.H
 obtain⟨st,sS⟩:=same_state' G.R H D.mle (Nat.le_refl _) (fun j o hj he=>by
  have hlt:j<ops.size:=(Array.getElem?_eq_some_iff.1 hj).1
  have:=(D.eff j o hj he).1 (h j hlt)
  exact⟨fun _=>hlt,fun _=>this⟩)
 rw[H.last]at st sS
 have st:(sn m).1.tips=E'.tips:=st
 have sS:(sn m).2=S':=sS
 have I:=D.I
 have X:=D.X
 have ext:=D.ext
 have lv:=D.lv
 have old:=D.old
 rw[st,sS]at I X lv
 rw[sS]at ext old
 have hElen:E'.slots.length=E.slots.length:=by
  have:=(sn_len H ops.size (Nat.le_refl _)).1
  rw[H.last]at this
  exact this.trans G.hlen
 refine⟨mu,hw,ti,I,⟨hElen.trans X.len,fun t=>?_⟩,ext,lv,D.defers,old⟩
 by_cases hw':∃(j:Nat)(x:Oper),ops[j]? =some x∧x.dst=some t
 ·obtain⟨j,x,hj,hx⟩:=hw'
  exact X.done t j x hj hx (h j (Array.getElem?_eq_some_iff.1 hj).1)
 ·have hno:∀(j:Nat)(x:Oper),ops[j]? =some x→x.dst≠some t:=fun j x hj hx=>hw' ⟨j,x,hj,hx⟩
  have:=sn_slot H (t:=t) ops.size 0 (by omega) fun k y _ _ hy _=>hno k y hy
  rw[Nat.zero_add,H.zero,H.last]at this
  have this:E'.slots.getD t .undef=E0.slots.getD t .undef:=this
  rw[this,G.hA t fun x hx _ e=>?_]
  ·exact X.todo t fun j x hj hx=>absurd hx (hno j x hj)
  ·obtain⟨j,hj⟩:=List.getElem?_of_mem hx
   exact hno j x (by simpa using hj) e
theorem draw_all(G:Reg P call ops E E0 S S0 E' S' ss' ls' sn)(hsim:CallSim P call)(hold:CallOld call)(hN:Named P){Q:Exit→Act→World→Prop}
 (hQ:∀a' w',Run base prot S00 w00 mu00 hw00 ti00 E' S' a' w'→Q .normal a' w'):∀(fuel m:Nat)(mu:Nat→Option Nat)(hw:Nat→Nat)(ti:Id→TI)(listed:Array Bool)(a:Act)(w:World),
  DS P ops E E' S sn base prot S00 w00 mu00 hw00 ti00 m mu hw ti listed a w→listed.toList.countP (!·)≤fuel→wpAny P .any ops Q fuel listed a w:=by
 intro fuel
 induction fuel with
 |zero=>
  intro m mu hw ti listed a w D hc
  have hall:∀i,i<ops.size→listed.getD i false=true:=by
   intro i hi
   have hl:i<listed.size:=by rw[D.lsize];exact hi
   have h0:listed.toList.countP (!·)=0:=by omega
   rw[List.countP_eq_zero]at h0
   have:=h0 listed[i] (by simp)
   rw[Array.getD_eq_getD_getElem?,Array.getElem?_eq_getElem hl]
   simpa using this
  exact⟨ready_of_all D.lsize hall,hQ a w (D.fin G hall)⟩
 |succ fuel ih=>
  intro m mu hw ti listed a w D hc
  refine⟨fun h=>hQ a w (D.fin G fun i hi=>ready_nil G.R D.lsize h (i+1) i (by omega) hi),fun i hi=>?_⟩
  refine draw_step G hsim hold hN D hi fun m' mu' hw' ti' a' w' D'=>ih m' mu' hw' ti' _ a' w' D' ?_
  unfold Region.ready at hi
  rw[List.mem_filter]at hi
  obtain⟨hi1,hi2⟩:=hi
  have hlt:i<ops.size:=by simpa using hi1
  have hl:i<listed.toList.length:=by have:=D.lsize;simp;omega
  simp only[Bool.and_eq_true,Bool.not_eq_true']at hi2
  have h3:listed.toList[i]=false:=by
   have h2:=hi2.1
   rw[Array.getD_eq_getD_getElem?,Array.getElem?_eq_getElem (by simpa using hl)]at h2
   simpa using h2
  rw[Array.toList_setIfInBounds,List.countP_set hl,h3]
  simp only[Bool.not_false,if_true,Bool.not_true,Bool.false_eq_true,if_false,Nat.add_zero]
  have hpos:0<listed.toList.countP (!·):=by
   rw[List.countP_pos_iff]
   exact⟨listed.toList[i],List.getElem_mem hl,by rw[h3];rfl⟩
  omega
end
theorem drawSim{P:Program}{call:Caller}(hm:P.follows .mixedOrders=true)(hN:Named P)(hsim:CallSim P call)(hold:CallOld call):DrawSim P call:=by
 intro id ops E S E' S' hreg h base prot S00 w00 mu00 hw00 ti00 a w Q Rn hQ
 have R:=regionOK_spec hreg
 unfold evDraw at h
 split at h
 ·simp at h
 rename_i E0 S0 hal
 split at h
 ·simp at h
 rename_i E1 S1 ss ls htr
 split at h
 case isFalse=>simp at h
 rename_i hloads
 simp only[Option.some.injEq,Prod.mk.injEq]at h
 obtain⟨rfl,rfl⟩:=h
 obtain⟨a1,a2,a3,⟨bs,rfl⟩,a5,a6⟩:=allocs_spec _ _ _ _ _ hal R.nodup
 obtain⟨⟨t,ht⟩,_,sn,H⟩:=trace_snaps ops.toList 0 E0 (S++bs) [S++bs] [] _ _ ss ls (fun j=>by simp) (by simp) (by simp[effs_zero]) (fun o _ ha=>alloc_noeff ha) htr
 have G:Reg P call ops E E0 S (S++bs) E1 S1 ss ls sn:={
  R:=R
  H:=H
  h0:=by rw[ht];rfl
  loads:=hloads
  hA:=a6
  hB:=fun j o hj ho=>a5 j o (by simpa using hj) ho
  hlen:=a3
  htips:=a1}
 refine wp_region_any hm ?_
 obtain⟨mu,hw,ti,I,SL,e,lv,hd,old⟩:=Rn
 obtain⟨I1,e1⟩:=inv_drew I
 obtain⟨I2,e2⟩:=inv_ahead I1 bs
 have hdom:∀i b,mu i=some b→i<S.length:=fun i b h=>(I.idom i b h).1
 refine draw_all G hsim hold hN hQ ops.size 0 mu hw ti _ a _ ?_ ?_
 ·refine⟨Nat.zero_le _,fun j o hj he=>?_, ?_,⟨SL.1,fun t i o hi ho hl=>?_,fun t _=>?_⟩, ?_, ?_,fun j o hj hop _=>?_,fun i hi hlt=>?_,e.elen,hd,fun i o hi hl=>?_,by simp⟩
  ·have:(Array.replicate ops.size false).getD j false=false:=by
    rw[Array.getD_eq_getD_getElem?,Array.getElem?_replicate];split<;>rfl
   rw[this]
   simp
  ·rw[H.zero]
   show Inv base prot E0.tips (S++bs) _ mu hw ti
   rw[a1]
   exact I2
  ·exfalso
   rw[Array.getD_eq_getD_getElem?,Array.getElem?_replicate]at hl
   split at hl<;>simp at hl
  ·rw[H.zero]
   show RV _ mu hw (lkS (S++bs) mu) _ _∧Flag (live E0.tips (S++bs) mu) ti _ _
   rw[a1,live_ahead hdom]
   exact⟨e2.rv (e1.rv (SL.2 t).1),(SL.2 t).2⟩
  ·rw[H.zero]
   exact(e.trans e1).trans e2
  ·rw[H.zero]
   show LvExt _ _ (live E0.tips (S++bs) mu) ti
   rw[a1,live_ahead hdom]
   exact lv
  ·obtain⟨z,b1,b2,_⟩:=G.hB j o hj hop
   refine⟨?_,z,b1,by rw[H.zero];exact b2⟩
   cases hmu:mu (S.length+nAl ops.toList j)with
   |none=>rfl
   |some b=>have:=hdom _ _ hmu;omega
  ·obtain⟨p,q⟩:=old i hi hlt
   refine⟨?_,q⟩
   rw[H.zero]
   show(S++bs)[i]? =_
   rw[List.getElem?_append_left (Nat.lt_of_lt_of_le hlt e.elen)]
   exact p
  ·exfalso
   rw[Array.getD_eq_getD_getElem?,Array.getElem?_replicate]at hl
   split at hl<;>simp at hl
 ·have h1:(Array.replicate ops.size false).toList.length=ops.size:=by simp
  have h2:(Array.replicate ops.size false).toList.countP (!·)≤(Array.replicate ops.size false).toList.length:=List.countP_le_length
  omega
end
section
theorem alloc_setCell(w:World)(vs:Array Value)(e:TypeId)(o:Nat)(v:Value):(w.alloc (.cells vs e)).setCell ⟨w.heap.size,o,none⟩ v=w.alloc (.cells (vs.setIfInBounds o v) e):=by
 unfold World.setCell World.alloc
 simp only
 congr 1
 apply Array.ext_getElem?
 intro k
 simp only[Array.getElem?_modify,Array.getElem?_push]
 by_cases h:w.heap.size=k
 ·subst h;simp
 ·have h':¬k=w.heap.size:=fun e=>h e.symm
  simp[h,h']
theorem alloc_setCells(w:World)(e:TypeId):∀(l:List Value)(A B C:Array Value),B.size=l.length→(w.alloc (.cells (A++B++C) e)).setCells w.heap.size A.size l=w.alloc (.cells (A++l.toArray++C) e):=by
 intro l
 induction l with
 |nil=>
  intro A B C h
  have:B= #[]:=by
   apply Array.eq_empty_of_size_eq_zero;simpa using h
  subst this;rfl
 |cons v l ih=>
  intro A B C h
  show((w.alloc (.cells (A++B++C) e)).setCell ⟨w.heap.size,A.size,none⟩ v).setCells w.heap.size (A.size+1) l=_
  rw[alloc_setCell]
  have h2:0<B.size:=by simp at h;omega
  have e1:(A++B++C).setIfInBounds A.size v=(A.push v)++(B.extract 1 B.size)++C:=by
   apply Array.ext_getElem?
   intro k
   simp only[Array.getElem?_setIfInBounds,Array.getElem?_append,Array.size_append,Array.size_push,Array.size_extract,Array.getElem?_push,Array.getElem?_extract]
   by_cases hk:A.size=k
   ·subst hk
    rw[if_pos rfl,if_pos (by omega),if_pos (by omega),if_pos (by omega),if_pos rfl]
   ·rw[if_neg hk]
    by_cases h3:k<A.size
    ·simp[h3,show k<A.size+B.size by omega,show k<A.size+1 by omega,show k<A.size+1+(B.size -1)by omega,show¬k=A.size by omega]
    ·by_cases h4:k<A.size+B.size
     ·simp[h3,h4,show¬k<A.size+1 by omega,show k<A.size+1+(B.size -1)by omega]
      rw[if_pos (by omega)]
      congr 1;omega
     ·simp[h3,h4,show¬k<A.size+1+(B.size -1)by omega]
      congr 1;omega
  rw[e1]
  have:=ih (A.push v) (B.extract 1 B.size) C (by simp at h⊢;omega)
  simp only[Array.size_push]at this
  rw[this]
  congr 2
  simp[Array.append_assoc]
section
variable{P:Program}{base:Nat}{prot:Nat→Prop}{tips tips':List (Option Nat)}{S S':St}{w w':World}{mu:Nat→Option Nat}{hw:Nat→Nat}{ti:Id→TI}
def Out1(P:Program)(base:Nat)(prot:Nat→Prop)(tips:List (Option Nat))(S:St)(w:World)(mu:Nat→Option Nat)(hw:Nat→Nat)(ti:Id→TI)(tips':List (Option Nat))(S':St)(ts:Array TypeId)(ty:TypeId)(args:Array Value)
    (sz:Nat) (cv:Array Value) (v:Value) (r:AV):Prop:=
 ∃b o n cap w1,(∃a c0,v=.slice a n c0)∧(Builtin.append_ ts ty args).run P w=.ok (.slice (some ⟨b,o,none⟩) (n+1) cap) w1∧n+1≤cap∧
  (∃vs el,w1.heap[b]? =some (.cells vs el (0,0))∧o+n*sz+sz≤vs.size)∧(∀i,mu i≠some b)∧(∀k,k≠b→k<w.heap.size→w1.heap[k]? =w.heap[k]?)∧
  Step base prot tips S w mu hw ti tips' S' (w1.setCells b (o+n*sz) cv.toList) r (.slice (some ⟨b,o,none⟩) (n+1) cap)
theorem tip1(I:Inv base prot tips S w mu hw ti)(hs:SameB S S'){id:Id}{es:List (List AV)}{zc cells:List AV}{cv:Array Value}{sz:Nat}{ts:Array TypeId}{ty e:TypeId}(ha:appSz P ts=some (e,sz))
 {args:Array Value} {x:AV} {v vx:Value} (h0:args[0]? =some v) (h1:args[1]? =some vx) (hv:RV w mu hw (lkS S mu) (.sl (rid id) sz es) v) (hf:Flag (live tips S mu) ti (.sl (rid id) sz es) v)
 (hx:RV w mu hw (lkS S mu) x vx) (he:elemsOf S x=some (sz,[zc])) (hcv:ES w mu hw (lkS S mu) sz [cells] cv) (hlim:es.length+1≤1073741824)
 (hlive:live tips S mu id=some (some es.length))
 (hl:∀x,live tips' S' mu x=if x=id then some (some (es.length+1))else live tips S mu x)
 (hk:∀i,mu i=none→S'[i]? =S[i]?) (hbx:∀i j,id=.bx i j→∃b,mu i=some b):
 Out1 P base prot tips S w mu hw ti tips' S' ts ty args sz cv v (.sl (rid id) sz (es++[cells])):=by
 have ht:TipV (ti id) sz es.length v:=by
  have:Tipped (live tips S mu) ti id sz es.length v:=by cases id<;>exact hf
  obtain⟨o,t1,t2⟩:=this
  rw[hlive]at t1
  obtain rfl:=Option.some.inj t1
  exact(t2 _ rfl).2 rfl
 obtain⟨_,_,_,_,_,_,_,_,_,_,_,_,_,_,_,hsz⟩:=appSz_spec ha
 have hcv1:v=.slice (some ⟨(ti id).b,(ti id).o,none⟩) es.length (ti id).cap:=ht.1
 obtain⟨l1,l2⟩:=elems_run (P:=P) I hx he hsz (fun _=>rfl)
 have hcs:cv.size=sz:=by have:=hcv.size;simpa using this
 obtain⟨tipA,_,tipM⟩:=I.itip id _ hlive
 obtain⟨t1,t2,t3,t4,vs,el,t5,t6⟩:=tipA
 rw[ht.2]at t1 t3 t6
 by_cases hc:es.length+1≤(ti id).cap
 ·obtain⟨new,n1,n2⟩:=l2 1 (Nat.le_refl _)
  rw[show[zc].take 1=[zc]from rfl]at n2
  have hroom:(es.length+1)*sz≤(ti id).cap*sz:=Nat.mul_le_mul_right sz hc
  rw[Nat.add_mul,Nat.one_mul]at hroom
  have hns:new.size=sz:=by have:=n2.size;simpa using this
  obtain⟨⟨vs',s1,s2,s3⟩,s4,s5,s6,s7,s8⟩:=setCells_heap (ti id).b el (0,0) new.toList ((ti id).o+es.length*sz) w vs t5 (by simp;omega)
  obtain⟨⟨vs2,q1,q2,q3⟩,q4,q5,q6,q7,q8⟩:=setCells_heap (ti id).b el (0,0) cv.toList ((ti id).o+es.length*sz) (w.setCells (ti id).b ((ti id).o+es.length*sz) new.toList) vs' s1 (by simp;omega)
  have hst:(storeCells ⟨(ti id).b,(ti id).o+es.length*sz,none⟩ new.toList).run P w=.ok () (w.setCells (ti id).b ((ti id).o+es.length*sz) new.toList):=by
   have:=run_storeCells_cells (P:=P) (ti id).b ((ti id).o+es.length*sz) new.toList 0 w
    (fun j hj=>by rw[cell_of_block t5];simp at hj;simp;omega)
    (fun j _=>by simp[World.frozen?,t5])
    (fun y hy=>by
     obtain⟨k,hk⟩:=List.getElem?_of_mem hy
     have hk':new[k]? =some y:=by simpa using hk
     have hklt:=lt_of_aget hk'
     have hp:0<sz:=by omega
     have hj:k<zc.length:=by rw[n2.len 0 zc rfl];omega
     obtain⟨p,y',hy',hr⟩:=n2.cell 0 zc k _ rfl (List.getElem?_eq_getElem hj)
     rw[Nat.zero_mul,Nat.zero_add,hk']at hy'
     obtain rfl:=Option.some.inj hy'
     exact hr.one p)
   simpa using this
  refine⟨_,_,es.length,_,_,⟨_,_,hcv1⟩,append_fits ha (by rw[h0,hcv1]) h1 l1 n1 hc hst,hc,⟨vs',el,s1,by rw[s2];omega⟩,tipM,fun k hk _=>s4 k hk, ?_⟩
  refine fit_step (xs:=[cells]) I hs hv ht hlive hcv (by simp) hc t5 q1 (fun k hk=>(q4 k hk).trans (s4 k hk)) (q5.trans s5) ⟨q6.trans s6,q7.trans s7,q8.1.trans s8.1,Nat.le_trans s8.2 q8.2⟩ (q2.trans s2) (fun k=>?_) hl hk hbx
  rw[q3 k,s3 k]
  simp only[Array.length_toList,hcs,hns]
  split
  ·simp
  ·rfl
 ·obtain⟨Id1,ed1⟩:=inv_drew I
  obtain⟨_,l2'⟩:=elems_run (P:=P) Id1 (ed1.rv hx) he hsz (fun _=>rfl)
  obtain⟨new,n1,n2⟩:=l2' 1 (Nat.le_refl _)
  rw[show[zc].take 1=[zc]from rfl]at n2
  have hns:new.size=sz:=by have:=n2.size;simpa using this
  obtain⟨_,o2⟩:=elems_run (P:=P) (x:=.sl (rid id) sz es) Id1 (ed1.rv hv) rfl hsz (fun _=>rfl)
  obtain⟨old,o1,o3⟩:=o2 es.length (Nat.le_refl _)
  rw[List.take_length]at o3
  rw[hcv1]at o1
  obtain⟨newCap,rest,c1,c2,c3⟩:=append_grows (ty:=ty) ha (by rw[h0,hcv1]) h1 l1 o1 n1 hc hlim
  have hos:old.size=es.length*sz:=o3.size
  have hES:ES w mu hw (lkS S mu) sz (es++[cells]) (old++cv):=(o3.undrew).append hcv
  have hwd:w.drew.heap.size=w.heap.size:=rfl
  have e1:(w.drew.alloc (.cells (old++new++rest) e)).setCells w.heap.size (0+es.length*sz) cv.toList=w.drew.alloc (.cells (old++cv++rest) e):=by
   have:=alloc_setCells w.drew e cv.toList old new rest (by simp[hns,hcs])
   rw[hwd,hos]at this
   rw[Nat.zero_add,this]
  refine⟨w.heap.size,0,es.length,newCap,_,⟨_,_,hcv1⟩,c3,c1,⟨_,e,heap_alloc_new _ _, ?_⟩,fun i hi=>by have:=(I.idom i _ hi).2.2.1;omega,fun k _ hk=>heap_alloc _ _ _ hk, ?_⟩
  ·simp only[Array.size_append,hos,hns];omega
  ·rw[e1]
   have:=grow_step (tips':=tips') (S':=S') (newCap:=newCap) (rest:=rest) (el:=e) (id:=id) I hs hES hsz (by simpa using c1) (by simpa using c2) (by simpa using hl) (.inr ⟨_,hlive,by simp⟩) hk hbx
   simpa using this
theorem new1(I:Inv base prot tips S w mu hw ti){s:AV}{es:List (List AV)}{zc cells:List AV}{cv:Array Value}{sz:Nat}{ts:Array TypeId}{ty e:TypeId}(ha:appSz P ts=some (e,sz))
 {args:Array Value} {x:AV} {a:Option Addr} {len cap:Nat} {vx:Value} (h0:args[0]? =some (.slice a len cap)) (h1:args[1]? =some vx) (hv:RV w mu hw (lkS S mu) s (.slice a len cap)) (hse:∃z,elemsOf S s=some (z,es)∧(es.length≠0→z=sz)) (hlen:len=es.length)
 (hx:RV w mu hw (lkS S mu) x vx) (he:elemsOf S x=some (sz,[zc])) (hcv:ES w mu hw (lkS S mu) sz [cells] cv) (hno:cap<len+1) (hlim:es.length+1≤1073741824):
 Out1 P base prot tips S w mu hw ti (tips++[some (es.length+1)]) S ts ty args sz cv (.slice a len cap) (.sl (.fr tips.length) sz (es++[cells])):=by
 subst hlen
 obtain⟨_,_,_,_,_,_,_,_,_,_,_,_,_,_,_,hsz⟩:=appSz_spec ha
 obtain⟨l1,_⟩:=elems_run (P:=P) I hx he hsz (fun _=>rfl)
 have hcs:cv.size=sz:=by have:=hcv.size;simpa using this
 obtain⟨Id1,ed1⟩:=inv_drew I
 obtain⟨_,l2'⟩:=elems_run (P:=P) Id1 (ed1.rv hx) he hsz (fun _=>rfl)
 obtain⟨new,n1,n2⟩:=l2' 1 (Nat.le_refl _)
 rw[show[zc].take 1=[zc]from rfl]at n2
 have hns:new.size=sz:=by have:=n2.size;simpa using this
 obtain⟨zz,hse,hzz⟩:=hse
 obtain⟨_,o2⟩:=elems_run (P:=P) Id1 (ed1.rv hv) hse hsz hzz
 obtain⟨old,o1,o3⟩:=o2 es.length (Nat.le_refl _)
 rw[List.take_length]at o3
 obtain⟨newCap,rest,c1,c2,c3⟩:=append_grows (ty:=ty) ha h0 h1 l1 o1 n1 (by simp;omega) hlim
 have hos:old.size=es.length*sz:=o3.size
 have hES:ES w mu hw (lkS S mu) sz (es++[cells]) (old++cv):=(o3.undrew).append hcv
 have hwd:w.drew.heap.size=w.heap.size:=rfl
 have e1:(w.drew.alloc (.cells (old++new++rest) e)).setCells w.heap.size (0+es.length*sz) cv.toList=w.drew.alloc (.cells (old++cv++rest) e):=by
  have:=alloc_setCells w.drew e cv.toList old new rest (by simp[hns,hcs])
  rw[hwd,hos]at this
  rw[Nat.zero_add,this]
 refine⟨w.heap.size,0,es.length,newCap,_,⟨_,_,rfl⟩,c3,c1,⟨_,e,heap_alloc_new _ _, ?_⟩,fun i hi=>by have:=(I.idom i _ hi).2.2.1;omega,fun k _ hk=>heap_alloc _ _ _ hk, ?_⟩
 ·simp only[Array.size_append,hos,hns];omega
 ·rw[e1]
  have:=grow_step (tips':=tips++[some (es.length+1)]) (S':=S) (newCap:=newCap) (rest:=rest) (el:=e) (id:=.fr tips.length) I (SameB.refl S) hES hsz (by simpa using c1) (by simpa using c2)
   (by simpa using fun x=>live_push_fr (S:=S) (mu:=mu) (tips:=tips) x) (.inl (by simp[live])) (fun _ _=>rfl) (by simp)
  simpa[rid]using this
end
end
section
section
variable{P:Program}{base:Nat}{prot:Nat→Prop}{tips tips':List (Option Nat)}{S S':St}{w w':World}{mu:Nat→Option Nat}{hw:Nat→Nat}{ti:Id→TI}
theorem app1_sound(I:Inv base prot tips S w mu hw ti){ts:Array TypeId}{ty:TypeId}{args:Array Value}{s x r:AV}{v vx:Value}{zc cells:List AV}{sz:Nat}{cv:Array Value}(h0:args[0]? =some v)(h1:args[1]? =some vx)
 (hv:RV w mu hw (lkS S mu) s v) (hf:Flag (live tips S mu) ti s v) (hx:RV w mu hw (lkS S mu) x vx) (he:elemsOf S x=some (sz,[zc])) (hcv:ES w mu hw (lkS S mu) sz [cells] cv)
 (h:evAppend P tips S ts s (.sl .exact sz [cells])=some (r,tips',S')):Out1 P base prot tips S w mu hw ti tips' S' ts ty args sz cv v r:=by
 unfold evAppend at h
 split at h
 case h_2=>simp at h
 rename_i e sz0 xz xs ha hxs
 obtain⟨rfl,rfl⟩:sz=xz∧[cells]=xs:=by simpa[elemsOf]using hxs
 obtain⟨_,_,_,_,_,_,_,_,_,_,_,_,_,_,_,hsz⟩:=appSz_spec ha
 split at h
 ·rename_i hx0;simp at hx0
 split at h
 ·simp at h
 rename_i hxz
 have hxz:sz=sz0:=by simpa using hxz
 subst hxz
 split at h
 ·split at h
  case isFalse=>simp at h
  rename_i hlim
  simp at h
  obtain⟨rfl,rfl,rfl⟩:=h
  cases hv
  have:=new1 (ty:=ty) (s:=.nils) (es:=[]) I ha h0 h1 .nils ⟨0,rfl,by simp⟩ rfl hx he hcv (by omega) (by simp)
  simpa using this
 ·rename_i rr sz' es
  split at h
  ·simp at h
  rename_i hc
  have hzz:sz'=sz:=Classical.byContradiction fun e=>hc (.inl e)
  have hlim:es.length+1≤1073741824:=Nat.le_of_not_lt fun e=>hc (.inr e)
  subst hzz
  split at h
  ·simp at h
   obtain⟨rfl,rfl,rfl⟩:=h
   have hv':=hv
   cases hv with
   |emp0 _ _=>exact new1 I ha h0 h1 hv' ⟨_,rfl,fun _=>rfl⟩ rfl hx he hcv (by omega) hlim
   |sl _ _ _ b o len cap f g0 hr hb hl hs g1 g2=>
    have:=hr rfl
    exact new1 I ha h0 h1 hv' ⟨_,rfl,fun _=>rfl⟩ g0.1 hx he hcv (by omega) hlim
  ·rename_i k
   split at h
   case isFalse=>simp at h
   rename_i hk
   simp at h
   obtain⟨rfl,rfl,rfl⟩:=h
   exact tip1 (id:=.fr k) I (SameB.refl S) ha h0 h1 hv hf hx he hcv hlim hk (fun x=>live_fr x (lt_of_get hk)) (fun _ _=>rfl) (by simp)
  ·rename_i i j
   split at h
   case h_2=>simp at h
   rename_i cs bt hS
   split at h
   case isFalse=>simp at h
   rename_i hj
   simp at h
   obtain⟨rfl,rfl,rfl⟩:=h
   obtain⟨b,hm⟩:∃b,mu i=some b:=by
    cases hv with
    |sl _ _ _ b o len cap f g0 hr hb hl hs g1 g2=>exact hb i j rfl
   refine tip1 (id:=.bx i j) I (sameB_bx hS) ha h0 h1 hv hf hx he hcv hlim (by simp[live,hm,hS,hj]) (fun x=>live_bx x hm hS (lt_of_get hj)) (fun k hk=>?_) (fun i' j' e=>by cases e;exact⟨b,hm⟩)
   exact List.getElem?_set_ne (fun e=>by subst e;rw[hm]at hk;cases hk)
  ·simp at h
 ·rename_i i off len cap sz'
  split at h
  ·simp at h
  rename_i hc
  split at h
  case h_2=>simp at h
  rename_i z es hes
  simp at h
  obtain⟨rfl,rfl,rfl⟩:=h
  have hv':=hv
  cases hv with
  |aref _ _ _ _ _ b hb g0=>
   have hlen:len=es.length:=by
    simp only[elemsOf]at hes
    split at hes
    ·split at hes
     ·simp at hes;rw[←hes.2];simp
     ·simp at hes
    ·simp at hes
   have hz:z=sz':=by
    simp only[elemsOf]at hes
    split at hes
    ·split at hes
     ·simp at hes;exact hes.1.symm
     ·simp at hes
    ·simp at hes
   have hzz:sz'=sz:=Classical.byContradiction fun e=>hc (.inl e)
   simp at hc
   exact new1 I ha h0 h1 hv' ⟨_,hes,fun _=>by omega⟩ hlen hx he hcv (by omega) (by omega)
 ·simp at h
end
end
structure Fz where
 x:Tmp
 z:Tmp
 y:Tmp
 q:Tmp
 v:Tmp
 f:Tmp
 l:Tmp
 g:Tmp
 jl:Nat
 jz:Nat
 ts:Array TypeId
 ti:TypeId
 te:TypeId
 ta:TypeId
 tb:TypeId
 tf:TypeId
 fi:Nat
def preOf(ops:Array Oper)(p:Nat):Array Oper:=ops.extract 0 p
def opAt(ops:Array Oper)(i:Nat):Option Op:=(ops[i]?).map (·.op)
def dstAt(ops:Array Oper)(i:Nat):Option Tmp:=(ops[i]?).bind (·.dst)
def opTmp:Operand→Option Tmp
 |.tmp t=>some t
 |_=>none
def fuseShape(ops:Array Oper):Option Fz:=
 let p:=ops.size -5
 match opAt ops p,opAt ops (p+1),opAt ops (p+2),opAt ops (p+3),opAt ops (p+4)with
 |some (.call ⟨.builtin .append,args,ts⟩),some (.indexAddr ti (.tmp y) (.tmp l)),some (.store te (.tmp q) (.tmp v)),some (.fieldAddr tf (.tmp g) fi),some (.store ta (.tmp f) (.tmp _))=>
  match args.toList.map opTmp with
  |[some x,some z]=>
   match(List.range p).find? (fun j=>dstAt ops j==some l),(List.range p).find? (fun j=>dstAt ops j==some z)with
   |some jl,some jz=>match opAt ops jz with
    |some (.buildSlice tb 1 _)=>some ⟨x,z,y,q,v,f,l,g,jl,jz,ts,ti,te,ta,tb,tf,fi⟩
    |_=>none
   |_,_=>none
  |_=>none
 |_,_,_,_,_=>none
structure FzOK(P:Program)(ops:Array Oper)(F:Fz):Prop where
 size:5≤ops.size
 back:∀(i:Nat)(o:Oper),ops[i]? =some o→∀e∈o.after,Region.binds .any e=true→e.on<i
 pre:regionOK (preOf ops (ops.size -5))=true
 guard:∀o∈ops.toList,o.guard=none
 o0:opAt ops (ops.size -5)=some (.call ⟨.builtin .append,#[.tmp F.x,.tmp F.z],F.ts⟩)∧dstAt ops (ops.size -5)=some F.y
 o1:opAt ops (ops.size -5+1)=some (.indexAddr F.ti (.tmp F.y) (.tmp F.l))∧dstAt ops (ops.size -5+1)=some F.q
 o2:opAt ops (ops.size -5+2)=some (.store F.te (.tmp F.q) (.tmp F.v))∧dstAt ops (ops.size -5+2)=none
 o3:opAt ops (ops.size -5+3)=some (.fieldAddr F.tf (.tmp F.g) F.fi)∧dstAt ops (ops.size -5+3)=some F.f
 o4:opAt ops (ops.size -5+4)=some (.store F.ta (.tmp F.f) (.tmp F.y))∧dstAt ops (ops.size -5+4)=none
 ol:F.jl<ops.size -5∧dstAt ops F.jl=some F.l∧∃tl,elemT P tl≠none∧opAt ops F.jl=some (.call ⟨.builtin .len,#[.tmp F.x],#[tl]⟩)
 ox:∀j,F.jl≤j→j<ops.size -5→dstAt ops j≠some F.x
 oz:F.jz<ops.size -5∧dstAt ops F.jz=some F.z∧∃ps,opAt ops F.jz=some (.buildSlice F.tb 1 ps)
 dsts:∀j,j<ops.size -5→dstAt ops j≠some F.y∧dstAt ops j≠some F.q
 neq:F.y≠F.q∧F.y≠F.x∧F.y≠F.z∧F.y≠F.v∧F.y≠F.l∧F.y≠F.f∧F.y≠F.g∧F.q≠F.x∧F.q≠F.z∧F.q≠F.v∧F.q≠F.l∧F.q≠F.f∧F.q≠F.g∧
  F.l≠F.x∧F.l≠F.z∧F.l≠F.v∧F.l≠F.f∧F.l≠F.g∧F.f≠F.x∧F.f≠F.z∧F.f≠F.v∧F.f≠F.g∧F.z≠F.x∧F.z≠F.v
 b0:∀j,j<ops.size -5→((Region.before ops).getD (ops.size -5) 0).testBit j=true
 b1:((Region.before ops).getD (ops.size -5+1) 0).testBit (ops.size -5)=true
 b2:((Region.before ops).getD (ops.size -5+2) 0).testBit (ops.size -5+1)=true
 b3:((Region.before ops).getD (ops.size -5+3) 0).testBit (ops.size -5)=true
 b4:((Region.before ops).getD (ops.size -5+4) 0).testBit (ops.size -5+3)=true
 elem:elemT P F.ti=elemT P F.tb∧∃e,elemT P F.tb=some e∧szOf P e=szOf P F.te∧szOf P F.ta=some 1
def fzB(P:Program)(ops:Array Oper)(F:Fz):Bool:=
 let p:=ops.size -5
 let b:=Region.before ops
 decide (5≤ops.size)&&ops.toList.zipIdx.all (fun(o,i)=>o.after.all fun e=> !Region.binds .any e||decide (e.on<i))&&regionOK (preOf ops p)&&ops.toList.all (fun o=>o.guard.isNone)&&
 (dstAt ops p==some F.y)&&(dstAt ops (p+1)==some F.q)&&(dstAt ops (p+2)==none)&&(dstAt ops (p+3)==some F.f)&&(dstAt ops (p+4)==none)&&
 (match opAt ops p with|some (.call ⟨.builtin .append,args,ts⟩)=>(match args.toList with|[.tmp x,.tmp z]=>x==F.x&&z==F.z&&ts==F.ts|_=>false)|_=>false)&&
 (match opAt ops (p+1)with|some (.indexAddr t (.tmp y) (.tmp l))=>t==F.ti&&y==F.y&&l==F.l|_=>false)&&
 (match opAt ops (p+2)with|some (.store t (.tmp q) (.tmp v))=>t==F.te&&q==F.q&&v==F.v|_=>false)&&
 (match opAt ops (p+3)with|some (.fieldAddr t (.tmp g) i)=>t==F.tf&&g==F.g&&i==F.fi|_=>false)&&
 (match opAt ops (p+4)with|some (.store t (.tmp f) (.tmp y))=>t==F.ta&&f==F.f&&y==F.y|_=>false)&&
 decide (F.jl<p)&&(dstAt ops F.jl==some F.l)&&
 (match opAt ops F.jl with|some (.call ⟨.builtin .len,args,ts⟩)=>(match args.toList,ts.toList with|[.tmp x],[tl]=>x==F.x&&(elemT P tl).isSome|_,_=>false)|_=>false)&&
 decide (F.jz<p)&&(dstAt ops F.jz==some F.z)&&
 (match opAt ops F.jz with|some (.buildSlice t 1 _)=>t==F.tb|_=>false)&&
 (List.range p).all (fun j=>dstAt ops j !=some F.y&&dstAt ops j !=some F.q)&&
 decide (F.y≠F.q∧F.y≠F.x∧F.y≠F.z∧F.y≠F.v∧F.y≠F.l∧F.y≠F.f∧F.y≠F.g∧F.q≠F.x∧F.q≠F.z∧F.q≠F.v∧F.q≠F.l∧F.q≠F.f∧F.q≠F.g∧
  F.l≠F.x∧F.l≠F.z∧F.l≠F.v∧F.l≠F.f∧F.l≠F.g∧F.f≠F.x∧F.f≠F.z∧F.f≠F.v∧F.f≠F.g∧F.z≠F.x∧F.z≠F.v)&&
 (List.range p).all (fun j=>(b.getD p 0).testBit j)&&(List.range p).all (fun j=>decide (j<F.jl)||dstAt ops j !=some F.x)&&
 (b.getD (p+1) 0).testBit p&&(b.getD (p+2) 0).testBit (p+1)&&(b.getD (p+3) 0).testBit p&&(b.getD (p+4) 0).testBit (p+3)&&
 (elemT P F.ti==elemT P F.tb)&&(match elemT P F.tb with|some e=>szOf P e==szOf P F.te&&szOf P F.ta==some 1|none=>false)
def fuseOf(P:Program)(ops:Array Oper):Option Fz:=(fuseShape ops).bind fun F=>if fzB P ops F=true then some F else none
def postOf(F:Fz):List Oper:=
 [⟨some F.z,.buildSlice F.tb 1 #[(0,.tmp F.v)],0,"",#[],none⟩,⟨some F.y,.call ⟨.builtin .append,#[.tmp F.x,.tmp F.z],F.ts⟩,0,"",#[],none⟩,⟨some F.f,.fieldAddr F.tf (.tmp F.g) F.fi,0,"",#[],none⟩,⟨none,.store F.ta (.tmp F.f) (.tmp F.y),0,"",#[],none⟩,
   ⟨some F.z,.move (.const (.tuple #[])),0,"",#[],none⟩,⟨some F.q,.move (.const (.tuple #[])),0,"",#[],none⟩]
theorem fzB_spec{P:Program}{ops:Array Oper}{F:Fz}(h:fzB P ops F=true):FzOK P ops F:=by
 unfold fzB at h
 simp only[Bool.and_eq_true]at h
 obtain⟨⟨⟨⟨⟨⟨⟨⟨⟨⟨⟨⟨⟨⟨⟨⟨⟨⟨⟨⟨⟨⟨⟨⟨⟨⟨⟨⟨⟨hsize,hback⟩,hpre⟩,hguard⟩,d0⟩,d1⟩,d2⟩,d3⟩,d4⟩,o0⟩,o1⟩,o2⟩,o3⟩,o4⟩,jl⟩,dl⟩,ol⟩,jz⟩,dz⟩,oz⟩,hd⟩,hneq⟩,hb0⟩,hox⟩,b1⟩,b2⟩,b3⟩,b4⟩,e1⟩,e2⟩:=h
 have arr2:∀(a:Array Operand)(x z:Tmp),a.toList=[.tmp x,.tmp z]→a= #[.tmp x,.tmp z]:=fun a x z h=>by rw[←Array.toArray_toList (xs:=a),h]
 have arr1:∀(a:Array Operand)(x:Tmp),a.toList=[.tmp x]→a= #[.tmp x]:=fun a x h=>by rw[←Array.toArray_toList (xs:=a),h]
 have arrt:∀(a:Array TypeId)(x:TypeId),a.toList=[x]→a= #[x]:=fun a x h=>by rw[←Array.toArray_toList (xs:=a),h]
 constructor
 case size=>simpa using hsize
 case back=>
  intro i o ho e he hb
  simp only[List.all_eq_true]at hback
  have:=hback (o,i) (by rw[List.mem_zipIdx_iff_getElem?];simpa using ho)
  simp only[Array.all_eq_true_iff_forall_mem]at this
  have:=this e he
  simpa[hb]using this
 case pre=>exact hpre
 case guard=>
  intro o ho
  simp only[List.all_eq_true]at hguard
  simpa using hguard o ho
 case o0=>
  refine⟨?_,by simpa using d0⟩
  split at o0
  ·rename_i args ts he
   split at o0
   ·rename_i x z ha
    simp only[Bool.and_eq_true,beq_iff_eq]at o0
    obtain⟨⟨rfl,rfl⟩,rfl⟩:=o0
    rw[he,arr2 _ _ _ ha]
   ·cases o0
  ·cases o0
 case o1=>
  refine⟨?_,by simpa using d1⟩
  split at o1
  ·rename_i t y l he
   simp only[Bool.and_eq_true,beq_iff_eq]at o1
   obtain⟨⟨rfl,rfl⟩,rfl⟩:=o1
   exact he
  ·cases o1
 case o2=>
  refine⟨?_,by simpa using d2⟩
  split at o2
  ·rename_i t y l he
   simp only[Bool.and_eq_true,beq_iff_eq]at o2
   obtain⟨⟨rfl,rfl⟩,rfl⟩:=o2
   exact he
  ·cases o2
 case o3=>
  refine⟨?_,by simpa using d3⟩
  split at o3
  ·rename_i t y l he
   simp only[Bool.and_eq_true,beq_iff_eq]at o3
   obtain⟨⟨rfl,rfl⟩,rfl⟩:=o3
   exact he
  ·cases o3
 case o4=>
  refine⟨?_,by simpa using d4⟩
  split at o4
  ·rename_i t y l he
   simp only[Bool.and_eq_true,beq_iff_eq]at o4
   obtain⟨⟨rfl,rfl⟩,rfl⟩:=o4
   exact he
  ·cases o4
 case ol=>
  refine⟨by simpa using jl,by simpa using dl, ?_⟩
  split at ol
  ·rename_i args ts he
   split at ol
   ·rename_i x tl ha ht
    simp only[Bool.and_eq_true,beq_iff_eq]at ol
    obtain⟨rfl,h2⟩:=ol
    refine⟨tl,(fun e=>by rw[e]at h2;cases h2), ?_⟩
    rw[he,arr1 _ _ ha,arrt _ _ ht]
   ·cases ol
  ·cases ol
 case oz=>
  refine⟨by simpa using jz,by simpa using dz, ?_⟩
  split at oz
  ·rename_i t ps he
   simp only[beq_iff_eq]at oz
   subst oz
   exact⟨_,he⟩
  ·cases oz
 case dsts=>
  intro j hj
  simp only[List.all_eq_true,List.mem_range,Bool.and_eq_true,bne_iff_ne]at hd
  exact hd j hj
 case neq=>simpa using hneq
 case b0=>
  intro j hj
  simp only[List.all_eq_true,List.mem_range]at hb0
  exact hb0 j hj
 case ox=>
  intro j h1 h2
  simp only[List.all_eq_true,List.mem_range,Bool.or_eq_true,decide_eq_true_eq,bne_iff_ne]at hox
  exact(hox j h2).resolve_left (by omega)
 case b1=>exact b1
 case b2=>exact b2
 case b3=>exact b3
 case b4=>exact b4
 case elem=>
  refine⟨by simpa using e1, ?_⟩
  split at e2
  ·rename_i e he
   simp only[Bool.and_eq_true,beq_iff_eq]at e2
   exact⟨e,he,e2.1,e2.2⟩
  ·cases e2
theorem fuseOf_spec{P:Program}{ops:Array Oper}{F:Fz}(h:fuseOf P ops=some F):FzOK P ops F:=by
 unfold fuseOf at h
 cases hs:fuseShape ops with
 |none=>rw[hs]at h;cases h
 |some F0=>
  rw[hs,Option.bind_some]at h
  split at h
  ·rename_i hb
   cases h
   exact fzB_spec hb
  ·cases h
section
theorem ready_nil'{ops:Array Oper}{listed:Array Bool}(back:∀(i:Nat)(o:Oper),ops[i]? =some o→∀e∈o.after,Region.binds .any e=true→e.on<i)(hs:listed.size=ops.size)(h:Region.ready .any ops listed=[]):
 ∀(n i:Nat),i<n→i<ops.size→listed.getD i false=true:=by
 intro n
 induction n with
 |zero=>intro i hi;omega
 |succ n ih=>
  intro i hi hlt
  cases hc:listed.getD i false with
  |true=>rfl
  |false=>
   exfalso
   have ho:ops[i]? =some ops[i]:=Array.getElem?_eq_getElem hlt
   have:i∈Region.ready .any ops listed:=by
    unfold Region.ready
    rw[List.mem_filter]
    refine⟨by simpa using hlt, ?_⟩
    have h1:listed.getD i true=false:=by
     have h2:i<listed.size:=by omega
     rw[Array.getD_eq_getD_getElem?]at hc⊢
     rw[Array.getElem?_eq_getElem h2]at hc⊢
     exact hc
    rw[h1,ho]
    simp only[Bool.not_false,Option.map_some,Option.getD_some,Bool.true_and]
    rw[Array.all_eq_true_iff_forall_mem]
    intro e he
    cases hb:Region.binds .any e with
    |false=>rfl
    |true=>
     have h3:=back i _ ho e he hb
     simp only[Bool.not_true,Bool.false_or]
     exact ih e.on (by omega) (by omega)
   rw[h]at this
   cases this
theorem ready_spec{ops:Array Oper}{listed:Array Bool}(hs:listed.size=ops.size){i:Nat}(hi:i∈Region.ready .any ops listed):
 i<ops.size∧listed.getD i false=false∧∀o,ops[i]? =some o→∀e∈o.after,Region.binds .any e=true→listed.getD e.on false=true:=by
 unfold Region.ready at hi
 rw[List.mem_filter]at hi
 obtain⟨hi1,hi2⟩:=hi
 have hisz:i<ops.size:=by simpa using hi1
 have ho:ops[i]? =some ops[i]:=Array.getElem?_eq_getElem hisz
 rw[ho]at hi2
 simp only[Bool.and_eq_true,Bool.not_eq_true',Option.map_some,Option.getD_some]at hi2
 obtain⟨hi3,hi4⟩:=hi2
 refine⟨hisz, ?_,fun o ho' e he hb=>?_⟩
 ·have:i<listed.size:=by omega
  simpa[Array.getD_eq_getD_getElem?,this]using hi3
 ·rw[ho]at ho'
  obtain rfl:=Option.some.inj ho'
  rw[Array.all_eq_true_iff_forall_mem]at hi4
  have:=hi4 e he
  simpa[hb]using this
theorem count_next{ops:Array Oper}{listed:Array Bool}(hs:listed.size=ops.size){i:Nat}(hi:i<ops.size)(hn:listed.getD i false=false){fuel:Nat}(hc:listed.toList.countP (!·)≤fuel+1):(listed.setIfInBounds i true).toList.countP (!·)≤fuel:=by
 have hl:i<listed.toList.length:=by simp;omega
 have h3:listed.toList[i]=false:=by
  have h2:=hn
  rw[Array.getD_eq_getD_getElem?,Array.getElem?_eq_getElem (by simpa using hl)]at h2
  simpa using h2
 rw[Array.toList_setIfInBounds,List.countP_set hl,h3]
 simp only[Bool.not_false,if_true,Bool.not_true,Bool.false_eq_true,if_false,Nat.add_zero]
 have hpos:0<listed.toList.countP (!·):=by
  rw[List.countP_pos_iff]
  exact⟨listed.toList[i],List.getElem_mem hl,by rw[h3];rfl⟩
 omega
theorem all_of_zero{ops:Array Oper}{listed:Array Bool}(hs:listed.size=ops.size)(hc:listed.toList.countP (!·)≤0):∀i,i<ops.size→listed.getD i false=true:=by
 intro i hi
 have hl:i<listed.size:=by omega
 have h0:listed.toList.countP (!·)=0:=by omega
 rw[List.countP_eq_zero]at h0
 have:=h0 listed[i] (by simp)
 rw[Array.getD_eq_getD_getElem?,Array.getElem?_eq_getElem hl]
 simpa using this
theorem closed_next{ops:Array Oper}{listed:Array Bool}(hs:listed.size=ops.size)(hc:Closed ops listed){i:Nat}(hi:i<ops.size)(hr:∀o,ops[i]? =some o→∀e∈o.after,Region.binds .any e=true→listed.getD e.on false=true):
 Closed ops (listed.setIfInBounds i true):=by
 intro j o ho hl e he hb
 rw[getD_set (by omega)]at hl⊢
 by_cases h0:i=e.on
 ·rw[if_pos h0]
 ·rw[if_neg h0]
  by_cases h1:i=j
  ·subst h1;exact hr o ho e he hb
  ·rw[if_neg h1]at hl
   exact hc j o ho hl e he hb
theorem put_get(a:Act)(d:Tmp)(v:Value)(t:Tmp):(a.put (some d) v).tmps.getD t undef=if d=t then(if d<a.tmps.size then v else undef)else a.tmps.getD t undef:=by
 simp only[Act.put,Array.getD_eq_getD_getElem?,Array.getElem?_setIfInBounds]
 by_cases h:d=t
 ·subst h
  by_cases h2:d<a.tmps.size<;>simp[h2]
 ·simp[h]
section
variable{P:Program}{ops:Array Oper}{F:Fz}
structure Ph(ops:Array Oper)(F:Fz)(a0:Act)(yv qv fv:Value)(listed:Array Bool)(a:Act):Prop where
 lsz:listed.size=ops.size
 closed:Closed ops listed
 bef:∀j,j≤ops.size -5→listed.getD j false=true
 sz:a.tmps.size=a0.tmps.size
 dfr:a.defers=[]
 slots:∀t,t≠F.y→t≠F.q→t≠F.f→a.tmps.getD t undef=a0.tmps.getD t undef
 sy:a.tmps.getD F.y undef=yv
 sq:listed.getD (ops.size -5+1) false=true→a.tmps.getD F.q undef=qv
 sf:listed.getD (ops.size -5+3) false=true→a.tmps.getD F.f undef=fv
theorem phase2(H:FzOK P ops F){a0:Act}{yv qv fv:Value}{wOf:Bool→Bool→World}(hq:F.q<a0.tmps.size)(hf:F.f<a0.tmps.size)
 (r1:∀w,(Instr.indexAt F.ti yv (a0.tmps.getD F.l undef)).run P w=.ok qv w) (r2:∀c,(Instr.storeAt F.te qv (a0.tmps.getD F.v undef)).run P (wOf false c)=.ok () (wOf true c))
 (r3:∀w,(Instr.fieldAt F.tf (a0.tmps.getD F.g undef) F.fi).run P w=.ok fv w) (r4:∀c,(Instr.storeAt F.ta fv yv).run P (wOf c false)=.ok () (wOf c true))
 {Q:Exit→Act→World→Prop} (hQ:∀listed a,Ph ops F a0 yv qv fv listed a→(∀i,i<ops.size→listed.getD i false=true)→Q .normal a (wOf true true)):
 ∀(fuel:Nat)(listed:Array Bool)(a:Act),Ph ops F a0 yv qv fv listed a→listed.toList.countP (!·)≤fuel→
  wpAny P .any ops Q fuel listed a (wOf (listed.getD (ops.size -5+2) false) (listed.getD (ops.size -5+4) false)):=by
 have h5:=H.size
 intro fuel
 induction fuel with
 |zero=>
  intro listed a D hc
  have hall:=all_of_zero D.lsz hc
  refine⟨ready_of_all D.lsz hall, ?_⟩
  rw[hall _ (by omega),hall _ (by omega)]
  exact hQ listed a D hall
 |succ fuel ih=>
  intro listed a D hc
  refine⟨fun h=>?_,fun i hi=>?_⟩
  ·have hall:=fun i hi=>ready_nil' H.back D.lsz h (i+1) i (by omega) hi
   rw[hall _ (by omega),hall _ (by omega)]
   exact hQ listed a D hall
  obtain⟨hisz,hni,hr⟩:=ready_spec D.lsz hi
  have hc':=count_next D.lsz hisz hni hc
  have hcl:=closed_next D.lsz D.closed hisz hr
  have gs:∀j,(listed.setIfInBounds i true).getD j false=if i=j then true else listed.getD j false:=fun j=>getD_set (by have:=D.lsz;omega)
  have hlt:ops.size -5<i:=by
   rcases Nat.lt_or_ge (ops.size -5) i with h|h
   ·exact h
   ·rw[D.bef i h]at hni;cases hni
  have bef':∀j,j≤ops.size -5→(listed.setIfInBounds i true).getD j false=true:=fun j hj=>by
   rw[gs]
   split
   ·rfl
   ·exact D.bef j hj
  obtain⟨o,ho⟩:∃o,ops[i]? =some o:=⟨_,Array.getElem?_eq_getElem hisz⟩
  have hg:o.guard=none:=H.guard o (by simpa using Array.mem_of_getElem? ho)
  have hwant:Region.wanted o (yielded ops a.tmps)=true:=by simp[Region.wanted,hg]
  have hop:opAt ops i=some o.op:=by simp[opAt,ho]
  have hds:dstAt ops i=o.dst:=by simp[dstAt,ho]
  obtain⟨n1,n2,n3,n4,n5,n6,n7,n8,n9,n10,n11,n12,n13,n14,n15,n16,n17,n18,n19,n20,n21,n22,n23,n24⟩:=H.neq
  have ev:∀t,t≠F.y→t≠F.q→t≠F.f→a.eval (.tmp t)=a0.tmps.getD t undef:=fun t h1 h2 h3=>D.slots t h1 h2 h3
  have evy:a.eval (.tmp F.y)=yv:=D.sy
  unfold wpOp
  rw[ho]
  simp only
  rw[if_pos hwant]
  refine .inl ?_
  unfold Oper.wp
  have h4:i=ops.size -5+1∨i=ops.size -5+2∨i=ops.size -5+3∨i=ops.size -5+4:=by omega
  rcases h4 with rfl|rfl|rfl|rfl
  ·have e1:o.op=.indexAddr F.ti (.tmp F.y) (.tmp F.l):=by have:=H.o1.1;rw[hop]at this;exact Option.some.inj this
   have e2:o.dst=some F.q:=by rw[←hds];exact H.o1.2
   have run:=r1 (wOf (listed.getD (ops.size -5+2) false) (listed.getD (ops.size -5+4) false))
   have hrun:(execOp a.eval o).run P (wOf (listed.getD (ops.size -5+2) false) (listed.getD (ops.size -5+4) false))=.ok (.value qv) (wOf (listed.getD (ops.size -5+2) false) (listed.getD (ops.size -5+4) false)):=by
    simp[execOp,e1,evy,ev F.l (Ne.symm n5) (Ne.symm n11) n17,run, -Array.getD_eq_getD_getElem?]
   rw[hrun,Oper.upon_value,e2]
   have:=ih (listed.setIfInBounds (ops.size -5+1) true) (a.put (some F.q) qv) ⟨by simp[D.lsz],hcl,bef',by simp[Act.put,D.sz],D.dfr,fun t h1 h2 h3=>by rw[put_get,if_neg (Ne.symm h2)];exact D.slots t h1 h2 h3,
    by rw[put_get,if_neg (Ne.symm n1)];exact D.sy,fun _=>by rw[put_get,if_pos rfl,if_pos (by rw[D.sz];exact hq)],fun h=>by rw[put_get,if_neg n12];exact D.sf (by rw[gs,if_neg (by omega)]at h;exact h)⟩ hc'
   rw[gs,gs,if_neg (by omega),if_neg (by omega)]at this
   exact this
  ·have e1:o.op=.store F.te (.tmp F.q) (.tmp F.v):=by have:=H.o2.1;rw[hop]at this;exact Option.some.inj this
   have e2:o.dst=none:=by rw[←hds];exact H.o2.2
   have hlq:listed.getD (ops.size -5+1) false=true:=before_done D.closed H.b2 (.inr hr)
   have evq:a.eval (.tmp F.q)=qv:=D.sq hlq
   rw[hni]
   have run:=r2 (listed.getD (ops.size -5+4) false)
   have hrun:(execOp a.eval o).run P (wOf false (listed.getD (ops.size -5+4) false))=.ok .skip (wOf true (listed.getD (ops.size -5+4) false)):=by
    simp[execOp,e1,evq,ev F.v (Ne.symm n4) (Ne.symm n10) (Ne.symm n21),run, -Array.getD_eq_getD_getElem?]
   rw[hrun,Oper.upon_skip,e2]
   have:=ih (listed.setIfInBounds (ops.size -5+2) true) (a.put none undef) ⟨by simp[D.lsz],hcl,bef',D.sz,D.dfr,D.slots,D.sy,fun h=>D.sq hlq,fun h=>D.sf (by rw[gs,if_neg (by omega)]at h;exact h)⟩ hc'
   rw[gs,gs,if_pos rfl,if_neg (by omega)]at this
   exact this
  ·have e1:o.op=.fieldAddr F.tf (.tmp F.g) F.fi:=by have:=H.o3.1;rw[hop]at this;exact Option.some.inj this
   have e2:o.dst=some F.f:=by rw[←hds];exact H.o3.2
   have run:=r3 (wOf (listed.getD (ops.size -5+2) false) (listed.getD (ops.size -5+4) false))
   have hrun:(execOp a.eval o).run P (wOf (listed.getD (ops.size -5+2) false) (listed.getD (ops.size -5+4) false))=.ok (.value fv) (wOf (listed.getD (ops.size -5+2) false) (listed.getD (ops.size -5+4) false)):=by
    simp[execOp,e1,ev F.g (Ne.symm n7) (Ne.symm n13) (Ne.symm n22),run, -Array.getD_eq_getD_getElem?]
   rw[hrun,Oper.upon_value,e2]
   have:=ih (listed.setIfInBounds (ops.size -5+3) true) (a.put (some F.f) fv) ⟨by simp[D.lsz],hcl,bef',by simp[Act.put,D.sz],D.dfr,fun t h1 h2 h3=>by rw[put_get,if_neg (Ne.symm h3)];exact D.slots t h1 h2 h3,
    by rw[put_get,if_neg (Ne.symm n6)];exact D.sy,fun h=>by rw[put_get,if_neg (Ne.symm n12)];exact D.sq (by rw[gs,if_neg (by omega)]at h;exact h),fun _=>by rw[put_get,if_pos rfl,if_pos (by rw[D.sz];exact hf)]⟩ hc'
   rw[gs,gs,if_neg (by omega),if_neg (by omega)]at this
   exact this
  ·have e1:o.op=.store F.ta (.tmp F.f) (.tmp F.y):=by have:=H.o4.1;rw[hop]at this;exact Option.some.inj this
   have e2:o.dst=none:=by rw[←hds];exact H.o4.2
   have hlf:listed.getD (ops.size -5+3) false=true:=before_done D.closed H.b4 (.inr hr)
   have evf:a.eval (.tmp F.f)=fv:=D.sf hlf
   rw[hni]
   have run:=r4 (listed.getD (ops.size -5+2) false)
   have hrun:(execOp a.eval o).run P (wOf (listed.getD (ops.size -5+2) false) false)=.ok .skip (wOf (listed.getD (ops.size -5+2) false) true):=by
    simp[execOp,e1,evf,evy,run, -Array.getD_eq_getD_getElem?]
   rw[hrun,Oper.upon_skip,e2]
   have:=ih (listed.setIfInBounds (ops.size -5+4) true) (a.put none undef) ⟨by simp[D.lsz],hcl,bef',D.sz,D.dfr,D.slots,D.sy,fun h=>D.sq (by rw[gs,if_neg (by omega)]at h;exact h),fun h=>D.sf hlf⟩ hc'
   rw[gs,gs,if_neg (by omega),if_pos rfl]at this
   exact this
end
end
section
theorem setCell_comm(w:World){b b':Nat}(h:b≠b')(o o':Nat)(v v':Value):(w.setCell ⟨b,o,none⟩ v).setCell ⟨b',o',none⟩ v'=(w.setCell ⟨b',o',none⟩ v').setCell ⟨b,o,none⟩ v:=by
 unfold World.setCell
 simp only
 congr 1
 apply Array.ext_getElem?
 intro k
 simp only[Array.getElem?_modify]
 by_cases h1:b'=k
 ·subst h1;simp[h]
 ·by_cases h2:b=k
  ·subst h2;simp[h1]
  ·simp[h1,h2]
theorem setCell_setCells(b b':Nat)(h:b≠b')(o:Nat)(v:Value):∀(l:List Value)(o':Nat)(w:World),(w.setCell ⟨b,o,none⟩ v).setCells b' o' l=(w.setCells b' o' l).setCell ⟨b,o,none⟩ v:=by
 intro l
 induction l with
 |nil=>intro o' w;rfl
 |cons x l ih=>
  intro o' w
  show((w.setCell ⟨b,o,none⟩ v).setCell ⟨b',o',none⟩ x).setCells b' (o'+1) l=((w.setCell ⟨b',o',none⟩ x).setCells b' (o'+1) l).setCell ⟨b,o,none⟩ v
  rw[setCell_comm _ h,ih]
theorem ownP_nil:ownP "" =false:=by decide
theorem setSlot_get(l:List AV)(d:Tmp)(v:AV)(t:Tmp):(setSlot l (some d) v).getD t .undef=if d=t then(if d<l.length then v else .undef)else l.getD t .undef:=by
 simp only[setSlot,List.getD_eq_getElem?_getD,List.getElem?_set]
 by_cases h:d=t
 ·subst h
  by_cases h2:d<l.length<;>simp[h2]
 ·simp[h]
section
variable{P:Program}{call:Caller}{F:Fz}
theorem post_spec{ops':Array Oper}{E1 E4:Env}{S1 S4:St}(h:evOps P call ops' (postOf F) E1 S1=some (E4,S4)):
 ∃x' r tips' S2 fp tips3,evBuildSlice P F.tb 1 [(0,E1.slots.getD F.v .undef)]=some x'∧
  evAppend P E1.tips S1 F.ts ((setSlot E1.slots (some F.z) x').getD F.x .undef) ((setSlot E1.slots (some F.z) x').getD F.z .undef)=some (r,tips',S2)∧
  evFieldAddr P F.tf ((setSlot (setSlot E1.slots (some F.z) x') (some F.y) r).getD F.g .undef) F.fi=some fp∧
  evStore P ⟨setSlot (setSlot (setSlot E1.slots (some F.z) x') (some F.y) r) (some F.f) fp,tips',E1.nb⟩ S2 F.ta ((setSlot (setSlot (setSlot E1.slots (some F.z) x') (some F.y) r) (some F.f) fp).getD F.f .undef)
   ((setSlot (setSlot (setSlot E1.slots (some F.z) x') (some F.y) r) (some F.f) fp).getD F.y .undef)=some (tips3,S4)∧
  E4=⟨setSlot (setSlot (setSlot (setSlot (setSlot E1.slots (some F.z) x') (some F.y) r) (some F.f) fp) (some F.z) .undef) (some F.q) .undef,tips3,E1.nb⟩:=by
 have step:∀{o:Oper}{r:List Oper}{E:Env}{S:St}{E':Env}{S':St},o.guard=none→evOps P call ops' (o::r) E S=some (E',S')→∃v tips S1,evOpr P call E S o=some (v,tips,S1)∧evOps P call ops' r (E.put o.dst v tips) S1=some (E',S'):=by
  intro o r E S E' S' hg h
  simp only[evOps,guardTold,guardOK,hg,if_true]at h
  split at h
  ·rename_i v tips S1 h1;exact⟨v,tips,S1,h1,h⟩
  ·cases h
 unfold postOf at h
 obtain⟨v1,t1,Sa,e1,h⟩:=step rfl h
 obtain⟨v2,t2,Sb,e2,h⟩:=step rfl h
 obtain⟨v3,t3,Sc,e3,h⟩:=step rfl h
 obtain⟨v4,t4,Sd,e4,h⟩:=step rfl h
 obtain⟨v5,t5,Se,e5,h⟩:=step rfl h
 obtain⟨v6,t6,Sf,e6,h⟩:=step rfl h
 simp only[evOps,Option.some.injEq,Prod.mk.injEq]at h
 obtain⟨rfl,rfl⟩:=h
 have q1:evBuildSlice P F.tb 1 [(0,E1.slots.getD F.v .undef)]=some v1∧t1=E1.tips∧Sa=S1:=by
  simp only[evOpr,ownOp,evOp,evPure,evNew]at e1
  split at e1
  ·rename_i v hv
   simp at e1
   obtain⟨rfl,rfl,rfl⟩:=e1
   exact⟨by simpa[Env.ev]using hv,rfl,rfl⟩
  ·simp[evMem]at e1
 obtain⟨q1,rfl,rfl⟩:=q1
 have q2:evAppend P E1.tips Sa F.ts ((setSlot E1.slots (some F.z) v1).getD F.x .undef) ((setSlot E1.slots (some F.z) v1).getD F.z .undef)=some (v2,t2,Sb):=by
  simpa[evOpr,ownOp,ownP_nil,evOp,evPure,evNew,evMem,Env.ev,Env.put]using e2
 have q3:evFieldAddr P F.tf ((setSlot (setSlot E1.slots (some F.z) v1) (some F.y) v2).getD F.g .undef) F.fi=some v3∧t3=t2∧Sc=Sb:=by
  simp only[evOpr,ownOp,evOp,evPure,evNew]at e3
  split at e3
  ·rename_i v hv
   simp at e3
   obtain⟨rfl,rfl,rfl⟩:=e3
   exact⟨by simpa[Env.ev,Env.put]using hv,rfl,rfl⟩
  ·simp[evMem]at e3
 obtain⟨q3,rfl,rfl⟩:=q3
 have q4:∃S',evStore P ⟨setSlot (setSlot (setSlot E1.slots (some F.z) v1) (some F.y) v2) (some F.f) v3,t3,E1.nb⟩ Sc F.ta ((setSlot (setSlot (setSlot E1.slots (some F.z) v1) (some F.y) v2) (some F.f) v3).getD F.f .undef)
  ((setSlot (setSlot (setSlot E1.slots (some F.z) v1) (some F.y) v2) (some F.f) v3).getD F.y .undef)=some (t4,S')∧Sd=S':=by
  simp only[evOpr,ownOp,evOp,evPure,evNew,evMem,Option.map_eq_some_iff,Prod.mk.injEq]at e4
  obtain⟨rr,hr,_,rfl,rfl⟩:=e4
  exact⟨rr.2,by simpa[Env.ev,Env.put]using hr,rfl⟩
 obtain⟨_,q4,rfl⟩:=q4
 have hu:ofConst (.tuple #[])=.undef:=by rfl
 simp only[evOpr,ownOp,evOp,evPure,Env.ev,hu,Option.some.injEq,Prod.mk.injEq]at e5
 obtain⟨rfl,rfl,rfl⟩:=e5
 simp only[evOpr,ownOp,evOp,evPure,Env.ev,hu,Option.some.injEq,Prod.mk.injEq]at e6
 obtain⟨rfl,rfl,rfl⟩:=e6
 exact⟨_,_,_,_,_,_,q1,q2,q3,q4,rfl⟩
end
end
section
theorem fillEs_len{sz:Nat}:∀(ps:List (Nat × AV))(es es':List (List AV)),fillEs sz es ps=some es'→es'.length=es.length:=by
 intro ps
 induction ps with
 |nil=>intro es es' h;simp only[fillEs,Option.some.injEq]at h;rw[h]
 |cons x r ih=>
  intro es es' h
  obtain⟨i,v⟩:=x
  simp only[fillEs]at h
  split at h
  ·have:=ih _ _ h;simpa using this
  ·cases h
theorem build_any{P:Program}{tb:TypeId}{ps:List (Nat × AV)}{x:AV}(h:evBuildSlice P tb 1 ps=some x):∃e sz zc,elemT P tb=some e∧szOf P e=some sz∧sz≠0∧x=.sl .exact sz [zc]:=by
 unfold evBuildSlice at h
 split at h
 case h_2=>cases h
 rename_i e he
 split at h
 case h_2=>cases h
 rename_i sz z hs hz
 split at h
 case isFalse=>cases h
 rename_i hc
 simp only[Option.map_eq_some_iff]at h
 obtain⟨es,h1,rfl⟩:=h
 have:=fillEs_len _ _ _ h1
 match es,this with
 |[zc],_=>exact⟨e,sz,zc,he,hs,hc.1,rfl⟩
 |[],h=>simp at h
 |_::_::_,h=>simp at h
theorem build_one{P:Program}{tb:TypeId}{v x:AV}(h:evBuildSlice P tb 1 [(0,v)]=some x):∃e sz,elemT P tb=some e∧szOf P e=some sz∧sz≠0∧isVal v=true∧v.cells.length=sz∧x=.sl .exact sz [(strip v).cells]:=by
 unfold evBuildSlice at h
 split at h
 case h_2=>cases h
 rename_i e he
 split at h
 case h_2=>cases h
 rename_i sz z hs hz
 split at h
 case isFalse=>cases h
 rename_i hc
 simp only[Option.map_eq_some_iff]at h
 obtain⟨es,h1,rfl⟩:=h
 simp only[fillEs]at h1
 split at h1
 ·rename_i h2
  simp at h1
  subst h1
  exact⟨e,sz,he,hs,hc.1,by simpa using h2.1,h2.2.1,rfl⟩
 ·cases h1
theorem append_undef{P:Program}{tips:List (Option Nat)}{S:St}{ts:Array TypeId}{s:AV}:evAppend P tips S ts s .undef=none:=by
 unfold evAppend
 simp[elemsOf]
theorem store_undef{P:Program}{E:Env}{S:St}{t:TypeId}{p:AV}:evStore P E S t p .undef=none:=by
 unfold evStore
 repeat' split
 all_goals simp_all[isVal]
theorem store_ptr{P:Program}{E:Env}{S:St}{t:TypeId}{p x:AV}{r:List (Option Nat) × St}(h:evStore P E S t p x=some r):
 ∃i off n cs bt,p=.ptr i off∧szOf P t=some n∧S[i]? =some (.mem cs bt false)∧off+n≤cs.length:=by
 unfold evStore at h
 split at h
 case h_2=>cases h
 rename_i i off n hn
 split at h
 case h_2=>cases h
 rename_i cs bt hS
 split at h
 case isFalse=>cases h
 rename_i hc
 exact⟨i,off,n,cs,bt,rfl,hn,hS,hc.2.2.1⟩
section
variable{P:Program}{base:Nat}{prot:Nat→Prop}{S:St}{w:World}{mu:Nat→Option Nat}{hw:Nat→Nat}{lk:Nat→Prop}
theorem len_of{tl:TypeId}{x l:AV}{a:Option Addr}{n c:Nat}(ht:elemT P tl≠none)(h:evLen P tl x=some l)(hv:RV w mu hw lk x (.slice a n c)):l=.int .i64 n:=by
 have hu:∃e,P.underlying tl=some (.slice e):=by
  unfold elemT at ht
  split at ht
  ·exact⟨_,by assumption⟩
  ·exact absurd rfl ht
 obtain⟨e,hu⟩:=hu
 unfold evLen at h
 rw[hu]at h
 cases hv with
 |undef=>simp at h
 |nils=>simpa using h.symm
 |sl r sz es b o len cap f h0=>simp at h;rw[←h,h0.1]
 |emp=>simpa using h.symm
 |emp0=>simpa using h.symm
 |oref=>simpa using h.symm
 |aref=>simpa using h.symm
theorem index_run{t e:TypeId}{sz b o n cap:Nat}(he:elemT P t=some e)(hs:szOf P e=some sz)(w:World):
 (Instr.indexAt t (.slice (some ⟨b,o,none⟩) (n+1) cap) (.int .i64 n)).run P w=.ok (.pointer (some ⟨b,o+n*sz,none⟩)) w:=by
 have hu:P.underlying t=some (.slice e):=by
  unfold elemT at he
  split at he
  ·rename_i e' hx;cases he;exact hx
  ·cases he
 unfold Instr.indexAt
 simp only[Sem.run_bind,asIntOf_of,Result.andThen_ok,und_of hu,Sem.run_pure]
 rw[if_pos ⟨by omega,by omega⟩]
 simp[sizeOf_of hs,add_none]
end
end
end Go.Proofs.YthiocmkadpdekaaGreatDoor.am
