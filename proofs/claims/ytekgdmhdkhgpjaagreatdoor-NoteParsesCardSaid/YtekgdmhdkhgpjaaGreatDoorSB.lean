/- Several texts, one behind the other: AmTip AmNew AmNew2 AmStep AmOld AmCall AmCall2 AmCode AmRun AmRet AmFun -/
import Derived.Test.YtekgdmhdkhgpjaaGreatDoorSA
import Derived.Lib.ConvBytes
import Derived.Laws.MakeOwn
import Derived.Tactics
import Derived.LoopN
set_option linter.unusedSimpArgs false
set_option linter.unusedVariables false
namespace Go.Proofs.YtekgdmhdkhgpjaaGreatDoor.am
open Go Go.RowKit
structure SameB (S S':St):Prop where
  len:S'.length=S.length
  get:∀ (i:Nat),S'[i]?=S[i]? ∨ ∃ (cs:List AV) (bt bt':List (Option Nat)),S[i]?=some (Box.mem cs bt false) ∧ S'[i]?=some (Box.mem cs bt' false)
theorem SameB.refl (S:St):SameB S S:=⟨rfl,fun _ => .inl rfl⟩
theorem SameB.lk {S S':St} (h:SameB S S') (mu:Nat → Option Nat):lkS S' mu=lkS S mu:=by
  funext b
  apply propext
  constructor
  · rintro ⟨i,cs,bt,h1,h2⟩
    rcases h.get i with g | ⟨a,c,d,g1,g2⟩
    · exact ⟨i,cs,bt,by rw [← g]; exact h1,h2⟩
    · rw [g2] at h1; cases h1
  · rintro ⟨i,cs,bt,h1,h2⟩
    rcases h.get i with g | ⟨a,c,d,g1,g2⟩
    · exact ⟨i,cs,bt,by rw [g]; exact h1,h2⟩
    · rw [g1] at h1; cases h1
structure InvB (base:Nat) (prot:Nat → Prop) (tips:List (Option Nat)) (S:St) (w:World) (mu:Nat → Option Nat) (hw:Nat → Nat) (ti:Id → TI):Prop where
  ibox:∀ i bx b,S[i]?=some bx → mu i=some b → BoxR w mu hw (lkS S mu) bx b
  iflag:∀ i cells bt l b,S[i]?=some (.mem cells bt l) → mu i=some b → ∀ vs el,w.heap[b]?=some (.cells vs el (0,0)) →
    ∀ (j:Nat) (x:AV) (y:Value),cells[j]?=some x → vs[j]?=some y → noFr x=true ∧ Flag1 (live tips S mu) ti x y
  iinj:∀ i j b,mu i=some b → mu j=some b → i=j
  idom:∀ i b,mu i=some b → i < S.length ∧ base ≤ b ∧ b < w.heap.size ∧ hw b=0 ∧ ¬ prot b
  iout:∀ b,w.heap.size ≤ b → hw b=0
  iprot:∀ b,prot b → b < w.heap.size
  ibase:base ≤ w.heap.size
  iglb:Glb w hw
section
variable {P:Program} {base:Nat} {prot:Nat → Prop} {tips tips':List (Option Nat)} {S S':St} {w w':World} {mu:Nat → Option Nat} {hw hw':Nat → Nat} {ti ti':Id → TI}
theorem Inv.b (I:Inv base prot tips S w mu hw ti):InvB base prot tips S w mu hw ti:=⟨I.ibox,I.iflag,I.iinj,I.idom,I.iout,I.iprot,I.ibase,I.iglb⟩
theorem InvB.world (B:InvB base prot tips S w mu hw ti) (e:Ext base prot S w mu hw S w' mu hw') (hbox:∀ i b,mu i=some b → w'.heap[b]?=w.heap[b]? ∧ hw' b=0)
    (hout:∀ b,w'.heap.size ≤ b → hw' b=0) (hsz:w.heap.size ≤ w'.heap.size):InvB base prot tips S w' mu hw' ti where
  ibox i bx b h1 h2:=(B.ibox i bx b h1 h2).ext e (hbox i b h2).1
  iflag i cells bt l b h1 h2 vs el h3:=B.iflag i cells bt l b h1 h2 vs el (by rw [← (hbox i b h2).1]; exact h3)
  iinj:=B.iinj
  idom i b h:=by
    obtain ⟨a,b',c,d,f⟩:=B.idom i b h
    exact ⟨a,b',by omega,(hbox i b h).2,f⟩
  iout:=hout
  iprot b h:=by have:=B.iprot b h; omega
  ibase:=by have:=B.ibase; omega
  iglb:=e.glb B.iglb
theorem inv_swap (B:InvB base prot tips S w mu hw ti) (hs:SameB S S') (hlv:LvExt (live tips S mu) ti (live tips' S' mu) ti')
    (itip:∀ id L,live tips' S' mu id=some (some L) → TipAt w hw base (ti' id) L ∧ ¬ prot (ti' id).b ∧ ∀ i,mu i ≠ some (ti' id).b)
    (itinj:∀ id id' L L',live tips' S' mu id=some (some L) → live tips' S' mu id'=some (some L') → (ti' id).b=(ti' id').b → id=id') :
    Inv base prot tips' S' w mu hw ti' ∧ Ext base prot S w mu hw S' w mu hw:=by
  have hlk:=hs.lk mu
  refine ⟨⟨fun i bx b h1 h2 => ?_,fun i cells bt l b h1 h2 vs el h3 j x y hx hy => ?_,B.iinj,fun i b h => ?_,B.iout,itip,itinj,B.iprot,B.ibase,B.iglb⟩,
    ⟨fun _ _ h => h,fun _ => Nat.le_refl _,fun b h => by rw [hlk]; exact h,fun _ _ _ _ h => h,fun _ _ => ⟨rfl,rfl⟩,Belo.refl _ _,by rw [hs.len]; exact Nat.le_refl _⟩⟩
  · rw [hlk]
    rcases hs.get i with g | ⟨cs,bt,bt',g1,g2⟩
    · exact B.ibox i bx b (by rw [← g]; exact h1) h2
    · rw [g2] at h1
      obtain rfl:=Option.some.inj h1
      exact (show BoxR w mu hw (lkS S mu) (.mem cs bt false) b from B.ibox i _ b g1 h2)
  · rcases hs.get i with g | ⟨cs,bt0,bt',g1,g2⟩
    · obtain ⟨a1,a2⟩:=B.iflag i cells bt l b (by rw [← g]; exact h1) h2 vs el h3 j x y hx hy
      exact ⟨a1,a2.mono hlv⟩
    · rw [g2] at h1
      obtain ⟨rfl,rfl,rfl⟩:cs=cells ∧ bt'=bt ∧ false=l:=by simpa using h1
      obtain ⟨a1,a2⟩:=B.iflag i _ bt0 _ b g1 h2 vs el h3 j x y hx hy
      exact ⟨a1,a2.mono hlv⟩
  · obtain ⟨a,b⟩:=B.idom i b h
    exact ⟨by rw [hs.len]; exact a,b⟩
theorem tip_set (B:InvB base prot tips S w mu hw ti) (hs:SameB S S') {id:Id} {L:Nat} {t:TI} (hl:∀ x,live tips' S' mu x=if x=id then some (some L) else live tips S mu x)
    (hold:live tips S mu id=none ∨ ∃ L0,live tips S mu id=some (some L0) ∧ L0 < L)
    (htip:∀ x L',x ≠ id → live tips S mu x=some (some L') → (TipAt w hw base (ti x) L' ∧ ¬ prot (ti x).b ∧ ∀ i,mu i ≠ some (ti x).b) ∧ (ti x).b ≠ t.b)
    (hinj:∀ x y L1 L2,live tips S mu x=some (some L1) → live tips S mu y=some (some L2) → (ti x).b=(ti y).b → x=y)
    (ht:TipAt w hw base t L) (hp:¬ prot t.b) (hmu:∀ i,mu i ≠ some t.b) :
    Inv base prot tips' S' w mu hw (fun x => if x=id then t else ti x) ∧ Ext base prot S w mu hw S' w mu hw ∧ LvExt (live tips S mu) ti (live tips' S' mu) (fun x => if x=id then t else ti x):=by
  have hlv:LvExt (live tips S mu) ti (live tips' S' mu) (fun x => if x=id then t else ti x):=by
    intro x o ho
    by_cases hx:x=id
    · subst hx
      rcases hold with h | ⟨L0,h1,h2⟩
      · rw [h] at ho; cases ho
      · rw [h1] at ho
        obtain rfl:=Option.some.inj ho
        exact ⟨some L,by rw [hl,if_pos rfl],fun L' e => ⟨L0,rfl,.inr (by cases e; exact h2)⟩⟩
    · exact ⟨o,by rw [hl,if_neg hx]; exact ho,fun L' e => ⟨L',e,.inl ⟨rfl,by simp [hx]⟩⟩⟩
  obtain ⟨I',e⟩:=inv_swap (ti':=fun x => if x=id then t else ti x) B hs hlv
    (fun x L' h => by
      rw [hl] at h
      by_cases hx:x=id
      · subst hx
        rw [if_pos rfl] at h
        cases h
        simp only [if_true]
        exact ⟨ht,hp,hmu⟩
      · rw [if_neg hx] at h
        simp only [if_neg hx]
        exact (htip x L' hx h).1)
    (fun x y L1 L2 h1 h2 hb => by
      rw [hl] at h1 h2
      by_cases hx:x=id <;> by_cases hy:y=id
      · rw [hx,hy]
      · exfalso
        rw [if_neg hy] at h2
        simp only [if_pos hx,if_neg hy] at hb
        exact (htip y L2 hy h2).2 hb.symm
      · exfalso
        rw [if_neg hx] at h1
        simp only [if_neg hx,if_pos hy] at hb
        exact (htip x L1 hx h1).2 hb
      · rw [if_neg hx] at h1
        rw [if_neg hy] at h2
        simp only [if_neg hx,if_neg hy] at hb
        exact hinj x y L1 L2 h1 h2 hb)
  exact ⟨I',e,hlv⟩
def rid:Id → Right
  | .fr n => .fr n
  | .bx i j => .bx i j
theorem ES.append {lk:Nat → Prop} {sz:Nat} {es xs:List (List AV)} {vs us:Array Value} (h:ES w mu hw lk sz es vs) (k:ES w mu hw lk sz xs us):ES w mu hw lk sz (es ++ xs) (vs ++ us):=by
  refine ⟨by simp [h.size,k.size,Nat.add_mul],fun i cs hi => ?_,fun i cs j a hi hj => ?_⟩
  · rcases Nat.lt_or_ge i es.length with hlt | hge
    · rw [List.getElem?_append_left hlt] at hi; exact h.len i cs hi
    · rw [List.getElem?_append_right hge] at hi; exact k.len _ cs hi
  · rcases Nat.lt_or_ge i es.length with hlt | hge
    · rw [List.getElem?_append_left hlt] at hi
      obtain ⟨p,y,hy,hr⟩:=h.cell i cs j a hi hj
      exact ⟨p,y,by rw [Array.getElem?_append_left (lt_of_aget hy)]; exact hy,hr⟩
    · rw [List.getElem?_append_right hge] at hi
      obtain ⟨p,y,hy,hr⟩:=k.cell _ cs j a hi hj
      have e:i * sz + j=vs.size + ((i - es.length) * sz + j):=by
        rw [h.size,Nat.sub_mul]
        have:=Nat.mul_le_mul_right sz hge
        omega
      exact ⟨p,y,by rw [e,Array.getElem?_append_right (by omega),Nat.add_sub_cancel_left]; exact hy,hr⟩
theorem ES.mono {lk lk':Nat → Prop} {sz:Nat} {es:List (List AV)} {vs:Array Value} (h:ES w mu hw lk sz es vs) {mu':Nat → Option Nat}
    (m:∀ a v,RV w mu hw lk a v → RV w' mu' hw' lk' a v):ES w' mu' hw' lk' sz es vs :=
  ⟨h.size,h.len,fun i cs j a hi hj => by obtain ⟨p,y,hy,hr⟩:=h.cell i cs j a hi hj; exact ⟨p,y,hy,m _ _ hr⟩⟩
theorem RV.undrew {lk:Nat → Prop} {a:AV} {v:Value} (h:RV w.drew mu hw lk a v):RV w mu hw lk a v:=RV.mono (w:=w.drew) (w':=w) (fun _ _ h => h) (fun _ _ h => h) (fun _ h => h) (fun _ _ _ _ h => h) h
theorem ES.undrew {lk:Nat → Prop} {sz:Nat} {es:List (List AV)} {vs:Array Value} (h:ES w.drew mu hw lk sz es vs):ES w mu hw lk sz es vs :=
  ⟨h.size,h.len,fun i cs j a hi hj => by obtain ⟨p,y,hy,hr⟩:=h.cell i cs j a hi hj; exact ⟨p,y,hy,hr.undrew⟩⟩
theorem flag_rid {lv:Live} {id:Id} {L sz:Nat} {es:List (List AV)} {v:Value} (hlen:es.length=L) (h:lv id=some (some L)) (hv:TipV (ti id) sz L v):Flag lv ti (.sl (rid id) sz es) v:=by
  have:Tipped lv ti id sz es.length v:=⟨some L,h,fun L' e => by cases e; exact ⟨by omega,fun _ => by rw [hlen]; exact hv⟩⟩
  cases id <;> exact this
theorem grow_step (I:Inv base prot tips S w mu hw ti) (hs:SameB S S') {id:Id} {es:List (List AV)} {sz newCap:Nat} {cells rest:Array Value} {el:TypeId}
    (hES:ES w mu hw (lkS S mu) sz es cells) (hsz:sz ≠ 0) (hcap:es.length ≤ newCap) (hrest:rest.size=(newCap - es.length) * sz)
    (hl:∀ x,live tips' S' mu x=if x=id then some (some es.length) else live tips S mu x)
    (hold:live tips S mu id=none ∨ ∃ L0,live tips S mu id=some (some L0) ∧ L0 < es.length)
    (hk:∀ i,mu i=none → S'[i]?=S[i]?) (hbx:∀ i j,id=.bx i j → ∃ b,mu i=some b) :
    Step base prot tips S w mu hw ti tips' S' (w.drew.alloc (.cells (cells ++ rest) el)) (.sl (rid id) sz es) (.slice (some ⟨w.heap.size,0,none⟩) es.length newCap):=by
  obtain ⟨I1,e1⟩:=inv_drew I
  obtain ⟨I2,e2⟩:=inv_new I1 (.cells (cells ++ rest) el) (es.length * sz)
  have hsize:w.drew.heap.size=w.heap.size:=rfl
  have hnew:(w.drew.alloc (.cells (cells ++ rest) el)).heap[w.heap.size]?=some (.cells (cells ++ rest) el (0,0)):=heap_alloc_new w.drew _
  have e12:=e1.trans e2
  have hlt:∀ x L',live tips S mu x=some (some L') → (ti x).b < w.heap.size:=fun x L' h => (I.itip x L' h).1.lt
  obtain ⟨I3,e3,l3⟩:=tip_set (t:=⟨w.heap.size,0,newCap,sz⟩) I2.b hs hl hold
    (fun x L' _ h => ⟨I2.itip x L' h,by have:=hlt x L' h; exact Nat.ne_of_lt this⟩) I2.itinj
    ⟨by simp [hsize,upd_same],hcap,hsz,I.ibase,⟨_,_,hnew,by
      have:=Nat.mul_le_mul_right sz hcap
      simp [hES.size,hrest,Nat.sub_mul]
      omega⟩⟩
    (fun hp => by have:=I.iprot _ hp; exact absurd this (Nat.lt_irrefl _)) (fun i hi => by have:=(I.idom i _ hi).2.2.1; exact absurd this (Nat.lt_irrefl _))
  refine ⟨mu,upd hw w.drew.heap.size (es.length * sz),_,I3,e12.trans e3,l3,?_,?_,fun i hi _ => ⟨hk i hi,hi⟩⟩
  · have hES':ES (w.drew.alloc (.cells (cells ++ rest) el)) mu (upd hw w.drew.heap.size (es.length * sz)) (lkS S' mu) sz es cells:=hES.mono fun a v r => (e12.trans e3).rv r
    refine hES'.rv hsz hnew (fun k hk => ?_) (by simp [hsize,upd_same]) hcap (by cases id <;> simp [rid]) (fun i j e => ?_) (by cases id <;> simp [rid])
    · simp only [Nat.zero_add]
      rw [Array.getElem?_append_left (by rw [hES.size]; exact hk)]
    · cases id with
      | fr n => simp [rid] at e
      | bx i' j' => simp only [rid,Right.bx.injEq] at e; obtain ⟨rfl,rfl⟩:=e; exact hbx i' j' rfl
  · exact flag_rid rfl (by rw [hl,if_pos rfl]) ⟨by simp,by simp⟩
theorem fit_step (I:Inv base prot tips S w mu hw ti) (hs:SameB S S') {id:Id} {es xs:List (List AV)} {sz:Nat} {new:Array Value} {v:Value} {vs vs':Array Value} {el:TypeId}
    (hv:RV w mu hw (lkS S mu) (.sl (rid id) sz es) v) (ht:TipV (ti id) sz es.length v) (hlive:live tips S mu id=some (some es.length))
    (hxs:ES w mu hw (lkS S mu) sz xs new) (hx0:xs.length ≠ 0) (hcap:es.length + xs.length ≤ (ti id).cap)
    (hvs:w.heap[(ti id).b]?=some (.cells vs el (0,0))) (hvs':w'.heap[(ti id).b]?=some (.cells vs' el (0,0))) (hsame:∀ k,k ≠ (ti id).b → w'.heap[k]?=w.heap[k]?) (hhs:w'.heap.size=w.heap.size)
    (hos:w'.os=w.os ∧ w'.tape=w.tape ∧ w'.output=w.output ∧ w.drawn ≤ w'.drawn) (hsz':vs'.size=vs.size)
    (hcells:∀ k,vs'[k]?=if (ti id).o + es.length * sz ≤ k ∧ k < (ti id).o + es.length * sz + new.size then new[k - ((ti id).o + es.length * sz)]? else vs[k]?)
    (hl:∀ x,live tips' S' mu x=if x=id then some (some (es.length + xs.length)) else live tips S mu x)
    (hk:∀ i,mu i=none → S'[i]?=S[i]?) (hbx:∀ i j,id=.bx i j → ∃ b,mu i=some b) :
    Step base prot tips S w mu hw ti tips' S' w' (.sl (rid id) sz (es ++ xs)) (.slice (some ⟨(ti id).b,(ti id).o,none⟩) (es.length + xs.length) (ti id).cap):=by
  obtain ⟨ta,tp,tm⟩:=I.itip id _ hlive
  obtain ⟨rfl,hts⟩:=ht
  obtain ⟨t1,t2,t3,t4,vs0,el0,t5,t6⟩:=ta
  rw [hvs] at t5
  obtain ⟨rfl,rfl⟩:vs=vs0 ∧ el=el0:=by simpa using t5
  rw [hts] at t1 t3 t6
  have hnew:new.size=xs.length * sz:=hxs.size
  have hroom:(es.length + xs.length) * sz ≤ (ti id).cap * sz:=Nat.mul_le_mul_right sz hcap
  rw [Nat.add_mul] at hroom
  have hhw:∀ b,b ≠ (ti id).b → upd hw (ti id).b ((ti id).o + (es.length + xs.length) * sz) b=hw b:=fun b h => upd_ne _ _ _ _ h
  have e:Ext base prot S w mu hw S w' mu (upd hw (ti id).b ((ti id).o + (es.length + xs.length) * sz)):=by
    refine ⟨fun _ _ h => h,fun b => ?_,fun _ h => h,fun b o y hc h => ?_,fun b h => ⟨hsame b (fun eb => tp (eb ▸ h)),hhw b (fun eb => tp (eb ▸ h))⟩,⟨⟨hos.1,hos.2.1,hos.2.2.1,by omega,fun k hk => hsame k (by omega)⟩,fun _ => hos.2.2.2⟩,Nat.le_refl _⟩
    · by_cases hb:b=(ti id).b
      · subst hb; rw [upd_same,Nat.add_mul]; omega
      · rw [hhw b hb]; exact Nat.le_refl _
    · by_cases hb:b=(ti id).b
      · subst hb
        rcases hc with hc | ⟨i,cs,bt,g1,g2⟩
        · rw [cell_of_block hvs] at h
          rw [cell_of_block hvs',hcells,if_neg (by omega)]
          exact h
        · exact absurd g2 (tm i)
      · rw [cell_eq (hsame b hb)]; exact h
  have B:=I.b.world e (fun i b h => ⟨hsame b (fun eb => tm i (eb ▸ h)),by rw [hhw b (fun eb => tm i (eb ▸ h))]; exact (I.idom i b h).2.2.2.1⟩)
    (fun b h => by
      have:=block_lt hvs
      rw [hhw b (by omega)]; exact I.iout b (by omega)) (by omega)
  obtain ⟨I3,e3,l3⟩:=tip_set (t:=ti id) B hs hl (.inr ⟨_,hlive,by omega⟩)
    (fun x L' hx h => by
      have hne:(ti x).b ≠ (ti id).b:=fun eb => hx (I.itinj x id _ _ h hlive eb)
      obtain ⟨a1,a2,a3⟩:=I.itip x L' h
      exact ⟨⟨a1.keep (hhw _ hne) (hsame _ hne),a2,a3⟩,hne⟩) I.itinj
    ⟨by rw [upd_same,hts],hcap,by rw [hts]; exact t3,t4,⟨vs',el,hvs',by rw [hsz',hts]; exact t6⟩⟩ tp tm
  refine ⟨mu,upd hw (ti id).b ((ti id).o + (es.length + xs.length) * sz),_,I3,e.trans e3,l3,?_,?_,fun i hi _ => ⟨hk i hi,hi⟩⟩
  · have hold:ES w mu hw (lkS S mu) sz es (vs.extract (ti id).o ((ti id).o + es.length * sz)):=by
      generalize hrr:rid id=rr at hv
      generalize hvv:Value.slice (some ⟨(ti id).b,(ti id).o,none⟩) es.length (ti id).cap=vv at hv
      cases hv with
      | emp _ _ _ => cases id <;> simp [rid] at hrr
      | emp0 _ _ => cases id <;> simp [rid] at hrr
      | sl _ _ _ b o len cap f h0 hr hb hlo hss h1 h2 =>
        simp only [Value.slice.injEq,Option.some.injEq,Addr.mk.injEq,and_true] at hvv
        obtain ⟨⟨rfl,rfl⟩,rfl,rfl⟩:=hvv
        refine ⟨by simp; omega,hss,fun i cs j a hi hj => ?_⟩
        obtain ⟨p,_,z⟩:=h1 i cs j a hi hj
        have hlt:=idx_lt (lt_of_get hi) (hss i cs hi ▸ lt_of_get hj)
        rw [cell_of_block hvs] at z
        refine ⟨p,f i j,?_,h2 i cs j a hi hj⟩
        rw [Array.getElem?_extract,if_pos (by have:=lt_of_aget z; omega),← z,Nat.add_assoc]
    have hES:=(hold.append hxs).mono (w':=w') (hw':=upd hw (ti id).b ((ti id).o + (es.length + xs.length) * sz)) (lk':=lkS S' mu) (mu':=mu) fun a v r => (e.trans e3).rv r
    have:=hES.rv (r:=rid id) (o:=(ti id).o) (cap:=(ti id).cap) t3 hvs' (fun k hk => ?_) (by rw [upd_same]; simp) (by simpa using hcap) (by cases id <;> simp [rid]) (fun i j e => ?_) (by cases id <;> simp [rid])
    · simpa using this
    · simp only [List.length_append,Nat.add_mul] at hk
      rw [hcells]
      by_cases hlt:k < es.length * sz
      · rw [if_neg (by omega),Array.getElem?_append_left (by simp; omega),Array.getElem?_extract,if_pos (by omega)]
      · rw [if_pos (by omega),Array.getElem?_append_right (by simp; omega)]
        congr 1
        simp
        omega
    · cases id with
      | fr n => simp [rid] at e
      | bx i' j' => simp only [rid,Right.bx.injEq] at e; obtain ⟨rfl,rfl⟩:=e; exact hbx i' j' rfl
  · exact flag_rid (L:=es.length + xs.length) (by simp) (by rw [hl,if_pos rfl]) ⟨by simp,by simp [hts]⟩
theorem live_fr {n L:Nat} (x:Id) (h:n < tips.length):live (tips.set n (some L)) S mu x=if x=.fr n then some (some L) else live tips S mu x:=by
  cases x with
  | fr k =>
    by_cases hk:k=n
    · subst hk; simp [live,h]
    · simp only [live,List.getElem?_set_ne (fun e => hk e.symm)]
      rw [if_neg (by simpa using hk)]
  | bx i j => simp [live]
theorem live_push_fr {L:Nat} (x:Id):live (tips ++ [some L]) S mu x=if x=.fr tips.length then some (some L) else live tips S mu x:=by
  cases x with
  | fr k =>
    by_cases hk:k=tips.length
    · subst hk; simp [live]
    · rw [if_neg (by simpa using hk)]
      simp only [live]
      rcases Nat.lt_or_ge k tips.length with h | h
      · rw [List.getElem?_append_left h]
      · rw [List.getElem?_eq_none h,List.getElem?_eq_none (by simp; omega)]
  | bx i j => simp [live]
theorem live_bx {i j b L:Nat} {cs:List AV} {bt:List (Option Nat)} (x:Id) (hm:mu i=some b) (hS:S[i]?=some (.mem cs bt false)) (hj:j < bt.length) :
    live tips (S.set i (.mem cs (bt.set j (some L)) false)) mu x=if x=.bx i j then some (some L) else live tips S mu x:=by
  rw [live_set (tips:=tips) hm (lt_of_get hS)]
  cases x with
  | fr k => simp [live]
  | bx k l =>
    by_cases hk:k=i
    · subst hk
      by_cases hl:l=j
      · subst hl; simp [hj]
      · simp only [if_true]
        rw [List.getElem?_set_ne (fun e => hl e.symm),if_neg (by simpa using hl)]
        simp [live,hm,hS]
    · simp [hk]
theorem sameB_bx {i:Nat} {cs:List AV} {bt bt':List (Option Nat)} (hS:S[i]?=some (.mem cs bt false)):SameB S (S.set i (.mem cs bt' false)):=by
  refine ⟨by simp,fun k => ?_⟩
  by_cases hk:k=i
  · subst hk
    exact .inr ⟨cs,bt,bt',hS,by rw [List.getElem?_set_self (lt_of_get hS)]⟩
  · exact .inl (List.getElem?_set_ne (fun e => hk e.symm))
theorem tip_append (I:Inv base prot tips S w mu hw ti) (hs:SameB S S') {id:Id} {es xs:List (List AV)} {sz:Nat} {ts:Array TypeId} {ty e:TypeId} (ha:appSz P ts=some (e,sz))
    {args:Array Value} {x:AV} {v vx:Value} (h0:args[0]?=some v) (h1:args[1]?=some vx) (hv:RV w mu hw (lkS S mu) (.sl (rid id) sz es) v) (hf:Flag (live tips S mu) ti (.sl (rid id) sz es) v)
    (hx:RV w mu hw (lkS S mu) x vx) (he:elemsOf S x=some (sz,xs)) (hx0:xs.length ≠ 0) (hlim:es.length + xs.length ≤ 1073741824)
    (hlive:live tips S mu id=some (some es.length))
    (hl:∀ x,live tips' S' mu x=if x=id then some (some (es.length + xs.length)) else live tips S mu x)
    (hk:∀ i,mu i=none → S'[i]?=S[i]?) (hbx:∀ i j,id=.bx i j → ∃ b,mu i=some b) :
    ∃ y w',(Builtin.append_ ts ty args).run P w=.ok y w' ∧ Step base prot tips S w mu hw ti tips' S' w' (.sl (rid id) sz (es ++ xs)) y:=by
  have ht:TipV (ti id) sz es.length v:=by
    have:Tipped (live tips S mu) ti id sz es.length v:=by cases id <;> exact hf
    obtain ⟨o,t1,t2⟩:=this
    rw [hlive] at t1
    obtain rfl:=Option.some.inj t1
    exact (t2 _ rfl).2 rfl
  obtain ⟨_,_,_,_,_,_,_,_,_,_,_,_,_,_,_,hsz⟩:=appSz_spec ha
  have hcv:v=.slice (some ⟨(ti id).b,(ti id).o,none⟩) es.length (ti id).cap:=ht.1
  obtain ⟨l1,l2⟩:=elems_run (P:=P) I hx he hsz (fun _ => rfl)
  by_cases hc:es.length + xs.length ≤ (ti id).cap
  · obtain ⟨new,n1,n2⟩:=l2 xs.length (Nat.le_refl _)
    rw [List.take_length] at n2
    obtain ⟨⟨t1,t2,t3,t4,vs,el,t5,t6⟩,_,_⟩:=I.itip id _ hlive
    rw [ht.2] at t1 t3 t6
    have hroom:(es.length + xs.length) * sz ≤ (ti id).cap * sz:=Nat.mul_le_mul_right sz hc
    rw [Nat.add_mul] at hroom
    have hns:=n2.size
    obtain ⟨⟨vs',s1,s2,s3⟩,s4,s5,s6,s7,s8⟩:=setCells_heap (ti id).b el (0,0) new.toList ((ti id).o + es.length * sz) w vs t5 (by simp; omega)
    have hst:(storeCells ⟨(ti id).b,(ti id).o + es.length * sz,none⟩ new.toList).run P w=.ok () (w.setCells (ti id).b ((ti id).o + es.length * sz) new.toList):=by
      have:=run_storeCells_cells (P:=P) (ti id).b ((ti id).o + es.length * sz) new.toList 0 w
        (fun j hj => by rw [cell_of_block t5]; simp at hj; simp; omega)
        (fun j _ => by simp [World.frozen?,t5])
        (fun y hy => by
          obtain ⟨k,hk⟩:=List.getElem?_of_mem hy
          have hk':new[k]?=some y:=by simpa using hk
          have hklt:=lt_of_aget hk'
          have hp:0 < sz:=by omega
          have hi:k / sz < xs.length:=Nat.div_lt_of_lt_mul (by rw [Nat.mul_comm]; omega)
          have e1:xs[k / sz]?=some xs[k / sz]:=by simp [hi]
          have hj:k % sz < xs[k / sz].length:=by rw [n2.len _ _ e1]; exact Nat.mod_lt _ hp
          obtain ⟨p,y',hy',hr⟩:=n2.cell (k / sz) _ (k % sz) _ e1 (List.getElem?_eq_getElem hj)
          have e2:k / sz * sz + k % sz=k:=by rw [Nat.mul_comm]; exact Nat.div_add_mod k sz
          rw [e2,hk'] at hy'
          obtain rfl:=Option.some.inj hy'
          exact hr.one p)
      simpa using this
    refine ⟨_,_,append_fits ha (by rw [h0,hcv]) h1 l1 n1 hc hst,?_⟩
    refine fit_step I hs hv ht hlive n2 hx0 hc t5 s1 s4 s5 ⟨s6,s7,s8⟩ s2 (fun k => ?_) hl hk hbx
    rw [s3 k]; simp
  · obtain ⟨Id1,ed1⟩:=inv_drew I
    obtain ⟨_,l2'⟩:=elems_run (P:=P) Id1 (ed1.rv hx) he hsz (fun _ => rfl)
    obtain ⟨new,n1,n2⟩:=l2' xs.length (Nat.le_refl _)
    rw [List.take_length] at n2
    obtain ⟨_,o2⟩:=elems_run (P:=P) (x:=.sl (rid id) sz es) Id1 (ed1.rv hv) rfl hsz (fun _ => rfl)
    obtain ⟨old,o1,o3⟩:=o2 es.length (Nat.le_refl _)
    rw [List.take_length] at o3
    rw [hcv] at o1
    obtain ⟨newCap,rest,c1,c2,c3⟩:=append_grows (ty:=ty) ha (by rw [h0,hcv]) h1 l1 o1 n1 hc hlim
    refine ⟨_,_,c3,?_⟩
    have hES:ES w mu hw (lkS S mu) sz (es ++ xs) (old ++ new):=(o3.append n2).undrew
    have:=grow_step (tips':=tips') (S':=S') (newCap:=newCap) (rest:=rest) (el:=e) (id:=id) I hs hES hsz (by simpa using c1) (by simpa using c2) (by simpa using hl) (.inr ⟨_,hlive,by simp; omega⟩) hk hbx
    simpa using this
theorem new_append (I:Inv base prot tips S w mu hw ti) {s:AV} {es xs:List (List AV)} {sz:Nat} {ts:Array TypeId} {ty e:TypeId} (ha:appSz P ts=some (e,sz))
    {args:Array Value} {x:AV} {a:Option Addr} {len cap:Nat} {vx:Value} (h0:args[0]?=some (.slice a len cap)) (h1:args[1]?=some vx) (hv:RV w mu hw (lkS S mu) s (.slice a len cap)) (hse:∃ z,elemsOf S s=some (z,es) ∧ (es.length ≠ 0 → z=sz)) (hlen:len=es.length)
    (hx:RV w mu hw (lkS S mu) x vx) (he:elemsOf S x=some (sz,xs)) (hx0:xs.length ≠ 0) (hno:cap < len + xs.length) (hlim:es.length + xs.length ≤ 1073741824) :
    ∃ y w',(Builtin.append_ ts ty args).run P w=.ok y w' ∧ Step base prot tips S w mu hw ti (tips ++ [some (es.length + xs.length)]) S w' (.sl (.fr tips.length) sz (es ++ xs)) y:=by
  subst hlen
  obtain ⟨_,_,_,_,_,_,_,_,_,_,_,_,_,_,_,hsz⟩:=appSz_spec ha
  obtain ⟨l1,_⟩:=elems_run (P:=P) I hx he hsz (fun _ => rfl)
  obtain ⟨Id1,ed1⟩:=inv_drew I
  obtain ⟨_,l2'⟩:=elems_run (P:=P) Id1 (ed1.rv hx) he hsz (fun _ => rfl)
  obtain ⟨new,n1,n2⟩:=l2' xs.length (Nat.le_refl _)
  rw [List.take_length] at n2
  obtain ⟨zz,hse,hzz⟩:=hse
  obtain ⟨_,o2⟩:=elems_run (P:=P) Id1 (ed1.rv hv) hse hsz hzz
  obtain ⟨old,o1,o3⟩:=o2 es.length (Nat.le_refl _)
  rw [List.take_length] at o3
  obtain ⟨newCap,rest,c1,c2,c3⟩:=append_grows (ty:=ty) ha h0 h1 l1 o1 n1 (by omega) hlim
  refine ⟨_,_,c3,?_⟩
  have hES:ES w mu hw (lkS S mu) sz (es ++ xs) (old ++ new):=(o3.append n2).undrew
  have:=grow_step (tips':=tips ++ [some (es.length + xs.length)]) (S':=S) (newCap:=newCap) (rest:=rest) (el:=e) (id:=.fr tips.length) I (SameB.refl S) hES hsz (by simpa using c1) (by simpa using c2)
    (by simpa using fun x => live_push_fr (S:=S) (mu:=mu) (tips:=tips) x) (.inl (by simp [live])) (fun _ _ => rfl) (by simp)
  simpa [rid] using this
theorem append_none {ts:Array TypeId} {ty e:TypeId} {sz:Nat} (h:appSz P ts=some (e,sz)) {args:Array Value} {x:Value} {a:Option Addr} {len cap:Nat} (h0:args[0]?=some (.slice a len cap)) (h1:args[1]?=some x)
    (hn:(Builtin.lenOf x).run P w=.ok 0 w) (hc:(Builtin.firstCells sz 0 x).run P w=.ok #[] w) (hfit:len ≤ cap):(Builtin.append_ ts ty args).run P w=.ok (.slice a len cap) w:=by
  obtain ⟨t,xt,d,i,z,ht,hu,hxt,hd,hni,hsz,hi,hb,hz,hzl,hs0⟩:=appSz_spec h
  have hm:(match d with | .int _ => true | _ => false)=false:=by cases d <;> first | rfl | exact absurd rfl (hni _)
  unfold Builtin.append_
  cases a <;> simp [ht,h0,h1,hxt,Sem.run_bind,und_of hu,Result.andThen_ok,sizeOf_of hsz,und_of hd,Sem.run_pure,hm,hn,hfit,hc,storeCells]
theorem append_sound (I:Inv base prot tips S w mu hw ti) {ts:Array TypeId} {ty:TypeId} {args:Array Value} {s x r:AV} {v vx:Value} (h0:args[0]?=some v) (h1:args[1]?=some vx)
    (hv:RV w mu hw (lkS S mu) s v) (hf:Flag (live tips S mu) ti s v) (hx:RV w mu hw (lkS S mu) x vx) (h:evAppend P tips S ts s x=some (r,tips',S')) :
    ∃ y w',(Builtin.append_ ts ty args).run P w=.ok y w' ∧ Step base prot tips S w mu hw ti tips' S' w' r y:=by
  unfold evAppend at h
  split at h
  case h_2 => simp at h
  rename_i e sz xz xs ha he
  obtain ⟨_,_,_,_,_,_,_,_,_,_,_,_,_,_,_,hsz⟩:=appSz_spec ha
  split at h
  · rename_i hx0
    obtain ⟨l1,l2⟩:=elems_run (P:=P) I hx he hsz (fun c => absurd hx0 c)
    rw [hx0] at l1
    obtain ⟨cells,c1,c2⟩:=l2 0 (by omega)
    have hce:cells=#[]:=by
      have:=c2.size
      simpa using this
    rw [hce] at c1
    split at h
    · simp at h
      obtain ⟨rfl,rfl,rfl⟩:=h
      cases hv
      exact ⟨_,_,append_none ha h0 h1 l1 c1 (Nat.le_refl _),Step.pure I .nils (by simp [Flag,Flag1])⟩
    · simp at h
      obtain ⟨rfl,rfl,rfl⟩:=h
      have hv':=hv
      cases hv with
      | emp _ _ _ => exact ⟨_,_,append_none ha h0 h1 l1 c1 (Nat.zero_le _),Step.pure I hv' hf⟩
      | emp0 _ _ => exact ⟨_,_,append_none ha h0 h1 l1 c1 (Nat.zero_le _),Step.pure I hv' hf⟩
      | sl _ _ _ b o len cap f g0 hr hb hl hs g1 g2 =>
        exact ⟨_,_,append_none ha h0 h1 l1 c1 g0.2.1,Step.pure I hv' hf⟩
    · simp at h
  rename_i hx0
  split at h
  · simp at h
  rename_i hxz
  have hxz:xz=sz:=by simpa using hxz
  subst hxz
  split at h
  · split at h
    case isFalse => simp at h
    rename_i hlim
    simp at h
    obtain ⟨rfl,rfl,rfl⟩:=h
    cases hv
    have:=new_append (ty:=ty) (s:=.nils) (es:=[]) I ha h0 h1 .nils ⟨0,rfl,by simp⟩ rfl hx he hx0 (by omega) (by simpa using hlim)
    simpa using this
  · rename_i rr sz' es
    split at h
    · simp at h
    rename_i hc
    have hzz:sz'=xz:=Classical.byContradiction fun e => hc (.inl e)
    have hlim:es.length + xs.length ≤ 1073741824:=Nat.le_of_not_lt fun e => hc (.inr e)
    subst hzz
    split at h
    · simp at h
      obtain ⟨rfl,rfl,rfl⟩:=h
      have hv':=hv
      cases hv with
      | emp0 _ _ => exact new_append I ha h0 h1 hv' ⟨_,rfl,fun _ => rfl⟩ rfl hx he hx0 (by omega) hlim
      | sl _ _ _ b o len cap f g0 hr hb hl hs g1 g2 =>
        have:=hr rfl
        exact new_append I ha h0 h1 hv' ⟨_,rfl,fun _ => rfl⟩ g0.1 hx he hx0 (by omega) hlim
    · rename_i k
      split at h
      case isFalse => simp at h
      rename_i hk
      simp at h
      obtain ⟨rfl,rfl,rfl⟩:=h
      exact tip_append (id:=.fr k) I (SameB.refl S) ha h0 h1 hv hf hx he hx0 hlim hk (fun x => live_fr x (lt_of_get hk)) (fun _ _ => rfl) (by simp)
    · rename_i i j
      split at h
      case h_2 => simp at h
      rename_i cs bt hS
      split at h
      case isFalse => simp at h
      rename_i hj
      simp at h
      obtain ⟨rfl,rfl,rfl⟩:=h
      obtain ⟨b,hm⟩:∃ b,mu i=some b:=by
        cases hv with
        | sl _ _ _ b o len cap f g0 hr hb hl hs g1 g2 => exact hb i j rfl
      refine tip_append (id:=.bx i j) I (sameB_bx hS) ha h0 h1 hv hf hx he hx0 hlim (by simp [live,hm,hS,hj]) (fun x => live_bx x hm hS (lt_of_get hj)) (fun k hk => ?_) (fun i' j' e => by cases e; exact ⟨b,hm⟩)
      exact List.getElem?_set_ne (fun e => by subst e; rw [hm] at hk; cases hk)
    · simp at h
  · rename_i i off len cap sz'
    split at h
    · simp at h
    rename_i hc
    split at h
    case h_2 => simp at h
    rename_i z es hes
    simp at h
    obtain ⟨rfl,rfl,rfl⟩:=h
    have hv':=hv
    cases hv with
    | aref _ _ _ _ _ b hb g0 =>
      have hlen:len=es.length:=by
        simp only [elemsOf] at hes
        split at hes
        · split at hes
          · simp at hes; rw [← hes.2]; simp
          · simp at hes
        · simp at hes
      have hz:z=sz':=by
        simp only [elemsOf] at hes
        split at hes
        · split at hes
          · simp at hes; exact hes.1.symm
          · simp at hes
        · simp at hes
      have hzz:sz'=xz:=Classical.byContradiction fun e => hc (.inl e)
      exact new_append I ha h0 h1 hv' ⟨_,hes,fun _ => by omega⟩ hlen hx he hx0 (Nat.lt_of_not_le fun e => hc (.inr (.inl e))) (Nat.le_of_not_lt fun e => hc (.inr (.inr (by omega))))
  · simp at h
end
end Go.Proofs.YtekgdmhdkhgpjaaGreatDoor.am

namespace Go.Proofs.YtekgdmhdkhgpjaaGreatDoor.am
open Go Go.RowKit
section
variable {P:Program} {base:Nat} {prot:Nat → Prop} {tips tips':List (Option Nat)} {S S':St} {w w':World} {mu:Nat → Option Nat} {hw hw':Nat → Nat} {ti ti':Id → TI}
theorem flatten_len {sz:Nat}:∀ (es:List (List AV)),(∀ (i:Nat) (cs:List AV),es[i]?=some cs → cs.length=sz) → es.flatten.length=es.length * sz:=by
  intro es
  induction es with
  | nil => intro _; simp
  | cons c es ih =>
    intro h
    have h0:=h 0 c rfl
    have:=ih fun i cs hi => h (i + 1) cs (by simpa using hi)
    simp only [List.flatten_cons,List.length_append,this,h0,List.length_cons,Nat.add_mul,Nat.one_mul]
    omega
theorem flatten_at {sz:Nat}:∀ (es:List (List AV)),(∀ (i:Nat) (cs:List AV),es[i]?=some cs → cs.length=sz) → ∀ (i:Nat) (cs:List AV) (j:Nat),es[i]?=some cs → j < sz → es.flatten[i * sz + j]?=cs[j]?:=by
  intro es
  induction es with
  | nil => intro _ i cs j hi; simp at hi
  | cons c es ih =>
    intro h i cs j hi hj
    have h0:=h 0 c rfl
    rw [List.flatten_cons]
    cases i with
    | zero =>
      simp at hi
      subst hi
      simp only [Nat.zero_mul,Nat.zero_add]
      rw [List.getElem?_append_left (by omega)]
    | succ i =>
      have hi':es[i]?=some cs:=by simpa using hi
      rw [Nat.add_mul,Nat.one_mul,List.getElem?_append_right (by omega)]
      have:=ih (fun i cs hi => h (i + 1) cs (by simpa using hi)) i cs j hi' hj
      rw [← this]
      congr 1
      omega
theorem flatten_get {sz:Nat}:∀ (es:List (List AV)),(∀ (i:Nat) (cs:List AV),es[i]?=some cs → cs.length=sz) → ∀ (k:Nat) (x:AV),es.flatten[k]?=some x → ∃ i cs j,es[i]?=some cs ∧ cs[j]?=some x ∧ k=i * sz + j:=by
  intro es
  induction es with
  | nil => intro _ k x hk; simp at hk
  | cons c es ih =>
    intro h k x hk
    have h0:=h 0 c rfl
    rw [List.flatten_cons] at hk
    rcases Nat.lt_or_ge k c.length with hlt | hge
    · rw [List.getElem?_append_left hlt] at hk
      exact ⟨0,c,k,rfl,hk,by simp⟩
    · rw [List.getElem?_append_right hge] at hk
      obtain ⟨i,cs,j,h1,h2,h3⟩:=ih (fun i cs hi => h (i + 1) cs (by simpa using hi)) _ x hk
      exact ⟨i + 1,cs,j,by simpa using h1,h2,by rw [Nat.add_mul,Nat.one_mul]; omega⟩
theorem ES.rl {lk:Nat → Prop} {sz:Nat} {es:List (List AV)} {vs:Array Value} (h:ES w mu hw lk sz es vs):RL w mu hw lk es.flatten vs:=by
  refine ⟨by rw [flatten_len es h.len,h.size],fun k x hk => ?_⟩
  obtain ⟨i,cs,j,h1,h2,rfl⟩:=flatten_get es h.len k x hk
  exact h.cell i cs j x h1 h2
theorem RL.es {lk:Nat → Prop} {sz:Nat} {es:List (List AV)} {vs:Array Value} (h:RL w mu hw lk es.flatten vs) (hl:∀ (i:Nat) (cs:List AV),es[i]?=some cs → cs.length=sz):ES w mu hw lk sz es vs:=by
  refine ⟨by rw [← h.1,flatten_len es hl],hl,fun i cs j a hi hj => ?_⟩
  have:=flatten_at es hl i cs j hi (hl i cs hi ▸ lt_of_get hj)
  exact h.2 _ a (this.trans hj)
theorem write_plain (I:Inv base prot tips S w mu hw ti) {i b off:Nat} {cs l:List AV} {bt:List (Option Nat)} {vs xs:Array Value} {el:TypeId} (hS:S[i]?=some (.mem cs bt false)) (hm:mu i=some b)
    (hvs:w.heap[b]?=some (.cells vs el (0,0))) (hrb:RB w mu hw (lkS S mu) cs vs) (hl:RL w mu hw (lkS S mu) l xs) (hle:off + l.length ≤ cs.length) {r:AV} {v:Value} (hr:RV w mu hw (lkS S mu) r v) (hf:Flag (live tips S mu) ti r v) :
    (∃ w',(storeCells (⟨b,off,none⟩:Addr) xs.toList).run P w=.ok () w' ∧ Step base prot tips S w mu hw ti tips (S.set i (.mem (splice cs off l) bt false)) w' r v):=by
  have hlx:=hl.1
  have hcs:=hrb.1
  obtain ⟨di,_⟩:=I.idom i b hm
  have run:(storeCells (⟨b,off,none⟩:Addr) xs.toList).run P w=.ok () (w.setCells b off xs.toList):=by
    have:=run_storeCells_cells (P:=P) b off xs.toList 0 w
      (fun j hj => by rw [cell_of_block hvs]; simp at hj; simp; omega)
      (fun j _ => by simp [World.frozen?,hvs])
      (fun y hy => by
        obtain ⟨k,hk⟩:=List.getElem?_of_mem hy
        have hk':xs[k]?=some y:=by simpa using hk
        have hklt:=lt_of_aget hk'
        obtain ⟨p,y',hy',hr⟩:=hl.2 k l[k] (by simp)
        rw [hk'] at hy'
        obtain rfl:=Option.some.inj hy'
        exact hr.one p)
    simpa using this
  obtain ⟨⟨vs',s1,s2,s3⟩,s4,s5,s6,s7,s8⟩:=setCells_heap b el (0,0) xs.toList off w vs hvs (by simp; omega)
  have s3':∀ k,vs'[k]?=if off ≤ k ∧ k < off + xs.size then xs[k - off]? else vs[k]?:=by
    intro k; rw [s3 k]; simp
  have same':live tips (S.set i (.mem (splice cs off l) bt false)) mu=live tips S mu:=by
    funext id
    rw [live_set (tips:=tips) (S:=S) hm di]
    cases id with
    | fr n => rfl
    | bx k j => by_cases hk:k=i
                · subst hk; simp [live,hm,hS]
                · simp [hk]
  obtain ⟨I',e⟩:=inv_write (ti':=ti) (tips':=tips) (bt':=bt) I hS hm hvs s1 s4 s5 ⟨s6,s7,s8⟩ (hrb.splice hl.rb hlx hle s2 s3')
    (by
      intro j a y ha hy
      rw [same']
      rw [get_splice _ _ _ hle] at ha
      rw [s3' j] at hy
      by_cases hcj:off ≤ j ∧ j < off + l.length
      · rw [if_pos hcj] at ha
        obtain ⟨p,_⟩:=hl.2 _ a ha
        exact ⟨nf_noFr p,Flag1.of_nf p⟩
      · rw [if_neg hcj] at ha
        rw [if_neg (by omega)] at hy
        exact I.iflag i _ _ _ b hS hm vs el hvs j a y ha hy)
    (by rw [same']; exact LvExt.refl _ _) (by rw [same']; exact fun id L h => ⟨id,h,rfl⟩) (by rw [same']; exact I.itinj)
  refine ⟨_,run,mu,hw,ti,I',e,by rw [same']; exact LvExt.refl _ _,e.rv hr,by rw [same']; exact hf,fun k hk hlt => ⟨?_,hk⟩⟩
  exact List.getElem?_set_ne (fun e => by subst e; rw [hm] at hk; cases hk)
theorem spot_rv {lk:Nat → Prop} {d:AV} {v:Value} {i off len sz:Nat} (h:RV w mu hw lk d v) (hs:spotOf d=some (i,off,len,sz)):∃ b cap,mu i=some b ∧ v=.slice (some ⟨b,off,none⟩) len cap ∧ len ≤ cap ∧ sz ≠ 0:=by
  cases h <;> simp [spotOf] at hs
  case aref i' off' len' cap' sz' b hb h0 => obtain ⟨rfl,rfl,rfl,rfl⟩:=hs; exact ⟨b,_,hb,rfl,h0⟩
  case oref i' off' len' sz' b cap' hb h0 => obtain ⟨rfl,rfl,rfl,rfl⟩:=hs; exact ⟨b,_,hb,rfl,h0⟩
theorem copy_sound (I:Inv base prot tips S w mu hw ti) {ts:Array TypeId} {ty:TypeId} {args:Array Value} {d x r:AV} {vd vx:Value} (h0:args[0]?=some vd) (h1:args[1]?=some vx)
    (hd:RV w mu hw (lkS S mu) d vd) (hx:RV w mu hw (lkS S mu) x vx) {nb:Nat} (h:evCopy P nb S ts d x=some (r,S')) :
    ∃ y w',(Builtin.copy_ ts ty args).run P w=.ok y w' ∧ Step base prot tips S w mu hw ti tips S' w' r y:=by
  unfold evCopy at h
  split at h
  case h_2 => simp at h
  rename_i e he
  rw [Option.bind_eq_some_iff] at he
  obtain ⟨t,ht,he⟩:=he
  split at h
  case h_2 => simp at h
  rename_i sz xz xs i off len dz hsz hxs hsp
  split at h
  · simp at h
  rename_i hc
  have hz:sz ≠ 0:=fun e => hc (.inl e)
  have hdz:dz=sz:=Classical.byContradiction fun e => hc (.inr (.inl e))
  have hxz:xs.length ≠ 0 → xz=sz:=fun a => Classical.byContradiction fun e => hc (.inr (.inr ⟨a,e⟩))
  split at h
  case h_2 => simp at h
  rename_i cs bt hS
  split at h
  case isFalse => simp at h
  rename_i hle
  obtain ⟨hle,_⟩:=hle
  simp at h
  obtain ⟨rfl,rfl⟩:=h
  obtain ⟨b,cap,hb,hvd,_⟩:=spot_rv hd hsp
  subst hvd
  · obtain ⟨vs,el,hvs,hrb⟩:=I.ibox i _ b hS hb
    obtain ⟨l1,l2⟩:=elems_run (P:=P) I hx hxs hz hxz
    obtain ⟨cells,c1,c2⟩:=l2 (Nat.min xs.length len) (Nat.min_le_left _ _)
    have et:xs.take (Nat.min xs.length len)=xs.take len:=by
      rcases Nat.le_total xs.length len with h | h
      · rw [show Nat.min xs.length len=xs.length from Nat.min_eq_left h,List.take_length,List.take_of_length_le h]
      · rw [show Nat.min xs.length len=len from Nat.min_eq_right h]
    rw [et] at c2
    have hfl:=flatten_len _ c2.len
    have hlen:(xs.take len).length * sz ≤ len * sz:=Nat.mul_le_mul_right sz (by simp; omega)
    obtain ⟨w',w1,w2⟩:=write_plain (P:=P) (r:=.int .i64 ((Nat.min xs.length len:Nat):Int)) (v:=.int .i64 ((Nat.min xs.length len:Nat):Int)) (off:=off) I hS hb hvs hrb c2.rl (by omega) (.int _ _) (by simp [Flag,Flag1])
    rw [show (min (xs.length:Int) (len:Int))=((Nat.min xs.length len:Nat):Int) from by show _=((min xs.length len:Nat):Int); omega]
    refine ⟨_,w',?_,w2⟩
    unfold Builtin.copy_
    simp only [ht,h0,h1,Sem.run_bind,und_of (elemT_of he),Result.andThen_ok,l1,sizeOf_of hsz,c1,w1,Sem.run_pure]
    rfl
theorem fillEs_fill (sz:Nat) (hz:sz ≠ 0):∀ (parts:List (Nat × AV)) (es es':List (List AV)),(∀ (i:Nat) (cs:List AV),es[i]?=some cs → cs.length=sz) → fillEs sz es parts=some es' →
    fill (fun i => some (i * sz,sz)) es.flatten parts=some es'.flatten ∧ es'.length=es.length ∧ ∀ (i:Nat) (cs:List AV),es'[i]?=some cs → cs.length=sz:=by
  intro parts
  induction parts with
  | nil => intro es es' hl h; simp [fillEs] at h; subst h; exact ⟨by simp [fill],rfl,hl⟩
  | cons p parts ih =>
    intro es es' hl h
    obtain ⟨i,v⟩:=p
    unfold fillEs at h
    split at h
    case isFalse => simp at h
    rename_i hc
    obtain ⟨hval,hn,hi⟩:=hc
    have hsl:(strip v).cells.length=sz:=by rw [len_cells_strip]; exact hn
    have hl':∀ (k:Nat) (cs:List AV),(es.set i (strip v).cells)[k]?=some cs → cs.length=sz:=by
      intro k cs hk
      by_cases e:k=i
      · subst e
        rw [List.getElem?_set_self hi] at hk
        cases hk; exact hsl
      · rw [List.getElem?_set_ne (fun a => e a.symm)] at hk
        exact hl k cs hk
    obtain ⟨a,b,c⟩:=ih _ es' hl' h
    refine ⟨?_,by simpa using b,c⟩
    have hfl:=flatten_len es hl
    have hroom:i * sz + sz ≤ es.length * sz:=by
      have:=Nat.mul_le_mul_right sz hi
      rw [Nat.succ_mul] at this
      exact this
    unfold fill
    simp only
    rw [if_pos ⟨hval,hn,by omega⟩,← a]
    congr 1
    apply List.ext_getElem?
    intro k
    rw [get_splice _ _ _ (by omega)]
    by_cases hk:k < es.length * sz
    · have hp:0 < sz:=by omega
      have hq:k / sz < es.length:=Nat.div_lt_of_lt_mul (by rw [Nat.mul_comm]; exact hk)
      have hm:k % sz < sz:=Nat.mod_lt _ hp
      have hk2:k / sz * sz + k % sz=k:=by rw [Nat.mul_comm]; exact Nat.div_add_mod k sz
      have e1:es[k / sz]?=some es[k / sz]:=by simp [hq]
      have f1:=flatten_at es hl (k / sz) _ (k % sz) e1 hm
      rw [hk2] at f1
      have e2:(es.set i (strip v).cells)[k / sz]?=some (if k / sz=i then (strip v).cells else es[k / sz]):=by
        rw [List.getElem?_set]
        by_cases e:i=k / sz
        · simp [← e,hi]
        · rw [if_neg e,e1,if_neg (fun a => e a.symm)]
      have f2:=flatten_at _ hl' (k / sz) _ (k % sz) e2 hm
      rw [hk2] at f2
      rw [f1,f2]
      by_cases e:k / sz=i
      · subst e
        rw [if_pos (by omega),if_pos rfl]
        congr 1
        omega
      · rw [if_neg e,if_neg]
        rintro ⟨g1,g2⟩
        have h1:i ≤ k / sz:=(Nat.le_div_iff_mul_le hp).2 g1
        have h2:k / sz < i + 1:=(Nat.div_lt_iff_lt_mul hp).2 (by rw [Nat.succ_mul]; omega)
        omega
    · rw [if_neg (by omega),List.getElem?_eq_none (by omega),List.getElem?_eq_none (by rw [flatten_len _ hl']; simp; omega)]
theorem fill_parts {lk:Nat → Prop} (ρ:Operand → AV) (ev:Operand → Value) (hρ:∀ o,RV w mu hw lk (ρ o) (ev o)) (parts:Array (Nat × Operand)) :
    ∀ (j i:Nat) (a:AV),(parts.toList.map fun x => (x.1,ρ x.2))[j]?=some (i,a) → ∃ v,(parts.map fun x => (x.1,ev x.2)).toList[j]?=some (i,v) ∧ RV w mu hw lk a v:=by
  intro j i a hj
  simp only [List.getElem?_map,Option.map_eq_some_iff,Prod.mk.injEq] at hj
  obtain ⟨x,hx,rfl,rfl⟩:=hj
  exact ⟨ev x.2,by simp only [Array.toList_map,List.getElem?_map,hx,Option.map_some],hρ _⟩
theorem buildSlice_sound (I:Inv base prot tips S w mu hw ti) {t:TypeId} {n:Nat} {parts:Array (Nat × Operand)} {a:AV} (ρ:Operand → AV) (ev:Operand → Value) (hρ:∀ o,RV w mu hw (lkS S mu) (ρ o) (ev o))
    (he:evBuildSlice P t n (parts.toList.map fun x => (x.1,ρ x.2))=some a) :
    ∃ y w',(Instr.buildSlice t n (parts.map fun x => (x.1,ev x.2))).run P w=.ok y w' ∧ Step base prot tips S w mu hw ti tips S w' a y:=by
  unfold evBuildSlice at he
  split at he
  case h_2 => simp at he
  rename_i e hel
  split at he
  case h_2 => simp at he
  rename_i sz z hsz hz
  split at he
  case isFalse => simp at he
  rename_i hc
  obtain ⟨hz0,hzl,hlim⟩:=hc
  simp only [Option.map_eq_some_iff] at he
  obtain ⟨es,hes,rfl⟩:=he
  obtain ⟨vz,z1,z2⟩:=zero_sound (P:=P) (w:=w) (mu:=mu) (hw:=hw) (lk:=lkS S mu) hz
  have hrl:∀ (i:Nat) (cs:List AV),(List.replicate n z)[i]?=some cs → cs.length=sz:=by
    intro i cs hi
    rw [List.getElem?_replicate] at hi
    split at hi
    · cases hi; exact hzl
    · cases hi
  obtain ⟨f1,f2,f3⟩:=fillEs_fill sz hz0 _ _ es hrl hes
  have hvz:vz.cells.size=sz:=by rw [← z2.1]; exact hzl
  have hzero:RL w mu hw (lkS S mu) (List.replicate n z).flatten (((Array.range (n * sz)).map (vz.cells[· % vz.cells.size]!))):=by
    refine ⟨by rw [flatten_len _ hrl]; simp,fun k x hk => ?_⟩
    obtain ⟨i,cs,j,h1,h2,rfl⟩:=flatten_get _ hrl k x hk
    have hi:=lt_of_get h1
    have hj:=lt_of_get h2
    rw [hrl i cs h1] at hj
    simp at hi
    have hcs:cs=z:=by
      rw [List.getElem?_replicate,if_pos hi] at h1
      exact (Option.some.inj h1).symm
    subst hcs
    obtain ⟨p,y,hy,hr⟩:=z2.2 j x h2
    refine ⟨p,y,?_,hr⟩
    have hlt:i * sz + j < n * sz:=idx_lt hi hj
    have e1:(i * sz + j) % sz=j:=by rw [Nat.mul_comm,Nat.mul_add_mod,Nat.mod_eq_of_lt hj]
    have hjz:j < vz.cells.size:=by omega
    rw [Array.getElem?_eq_getElem hjz] at hy
    simp only [Array.getElem?_map,Array.getElem?_range,hlt,if_true,Option.map_some,hvz,e1]
    rw [getElem!_pos (vz.cells) j hjz]
    exact hy
  obtain ⟨vr,g1,g2⟩:=fill_sound _ _ (parts.map fun x => (x.1,ev x.2)).toList _ _ _ hzero (by simp) (fill_parts ρ ev hρ parts) f1
  have hlen:es.length=n:=by simpa using f2
  have hES:=g2.es f3
  obtain ⟨I2,e2⟩:=inv_new I (.cells vr e) (es.length * sz)
  refine ⟨.slice (some ⟨w.heap.size,0,none⟩) n n,w.alloc (.cells vr e),?_,mu,_,ti,I2,e2,LvExt.refl _ _,?_,by simp [Flag,Flag1],fun _ h _ => ⟨rfl,h⟩⟩
  · unfold Instr.buildSlice
    simp only [Sem.run_bind,und_of (elemT_of hel),Result.andThen_ok,sizeOf_of hsz]
    rw [if_neg (by have:n * sz ≤ 2 ^ 24:=hlim
                   omega)]
    by_cases h0:n * sz=0
    · rw [if_pos h0]
      have hn:n=0:=by
        rcases Nat.mul_eq_zero.1 h0 with h | h
        · exact h
        · exact absurd h hz0
      subst hn
      simp only [Sem.run_pure,Result.andThen_ok,Sem.run_bind]
      have e0:((Array.range (0 * sz)).map (vz.cells[· % vz.cells.size]!))=((Array.range (0 * sz)).map ((#[]:Array Value)[· % (#[]:Array Value).size]!)):=by
        simp
      rw [e0] at g1
      rw [g1]
      simp only [newRow,Sem.run_bind,run_newObj,Result.andThen_ok,Sem.run_pure]
      rfl
    · rw [if_neg h0]
      simp only [Sem.run_bind,z1,Result.andThen_ok,Sem.run_pure,g1,newRow,run_newObj]
      rfl
  · subst hlen
    exact (hES.mono fun a v r => e2.rv r).rv hz0 (heap_alloc_new _ _) (fun k hk => by simp) (by rw [upd_same]; omega) (Nat.le_refl _) (fun _ => rfl) (by simp) (by simp)
theorem bytesWorld_alloc (w:World) (e:TypeId) (s:ByteArray):Lib.bytesWorld w e s=w.drew.alloc (.cells (Lib.bytesCells w e s) e ((Lib.bytesCells w e s).size,(Lib.bytesCells w e s).size + 1)):=by
  have h:(Lib.bytesWorld w e s).heap=(w.drew.alloc (.cells (Lib.bytesCells w e s) e ((Lib.bytesCells w e s).size,(Lib.bytesCells w e s).size + 1))).heap:=by
    refine Array.ext_getElem? (fun (k:Nat) => ?_)
    by_cases hk:k < w.heap.size
    · rw [Lib.bytesWorld_at_old _ _ _ _ hk]
      exact (heap_alloc w.drew _ k hk).symm
    · by_cases hk':k=w.heap.size
      · subst hk'
        rw [Lib.bytesWorld_at_new]
        exact (heap_alloc_new w.drew _).symm
      · rw [Array.getElem?_eq_none (by rw [Lib.bytesWorld_size]; omega),Array.getElem?_eq_none]
        show ((w.drew.heap.push _).size ≤ k)
        simp
        show w.heap.size + 1 ≤ k
        omega
  have h2:Lib.bytesWorld w e s={ w.drew with heap:=(Lib.bytesWorld w e s).heap }:=by
    simp [Lib.bytesWorld,World.freeze,World.alloc]
  rw [h2,h]
  rfl
theorem bytes_sound (I:Inv base prot tips S w mu hw ti) {src dst:TypeId} {x a:AV} {v:Value} (hx:RV w mu hw (lkS S mu) x v) (he:evBytes P src dst x=some a) :
    ∃ y w',(convert src dst v).run P w=.ok y w' ∧ Step base prot tips S w mu hw ti tips S w' a y:=by
  unfold evBytes at he
  split at he
  case h_2 => simp at he
  rename_i e s hs hd
  split at he
  case h_2 => simp at he
  rename_i heu
  split at he
  case isFalse => simp at he
  simp at he
  subst he
  cases hx with
  | str s =>
    have hrun:=Lib.run_convert_string_bytes (P:=P) w src dst e s hs hd heu
    rw [bytesWorld_alloc] at hrun
    obtain ⟨I1,e1⟩:=inv_drew I
    obtain ⟨I2,e2⟩:=inv_new I1 (.cells (Lib.bytesCells w e s) e ((Lib.bytesCells w e s).size,(Lib.bytesCells w e s).size + 1)) (s.size * 1)
    have hlen:(s.data.toList.map fun b => [AV.int .u8 (b.toNat:Int)]).length=s.size:=by simp
    have hES:ES (w.drew.alloc (.cells (Lib.bytesCells w e s) e ((Lib.bytesCells w e s).size,(Lib.bytesCells w e s).size + 1))) mu (upd hw w.drew.heap.size (s.size * 1)) (lkS S mu) 1 (s.data.toList.map fun b => [AV.int .u8 (b.toNat:Int)])
        (s.data.map fun b => Value.int .u8 (b.toNat:Int)):=by
      refine ⟨by simp,?_,?_⟩
      · intro i cs hi
        simp only [List.getElem?_map,Option.map_eq_some_iff] at hi
        obtain ⟨b,_,rfl⟩:=hi
        rfl
      · intro i cs j a hi hj
        simp only [List.getElem?_map,Option.map_eq_some_iff] at hi
        obtain ⟨b,hb,rfl⟩:=hi
        cases j with
        | succ j => simp at hj
        | zero =>
          simp at hj
          subst hj
          refine ⟨rfl,.int .u8 b.toNat,?_,.int _ _⟩
          rw [← Array.getElem?_toList]
          simp only [Array.toList_map,Nat.mul_one,Nat.add_zero,List.getElem?_map,hb,Option.map_some]
    refine ⟨_,_,hrun,mu,_,ti,I2,e1.trans e2,LvExt.refl _ _,?_,by simp [Flag,Flag1],fun _ h _ => ⟨rfl,h⟩⟩
    have hcap:s.size ≤ grownCap w s.size 0 e:=by
      simp only [grownCap,Question.cut]
      omega
    have:=hES.rv (r:=.none) (o:=0) (cap:=grownCap w s.size 0 e) (by simp) (heap_alloc_new w.drew _) (fun k hk => by
      have hk':k < s.size:=by simpa using hk
      simp only [Lib.bytesCells,Nat.zero_add]
      rw [Array.getElem?_append_left (by simpa using hk')]) (by
        have h1:w.drew.heap.size=w.heap.size:=rfl
        rw [h1,upd_same,hlen]; omega) (by rw [hlen]; exact hcap) (by simp) (by simp) (by simp)
    rw [hlen] at this
    exact this
end
end Go.Proofs.YtekgdmhdkhgpjaaGreatDoor.am

set_option linter.unusedVariables false
set_option linter.unusedSimpArgs false
namespace Go.Proofs.YtekgdmhdkhgpjaaGreatDoor.am
open Go Go.RowKit
section
variable {r:AV} {v:Value} {P:Program} {base:Nat} {prot:Nat → Prop} {tips tips':List (Option Nat)} {S S':St} {w w':World} {mu:Nat → Option Nat} {hw hw':Nat → Nat} {ti ti':Id → TI}
theorem inv_iter (I:Inv base prot tips S w mu hw ti) (s:List UInt8) (pos:Nat) :
    Step base prot tips S w mu hw ti tips (S ++ [.iter s pos]) (w.alloc (.stringIter ⟨s.toArray⟩ pos)) (.ptr S.length 0) (.pointer (some ⟨w.heap.size,0,none⟩)):=by
  have h0:hw w.heap.size=0:=I.iout _ (Nat.le_refl _)
  have hdom:∀ j b,mu j=some b → j < S.length:=fun j b h => (I.idom j b h).1
  have hmu:∀ j,j < S.length → upd mu S.length (some w.heap.size) j=mu j:=fun j h => upd_ne _ _ _ _ (by omega)
  have hlk:∀ b,lkS S mu b → lkS (S ++ [.iter s pos]) (upd mu S.length (some w.heap.size)) b:=by
    rintro b ⟨i,cs,bt,h1,h2⟩
    have hlt:=hdom i b h2
    exact ⟨i,cs,bt,by rw [List.getElem?_append_left hlt]; exact h1,by rw [hmu i hlt]; exact h2⟩
  have e:Ext base prot S w mu hw (S ++ [.iter s pos]) (w.alloc (.stringIter ⟨s.toArray⟩ pos)) (upd mu S.length (some w.heap.size)) hw:=by
    refine ⟨fun i b h => by rw [hmu i (hdom i b h)]; exact h,fun _ => Nat.le_refl _,hlk,fun b o' v _ h => ?_,fun b h => ⟨heap_alloc _ _ _ (I.iprot b h),rfl⟩,(Belo.refl _ _).alloc I.ibase _,by simp⟩
    rw [World.cell?_alloc_lt _ _ _ (World.block_lt_of_cell? w _ h)]; exact h
  have hlive:∀ id,(∀ j,id ≠ .bx S.length j) → live tips (S ++ [.iter s pos]) (upd mu S.length (some w.heap.size)) id=live tips S mu id :=
    fun id hid => live_push _ _ _ hdom hid _ rfl
  have hlnew:∀ j,live tips (S ++ [.iter s pos]) (upd mu S.length (some w.heap.size)) (.bx S.length j)=none:=by
    intro j; simp [live,upd_same]
  have hlold:∀ j,live tips S mu (.bx S.length j)=none:=by
    intro j
    simp only [live]
    cases hm:mu S.length with
    | none => rfl
    | some b => exact absurd (hdom _ _ hm) (by omega)
  have hall:∀ id,live tips (S ++ [.iter s pos]) (upd mu S.length (some w.heap.size)) id=live tips S mu id:=by
    intro id
    by_cases h:∃ j,id=.bx S.length j
    · obtain ⟨j,rfl⟩:=h; rw [hlnew,hlold]
    · exact hlive id (fun j hj => h ⟨j,hj⟩)
  have hlv:live tips (S ++ [.iter s pos]) (upd mu S.length (some w.heap.size))=live tips S mu:=funext hall
  refine ⟨upd mu S.length (some w.heap.size),hw,ti,⟨fun i bx b h1 h2 => ?_,fun i cells bt l b h1 h2 vs' el' h3 => ?_,fun i j b h1 h2 => ?_,fun i b h => ?_,fun b h => ?_,fun id L h => ?_,fun id id' L L' h h' => ?_,fun b h => ?_,?_,e.glb I.iglb⟩,e,?_,?_,?_,?_⟩
  · by_cases hi:i=S.length
    · subst hi
      rw [upd_same] at h2
      obtain rfl:=Option.some.inj h2
      simp at h1; subst h1
      exact heap_alloc_new _ _
    · rw [upd_ne _ _ _ _ hi] at h2
      have hlt:=hdom i b h2
      rw [List.getElem?_append_left hlt] at h1
      exact (I.ibox i bx b h1 h2).ext e (heap_alloc _ _ _ (I.idom i b h2).2.2.1)
  · by_cases hi:i=S.length
    · subst hi
      rw [upd_same] at h2
      obtain rfl:=Option.some.inj h2
      simp at h1
    · rw [upd_ne _ _ _ _ hi] at h2
      have hlt:=hdom i b h2
      rw [List.getElem?_append_left hlt] at h1
      rw [hlv]
      exact I.iflag i cells bt l b h1 h2 vs' el' (by rw [← heap_alloc w (.stringIter ⟨s.toArray⟩ pos) b (I.idom i b h2).2.2.1]; exact h3)
  · by_cases hi:i=S.length
    · subst hi
      rw [upd_same] at h1
      obtain rfl:=Option.some.inj h1
      by_cases hj:j=S.length
      · exact hj.symm
      · rw [upd_ne _ _ _ _ hj] at h2
        have:=(I.idom j _ h2).2.2.1
        omega
    · rw [upd_ne _ _ _ _ hi] at h1
      by_cases hj:j=S.length
      · subst hj
        rw [upd_same] at h2
        obtain rfl:=Option.some.inj h2
        have:=(I.idom i _ h1).2.2.1
        omega
      · rw [upd_ne _ _ _ _ hj] at h2
        exact I.iinj i j b h1 h2
  · by_cases hi:i=S.length
    · subst hi
      rw [upd_same] at h
      obtain rfl:=Option.some.inj h
      exact ⟨by simp,I.ibase,by simp,h0,fun hp => by have:=I.iprot _ hp; omega⟩
    · rw [upd_ne _ _ _ _ hi] at h
      obtain ⟨a,b',c,d,f⟩:=I.idom i b h
      exact ⟨by simp; omega,b',by simp; omega,d,f⟩
  · exact I.iout b (by have:w.heap.size + 1 ≤ b:=by simpa using h
                       omega)
  · rw [hlv] at h
    obtain ⟨a,b,c⟩:=I.itip id L h
    refine ⟨a.keep rfl (heap_alloc _ _ _ a.lt),b,fun i hi => ?_⟩
    by_cases hi':i=S.length
    · subst hi'
      rw [upd_same] at hi
      have:=a.lt
      have:=Option.some.inj hi
      omega
    · rw [upd_ne _ _ _ _ hi'] at hi
      exact c i hi
  · rw [hlv] at h h'
    exact I.itinj id id' L L' h h'
  · have:=I.iprot b h; simp; omega
  · have:=I.ibase; simp; omega
  · rw [hlv]; exact LvExt.refl _ _
  · exact .ptr _ _ _ (upd_same _ _ _)
  · simp [Flag,Flag1]
  · intro i hi hlt
    exact ⟨List.getElem?_append_left hlt,by rw [hmu i hlt]; exact hi⟩
theorem inv_step (I:Inv base prot tips S w mu hw ti) {i b:Nat} {s:List UInt8} {pos pos':Nat} {w':World}
    (hS:S[i]?=some (.iter s pos)) (hm:mu i=some b)
    (hb':w'.heap[b]?=some (.stringIter ⟨s.toArray⟩ pos')) (hsame:∀ k,k ≠ b → w'.heap[k]?=w.heap[k]?) (hsz:w'.heap.size=w.heap.size)
    (hos:w'.os=w.os ∧ w'.tape=w.tape ∧ w'.output=w.output ∧ w.drawn ≤ w'.drawn) :
    Inv base prot tips (S.set i (.iter s pos')) w' mu hw ti ∧ Ext base prot S w mu hw (S.set i (.iter s pos')) w' mu hw:=by
  obtain ⟨di,dbase,dlt,dhw,dprot⟩:=I.idom i b hm
  have hget:∀ k,k ≠ i → (S.set i (.iter s pos'))[k]?=S[k]?:=fun k hk => List.getElem?_set_ne (by omega)
  have hgeti:(S.set i (.iter s pos'))[i]?=some (.iter s pos'):=by rw [List.getElem?_set_self di]
  have hlv:live tips (S.set i (.iter s pos')) mu=live tips S mu:=by
    funext id
    cases id with
    | fr n => rfl
    | bx k j =>
      by_cases hk:k=i
      · subst hk; simp only [live,hm,hS,hgeti]
      · simp only [live,hget k hk]
  have hlk:∀ b',lkS S mu b' → b' ≠ b:=by
    rintro b' ⟨k,c,t,h1,h2⟩ rfl
    have:=I.iinj k i b' h2 hm
    subst this
    rw [hS] at h1
    cases h1
  have e:Ext base prot S w mu hw (S.set i (.iter s pos')) w' mu hw:=by
    refine ⟨fun _ _ h => h,fun _ => Nat.le_refl _,?_,fun b' o v hc h => ?_,fun b' h => ⟨hsame b' (fun e => dprot (e ▸ h)),rfl⟩,⟨⟨hos.1,hos.2.1,hos.2.2.1,by omega,fun k hk => hsame k (by omega)⟩,fun _ => hos.2.2.2⟩,by simp⟩
    · rintro b' ⟨k,c,t,h1,h2⟩
      have hk:k ≠ i:=fun ek => by subst ek; rw [hS] at h1; cases h1
      exact ⟨k,c,t,by rw [hget k hk]; exact h1,h2⟩
    · have hne:b' ≠ b:=by
        rcases hc with hc | hc
        · intro eb; subst eb; omega
        · exact hlk b' hc
      rw [cell_eq (hsame b' hne)]; exact h
  have hne:∀ k b',mu k=some b' → k ≠ i → b' ≠ b:=fun k b' h hk eb => hk (I.iinj k i b' h (eb ▸ hm))
  refine ⟨⟨fun k bx b' h1 h2 => ?_,fun k cells bt0 l b' h1 h2 vs0 el0 h3 j x y hx hy => ?_,I.iinj,fun k b' h => ?_,fun b' h => I.iout b' (by omega),fun id L h => ?_,by rw [hlv]; exact I.itinj,fun b' h => by have:=I.iprot b' h; omega,by have:=I.ibase; omega,e.glb I.iglb⟩,e⟩
  · by_cases hk:k=i
    · subst hk
      rw [hgeti] at h1
      obtain rfl:=Option.some.inj h1
      obtain rfl:b'=b:=by rw [hm] at h2; exact (Option.some.inj h2).symm
      exact hb'
    · rw [hget k hk] at h1
      exact (I.ibox k bx b' h1 h2).ext e (hsame b' (hne k b' h2 hk))
  · by_cases hk:k=i
    · subst hk
      rw [hgeti] at h1
      cases h1
    · rw [hget k hk] at h1
      obtain ⟨a1,a2⟩:=I.iflag k cells bt0 l b' h1 h2 vs0 el0 (by rw [← hsame b' (hne k b' h2 hk)]; exact h3) j x y hx hy
      rw [hlv]; exact ⟨a1,a2⟩
  · obtain ⟨a1,a2,a3,a4,a5⟩:=I.idom k b' h
    exact ⟨by simpa using a1,a2,by omega,a4,a5⟩
  · rw [hlv] at h
    obtain ⟨a1,a2,a3⟩:=I.itip id L h
    refine ⟨a1.keep rfl (hsame _ (fun eb => a3 i (eb ▸ hm))),a2,a3⟩
theorem box_as {z:List AV} {r:AV} {v:Value} (h:Step base prot tips S w mu hw ti tips (S ++ [.mem z [] false]) w' (.ptr S.length 0) (.pointer (some ⟨w.heap.size,0,none⟩)))
    (hr:∀ mu' hw' w' lk',mu' S.length=some w.heap.size → RV w' mu' hw' lk' r v) (hf:∀ lv ti',Flag lv ti' r v):Step base prot tips S w mu hw ti tips (S ++ [.mem z [] false]) w' r v:=by
  obtain ⟨mu2,hw2,ti2,I2,e2,l2,r2,f2,n2⟩:=h
  have hm:mu2 S.length=some w.heap.size:=by cases r2; assumption
  exact ⟨mu2,hw2,ti2,I2,e2,l2,hr _ _ _ _ hm,hf _ _,n2⟩
theorem step_drew (h:∀ I:Inv base prot tips S w.drew mu hw ti,Step base prot tips S w.drew mu hw ti tips' S' w' r v) (I:Inv base prot tips S w mu hw ti):Step base prot tips S w mu hw ti tips' S' w' r v:=by
  obtain ⟨I1,e1⟩:=inv_drew I
  obtain ⟨mu2,hw2,ti2,I2,e2,l2,r2,f2,n2⟩:=h I1
  exact ⟨mu2,hw2,ti2,I2,e1.trans e2,l2,r2,f2,n2⟩
theorem strM_sound (I:Inv base prot tips S w mu hw ti) {src dst:TypeId} {x r:AV} {v:Value} (hx:RV w mu hw (lkS S mu) x v) (ht:bytesT P src dst=true) (h:strM S x=some r) :
    ∃ y,(convert src dst v).run P w=.ok y w ∧ Step base prot tips S w mu hw ti tips S w r y:=by
  obtain ⟨hd,e,he,hu8⟩:P.underlying dst=some .string ∧ ∃ e,elemT P src=some e ∧ P.underlying e=some (.int .u8):=by
    unfold bytesT at ht
    split at ht
    · rename_i h1 h2
      rw [Option.bind_eq_some_iff] at h2
      exact ⟨h1,h2⟩
    · cases ht
  unfold strM at h
  split at h
  case h_2 => cases h
  rename_i i off len hs
  split at h
  case h_2 => cases h
  rename_i cs bt l hS
  split at h
  case isFalse => cases h
  rename_i hle
  simp only [bytesTo,Option.map_map,Option.map_eq_some_iff,Function.comp] at h
  obtain ⟨ns,hl,rfl⟩:=h
  obtain ⟨n1,n2⟩:=numsOf_spec _ _ hl
  have hlen:((sub cs off len).map fun c => [c]).length=len:=by simp [sub]; omega
  obtain ⟨b,cap,hb,rfl,_,_⟩:=spot_rv hx hs
  obtain ⟨vs,el,hvs,hrb⟩:=I.ibox i _ b hS hb
  refine ⟨_,run_convert_bytes_arg w src e (elemT_of he) hu8 b off len cap ns (by omega) (fun k hk => ?_) dst hd,Step.pure I (str_mk _ _ (strOfNums_data ns)) (by simp [Flag,Flag1])⟩
  have c1:=n2 k (by omega)
  have c2:cs[off + k]?=some (.int .u8 (ns.getD k 0)):=by
    simp only [List.getElem?_map,sub,Option.map_eq_some_iff] at c1
    obtain ⟨a,ha,e1⟩:=c1
    rw [List.getElem?_take_of_lt hk,List.getElem?_drop] at ha
    rw [ha]
    simpa using e1
  obtain ⟨_,y,hy,hr⟩:=hrb.2 _ _ c2
  rw [cell_of_block hvs,hy]
  cases hr
  rfl
theorem appendO_sound (I:Inv base prot tips S w mu hw ti) {ts:Array TypeId} (hts:ts.size ≠ 3) {ty:TypeId} {args:Array Value} {s x r:AV} {v vx:Value} (h0:args[0]?=some v) (h1:args[1]?=some vx)
    (hv:RV w mu hw (lkS S mu) s v) (hx:RV w mu hw (lkS S mu) x vx) (h:evAppendO P S ts s x=some (r,S')) :
    ∃ y w',(Builtin.append_ ts ty args).run P w=.ok y w' ∧ Step base prot tips S w mu hw ti tips S' w' r y:=by
  unfold evAppendO at h
  rw [if_neg hts] at h
  split at h
  case h_2 => simp at h
  rename_i e sz xz xs ha he
  obtain ⟨_,_,_,_,_,_,_,_,_,_,_,_,_,_,_,hsz⟩:=appSz_spec ha
  cases hv
  split at h
  · rename_i hx0
    obtain ⟨l1,l2⟩:=elems_run (P:=P) I hx he hsz (fun c => absurd hx0 c)
    rw [hx0] at l1
    obtain ⟨cells,c1,c2⟩:=l2 0 (by omega)
    have hce:cells=#[]:=by
      have:=c2.size
      simpa using this
    rw [hce] at c1
    simp at h
    obtain ⟨rfl,rfl⟩:=h
    exact ⟨_,_,append_none ha h0 h1 l1 c1 (Nat.le_refl _),Step.pure I .nils (by simp [Flag,Flag1])⟩
  · rename_i hx0
    split at h
    · simp at h
    rename_i hc
    simp at h
    obtain ⟨rfl,rfl⟩:=h
    have hxz:xz=sz:=Classical.byContradiction fun e => hc (.inl e)
    subst hxz
    have hlim:xs.length ≤ 1073741824:=Nat.le_of_not_lt fun e => hc (.inr e)
    obtain ⟨l1,_⟩:=elems_run (P:=P) I hx he hsz (fun _ => rfl)
    obtain ⟨Id1,ed1⟩:=inv_drew I
    obtain ⟨_,l2'⟩:=elems_run (P:=P) Id1 (ed1.rv hx) he hsz (fun _ => rfl)
    obtain ⟨new,n1,n2⟩:=l2' xs.length (Nat.le_refl _)
    rw [List.take_length] at n2
    obtain ⟨newCap,rest,c1,c2,c3⟩:=append_grows (ty:=ty) (len:=0) (cap:=0) (old:=#[]) ha h0 h1 l1 (by simp [Builtin.firstCells]) n1 (by omega) (by omega)
    refine ⟨_,_,c3,?_⟩
    refine step_drew (fun Id2 => ?_) I
    have hl:=n2.rl
    have hes:=n2.size
    refine box_as (inv_boxL Id2 ?_ (fun j x hj => ?_)) (fun mu' hw' w' lk' hm => ?_) fun _ _ => trivial
    · have:=hl.1
      simp; simp at this; omega
    · obtain ⟨p,y,hy,hr⟩:=hl.2 j x hj
      refine ⟨p,y,?_,hr⟩
      have:=lt_of_aget hy
      rw [Array.getElem?_append_left (by simp; omega)]
      simpa using hy
    · rw [Nat.zero_add]
      exact .oref _ 0 _ _ w.heap.size newCap hm ⟨by omega,hsz⟩
theorem rep_rl {lk:Nat → Prop} {z:List AV} {vz:Value} {sz:Nat} (n:Nat) (hzl:z.length=sz) (z2:RL w mu hw lk z vz.cells):RL w mu hw lk (List.replicate n z).flatten ((Array.range (n * sz)).map (vz.cells[· % vz.cells.size]!)):=by
  have hrl:∀ (i:Nat) (cs:List AV),(List.replicate n z)[i]?=some cs → cs.length=sz:=by
    intro i cs hi
    rw [List.getElem?_replicate] at hi
    split at hi
    · cases hi; exact hzl
    · cases hi
  have hvz:vz.cells.size=sz:=by rw [← z2.1]; exact hzl
  refine ⟨by rw [flatten_len _ hrl]; simp,fun k x hk => ?_⟩
  obtain ⟨i,cs,j,h1,h2,rfl⟩:=flatten_get _ hrl k x hk
  have hi:=lt_of_get h1
  have hj:=lt_of_get h2
  rw [hrl i cs h1] at hj
  simp at hi
  have hcs:cs=z:=by
    rw [List.getElem?_replicate,if_pos hi] at h1
    exact (Option.some.inj h1).symm
  subst hcs
  obtain ⟨p,y,hy,hr⟩:=z2.2 j x h2
  refine ⟨p,y,?_,hr⟩
  have hlt:i * sz + j < n * sz:=idx_lt hi hj
  have e1:(i * sz + j) % sz=j:=by rw [Nat.mul_comm,Nat.mul_add_mod,Nat.mod_eq_of_lt hj]
  have hjz:j < vz.cells.size:=by omega
  rw [Array.getElem?_eq_getElem hjz] at hy
  simp only [Array.getElem?_map,Array.getElem?_range,hlt,if_true,Option.map_some,hvz,e1]
  rw [getElem!_pos (vz.cells) j hjz]
  exact hy
theorem make_sound (I:Inv base prot tips S w mu hw ti) {t:TypeId} {l c r:AV} {vl vc:Value} (hl:RV w mu hw (lkS S mu) l vl) (hc:RV w mu hw (lkS S mu) c vc) (h:evMake P S t l c=some (r,S')) :
    ∃ y w',(Instr.makeSlice t vl vc).run P w=.ok y w' ∧ Step base prot tips S w mu hw ti tips S' w' r y:=by
  unfold evMake at h
  split at h
  case h_2 => simp at h
  rename_i e he
  split at h
  case h_2 => simp at h
  rename_i sz bs z _ l _ c hsz hbs hz
  split at h
  case isFalse => simp at h
  rename_i hcond
  obtain ⟨k1,k2,k3,k4,k5,k6⟩:=hcond
  simp at h
  obtain ⟨rfl,rfl⟩:=h
  cases hl; cases hc
  obtain ⟨vz,z1,z2⟩:=zero_sound (P:=P) (w:=w) (mu:=mu) (hw:=hw) (lk:=lkS S mu) hz
  obtain ⟨i,hi⟩:∃ i,P.info? e=some i:=by
    unfold bytesOf at hbs
    simp only [Option.map_eq_some_iff] at hbs
    obtain ⟨i,hi,_⟩:=hbs
    exact ⟨i,hi⟩
  have hb:i.bytes=bs:=by simpa [bytesOf,hi] using hbs
  have hs:i.size=sz:=by
    unfold szOf at hsz
    rw [hi] at hsz
    split at hsz
    · rename_i i' d h1 h2
      cases h1
      simpa using hsz
    · simp at hsz
  obtain ⟨zv,hzv⟩:∃ zv,i.zero=some zv:=by
    unfold zeroOf at hz
    rw [hi] at hz
    cases hzz:i.zero with
    | none => simp [hzz] at hz
    | some zv => exact ⟨zv,rfl⟩
  have hzz:vz=zv:=by
    have h2:(zeroValue e).run P w=.ok zv w:=by simp [zeroValue,typeInfo,hi,hzv]
    rw [z1] at h2
    cases h2; rfl
  subst hzz
  have hb2:(i.bytes:Int) * c ≤ 281474976710656:=by
    have h1:(i.bytes:Int) * c ≤ 65536 * c:=Int.mul_le_mul_of_nonneg_right (by omega) (by omega)
    omega
  refine ⟨_,_,run_make (P:=P) w t e i vz (elemT_of he) hi hzv _ _ l c k1 k2 hb2 (by omega),?_⟩
  have hrl:=rep_rl (w:=w) (mu:=mu) (hw:=hw) (lk:=lkS S mu) (vz:=vz) c.toNat k6 z2
  rw [hs]
  refine box_as (inv_boxL I (Nat.le_of_eq hrl.1) hrl.2) (fun mu' hw' w' lk' hm => ?_) fun _ _ => trivial
  exact .aref _ 0 _ _ _ w.heap.size hm ⟨by omega,k5⟩
theorem clear_sound (I:Inv base prot tips S w mu hw ti) {ts:Array TypeId} {ty:TypeId} {args:Array Value} {d:AV} {vd:Value} (h0:args[0]?=some vd) (hd:RV w mu hw (lkS S mu) d vd) (h:evClear P S ts d=some S') :
    ∃ w',(Builtin.clear_ ts ty args).run P w=.ok (.tuple #[]) w' ∧ Step base prot tips S w mu hw ti tips S' w' (.tup []) (.tuple #[]):=by
  have und:∀ (w:World) mu hw lk,RV w mu hw lk (.tup []) (.tuple #[]):=fun w mu hw lk => by
    simpa using RV.tup (w:=w) (mu:=mu) (hw:=hw) (lk:=lk) [] (fun _ => .bool false) (by simp)
  have fu:∀ (lv:Live) (ti:Id → TI),Flag lv ti (.tup []) (.tuple #[]):=by intro lv ti arr _ j x y hx; simp at hx
  unfold evClear at h
  split at h
  case h_2 => simp at h
  rename_i e he
  rw [Option.bind_eq_some_iff] at he
  obtain ⟨t,ht,he⟩:=he
  have hu:=elemT_of he
  split at h
  case h_2 => simp at h
  rename_i sz z hsz hz
  split at h
  · simp at h; subst h
    cases hd
    refine ⟨w,?_,Step.pure I (und _ _ _ _) (fu _ _)⟩
    simp [Builtin.clear_,ht,h0,und_of hu]
  · simp at h; subst h
    cases hd with
    | emp _ p cap =>
      refine ⟨w,?_,Step.pure I (und _ _ _ _) (fu _ _)⟩
      cases p <;> simp [Builtin.clear_,ht,h0,und_of hu]
    | sl _ _ _ b o len cap f g0 hr hb hl hs g1 g2 =>
      obtain rfl:len=0:=by simpa using g0.1
      refine ⟨w,?_,Step.pure I (und _ _ _ _) (fu _ _)⟩
      simp [Builtin.clear_,ht,h0,und_of hu]
  · split at h
    case h_2 => simp at h
    rename_i i off len dz hsp
    obtain ⟨b,cap,hb,rfl,g0⟩:=spot_rv hd hsp
    split at h
    · simp at h
    rename_i hc
    have hsz0:sz ≠ 0:=fun e => hc (.inl e)
    have hdz:dz=sz:=Classical.byContradiction fun e => hc (.inr (.inl e))
    have hzl:z.length=sz:=Classical.byContradiction fun e => hc (.inr (.inr e))
    split at h
    case h_2 => simp at h
    rename_i cs bt hS
    split at h
    case isFalse => simp at h
    rename_i hle
    simp at h; subst h
    obtain ⟨vs,el,hvs,hrb⟩:=I.ibox i _ b hS hb
    obtain ⟨vz,z1,z2⟩:=zero_sound (P:=P) (w:=w) (mu:=mu) (hw:=hw) (lk:=lkS S mu) hz
    have hrl:=rep_rl (w:=w) (mu:=mu) (hw:=hw) (lk:=lkS S mu) (vz:=vz) len hzl z2
    have hvz:vz.cells.size=sz:=by rw [← z2.1]; exact hzl
    have hlen:(List.replicate len z).flatten.length=len * sz:=by rw [hrl.1]; simp
    by_cases hl0:len=0
    · subst hl0
      have e0:splice cs off (List.replicate 0 z).flatten=cs:=by simp [splice]
      rw [e0]
      have e1:S.set i (.mem cs bt false)=S:=by
        apply List.ext_getElem?
        intro k
        by_cases hk:k=i
        · subst hk; rw [List.getElem?_set_self (lt_of_get hS),hS]
        · rw [List.getElem?_set_ne (fun e => hk e.symm)]
      rw [e1]
      refine ⟨w,?_,Step.pure I (und _ _ _ _) (fu _ _)⟩
      simp [Builtin.clear_,ht,h0,und_of hu]
    · obtain ⟨w',w1,w2⟩:=write_plain (P:=P) (off:=off) I hS hb hvs hrb hrl (by rw [hlen]; exact hdz ▸ hle) (und _ _ _ _) (fu _ _)
      refine ⟨w',?_,w2⟩
      obtain ⟨n,rfl⟩:∃ n,len=n + 1:=⟨len - 1,by omega⟩
      have ezc:Builtin.zeroCells vz.cells (n + 1)=(Array.range ((n + 1) * sz)).map (vz.cells[· % vz.cells.size]!):=by simp [Builtin.zeroCells,hvz]
      rw [← ezc] at w1
      simp [Builtin.clear_,ht,h0,und_of hu,z1,w1]
theorem range_sound (I:Inv base prot tips S w mu hw ti) {t:TypeId} {x r:AV} {vx:Value} (hx:RV w mu hw (lkS S mu) x vx) (h:evRange P S t x=some (r,S')) :
    ∃ y w',(Instr.range t vx).run P w=.ok y w' ∧ Step base prot tips S w mu hw ti tips S' w' r y:=by
  unfold evRange at h
  split at h
  case h_2 => simp at h
  rename_i s hu
  simp at h
  obtain ⟨rfl,rfl⟩:=h
  cases hx with
  | str s =>
    refine ⟨_,_,?_,inv_iter I s.data.toList 0⟩
    simp only [Instr.range,Sem.run_bind,und_of hu,Result.andThen_ok,Sem.run_pure,run_newObj]
    rfl
theorem next_sound (I:Inv base prot tips S w mu hw ti) {ty:TypeId} {x r:AV} {vx:Value} (hx:RV w mu hw (lkS S mu) x vx) (h:evNext S x=some (r,S')) :
    ∃ y w',(Instr.next vx true ty).run P w=.ok y w' ∧ Step base prot tips S w mu hw ti tips S' w' r y:=by
  unfold evNext at h
  split at h
  case h_2 => simp at h
  rename_i i
  split at h
  case h_2 => simp at h
  rename_i s pos hS
  cases hx with
  | ptr _ _ b hb =>
    have hB:w.heap[b]?=some (.stringIter ⟨s.toArray⟩ pos):=I.ibox i _ b hS hb
    have hsz:(⟨s.toArray⟩:ByteArray).size=s.length:=by simp [ByteArray.size]
    split at h
    · rename_i hlt
      simp at h
      obtain ⟨rfl,rfl⟩:=h
      generalize hdec:Utf8.decode ⟨s.toArray⟩ pos=dc
      obtain ⟨c,wd⟩:=dc
      have hlt':pos < (⟨s.toArray⟩:ByteArray).size:=by rw [hsz]; exact hlt
      refine ⟨.tuple #[.bool true,goInt pos,.int .i32 c],{ w with heap:=w.heap.setIfInBounds b (.stringIter ⟨s.toArray⟩ (pos + wd)) },?_,?_⟩
      · simp [Instr.next,getObj,setObj,Sem.run,hB,hlt',hdec]
      · obtain ⟨a1,a2,a3,a4,a5⟩:=I.idom i b hb
        obtain ⟨I',e⟩:=inv_step (pos':=pos + wd) (w':={ w with heap:=w.heap.setIfInBounds b (.stringIter ⟨s.toArray⟩ (pos + wd)) }) I hS hb (by simp [a3]) (fun k hk => by rw [Array.getElem?_setIfInBounds,if_neg (fun e => hk e.symm)]) (by simp) ⟨rfl,rfl,rfl,Nat.le_refl _⟩
        have hlv:live tips (S.set i (.iter s (pos + wd))) mu=live tips S mu:=by
          funext id
          cases id with
          | fr n => rfl
          | bx k j =>
            by_cases hk:k=i
            · subst hk; simp only [live,hb,hS,List.getElem?_set_self (lt_of_get hS)]
            · simp only [live,List.getElem?_set_ne (fun e => hk e.symm)]
        refine ⟨mu,hw,ti,I',e,by rw [hlv]; exact LvExt.refl _ _,?_,?_,fun k hk hlt => ⟨?_,hk⟩⟩
        · have:=RV.tup (w:={ w with heap:=w.heap.setIfInBounds b (.stringIter ⟨s.toArray⟩ (pos + wd)) }) (mu:=mu) (hw:=hw) (lk:=lkS (S.set i (.iter s (pos + wd))) mu) [.bool true,.int .i64 pos,.int .i32 c] (fun j => if j=0 then .bool true else if j=1 then goInt pos else .int .i32 c) (by
            intro j a hj
            rcases j with _ | _ | _ | j
            · simp at hj; subst hj; exact .bool _
            · simp at hj; subst hj; exact .int _ _
            · simp at hj; subst hj; exact .int _ _
            · simp at hj)
          simpa [List.range,List.range.loop] using this
        · intro arr e j x y hx hy
          rcases j with _ | _ | _ | j <;> simp at hx <;> subst hx <;> trivial
        · exact List.getElem?_set_ne (fun e => by subst e; rw [hb] at hk; cases hk)
    · rename_i hlt
      simp at h
      obtain ⟨rfl,rfl⟩:=h
      refine ⟨.tuple #[.bool false],w,?_,Step.pure I ?_ ?_⟩
      · simp [Instr.next,getObj,Sem.run,hB,hsz,hlt]
      · have:=RV.tup (w:=w) (mu:=mu) (hw:=hw) (lk:=lkS S mu) [.bool false] (fun _ => .bool false) (by intro j a hj; cases j <;> simp at hj; subst hj; exact .bool _)
        simpa using this
      · intro arr e j x y hx hy
        cases j <;> simp at hx
        subst hx; trivial
end
end Go.Proofs.YtekgdmhdkhgpjaaGreatDoor.am

namespace Go.Proofs.YtekgdmhdkhgpjaaGreatDoor.am
open Go Go.RowKit
section
variable {P:Program} {base:Nat} {prot:Nat → Prop} {tips tips':List (Option Nat)} {S S':St} {w w':World} {mu:Nat → Option Nat} {hw hw':Nat → Nat} {ti ti':Id → TI}
theorem new_sound (I:Inv base prot tips S w mu hw ti) {o:Oper} {r:AV} (ρ:Operand → AV) (ev:Operand → Value) (hρ:∀ x,RV w mu hw (lkS S mu) (ρ x) (ev x)) (h:evNew P ρ o.op=some r) :
    ∃ v w',(execOp ev o).run P w=.ok (.value v) w' ∧ Step base prot tips S w mu hw ti tips S w' r v:=by
  have wrap:∀ {s:Sem Value} {v:Value} {w':World},s.run P w=.ok v w' → (do pure (.value (← s)):Sem Next).run P w=.ok (.value v) w':=by
    intro s v w' hs; simp [hs]
  obtain ⟨dst,op,type,pos,after,guard⟩:=o
  simp only at h
  unfold evNew at h
  split at h
  · obtain ⟨y,w',h1,h2⟩:=buildSlice_sound I ρ ev hρ h
    exact ⟨y,w',wrap h1,h2⟩
  · obtain ⟨y,w',h1,h2⟩:=bytes_sound I (hρ _) h
    exact ⟨y,w',wrap h1,h2⟩
  · simp at h
theorem mem_sound {E:Env} (I:Inv base prot E.tips S w mu hw ti) {o:Oper} {r:AV} (ev:Operand → Value) (hρ:∀ x,RV w mu hw (lkS S mu) (E.ev x) (ev x) ∧ Flag (live E.tips S mu) ti (E.ev x) (ev x))
    (h:evMem P E E.ev S o.op=some (r,tips',S')) :
    ∃ nx v w',(execOp ev o).run P w=.ok nx w' ∧ (nx=.value v ∨ nx=.skip ∧ v=undef) ∧ Step base prot E.tips S w mu hw ti tips' S' w' r v:=by
  have wrap:∀ {s:Sem Value} {v:Value} {w':World},s.run P w=.ok v w' → (do pure (.value (← s)):Sem Next).run P w=.ok (.value v) w':=by
    intro s v w' hs; simp [hs]
  obtain ⟨dst,op,type,pos,after,guard⟩:=o
  simp only at h
  unfold evMem at h
  split at h
  · rename_i t
    simp only [Option.map_eq_some_iff,Prod.mk.injEq] at h
    obtain ⟨z,hz,rfl,rfl,rfl⟩:=h
    obtain ⟨vz,z1,z2⟩:=zero_sound (P:=P) (w:=w) (mu:=mu) (hw:=hw) (lk:=lkS S mu) hz
    refine ⟨_,_,_,wrap (v:=.pointer (some ⟨w.heap.size,0,none⟩)) (w':=w.alloc (.cells vz.cells t)) ?_,.inl rfl,inv_box I z2⟩
    simp [Instr.alloc,z1,newVar,newRow]
  · rename_i t x
    split at h
    case h_2 => simp at h
    rename_i n hn
    split at h
    case isFalse => simp at h
    rename_i hc
    simp at h
    obtain ⟨rfl,rfl,rfl⟩:=h
    refine ⟨_,_,_,wrap (v:=.pointer (some ⟨w.heap.size,0,none⟩)) (w':=w.alloc (.cells (ev x).cells t)) ?_,.inl rfl,inv_box I (vcells (hρ x).1 hc.1)⟩
    simp [Instr.box,newVar,newRow]
  · rename_i t p
    simp only [Option.map_eq_some_iff,Prod.mk.injEq] at h
    obtain ⟨v,hv,rfl,rfl,rfl⟩:=h
    obtain ⟨y,h1,h2,h3⟩:=load_run (P:=P) I (hρ p).1 hv
    exact ⟨_,y,w,wrap h1,.inl rfl,Step.pure I h2 h3⟩
  · rename_i t p x
    simp only [Option.map_eq_some_iff,Prod.mk.injEq] at h
    obtain ⟨rr,hrr,rfl,rfl,rfl⟩:=h
    obtain ⟨w',h1,h2⟩:=store_sound (P:=P) I rfl (hρ p).1 (hρ x).1 (hρ x).2 hrr
    exact ⟨.skip,undef,w',by simp [execOp,h1],.inr ⟨rfl,rfl⟩,h2 _⟩
  · rename_i args ts
    split at h
    case h_2 => simp at h
    rename_i s x h0 h1
    obtain ⟨y,w',a1,a2⟩:=append_sound (P:=P) (ty:=type) (args:=args.map ev) (v:=ev s) (vx:=ev x) I (by simp [h0]) (by simp [h1]) (hρ s).1 (hρ s).2 (hρ x).1 h
    exact ⟨_,y,w',by simp [execOp,resolve,invoke,builtin,a1],.inl rfl,a2⟩
  · rename_i args ts
    split at h
    case h_2 => simp at h
    rename_i d x h0 h1
    simp only [Option.map_eq_some_iff,Prod.mk.injEq] at h
    obtain ⟨rr,hrr,rfl,rfl,rfl⟩:=h
    obtain ⟨y,w',a1,a2⟩:=copy_sound (P:=P) (ty:=type) (args:=args.map ev) (vd:=ev d) (vx:=ev x) I (by simp [h0]) (by simp [h1]) (hρ d).1 (hρ x).1 hrr
    exact ⟨_,y,w',by simp [execOp,resolve,invoke,builtin,a1],.inl rfl,a2⟩
  · rename_i args ts
    split at h
    case h_2 => simp at h
    rename_i d h0
    simp only [Option.map_eq_some_iff,Prod.mk.injEq] at h
    obtain ⟨rr,hrr,rfl,rfl,rfl⟩:=h
    obtain ⟨w',a1,a2⟩:=clear_sound (P:=P) (ty:=type) (args:=args.map ev) (vd:=ev d) I (by simp [h0]) (hρ d).1 hrr
    exact ⟨_,_,w',by simp [execOp,resolve,invoke,builtin,a1],.inl rfl,a2⟩
  · rename_i t l c
    simp only [Option.map_eq_some_iff,Prod.mk.injEq] at h
    obtain ⟨rr,hrr,rfl,rfl,rfl⟩:=h
    obtain ⟨y,w',a1,a2⟩:=make_sound (P:=P) I (hρ l).1 (hρ c).1 hrr
    exact ⟨_,y,w',wrap a1,.inl rfl,a2⟩
  · rename_i t x
    simp only [Option.map_eq_some_iff,Prod.mk.injEq] at h
    obtain ⟨rr,hrr,rfl,rfl,rfl⟩:=h
    obtain ⟨y,w',a1,a2⟩:=range_sound (P:=P) I (hρ x).1 hrr
    exact ⟨_,y,w',wrap a1,.inl rfl,a2⟩
  · rename_i p
    simp only [Option.map_eq_some_iff,Prod.mk.injEq] at h
    obtain ⟨rr,hrr,rfl,rfl,rfl⟩:=h
    obtain ⟨y,w',a1,a2⟩:=next_sound (P:=P) (ty:=type) I (hρ p).1 hrr
    exact ⟨_,y,w',wrap a1,.inl rfl,a2⟩
  · simp at h
def isCall:Op → Bool
  | .call ⟨.value _,_,_⟩ => true
  | _ => false
theorem op_sound {E:Env} {call:Caller} (I:Inv base prot E.tips S w mu hw ti) {o:Oper} {r:AV} {a:Act} (SL:Slots S w mu hw (live E.tips S mu) ti E.slots a.tmps) (hn:isCall o.op=false)
    (h:evOp P call E S o.op=some (r,tips',S')) :
    ∃ nx v w',(execOp a.eval o).run P w=.ok nx w' ∧ (nx=.value v ∨ nx=.skip ∧ v=undef) ∧ Step base prot E.tips S w mu hw ti tips' S' w' r v:=by
  have hρ:=fun x => SL.eval (E:=E) (a:=a) I.iglb x
  unfold evOp at h
  split at h
  · rename_i heq
    rw [heq] at hn
    simp [isCall] at hn
  · split at h
    · rename_i v hv
      simp at h
      obtain ⟨rfl,rfl,rfl⟩:=h
      obtain ⟨y,h1,h2,h3⟩:=pure_sound (P:=P) E.ev a.eval hρ hv
      exact ⟨_,y,w,h1,.inl rfl,Step.pure I h2 h3⟩
    · split at h
      · rename_i v hv
        simp at h
        obtain ⟨rfl,rfl,rfl⟩:=h
        obtain ⟨y,w',h1,h2⟩:=new_sound (P:=P) I E.ev a.eval (fun x => (hρ x).1) hv
        exact ⟨_,y,w',h1,.inl rfl,h2⟩
      · exact mem_sound I a.eval hρ h
theorem own_sound {E:Env} (I:Inv base prot E.tips S w mu hw ti) {o:Oper} {r:AV} {a:Act} {os ox:Operand} {ts:Array TypeId} (SL:Slots S w mu hw (live E.tips S mu) ti E.slots a.tmps) (ho:ownOp o=some (os,ox,ts))
    (h:evAppendO P S ts (E.ev os) (E.ev ox)=some (r,S')) :
    ∃ v w',(execOp a.eval o).run P w=.ok (.value v) w' ∧ Step base prot E.tips S w mu hw ti E.tips S' w' r v:=by
  have hρ:=fun x => SL.eval (E:=E) (a:=a) I.iglb x
  obtain ⟨dst,op,type,pos,after,guard⟩:=o
  unfold ownOp at ho
  simp only at ho
  split at ho
  case h_3 => simp at ho
  · rename_i s d x
    split at ho
    case isFalse => simp at ho
    simp at ho
    obtain ⟨rfl,rfl,rfl⟩:=ho
    simp only [evAppendO,List.size_toArray,List.length_cons,List.length_nil,if_true,List.getElem?_toArray,List.getElem?_cons_zero,List.getElem?_cons_succ] at h
    split at h
    case isFalse => cases h
    rename_i hb
    simp only [Option.map_eq_some_iff,Prod.mk.injEq] at h
    obtain ⟨r1,h1,rfl,rfl⟩:=h
    obtain ⟨y,a1,a2⟩:=strM_sound (P:=P) I (hρ x).1 hb h1
    exact ⟨y,w,by simp [execOp,a1],a2⟩
  rename_i args ts'
  split at ho
  case isFalse => simp at ho
  rename_i hcc
  split at ho
  case h_2 => simp at ho
  rename_i s' x' h0 h1
  simp at ho
  obtain ⟨rfl,rfl,rfl⟩:=ho
  obtain ⟨y,w',a1,a2⟩:=appendO_sound (P:=P) (hts:=hcc.2) (ty:=type) (args:=args.map a.eval) (v:=a.eval s') (vx:=a.eval x') I (by simp [h0]) (by simp [h1]) (hρ s').1 (hρ x').1 h
  exact ⟨y,w',by simp [execOp,resolve,invoke,builtin,a1],a2⟩
end
end Go.Proofs.YtekgdmhdkhgpjaaGreatDoor.am

namespace Go.Proofs.YtekgdmhdkhgpjaaGreatDoor.am
open Go Go.RowKit
theorem ltL_iff {m:Nat} {q:Nat → Bool}:∀ {l:List AV},ltL m q l=true ↔ ∀ x ∈ l,lt m q x=true
  | [] => by simp [ltL]
  | v :: r => by simp [ltL,ltL_iff (l:=r)]
theorem ltEs_iff {m:Nat} {q:Nat → Bool}:∀ {l:List (List AV)},ltEs m q l=true ↔ ∀ x ∈ l,ltL m q x=true
  | [] => by simp [ltEs]
  | v :: r => by simp [ltEs,ltEs_iff (l:=r)]
theorem ltL_get {m:Nat} {q:Nat → Bool} {l:List AV} (h:ltL m q l=true) {j:Nat} {x:AV} (hj:l[j]?=some x):lt m q x=true:=ltL_iff.1 h x (List.mem_of_getElem? hj)
theorem ltEs_get {m:Nat} {q:Nat → Bool} {l:List (List AV)} (h:ltEs m q l=true) {i j:Nat} {cs:List AV} {x:AV} (hi:l[i]?=some cs) (hj:cs[j]?=some x):lt m q x=true :=
  ltL_get (ltEs_iff.1 h cs (List.mem_of_getElem? hi)) hj
theorem immR_restrict {r:Right} {mu mu':Nat → Option Nat} {hw:Nat → Nat} {lk lk':Nat → Prop} {m b o:Nat} {q:Nat → Bool} (hr:rlt m q r=true) (hmu:∀ i b,i < m → mu i=some b → mu' i=some b) (hlk:∀ i b,i < m → q i=true → mu i=some b → lk b → lk' b)
    (h:immR r mu hw lk b o):immR r mu' hw lk' b o:=by
  cases r with
  | loan i =>
    have hi:i < m ∧ q i=true:=by simpa [rlt] using hr
    exact ⟨hmu i b hi.1 h.1,hlk i b hi.1 hi.2 h.1 h.2⟩
  | _ => exact h
theorem RV.restrict {w:World} {mu mu':Nat → Option Nat} {hw:Nat → Nat} {lk lk':Nat → Prop} {m:Nat} {q:Nat → Bool} (hmu:∀ i b,i < m → mu i=some b → mu' i=some b) (hlk:∀ i b,i < m → q i=true → mu i=some b → lk b → lk' b)
    {a:AV} {v:Value} (h:RV w mu hw lk a v):lt m q a=true → RV w mu' hw lk' a v:=by
  induction h with
  | undef v => exact fun _ => .undef v
  | bool b => exact fun _ => .bool b
  | int k n => exact fun _ => .int k n
  | str s => exact fun _ => .str s
  | nilp => exact fun _ => .nilp
  | ptr i off b h => exact fun hl => .ptr i off b (hmu i b (by simpa [lt] using hl) h)
  | rptr r cs off b o f hr h1 h2 ih =>
    intro hl
    simp only [lt,Bool.and_eq_true] at hl
    refine .rptr r cs off b o f (hr.imp id fun ⟨i,e,p,hk⟩ => by
      subst e
      have hi:i < m ∧ q i=true:=by simpa [rlt] using hl.1
      exact ⟨i,rfl,hmu i b hi.1 p,hlk i b hi.1 hi.2 p hk⟩) (fun j a hj => ?_) fun j a hj => ih j a hj (ltL_get hl.2 hj)
    obtain ⟨x,y,z⟩:=h1 j a hj
    exact ⟨x,immR_restrict hl.1 hmu hlk y,z⟩
  | nils => exact fun _ => .nils
  | sl r sz es b o len cap f h0 hr hb hlo hs h1 h2 ih =>
    intro hl
    simp only [lt,Bool.and_eq_true] at hl
    refine .sl r sz es b o len cap f h0 hr (fun i j e => ?_) (fun i e => ?_) hs (fun i cs j a hi hj => ?_) fun i cs j a hi hj => ih i cs j a hi hj (ltEs_get hl.2 hi hj)
    · subst e
      obtain ⟨b',hb'⟩:=hb i j rfl
      exact ⟨b',hmu i b' (by simpa [rlt] using hl.1) hb'⟩
    · subst e
      obtain ⟨h3,h4⟩:=hlo i rfl
      have hi:i < m ∧ q i=true:=by simpa [rlt] using hl.1
      exact ⟨hmu i b hi.1 h3,hlk i b hi.1 hi.2 h3 h4⟩
    · obtain ⟨x,y,z⟩:=h1 i cs j a hi hj
      exact ⟨x,immR_restrict hl.1 hmu hlk y,z⟩
  | emp sz p cap => exact fun _ => .emp sz p cap
  | emp0 sz p => exact fun _ => .emp0 sz p
  | oref i off len sz b cap h h0 => exact fun hl => .oref i off len sz b cap (hmu i b (by simpa [lt] using hl) h) h0
  | aref i off len cap sz b h h0 => exact fun hl => .aref i off len cap sz b (hmu i b (by simpa [lt] using hl) h) h0
  | fn g first caps f1 f2 n1 n2 ih1 ih2 =>
    intro hl
    simp only [lt,Bool.and_eq_true] at hl
    exact .fn g first caps f1 f2 (fun j a hj => ih1 j a hj (ltL_get hl.1 hj)) (fun j a hj => ih2 j a hj (ltL_get hl.2 hj))
  | nilfn => exact fun _ => .nilfn
  | ifc t a v h1 h ih => exact fun hl => .ifc t a v h1 (ih (by simpa [lt] using hl))
  | nili => exact fun _ => .nili
  | agg cs f h1 h2 ih => exact fun hl => .agg cs f h1 fun j a hj => ih j a hj (ltL_get (by simpa [lt] using hl) hj)
  | tup vs f h2 ih => exact fun hl => .tup vs f fun j a hj => ih j a hj (ltL_get (by simpa [lt] using hl) hj)
mutual
theorem plain_lt (m:Nat) (q:Nat → Bool):∀ (a:AV),plain a=true → lt m q a=true
  | .undef,h => by simp [plain] at h
  | .bool _,_ => rfl
  | .int _ _,_ => rfl
  | .str _,_ => rfl
  | .nilp,_ => rfl
  | .ptr _ _,h => by simp [plain] at h
  | .rptr .none cs _,h => by simp only [plain] at h; simp [lt,rlt,plainL_lt m q cs h]
  | .rptr .exact _ _,h => by simp [plain] at h
  | .rptr .fresh _ _,h => by simp [plain] at h
  | .rptr (.fr _) _ _,h => by simp [plain] at h
  | .rptr (.bx _ _) _ _,h => by simp [plain] at h
  | .rptr (.loan _) _ _,h => by simp [plain] at h
  | .nils,_ => rfl
  | .sl .none _ es,h => by simp only [plain] at h; simp [lt,rlt,plainEs_lt m q es h]
  | .sl .exact _ es,h => by simp only [plain] at h; simp [lt,rlt,plainEs_lt m q es h]
  | .sl .fresh _ _,h => by simp [plain] at h
  | .sl (.fr _) _ _,h => by simp [plain] at h
  | .sl (.bx _ _) _ _,h => by simp [plain] at h
  | .sl (.loan _) _ _,h => by simp [plain] at h
  | .aref _ _ _ _ _,h => by simp [plain] at h
  | .oref _ _ _ _,h => by simp [plain] at h
  | .fn _ _ _,h => by simp [plain] at h
  | .nilfn,_ => rfl
  | .ifc _ v,h => by simp only [plain] at h; simp [lt,plain_lt m q v h]
  | .nili,_ => rfl
  | .agg cs,h => by simp only [plain] at h; simp [lt,plainL_lt m q cs h]
  | .tup _,h => by simp [plain] at h
theorem plainL_lt (m:Nat) (q:Nat → Bool):∀ (l:List AV),plainL l=true → ltL m q l=true
  | [],_ => rfl
  | v :: r,h => by simp only [plainL,Bool.and_eq_true] at h; simp [ltL,plain_lt m q v h.1,plainL_lt m q r h.2]
theorem plainEs_lt (m:Nat) (q:Nat → Bool):∀ (l:List (List AV)),plainEs l=true → ltEs m q l=true
  | [],_ => rfl
  | v :: r,h => by simp only [plainEs,Bool.and_eq_true] at h; simp [ltEs,plainL_lt m q v h.1,plainEs_lt m q r h.2]
end
def OldOK (D:Nat → Prop) (m:Nat) (q:Nat → Bool) (S:St):Prop:=∀ (i:Nat) (cs:List AV) (bt:List (Option Nat)) (l:Bool),i < m → D i → S[i]?=some (.mem cs bt l) → ltL m q cs=true
structure SameC (S S':St):Prop where
  len:S'.length=S.length
  get:∀ (i:Nat),S'[i]?=S[i]? ∨ ∃ (cs:List AV) (bt bt':List (Option Nat)) (l l':Bool),S[i]?=some (Box.mem cs bt l) ∧ S'[i]?=some (Box.mem cs bt' l')
theorem SameC.refl (S:St):SameC S S:=⟨rfl,fun _ => .inl rfl⟩
theorem SameC.trans {S S' S'':St} (h:SameC S S') (k:SameC S' S''):SameC S S'':=by
  refine ⟨k.len.trans h.len,fun i => ?_⟩
  rcases k.get i with k1 | ⟨cs,bt,bt',l,l',k1,k2⟩ <;> rcases h.get i with h1 | ⟨cs0,bt0,bt0',l0,l0',h1,h2⟩
  · exact .inl (k1.trans h1)
  · exact .inr ⟨cs0,bt0,bt0',l0,l0',h1,k1.trans h2⟩
  · exact .inr ⟨cs,bt,bt',l,l',h1 ▸ k1,k2⟩
  · rw [h2] at k1
    cases k1
    exact .inr ⟨cs,bt0,bt',l0,l',h1,k2⟩
theorem SameC.set {S:St} {i:Nat} {cs:List AV} {bt bt':List (Option Nat)} {l l':Bool} (h:S[i]?=some (.mem cs bt l)):SameC S (S.set i (.mem cs bt' l')):=by
  have hi:i < S.length:=by
    rcases Nat.lt_or_ge i S.length with h1 | h1
    · exact h1
    · simp [List.getElem?_eq_none h1] at h
  refine ⟨by simp,fun k => ?_⟩
  by_cases hk:k=i
  · subst hk; exact .inr ⟨cs,bt,bt',l,l',h,by rw [List.getElem?_set_self hi]⟩
  · exact .inl (List.getElem?_set_ne fun e => hk e.symm)
theorem SameC.old {D:Nat → Prop} {m:Nat} {q:Nat → Bool} {S S':St} (h:SameC S S') (o:OldOK D m q S):OldOK D m q S':=by
  intro i cs bt l hi hd hS
  rcases h.get i with g | ⟨cs0,bt0,bt',l0,l',g1,g2⟩
  · exact o i cs bt l hi hd (g ▸ hS)
  · rw [g2] at hS
    cases hS
    exact o i cs bt0 l0 hi hd g1
theorem sameC_lockOne (S:St) (v:AV):SameC S (lockOne S v):=by
  unfold lockOne
  split
  · split
    · rename_i h; exact SameC.set h
    · exact SameC.refl S
  · exact SameC.refl S
theorem sameC_lockAll:∀ (l:List AV) (S:St),SameC S (lockAll S l)
  | [],S => SameC.refl S
  | v :: r,S => (sameC_lockOne S v).trans (sameC_lockAll r _)
theorem sameC_unlockOne (S₀ S:St) (v:AV):SameC S (unlockOne S₀ S v):=by
  unfold unlockOne
  split
  · split
    · rename_i h; exact SameC.set h
    · exact SameC.refl S
  · exact SameC.refl S
theorem sameC_unlockAll (S₀:St):∀ (l:List AV) (S:St),SameC S (unlockAll S₀ S l)
  | [],S => SameC.refl S
  | v :: r,S => (sameC_unlockOne S₀ S v).trans (sameC_unlockAll S₀ r _)
structure Keeps (nb:Nat) (S S':St):Prop where
  len:S.length ≤ S'.length
  old:∀ (D:Nat → Prop) (m:Nat) (q:Nat → Bool),m ≤ nb → OldOK D m q S → OldOK D m q S'
theorem Keeps.refl (nb:Nat) (S:St):Keeps nb S S:=⟨Nat.le_refl _,fun _ _ _ _ h => h⟩
theorem Keeps.trans {nb:Nat} {S S' S'':St} (h:Keeps nb S S') (k:Keeps nb S' S''):Keeps nb S S'':=⟨Nat.le_trans h.len k.len,fun D m q hm o => k.old D m q hm (h.old D m q hm o)⟩
theorem SameC.keeps {S S':St} (h:SameC S S') (nb:Nat):Keeps nb S S':=⟨by rw [h.len]; exact Nat.le_refl _,fun _ _ _ _ o => h.old o⟩
theorem Keeps.push {nb:Nat} {S:St} (h:nb ≤ S.length) (bx:Box):Keeps nb S (S ++ [bx]):=by
  refine ⟨by simp,fun D m q hm o i cs bt l hi hd hS => ?_⟩
  rw [List.getElem?_append_left (by omega)] at hS
  exact o i cs bt l hi hd hS
theorem Keeps.write {nb:Nat} {S:St} {i off:Nat} {cs new:List AV} {bt bt':List (Option Nat)} {l l':Bool} (h:S[i]?=some (.mem cs bt l)) (hn:nb ≤ i ∨ ∀ m q,i < m → ltL m q new=true):Keeps nb S (S.set i (.mem (splice cs off new) bt' l')):=by
  have hi:i < S.length:=by
    rcases Nat.lt_or_ge i S.length with h1 | h1
    · exact h1
    · simp [List.getElem?_eq_none h1] at h
  refine ⟨by simp,fun D m q hm o k cs' bt0 l0 hk hd hS => ?_⟩
  by_cases hki:k=i
  · subst hki
    rw [List.getElem?_set_self hi] at hS
    cases hS
    rcases hn with hn | hn
    · omega
    have h1:=o k cs bt l hk hd h
    have h2:=hn m q hk
    rw [ltL_iff] at h1 h2 ⊢
    intro x hx
    simp only [splice,List.mem_append] at hx
    rcases hx with (hx | hx) | hx
    · exact h1 x (List.mem_of_mem_take hx)
    · exact h2 x hx
    · exact h1 x (List.mem_of_mem_drop hx)
  · rw [List.getElem?_set_ne fun e => hki e.symm] at hS
    exact o k cs' bt0 l0 hk hd hS
def NewOK (n:Nat) (S':St):Prop:=∀ (i:Nat) (cs:List AV) (bt:List (Option Nat)) (l:Bool),n ≤ i → S'[i]?=some (.mem cs bt l) → ltL S'.length (fun k => decide (n ≤ k)) cs=true
def CallOld (call:Caller):Prop:=∀ f args S r S',call f args S=some (r,S') → S.length ≤ S'.length ∧ fineRes S'.length (fun k => decide (S.length ≤ k)) r=true ∧ Keeps S.length S S' ∧ NewOK S.length S'
theorem plainRes_fine {r:AV} (h:plainRes r=true) (m:Nat) (q:Nat → Bool):fineRes m q r=true:=by
  have one:∀ v:AV,(match v with | .sl .fresh _ es => plainEs es | v => plain v)=true → fine1 m q v=true:=by
    intro v hv
    split at hv
    · simp [fine1,plainEs_lt m q _ hv]
    · rename_i x hx
      have hl:=plain_lt m q v hv
      cases v with
      | sl r sz es => cases r <;> first | exact hl | exact absurd rfl (hx _ _) | simp [plain] at hv
      | tup vs => simp [plain] at hv
      | _ => exact hl
  cases r with
  | tup vs =>
    simp only [plainRes,List.all_eq_true] at h
    simp only [fineRes,List.all_eq_true]
    exact fun x hx => one x (h x hx)
  | sl rr sz es => exact one (.sl rr sz es) (by cases rr <;> exact h)
  | undef => exact one .undef h
  | bool b => exact one (.bool b) h
  | int k n => exact one (.int k n) h
  | str s => exact one (.str s) h
  | nilp => exact one .nilp h
  | ptr i o => exact one (.ptr i o) h
  | rptr r cs o => exact one (.rptr r cs o) h
  | nils => exact one .nils h
  | aref i o l c z => exact one (.aref i o l c z) h
  | oref i o l z => exact one (.oref i o l z) h
  | fn f a b => exact one (.fn f a b) h
  | nilfn => exact one .nilfn h
  | ifc t v => exact one (.ifc t v) h
  | nili => exact one .nili h
  | agg cs => exact one (.agg cs) h
theorem ofLeaf_plain {v:Value} {a:AV} (h:ofLeaf v=some a):plain a=true:=by
  unfold ofLeaf at h
  split at h <;> simp at h <;> subst h <;> rfl
theorem zero_plain {P:Program} {t:TypeId} {z:List AV} (h:zeroOf P t=some z) (m:Nat) (q:Nat → Bool):ltL m q z=true:=by
  unfold zeroOf at h
  split at h
  case h_2 => simp at h
  split at h
  case h_2 => simp at h
  rename_i z0 _
  rw [ltL_iff]
  intro x hx
  have:∀ (l:List Value) (z:List AV),l.mapM ofLeaf=some z → ∀ x ∈ z,plain x=true:=by
    intro l
    induction l with
    | nil => intro z h x hx; simp at h; subst h; simp at hx
    | cons v l ih =>
      intro z h x hx
      rw [List.mapM_cons] at h
      cases hv:ofLeaf v with
      | none => simp [hv] at h
      | some a =>
        cases hl:l.mapM ofLeaf with
        | none => simp [hv,hl] at h
        | some z' =>
          simp [hv,hl] at h
          subst h
          rcases List.mem_cons.1 hx with rfl | hx
          · exact ofLeaf_plain hv
          · exact ih z' hl x hx
  exact plain_lt m q x (this _ _ h x hx)
theorem Keeps.iter {nb:Nat} {S:St} {i:Nat} {s:List UInt8} {pos:Nat}:Keeps nb S (S.set i (.iter s pos)):=by
  refine ⟨by simp,fun D m q hm o k cs bt l hk hd hS => ?_⟩
  by_cases e:k=i
  · subst e
    rw [List.getElem?_set] at hS
    simp at hS
  · rw [List.getElem?_set_ne fun a => e a.symm] at hS
    exact o k cs bt l hk hd hS
theorem lt_noFr {m:Nat} {q:Nat → Bool} {a:AV} (h:plain (strip a)=true):∀ x ∈ a.cells,∀ i,i < m → (∀ (r:Right) sz es,x=.sl r sz es → ∀ i' j',r=.bx i' j' → i' < m) → lt m q x=true:=by
  intro x hx i _ hb
  cases a with
  | sl r sz es =>
    simp [AV.cells] at hx
    subst hx
    have hb:=hb r sz es rfl
    cases r with
    | loan k => simp [strip,plain] at h
    | bx k j =>
      simp only [strip,plain] at h
      simp [lt,rlt,hb k j rfl,plainEs_lt m q es h]
    | _ =>
      simp only [strip,plain] at h
      simp [lt,rlt,plainEs_lt m q es h]
  | agg cs =>
    simp only [strip,plain] at h
    exact ltL_iff.1 (plainL_lt m q cs h) x hx
  | _ =>
    simp [AV.cells] at hx
    subst hx
    exact plain_lt m q _ h
theorem keeps_store {P:Program} {E:Env} {S S':St} {t:TypeId} {p v:AV} {tips':List (Option Nat)} (he:evStore P E S t p v=some (tips',S')):Keeps E.nb S S':=by
  unfold evStore at he
  split at he
  case h_2 => simp at he
  split at he
  case h_2 => simp at he
  rename_i i off n hn _ cs bt hS
  split at he
  case isFalse => simp at he
  rename_i hc
  obtain ⟨hval,hlen,hle,hq⟩:=hc
  simp only [Option.some.injEq,Prod.mk.injEq] at he
  obtain ⟨rfl,rfl⟩:=he
  refine Keeps.write hS (hq.imp id fun hp m q hm => ?_)
  rw [ltL_iff]
  intro x hx
  unfold regBox at hx
  split at hx
  · rename_i k sz es
    simp only [strip,plain] at hp
    split at hx <;> simp [AV.cells] at hx <;> subst hx <;> simp [lt,rlt,hm,plainEs_lt m q es hp]
  · rename_i i' j sz es
    simp only [strip,plain] at hp
    split at hx
    · rename_i e
      simp [AV.cells] at hx
      subst hx
      simp [lt,rlt,e,hm,plainEs_lt m q es hp]
    · simp [AV.cells] at hx
      subst hx
      simp [lt,rlt,plainEs_lt m q es hp]
  · rename_i hn1 hn2
    refine lt_noFr (m:=m) hp x hx i hm fun r sz es e i' j' er => ?_
    subst er
    cases v with
    | sl r sz' es' => simp [AV.cells] at hx; subst hx; cases e; exact absurd rfl (hn2 _ _ _ _)
    | agg cs' =>
      simp only [strip,plain] at hp
      have:=ltL_iff.1 (plainL_lt m q cs' hp) x hx
      subst e
      simpa [lt,rlt] using (by simpa [lt] using this:rlt m q (.bx i' j')=true ∧ _).1
    | _ => simp [AV.cells] at hx; subst hx; cases e
theorem keeps_append {P:Program} {tips tips':List (Option Nat)} {nb:Nat} {S S':St} {ts:Array TypeId} {s x r:AV} (h:evAppend P tips S ts s x=some (r,tips',S')):Keeps nb S S':=by
  unfold evAppend at h
  repeat' split at h
  all_goals first
    | (simp at h; done)
    | (simp only [Option.some.injEq,Prod.mk.injEq] at h; obtain ⟨_,_,rfl⟩:=h; first | exact Keeps.refl _ _ | (apply SameC.keeps; apply SameC.set; assumption))
theorem keeps_clear {P:Program} {nb:Nat} {S S':St} {ts:Array TypeId} {d:AV} (h:evClear P S ts d=some S'):Keeps nb S S':=by
  unfold evClear at h
  split at h
  case h_2 => simp at h
  split at h
  case h_2 => simp at h
  rename_i sz z hsz hz
  split at h
  · simp at h; subst h; exact Keeps.refl _ _
  · simp at h; subst h; exact Keeps.refl _ _
  · split at h
    case h_2 => simp at h
    split at h
    · simp at h
    split at h
    case h_2 => simp at h
    rename_i hS
    split at h
    case isFalse => simp at h
    simp at h; subst h
    refine Keeps.write hS (.inr fun m q _ => ?_)
    rw [ltL_iff]
    intro x hx
    simp only [List.mem_flatten] at hx
    obtain ⟨l,hl,hx⟩:=hx
    rw [List.eq_of_mem_replicate hl] at hx
    exact ltL_iff.1 (zero_plain hz m q) x hx
theorem keeps_mem {P:Program} {E:Env} {ρ:Operand → AV} {S S':St} {o:Op} {r:AV} {tips':List (Option Nat)} (hnb:E.nb ≤ S.length) (h:evMem P E ρ S o=some (r,tips',S')):Keeps E.nb S S':=by
  unfold evMem at h
  split at h
  · simp only [Option.map_eq_some_iff,Prod.mk.injEq] at h
    obtain ⟨z,_,_,_,rfl⟩:=h
    exact Keeps.push hnb _
  · split at h
    · split at h
      · simp at h
        obtain ⟨_,_,rfl⟩:=h
        exact Keeps.push hnb _
      · simp at h
    · simp at h
  · simp only [Option.map_eq_some_iff,Prod.mk.injEq] at h
    obtain ⟨z,_,_,_,rfl⟩:=h
    exact Keeps.refl _ _
  · simp only [Option.map_eq_some_iff,Prod.mk.injEq] at h
    obtain ⟨z,hz,_,_,rfl⟩:=h
    exact keeps_store hz
  · split at h
    · exact keeps_append h
    · simp at h
  · split at h
    · simp only [Option.map_eq_some_iff,Prod.mk.injEq] at h
      obtain ⟨z,hz,_,_,rfl⟩:=h
      unfold evCopy at hz
      repeat' split at hz
      all_goals first
        | (simp at hz; done)
        | (rename_i hS hc
           simp only [Option.some.injEq] at hz
           subst hz
           refine Keeps.write hS (hc.2.imp id fun hp m q _ => ?_)
           rw [ltL_iff]
           intro x hx
           simp only [List.mem_flatten] at hx
           obtain ⟨l,hl,hx⟩:=hx
           exact ltL_iff.1 (ltEs_iff.1 (plainEs_lt m q _ hp) l (List.mem_of_mem_take hl)) x hx)
    · simp at h
  · split at h
    · simp only [Option.map_eq_some_iff,Prod.mk.injEq] at h
      obtain ⟨z,hz,_,_,rfl⟩:=h
      exact keeps_clear hz
    · simp at h
  · simp only [Option.map_eq_some_iff,Prod.mk.injEq] at h
    obtain ⟨⟨r1,S1⟩,hz,_,_,rfl⟩:=h
    unfold evMake at hz
    repeat' split at hz
    all_goals first
      | (simp at hz; done)
      | (simp at hz; obtain ⟨_,rfl⟩:=hz; exact Keeps.push hnb _)
  · simp only [Option.map_eq_some_iff,Prod.mk.injEq] at h
    obtain ⟨⟨r1,S1⟩,hz,_,_,rfl⟩:=h
    unfold evRange at hz
    split at hz
    · simp at hz; obtain ⟨_,rfl⟩:=hz; exact Keeps.push hnb _
    · simp at hz
  · simp only [Option.map_eq_some_iff,Prod.mk.injEq] at h
    obtain ⟨⟨r1,S1⟩,hz,_,_,rfl⟩:=h
    unfold evNext at hz
    repeat' split at hz
    all_goals first
      | (simp at hz; done)
      | (simp at hz; obtain ⟨_,rfl⟩:=hz; first | exact Keeps.iter | exact Keeps.refl _ _)
  · simp at h
theorem keeps_call {call:Caller} (hc:CallOld call) {E:Env} {S S':St} {c:Call} {r:AV} {tips':List (Option Nat)} (hnb:E.nb ≤ S.length) (h:evCall call E S c=some (r,tips',S')):Keeps E.nb S S':=by
  unfold evCall at h
  split at h
  · simp at h
  split at h
  · split at h
    · simp at h
    split at h
    · simp at h
    rename_i r0 S1 hcall
    simp only [Option.some.injEq,Prod.mk.injEq] at h
    obtain ⟨_,_,rfl⟩:=h
    obtain ⟨h1,_,h2,_⟩:=hc _ _ _ _ _ hcall
    exact ⟨h2.len,fun D m q hm o => h2.old D m q (by omega) o⟩
  · split at h
    · simp at h
    split at h
    · simp at h
    rename_i f args _ _ _ args' _ _ r0 S1 hcall
    simp only [Option.some.injEq,Prod.mk.injEq] at h
    obtain ⟨_,_,rfl⟩:=h
    obtain ⟨h1,_,h2,_⟩:=hc _ _ _ _ _ hcall
    have hl:=sameC_lockAll args S
    refine (hl.keeps E.nb).trans (Keeps.trans ⟨h2.len,fun D m q hm o => h2.old D m q (by rw [hl.len]; omega) o⟩ ((sameC_unlockAll S args S1).keeps _))
theorem keeps_op {P:Program} {call:Caller} (hc:CallOld call) {E:Env} {S S':St} {o:Op} {r:AV} {tips':List (Option Nat)} (hnb:E.nb ≤ S.length) (h:evOp P call E S o=some (r,tips',S')):Keeps E.nb S S':=by
  unfold evOp at h
  split at h
  · exact keeps_call hc hnb h
  · split at h
    · simp at h; obtain ⟨_,_,rfl⟩:=h; exact Keeps.refl _ _
    · split at h
      · simp at h; obtain ⟨_,_,rfl⟩:=h; exact Keeps.refl _ _
      · exact keeps_mem hnb h
theorem keeps_opr {P:Program} {call:Caller} (hc:CallOld call) {E:Env} {S S':St} {o:Oper} {r:AV} {tips':List (Option Nat)} (hnb:E.nb ≤ S.length) (h:evOpr P call E S o=some (r,tips',S')):Keeps E.nb S S':=by
  unfold evOpr at h
  split at h
  · simp only [Option.map_eq_some_iff,Prod.mk.injEq] at h
    obtain ⟨⟨r1,S1⟩,hz,_,_,rfl⟩:=h
    unfold evAppendO at hz
    repeat' split at hz
    all_goals first
      | (simp at hz; done)
      | (simp at hz; obtain ⟨_,rfl⟩:=hz; first | exact Keeps.push hnb _ | exact Keeps.refl _ _)
      | (simp at hz; obtain ⟨_,_,_,rfl⟩:=hz; exact Keeps.refl _ _)
  · exact keeps_op hc hnb h
theorem keeps_ops {P:Program} {call:Caller} (hc:CallOld call) {ops:Array Oper}:∀ (l:List Oper) (E:Env) (S:St) (E':Env) (S':St),E.nb ≤ S.length → evOps P call ops l E S=some (E',S') → E'.nb=E.nb ∧ Keeps E.nb S S':=by
  intro l
  induction l with
  | nil => intro E S E' S' _ h; simp [evOps] at h; obtain ⟨rfl,rfl⟩:=h; exact ⟨rfl,Keeps.refl _ _⟩
  | cons o l ih =>
    intro E S E' S' hnb h
    unfold evOps at h
    split at h
    case isFalse => simp at h
    split at h
    · split at h
      case h_2 => simp at h
      rename_i v tips S1 h1
      have k:=keeps_opr hc hnb h1
      obtain ⟨a,b⟩:=ih (E.put o.dst v tips) S1 E' S' (Nat.le_trans hnb k.len) h
      exact ⟨a,k.trans b⟩
    · exact ih (E.put o.dst (.tup []) E.tips) S E' S' hnb h
theorem keeps_allocs {P:Program}:∀ (l:List Oper) (E:Env) (S:St) (E':Env) (S':St),E.nb ≤ S.length → evAllocs P l E S=some (E',S') → E'.nb=E.nb ∧ Keeps E.nb S S':=by
  intro l
  induction l with
  | nil => intro E S E' S' _ h; simp [evAllocs] at h; obtain ⟨rfl,rfl⟩:=h; exact ⟨rfl,Keeps.refl _ _⟩
  | cons o l ih =>
    intro E S E' S' hnb h
    unfold evAllocs at h
    split at h
    · split at h
      case h_2 => simp at h
      have k:=Keeps.push hnb (.mem (by assumption) [] false)
      obtain ⟨a,b⟩:=ih _ _ E' S' (by simp [Env.put]; omega) h
      exact ⟨a,k.trans b⟩
    · exact ih E S E' S' hnb h
theorem keeps_trace {P:Program} {call:Caller} (hc:CallOld call) {ops:Array Oper}:∀ (l:List (Oper × Nat)) (E:Env) (S:St) (ss:List St) (ls:List Load) (E':Env) (S':St) (ss':List St) (ls':List Load),E.nb ≤ S.length →
    evTrace P call ops l E S ss ls=some (E',S',ss',ls') → E'.nb=E.nb ∧ Keeps E.nb S S':=by
  intro l
  induction l with
  | nil => intro E S ss ls E' S' ss' ls' _ h; simp [evTrace] at h; obtain ⟨rfl,rfl,_⟩:=h; exact ⟨rfl,Keeps.refl _ _⟩
  | cons o l ih =>
    obtain ⟨o,i⟩:=o
    intro E S ss ls E' S' ss' ls' hnb h
    unfold evTrace at h
    split at h
    · exact ih _ _ _ _ _ _ _ _ hnb h
    split at h
    case isFalse => simp at h
    split at h
    · split at h
      case h_2 => simp at h
      rename_i v tips S1 h1
      have k:=keeps_opr hc hnb h1
      obtain ⟨a,b⟩:=ih (E.put o.dst v tips) S1 _ _ E' S' _ _ (Nat.le_trans hnb k.len) h
      exact ⟨a,k.trans b⟩
    · exact ih (E.put o.dst (.tup []) E.tips) S _ _ E' S' _ _ hnb h
theorem keeps_draw {P:Program} {call:Caller} (hc:CallOld call) {ops:Array Oper} {E E':Env} {S S':St} (hnb:E.nb ≤ S.length) (h:evDraw P call ops E S=some (E',S')):E'.nb=E.nb ∧ Keeps E.nb S S':=by
  unfold evDraw at h
  split at h
  · simp at h
  split at h
  · simp at h
  split at h
  case isFalse => simp at h
  rename_i E0 S0 h0 _ E1 S1 ss ls h1 _
  simp at h
  obtain ⟨rfl,rfl⟩:=h
  obtain ⟨a,b⟩:=keeps_allocs _ _ _ _ _ hnb h0
  obtain ⟨c,d⟩:=keeps_trace hc _ _ _ _ _ _ _ _ _ (by rw [a]; exact Nat.le_trans hnb b.len) h1
  exact ⟨c.trans a,b.trans (a ▸ d)⟩
end Go.Proofs.YtekgdmhdkhgpjaaGreatDoor.am

namespace Go.Proofs.YtekgdmhdkhgpjaaGreatDoor.am
open Go Go.RowKit
def After (P:Program) (base:Nat) (prot:Nat → Prop) (S:St) (w:World) (mu:Nat → Option Nat) (hw:Nat → Nat) (ti:Id → TI) (r:AV) (S':St) (e:Ending) (w':World):Prop :=
  ∃ v,e=.returned v ∧ ∃ mu' hw' ti',Inv base prot (takeRet [] r).2 S' w' mu' hw' ti' ∧ Ext base prot S w mu hw S' w' mu' hw' ∧ LvExt (live [] S mu) ti (live (takeRet [] r).2 S' mu') ti' ∧
    RV w' mu' hw' (lkS S' mu') (takeRet [] r).1 v ∧ Flag (live (takeRet [] r).2 S' mu') ti' (takeRet [] r).1 v ∧ ∀ i,mu i=none → i < S.length → S'[i]?=S[i]? ∧ mu' i=none
def CallSim (P:Program) (call:Caller):Prop :=
  ∀ f args S r S',call f args S=some (r,S') → ∀ (base:Nat) (prot:Nat → Prop) (w:World) (mu:Nat → Option Nat) (hw:Nat → Nat) (ti:Id → TI) (vargs:Array Value),Inv base prot [] S w mu hw ti → args.length=vargs.size →
    (∀ (j:Nat) (a:AV),args[j]?=some a → ∃ v,vargs[j]?=some v ∧ RV w mu hw (lkS S mu) a v ∧ Flag (live [] S mu) ti a v) →
    (∃ fn c,P.funcs[f]?=some fn ∧ fn.body=some c) ∧ Calls P f vargs w (After P base prot S w mu hw ti r S')
section
variable {P:Program} {base:Nat} {prot:Nat → Prop} {tips tips':List (Option Nat)} {S S':St} {w w':World} {mu:Nat → Option Nat} {hw hw':Nat → Nat} {ti ti':Id → TI}
def shift1 (n:Nat):AV → AV
  | .sl (.fr k) sz es => .sl (.fr (n + k)) sz es
  | v => v
def shift (n:Nat):AV → AV
  | .tup vs => .tup (vs.map (shift1 n))
  | v => shift1 n v
def noFrv:AV → Bool
  | .sl (.fr _) _ _ => false
  | _ => true
theorem takeRes_shift (t u:List (Option Nat)) (v:AV) (h:noFrv v=true):takeRes (t ++ u) v=(shift1 t.length (takeRes u v).1,t ++ (takeRes u v).2):=by
  cases v with
  | sl r sz es => cases r <;> first | (simp [takeRes,shift1]; done) | (simp [noFrv] at h)
  | _ => simp [takeRes,shift1]
theorem takeResL_shift (t:List (Option Nat)):∀ (vs:List AV) (u:List (Option Nat)),(∀ v ∈ vs,noFrv v=true) → takeResL (t ++ u) vs=((takeResL u vs).1.map (shift1 t.length),t ++ (takeResL u vs).2):=by
  intro vs
  induction vs with
  | nil => intro u _; simp [takeResL]
  | cons v vs ih =>
    intro u h
    simp only [takeResL,takeRes_shift t u v (h v (by simp)),ih (takeRes u v).2 fun x hx => h x (by simp [hx]),List.map_cons]
theorem noFrv_fine {m:Nat} {q:Nat → Bool} {v:AV} (h:fine1 m q v=true):noFrv v=true:=by
  cases v with
  | sl r sz es => cases r <;> first | rfl | simp [fine1] at h
  | _ => rfl
theorem takeRet_shift (t:List (Option Nat)) (r:AV) {m:Nat} {q:Nat → Bool} (h:fineRes m q r=true):takeRet t r=(shift t.length (takeRet [] r).1,t ++ (takeRet [] r).2):=by
  cases r with
  | tup vs =>
    have hv:∀ v ∈ vs,noFrv v=true:=by
      intro v hv
      simp only [fineRes,List.all_eq_true] at h
      exact noFrv_fine (h v hv)
    have:=takeResL_shift t vs [] hv
    simp only [List.append_nil] at this
    simp only [takeRet,this,shift]
  | sl rr sz es =>
    have:=takeRes_shift t [] (.sl rr sz es) (by cases rr <;> first | rfl | simp [fineRes,fine1] at h)
    simp only [List.append_nil] at this
    simp only [takeRet,this]
    cases rr <;> rfl
  | _ => simp [takeRet,takeRes,shift,shift1]
theorem RV.shift1 {lk:Nat → Prop} {x:AV} {v:Value} (n:Nat) (h:RV w mu hw lk x v):RV w mu hw lk (shift1 n x) v:=by
  cases x with
  | sl r sz es => cases r <;> first | exact h | exact h.reright (by simp) (by simp) (by simp) (by simp) (by simp)
  | _ => exact h
theorem RV.shift {lk:Nat → Prop} {x:AV} {v:Value} (n:Nat) (h:RV w mu hw lk x v):RV w mu hw lk (shift n x) v:=by
  cases x with
  | tup vs =>
    cases h with
    | tup _ f h2 =>
      have:=RV.tup (w:=w) (mu:=mu) (hw:=hw) (lk:=lk) (vs.map (am.shift1 n)) f (fun j a hj => by
        simp only [List.getElem?_map,Option.map_eq_some_iff] at hj
        obtain ⟨y,hy,rfl⟩:=hj
        exact (h2 j y hy).shift1 n)
      simpa [am.shift] using this
  | sl r sz es => exact h.shift1 n
  | _ => exact h
theorem Flag1.shift1 {lv lv':Live} {x:AV} {v:Value} (n:Nat) (h1:∀ k o,lv (.fr k)=some o → lv' (.fr (n + k))=some o ∧ ti' (.fr (n + k))=ti (.fr k)) (h2:∀ i j o,lv (.bx i j)=some o → lv' (.bx i j)=some o ∧ ti' (.bx i j)=ti (.bx i j))
    (h:Flag1 lv ti x v):Flag1 lv' ti' (shift1 n x) v:=by
  cases x with
  | sl r sz es =>
    cases r with
    | fr k =>
      obtain ⟨o,a,b⟩:=h
      obtain ⟨c,d⟩:=h1 k o a
      exact ⟨o,c,fun L e => by rw [d]; exact b L e⟩
    | bx i j =>
      obtain ⟨o,a,b⟩:=h
      obtain ⟨c,d⟩:=h2 i j o a
      exact ⟨o,c,fun L e => by rw [d]; exact b L e⟩
    | _ => exact h
  | _ => exact h
theorem Flag.shift {lv lv':Live} {x:AV} {v:Value} (n:Nat) (h1:∀ k o,lv (.fr k)=some o → lv' (.fr (n + k))=some o ∧ ti' (.fr (n + k))=ti (.fr k)) (h2:∀ i j o,lv (.bx i j)=some o → lv' (.bx i j)=some o ∧ ti' (.bx i j)=ti (.bx i j))
    (h:Flag lv ti x v):Flag lv' ti' (shift n x) v:=by
  cases x with
  | tup vs =>
    intro arr e j a y ha hy
    simp only [am.shift,List.getElem?_map,Option.map_eq_some_iff] at ha
    obtain ⟨z,hz,rfl⟩:=ha
    exact (h arr e j z y hz hy).shift1 n h1 h2
  | sl r sz es =>
    have:=Flag1.shift1 (ti':=ti') (lv':=lv') n h1 h2 (show Flag1 lv ti (.sl r sz es) v from h)
    cases r <;> exact this
  | _ => trivial
structure LockUp (S S':St):Prop where
  len:S'.length=S.length
  get:∀ (i:Nat),S'[i]?=S[i]? ∨ ∃ (cs:List AV) (bt:List (Option Nat)) (l:Bool),S[i]?=some (Box.mem cs bt l) ∧ S'[i]?=some (Box.mem cs bt true)
theorem LockUp.refl (S:St):LockUp S S:=⟨rfl,fun _ => .inl rfl⟩
theorem LockUp.trans {S S' S'':St} (h:LockUp S S') (k:LockUp S' S''):LockUp S S'':=by
  refine ⟨k.len.trans h.len,fun i => ?_⟩
  rcases k.get i with k1 | ⟨cs,bt,l,k1,k2⟩ <;> rcases h.get i with h1 | ⟨cs0,bt0,l0,h1,h2⟩
  · exact .inl (k1.trans h1)
  · exact .inr ⟨cs0,bt0,l0,h1,k1.trans h2⟩
  · exact .inr ⟨cs,bt,l,h1 ▸ k1,k2⟩
  · rw [h2] at k1; cases k1
    exact .inr ⟨cs,bt,l0,h1,k2⟩
theorem lockUp_one (S:St) (v:AV):LockUp S (lockOne S v):=by
  unfold lockOne
  split
  · split
    · rename_i i _ _ cs bt l h
      refine ⟨by simp,fun k => ?_⟩
      by_cases hk:k=i
      · subst hk; exact .inr ⟨cs,bt,l,h,by rw [List.getElem?_set_self (lt_of_get h)]⟩
      · exact .inl (List.getElem?_set_ne fun e => hk e.symm)
    · exact LockUp.refl S
  · exact LockUp.refl S
theorem lockUp_all:∀ (l:List AV) (S:St),LockUp S (lockAll S l)
  | [],S => LockUp.refl S
  | v :: r,S => (lockUp_one S v).trans (lockUp_all r _)
theorem LockUp.lk (h:LockUp S S') {b:Nat} (k:lkS S mu b):lkS S' mu b:=by
  obtain ⟨i,cs,bt,h1,h2⟩:=k
  rcases h.get i with g | ⟨cs0,bt0,l,g1,g2⟩
  · exact ⟨i,cs,bt,g.trans h1,h2⟩
  · exact ⟨i,cs0,bt0,g2,h2⟩
theorem LockUp.live (h:LockUp S S') (tips:List (Option Nat)):live tips S' mu=live tips S mu:=by
  funext id
  cases id with
  | fr n => rfl
  | bx i j =>
    simp only [am.live]
    rcases h.get i with g | ⟨cs0,bt0,l,g1,g2⟩
    · rw [g]
    · rw [g1,g2]; cases mu i <;> rfl
theorem lock_has {a:AV} {i:Nat} (ha:boxOf a=some i):∀ (l:List AV) (S:St) (cs:List AV) (bt:List (Option Nat)) (b:Bool),a ∈ l → S[i]?=some (.mem cs bt b) → (lockAll S l)[i]?=some (.mem cs bt true):=by
  intro l
  induction l with
  | nil => intro S cs bt b h; simp at h
  | cons v l ih =>
    intro S cs bt b h hS
    simp only [lockAll]
    have up:=lockUp_one S v
    have hb:∃ b',(lockOne S v)[i]?=some (.mem cs bt b') ∧ (a=v → b'=true):=by
      rcases up.get i with g | ⟨cs0,bt0,l0,g1,g2⟩
      · refine ⟨b,g.trans hS,fun e => ?_⟩
        subst e
        have:(lockOne S a)[i]?=some (.mem cs bt true):=by
          simp only [lockOne,ha,hS]
          rw [List.getElem?_set_self (lt_of_get hS)]
        rw [g,hS] at this
        cases this; rfl
      · rw [hS] at g1; cases g1
        exact ⟨true,g2,fun _ => rfl⟩
    obtain ⟨b',hb',hb2⟩:=hb
    by_cases hm:a ∈ l
    · exact ih _ cs bt b' hm hb'
    · simp only [List.mem_cons] at h
      have e:=h.resolve_right hm
      have hbt:=hb2 e
      subst hbt
      rcases (lockUp_all l (lockOne S v)).get i with g | ⟨cs0,bt0,l0,g1,g2⟩
      · exact g.trans hb'
      · rw [hb'] at g1; cases g1; exact g2
def guarded (prot:Nat → Prop) (tips:List (Option Nat)) (ti:Id → TI) (b:Nat):Prop:=prot b ∨ ∃ n L,tips[n]?=some (some L) ∧ (ti (.fr n)).b=b
theorem inv_enter (I:Inv base prot tips S w mu hw ti) (h:LockUp S S'):Inv base (guarded prot tips ti) [] S' w mu hw ti:=by
  have hl0:∀ id o,live [] S' mu id=some o → live tips S mu id=some o ∧ ∃ i j,id=.bx i j:=by
    intro id o hid
    rw [h.live] at hid
    cases id with
    | fr n => simp [live] at hid
    | bx i j => exact ⟨hid,i,j,rfl⟩
  have mono:∀ a v,RV w mu hw (lkS S mu) a v → RV w mu hw (lkS S' mu) a v:=fun a v r => r.mono (fun _ _ h => h) (fun _ _ h => h) (fun _ k => h.lk k) (fun _ _ _ _ h => h)
  refine ⟨fun i bx b h1 h2 => ?_,fun i cells bt l b h1 h2 vs el h3 j x y hx hy => ?_,I.iinj,fun i b hi => ?_,I.iout,fun id L hid => ?_,fun id id' L L' h1 h2 hb => ?_,fun b hb => ?_,I.ibase,I.iglb⟩
  · rcases h.get i with g | ⟨cs0,bt0,l,g1,g2⟩
    · have:=I.ibox i bx b (g ▸ h1) h2
      cases bx with
      | mem cells bt l =>
        obtain ⟨vs,el,p,q⟩:=this
        exact ⟨vs,el,p,q.1,fun j x hj => by obtain ⟨a,y,b,c⟩:=q.2 j x hj; exact ⟨a,y,b,mono _ _ c⟩⟩
      | iter s pos => exact this
    · rw [g2] at h1
      cases h1
      obtain ⟨vs,el,p,q⟩:=I.ibox i _ b g1 h2
      exact ⟨vs,el,p,q.1,fun j x hj => by obtain ⟨a,y,b,c⟩:=q.2 j x hj; exact ⟨a,y,b,mono _ _ c⟩⟩
  · have:∃ bt0 l0,S[i]?=some (.mem cells bt0 l0):=by
      rcases h.get i with g | ⟨cs0,bt0,l,g1,g2⟩
      · exact ⟨bt,l,g ▸ h1⟩
      · rw [g2] at h1; cases h1; exact ⟨_,_,g1⟩
    obtain ⟨bt0,l0,hS⟩:=this
    obtain ⟨p,q⟩:=I.iflag i cells bt0 l0 b hS h2 vs el h3 j x y hx hy
    refine ⟨p,?_⟩
    cases x with
    | sl r sz es =>
      cases r with
      | fr n => simp [noFr] at p
      | fresh => simp [noFr] at p
      | bx i' j' =>
        obtain ⟨o,a,b⟩:=q
        exact ⟨o,by rw [h.live]; exact a,b⟩
      | _ => exact q
    | tup vs => exact q
    | _ => trivial
  · obtain ⟨a,b',c,d,e⟩:=I.idom i b hi
    refine ⟨by rw [h.len]; exact a,b',c,d,?_⟩
    rintro (hp | ⟨n,L,hn,rfl⟩)
    · exact e hp
    · exact (I.itip (.fr n) L hn).2.2 i hi
  · obtain ⟨h1,i,j,rfl⟩:=hl0 id _ hid
    obtain ⟨a,b,c⟩:=I.itip _ L h1
    refine ⟨a,?_,c⟩
    rintro (hp | ⟨n,L',hn,hb⟩)
    · exact b hp
    · have:=I.itinj (.fr n) (.bx i j) _ _ hn h1 hb
      cases this
  · exact I.itinj id id' L L' (hl0 id _ h1).1 (hl0 id' _ h2).1 hb
  · rcases hb with hp | ⟨n,L,hn,rfl⟩
    · exact I.iprot b hp
    · exact (I.itip (.fr n) L hn).1.lt
theorem mapM_opt {α β:Type} (f:α → Option β):∀ (l:List α) (r:List β),l.mapM f=some r → r.length=l.length ∧ ∀ (j:Nat) (y:β),r[j]?=some y → ∃ x,l[j]?=some x ∧ f x=some y:=by
  intro l
  induction l with
  | nil => intro r h; simp at h; subst h; simp
  | cons a l ih =>
    intro r h
    simp only [List.mapM_cons,Option.bind_eq_bind,Option.bind_eq_some_iff,Option.pure_def,Option.some.injEq] at h
    obtain ⟨b,hb,r',hr,rfl⟩:=h
    obtain ⟨h1,h2⟩:=ih r' hr
    refine ⟨by simp [h1],fun j y hj => ?_⟩
    cases j with
    | zero => simp at hj; subst hj; exact ⟨a,rfl,hb⟩
    | succ j => simpa using h2 j y (by simpa using hj)
theorem lock_other {i:Nat}:∀ (l:List AV) (S:St),(∀ a ∈ l,boxOf a ≠ some i) → (lockAll S l)[i]?=S[i]?:=by
  intro l
  induction l with
  | nil => intro S _; rfl
  | cons v l ih =>
    intro S h
    simp only [lockAll]
    rw [ih _ fun a hm => h a (by simp [hm])]
    unfold lockOne
    split
    · rename_i k hk
      have hk:k ≠ i:=fun e => h v (by simp) (by rw [hk,e])
      split
      · exact List.getElem?_set_ne hk
      · rfl
    · rfl
theorem unlock_other {S₀:St} {i:Nat}:∀ (l:List AV) (S:St),(∀ a ∈ l,boxOf a ≠ some i) → (unlockAll S₀ S l)[i]?=S[i]?:=by
  intro l
  induction l with
  | nil => intro S _; rfl
  | cons v l ih =>
    intro S h
    simp only [unlockAll]
    rw [ih _ fun a hm => h a (by simp [hm])]
    unfold unlockOne
    split
    · rename_i k hk
      have hk:k ≠ i:=fun e => h v (by simp) (by rw [hk,e])
      split
      · exact List.getElem?_set_ne hk
      · rfl
    · rfl
structure Dn (S₀ S S':St):Prop where
  len:S'.length=S.length
  get:∀ (i:Nat),S'[i]?=S[i]? ∨ ∃ (cs cs0:List AV) (bt bt0:List (Option Nat)) (l b:Bool),S[i]?=some (Box.mem cs bt l) ∧ S₀[i]?=some (Box.mem cs0 bt0 b) ∧ S'[i]?=some (Box.mem cs bt b)
theorem Dn.refl (S₀ S:St):Dn S₀ S S:=⟨rfl,fun _ => .inl rfl⟩
theorem Dn.trans {S₀ S S' S'':St} (h:Dn S₀ S S') (k:Dn S₀ S' S''):Dn S₀ S S'':=by
  refine ⟨k.len.trans h.len,fun i => ?_⟩
  rcases k.get i with k1 | ⟨cs,cs0,bt,bt0,l,b,k1,k2,k3⟩ <;> rcases h.get i with h1 | ⟨cs',cs0',bt',bt0',l',b',h1,h2,h3⟩
  · exact .inl (k1.trans h1)
  · exact .inr ⟨cs',cs0',bt',bt0',l',b',h1,h2,k1.trans h3⟩
  · exact .inr ⟨cs,cs0,bt,bt0,l,b,h1 ▸ k1,k2,k3⟩
  · rw [h3] at k1; cases k1
    exact .inr ⟨cs,cs0,bt,bt0,l',b,h1,k2,k3⟩
theorem dn_one (S₀ S:St) (v:AV):Dn S₀ S (unlockOne S₀ S v):=by
  unfold unlockOne
  split
  · split
    · rename_i i _ _ _ cs0 bt0 b cs bt l h0 h
      refine ⟨by simp,fun k => ?_⟩
      by_cases hk:k=i
      · subst hk; exact .inr ⟨cs,cs0,bt,bt0,l,b,h,h0,by rw [List.getElem?_set_self (lt_of_get h)]⟩
      · exact .inl (List.getElem?_set_ne fun e => hk e.symm)
    · exact Dn.refl _ _
  · exact Dn.refl _ _
theorem dn_all (S₀:St):∀ (l:List AV) (S:St),Dn S₀ S (unlockAll S₀ S l)
  | [],S => Dn.refl _ _
  | v :: r,S => (dn_one S₀ S v).trans (dn_all S₀ r _)
theorem RV.lt_of {lk:Nat → Prop} {m:Nat} {q:Nat → Bool} (hm:∀ i b,mu i=some b → i < m) (hq:∀ i b,mu i=some b → lk b → q i=true) {a:AV} {v:Value} (h:RV w mu hw lk a v):lt m q a=true:=by
  have idx:∀ (l:List AV),(∀ (j:Nat) (x:AV),l[j]?=some x → lt m q x=true) → ltL m q l=true:=by
    intro l hl
    rw [ltL_iff]
    intro x hx
    obtain ⟨j,hj⟩:=List.getElem?_of_mem hx
    exact hl j x hj
  induction h with
  | ptr i off b h => simp [lt,hm i b h]
  | rptr r cs off b o f hr h1 h2 ih =>
    have hcs:=idx cs fun j x hj => ih j x hj
    rcases hr with rfl | ⟨k,rfl,h3,h4⟩
    · simp [lt,rlt,hcs]
    · simp [lt,rlt,hcs,hm k b h3,hq k b h3 h4]
  | sl r sz es b o len cap f h0 hr hb hl hs h1 h2 ih =>
    have hes:ltEs m q es=true:=by
      rw [ltEs_iff]
      intro l hl
      obtain ⟨i,hi⟩:=List.getElem?_of_mem hl
      exact idx l fun j x hj => ih i l j x hi hj
    cases r with
    | loan k => simp [lt,rlt,hes,hm k b (hl k rfl).1,hq k b (hl k rfl).1 (hl k rfl).2]
    | bx k l =>
      obtain ⟨b',hb'⟩:=hb k l rfl
      simp [lt,rlt,hes,hm k b' hb']
    | _ => simp [lt,rlt,hes]
  | emp sz p cap => simp [lt,rlt,ltEs]
  | emp0 sz p => simp [lt,rlt,ltEs]
  | oref i off len sz b cap h h0 => simp [lt,hm i b h]
  | aref i off len cap sz b h h0 => simp [lt,hm i b h]
  | fn g first caps f1 f2 n1 n2 ih1 ih2 => simp [lt,idx first fun j x hj => ih1 j x hj,idx caps fun j x hj => ih2 j x hj]
  | ifc t a v h1 h ih => simpa [lt] using ih
  | agg cs f h1 h2 ih => simpa [lt] using idx cs fun j x hj => ih j x hj
  | tup vs f h2 ih => simpa [lt] using idx vs fun j x hj => ih j x hj
  | _ => simp [lt]
end
end Go.Proofs.YtekgdmhdkhgpjaaGreatDoor.am

namespace Go.Proofs.YtekgdmhdkhgpjaaGreatDoor.am
open Go Go.RowKit
section
variable {P:Program} {base:Nat} {prot:Nat → Prop} {tips tips':List (Option Nat)} {S S':St} {w w':World} {mu:Nat → Option Nat} {hw hw':Nat → Nat} {ti ti':Id → TI}
theorem fine_lt {r:AV} {m:Nat} {q:Nat → Bool} (h:fineRes m q r=true):lt m q (takeRet [] r).1=true:=by
  have one:∀ (v:AV) (u:List (Option Nat)),fine1 m q v=true → lt m q (takeRes u v).1=true:=by
    intro v u hv
    cases v with
    | sl r sz es =>
      cases r with
      | fresh => simpa [takeRes,lt,rlt,fine1] using hv
      | fr k => simp [fine1] at hv
      | _ => exact hv
    | tup vs => simp [fine1] at hv
    | _ => exact hv
  have all:∀ (vs:List AV) (u:List (Option Nat)),(∀ v ∈ vs,fine1 m q v=true) → ltL m q (takeResL u vs).1=true:=by
    intro vs
    induction vs with
    | nil => intro u _; simp [takeResL,ltL]
    | cons v vs ih =>
      intro u hv
      simp only [takeResL,ltL,Bool.and_eq_true]
      exact ⟨one v u (hv v (by simp)),ih _ fun x hx => hv x (by simp [hx])⟩
  cases r with
  | tup vs =>
    simp only [fineRes,List.all_eq_true] at h
    simpa [takeRet,lt] using all vs [] h
  | sl rr sz es => exact one (.sl rr sz es) [] h
  | undef => exact one .undef [] h
  | bool b => exact one (.bool b) [] h
  | int k n => exact one (.int k n) [] h
  | str s => exact one (.str s) [] h
  | nilp => exact one .nilp [] h
  | ptr i o => exact one (.ptr i o) [] h
  | rptr r cs o => exact one (.rptr r cs o) [] h
  | nils => exact one .nils [] h
  | aref i o l c z => exact one (.aref i o l c z) [] h
  | oref i o l z => exact one (.oref i o l z) [] h
  | fn f a b => exact one (.fn f a b) [] h
  | nilfn => exact one .nilfn [] h
  | ifc t v => exact one (.ifc t v) [] h
  | nili => exact one .nili [] h
  | agg cs => exact one (.agg cs) [] h
theorem loan_rv (I:Inv base prot tips S w mu hw ti) {lk:Nat → Prop} {i off len cap sz b:Nat} {cs:List AV} {bt:List (Option Nat)} {l:Bool} (hS:S[i]?=some (.mem cs bt l)) (hc:off + len * sz ≤ cs.length ∧ sz ≠ 0) (hb:mu i=some b) (h0:len ≤ cap)
    (hlk:lk b) (mono:∀ a v,RV w mu hw (lkS S mu) a v → RV w mu hw lk a v) :
    RV w mu hw lk (.sl (.loan i) sz ((List.range len).map fun k => (sub cs (off + k * sz) sz).map strip)) (.slice (some ⟨b,off,none⟩) len cap):=by
  obtain ⟨vs,el,hvs,hrb⟩:=I.ibox i _ b hS hb
  have get:∀ (i':Nat) (c:List AV),((List.range len).map fun k => (sub cs (off + k * sz) sz).map strip)[i']?=some c → i' < len ∧ c=(sub cs (off + i' * sz) sz).map strip ∧ off + i' * sz + sz ≤ cs.length:=by
    intro i' c hi
    have hlt:i' < len:=by have:=lt_of_get hi; simpa using this
    simp [hlt] at hi
    have:(i' + 1) * sz ≤ len * sz:=Nat.mul_le_mul_right sz hlt
    rw [Nat.add_mul] at this
    exact ⟨hlt,hi.symm,by omega⟩
  have elem:∀ (i':Nat) (c:List AV) (j:Nat) (x:AV),((List.range len).map fun k => (sub cs (off + k * sz) sz).map strip)[i']?=some c → c[j]?=some x →
      nf x=true ∧ w.cell? ⟨b,off + i' * sz + j,none⟩=some (vs.getD (off + i' * sz + j) undef) ∧ RV w mu hw (lkS S mu) x (vs.getD (off + i' * sz + j) undef):=by
    intro i' c j x hi hj
    obtain ⟨g1,rfl,g3⟩:=get i' c hi
    obtain ⟨p,y,hy,hr⟩:=(hrb.subrl (off + i' * sz) sz g3).2 j x hj
    have hjl:j < sz:=by have:=lt_of_get hj; simp [sub] at this; omega
    have hy':vs[off + i' * sz + j]?=some y:=by
      rw [Array.getElem?_extract] at hy
      split at hy
      · exact hy
      · cases hy
    refine ⟨p,?_,?_⟩
    · rw [cell_of_block hvs,hy']; simp [Array.getD_eq_getD_getElem?,hy']
    · simpa [Array.getD_eq_getD_getElem?,hy'] using hr
  refine .sl (.loan i) sz _ b off len cap (fun i' j => vs.getD (off + i' * sz + j) undef) ⟨by simp,h0,hc.2⟩ (by simp) (by simp) (fun k e => by cases e; exact ⟨hb,hlk⟩) (fun i' c hi => ?_) (fun i' c j x hi hj => ?_) (fun i' c j x hi hj => mono _ _ (elem i' c j x hi hj).2.2)
  · obtain ⟨g1,rfl,g3⟩:=get i' c hi
    simp [sub]; omega
  · obtain ⟨e1,e2,_⟩:=elem i' c j x hi hj
    exact ⟨e1,⟨hb,hlk⟩,e2⟩
theorem arg_sound (I:Inv base prot tips S w mu hw ti) {args:List AV} {a a':AV} {v:Value} (hin:a ∈ args) (h:RV w mu hw (lkS S mu) a v) (hg:giveArg S a=some a') :
    RV w mu hw (lkS (lockAll S args) mu) a' v ∧ ∀ lv ti,Flag lv ti a' v:=by
  have up:=lockUp_all args S
  have mono:∀ a v,RV w mu hw (lkS S mu) a v → RV w mu hw (lkS (lockAll S args) mu) a v:=fun a v r => r.mono (fun _ _ h => h) (fun _ _ h => h) (fun _ k => up.lk k) (fun _ _ _ _ h => h)
  have other:boxOf a=none → giveArg S a=some a' → a'=strip a ∧ (∀ vs,a ≠ .tup vs) ∧ (∀ sz es,a ≠ .sl .fresh sz es):=by
    intro h1 h2
    unfold giveArg at h2
    split at h2
    · simp [boxOf] at h1
    · simp [boxOf] at h1
    · simp at h2
    · simp at h2
    · rename_i g1 g2 g3 g4
      simp at h2
      exact ⟨h2.symm,fun vs e => g4 vs e,fun sz es e => g3 sz es e⟩
  have box:∀ {i off len cap sz:Nat} {es:List (List AV)},boxOf a=some i → (match S[i]? with
      | some (.mem cs _ _) => if off + len * sz ≤ cs.length ∧ sz ≠ 0 then some (sz,(List.range len).map fun k => (sub cs (off + k * sz) sz).map strip) else none
      | _ => none)=some (sz,es) → (∃ b cap,mu i=some b ∧ v=.slice (some ⟨b,off,none⟩) len cap ∧ len ≤ cap) → RV w mu hw (lkS (lockAll S args) mu) (.sl (.loan i) sz es) v:=by
    intro i off len cap sz es hbx hes hv
    split at hes
    case h_2 => simp at hes
    rename_i cs bt l hS
    split at hes
    case isFalse => simp at hes
    rename_i hc
    simp at hes
    subst hes
    obtain ⟨b,cap,hb,rfl,h0⟩:=hv
    exact loan_rv I hS hc hb h0 ⟨i,cs,bt,lock_has hbx args S cs bt l hin hS,hb⟩ mono
  cases hbx:boxOf a with
  | none =>
    obtain ⟨rfl,ht,hf⟩:=other hbx hg
    refine ⟨mono _ _ h.strip,fun lv ti => ?_⟩
    cases a with
    | tup vs => exact absurd rfl (ht vs)
    | sl r sz es => cases r <;> first | exact absurd rfl (hf _ _) | trivial
    | _ => trivial
  | some i =>
    cases a with
    | aref i' off len cap sz =>
      simp only [giveArg,Option.map_eq_some_iff] at hg
      obtain ⟨⟨z,es⟩,hes,rfl⟩:=hg
      have hz:z=sz:=by
        simp only [elemsOf] at hes
        split at hes
        · split at hes
          · simp at hes; exact hes.1.symm
          · simp at hes
        · simp at hes
      subst hz
      refine ⟨box (i:=i') (cap:=cap) rfl hes ?_,fun lv ti => by simp [Flag,Flag1]⟩
      cases h with
      | aref _ _ _ _ _ b hb h0 => exact ⟨b,_,hb,rfl,h0.1⟩
    | oref i' off len sz =>
      simp only [giveArg,Option.map_eq_some_iff] at hg
      obtain ⟨⟨z,es⟩,hes,rfl⟩:=hg
      have hz:z=sz:=by
        simp only [elemsOf] at hes
        split at hes
        · split at hes
          · simp at hes; exact hes.1.symm
          · simp at hes
        · simp at hes
      subst hz
      refine ⟨box (i:=i') (cap:=0) rfl hes ?_,fun lv ti => by simp [Flag,Flag1]⟩
      cases h with
      | oref _ _ _ _ b cap hb h0 => exact ⟨b,_,hb,rfl,h0.1⟩
    | _ => simp [boxOf] at hbx
theorem raw_sound {lk:Nat → Prop} {a a':AV} {v:Value} (h:RV w mu hw lk a v) (hg:rawArg a=some a'):RV w mu hw lk a' v ∧ ∀ lv ti,Flag lv ti a' v:=by
  unfold rawArg at hg
  split at hg
  · simp at hg
  · simp at hg
  · rename_i g1 g2
    simp at hg; subst hg
    refine ⟨h.strip,fun lv ti => ?_⟩
    cases a with
    | tup vs => exact absurd rfl (g2 vs)
    | sl r sz es => cases r <;> first | exact absurd rfl (g1 _ _) | trivial
    | _ => trivial
def lockedIn (S:St) (i:Nat):Bool :=
  match S[i]? with
  | some (.mem _ _ true) => true
  | _ => false
mutual
theorem lt_mono {m m':Nat} {q q':Nat → Bool} (hm:m ≤ m') (hq:∀ k,k < m → q k=true → q' k=true):∀ (a:AV),lt m q a=true → lt m' q' a=true
  | .ptr i o,h => by simp only [lt,decide_eq_true_eq] at h ⊢; omega
  | .rptr r cs o,h => by
    simp only [lt,Bool.and_eq_true] at h ⊢
    exact ⟨rlt_mono hm hq r h.1,ltL_mono hm hq cs h.2⟩
  | .sl r sz es,h => by
    simp only [lt,Bool.and_eq_true] at h ⊢
    exact ⟨rlt_mono hm hq r h.1,ltEs_mono hm hq es h.2⟩
  | .aref i o l c z,h => by simp only [lt,decide_eq_true_eq] at h ⊢; omega
  | .oref i o l z,h => by simp only [lt,decide_eq_true_eq] at h ⊢; omega
  | .fn f a b,h => by
    simp only [lt,Bool.and_eq_true] at h ⊢
    exact ⟨ltL_mono hm hq a h.1,ltL_mono hm hq b h.2⟩
  | .ifc t v,h => by simp only [lt] at h ⊢; exact lt_mono hm hq v h
  | .agg cs,h => by simp only [lt] at h ⊢; exact ltL_mono hm hq cs h
  | .tup cs,h => by simp only [lt] at h ⊢; exact ltL_mono hm hq cs h
  | .undef,_ => rfl
  | .bool _,_ => rfl
  | .int _ _,_ => rfl
  | .str _,_ => rfl
  | .nilp,_ => rfl
  | .nils,_ => rfl
  | .nilfn,_ => rfl
  | .nili,_ => rfl
theorem ltL_mono {m m':Nat} {q q':Nat → Bool} (hm:m ≤ m') (hq:∀ k,k < m → q k=true → q' k=true):∀ (l:List AV),ltL m q l=true → ltL m' q' l=true
  | [],_ => rfl
  | v :: r,h => by simp only [ltL,Bool.and_eq_true] at h ⊢; exact ⟨lt_mono hm hq v h.1,ltL_mono hm hq r h.2⟩
theorem ltEs_mono {m m':Nat} {q q':Nat → Bool} (hm:m ≤ m') (hq:∀ k,k < m → q k=true → q' k=true):∀ (l:List (List AV)),ltEs m q l=true → ltEs m' q' l=true
  | [],_ => rfl
  | v :: r,h => by simp only [ltEs,Bool.and_eq_true] at h ⊢; exact ⟨ltL_mono hm hq v h.1,ltEs_mono hm hq r h.2⟩
theorem rlt_mono {m m':Nat} {q q':Nat → Bool} (hm:m ≤ m') (hq:∀ k,k < m → q k=true → q' k=true):∀ (r:Right),rlt m q r=true → rlt m' q' r=true
  | .bx i j,h => by simp only [rlt,decide_eq_true_eq] at h ⊢; omega
  | .loan i,h => by
    simp only [rlt,Bool.and_eq_true,decide_eq_true_eq] at h ⊢
    exact ⟨by omega,hq i h.1 h.2⟩
  | .none,_ => rfl
  | .exact,_ => rfl
  | .fresh,_ => rfl
  | .fr _,_ => rfl
end
theorem call_step (I:Inv base prot tips S w mu hw ti) {SL S'':St} {r:AV} {e:Ending} (up:LockUp S SL) (dn:Dn S S' S'') (hhole:∀ i,mu i=none → SL[i]?=S[i]? ∧ S''[i]?=S'[i]?) (hsame:SameC S SL)
    (hlen:SL.length ≤ S'.length) (hpl:fineRes S'.length (fun k => decide (SL.length ≤ k)) r=true) (hk:Keeps SL.length SL S') (hnew:NewOK SL.length S') (A:After P base (guarded prot tips ti) SL w mu hw ti r S' e w') :
    ∃ v,e=.returned v ∧ Step base prot tips S w mu hw ti (takeRet tips r).2 S'' w' (takeRet tips r).1 v:=by
  obtain ⟨v,rfl,mu',hw',ti',J,e,lv,rv,fl,hole⟩:=A
  refine ⟨v,rfl,?_⟩
  have hlen1:S.length ≤ S'.length:=by rw [← up.len]; exact hlen
  rw [up.len] at hpl hk hnew
  rw [takeRet_shift tips r hpl]
  have hmu:∀ i b,i < S.length → mu' i=some b → mu i=some b:=by
    intro i b hi h
    cases hm:mu i with
    | none => rw [(hole i hm (by rw [up.len]; exact hi)).2] at h; cases h
    | some b' => rw [e.emu i b' hm] at h; exact h
  -- what is locked
  have lkup:∀ b,lkS S'' mu' b → lkS S' mu' b:=by
    rintro b ⟨i,cs,bt,h1,h2⟩
    rcases dn.get i with g | ⟨c,c0,t,t0,l,b0,g1,g2,g3⟩
    · exact ⟨i,cs,bt,g ▸ h1,h2⟩
    · rw [g3] at h1
      cases h1
      exact e.elk b (up.lk ⟨i,c0,t0,g2,hmu i b (lt_of_get g2) h2⟩)
  have lkdn:∀ i b,(lockedIn S i || decide (S.length ≤ i))=true → mu' i=some b → lkS S' mu' b → lkS S'' mu' b:=by
    rintro i b hq hm ⟨i',cs,bt,h1,h2⟩
    have:=J.iinj i' i b h2 hm
    subst this
    rcases dn.get i' with g | ⟨c,c0,t,t0,l,b0,g1,g2,g3⟩
    · exact ⟨i',cs,bt,g.trans h1,h2⟩
    · have hlt:=lt_of_get g2
      have hq:lockedIn S i'=true:=by
        simp only [Bool.or_eq_true,decide_eq_true_eq] at hq
        exact hq.resolve_right (by omega)
      simp only [lockedIn,g2] at hq
      have:b0=true:=by cases b0 <;> simp_all
      subst this
      exact ⟨i',c,t,g3,h2⟩
  have lkS1:∀ b,lkS S mu b → lkS S'' mu' b:=by
    intro b hb
    obtain ⟨i,cs,bt,h1,h2⟩:=hb
    exact lkdn i b (by simp [lockedIn,h1]) (e.emu i b h2) (e.elk b (up.lk ⟨i,cs,bt,h1,h2⟩))
  have old0:OldOK (fun i => ∃ b,mu i=some b) S.length (lockedIn S) S:=by
    intro i cs bt l hi ⟨b,hb⟩ hS
    obtain ⟨vs,el,p,q⟩:=I.ibox i _ b hS hb
    rw [ltL_iff]
    intro x hx
    obtain ⟨j,hj⟩:=List.getElem?_of_mem hx
    obtain ⟨_,y,_,hr⟩:=q.2 j x hj
    refine hr.lt_of (fun i b h => (I.idom i b h).1) (fun i b h hl => ?_)
    obtain ⟨i',cs',bt',h1,h2⟩:=hl
    have:=I.iinj i' i b h2 h
    subst this
    simp [lockedIn,h1]
  have old1:OldOK (fun i => ∃ b,mu i=some b) S.length (lockedIn S) S':=hk.old _ _ _ (Nat.le_refl _) (hsame.old old0)
  have cellsOK:∀ (i:Nat) (cs:List AV) (bt:List (Option Nat)) (l:Bool) (b:Nat),S'[i]?=some (.mem cs bt l) → mu' i=some b → ltL S'.length (fun k => lockedIn S k || decide (S.length ≤ k)) cs=true:=by
    intro i cs bt l b hS hm
    rcases Nat.lt_or_ge i S.length with hi | hi
    · exact ltL_mono hlen1 (fun k _ h => by simp [h]) cs (old1 i cs bt l hi ⟨b,hmu i b hi hm⟩ hS)
    · exact ltL_mono (Nat.le_refl _) (fun k _ h => by simp only [decide_eq_true_eq] at h; simp [h]) cs (hnew i cs bt l hi hS)
  have restr:∀ x y,lt S'.length (fun k => lockedIn S k || decide (S.length ≤ k)) x=true → RV w' mu' hw' (lkS S' mu') x y → RV w' mu' hw' (lkS S'' mu') x y :=
    fun x y hl hr => hr.restrict (fun _ _ _ h => h) (fun i b _ hq hm hb => lkdn i b hq hm hb) hl
  -- boxes
  have same:∀ (i:Nat) (bx:Box),S''[i]?=some bx → ∃ bx':Box,S'[i]?=some bx' ∧ (bx'=bx ∨ ∃ (cs:List AV) (bt:List (Option Nat)) (l l':Bool),bx'=Box.mem cs bt l ∧ bx=Box.mem cs bt l'):=by
    intro i bx h
    rcases dn.get i with g | ⟨c,c0,t,t0,l,b0,g1,g2,g3⟩
    · exact ⟨bx,g ▸ h,.inl rfl⟩
    · rw [g3] at h; cases h
      exact ⟨_,g1,.inr ⟨c,t,l,b0,rfl,rfl⟩⟩
  have livebx:∀ t i j,live t S'' mu' (.bx i j)=live (takeRet [] r).2 S' mu' (.bx i j):=by
    intro t i j
    simp only [live]
    rcases dn.get i with g | ⟨c,c0,t,t0,l,b0,g1,g2,g3⟩
    · rw [g]
    · rw [g1,g3]; cases mu' i <;> rfl
  -- tips,as they are afterwards
  let ti2:Id → TI:=fun id => match id with
    | .fr n => if n < tips.length then ti (.fr n) else ti' (.fr (n - tips.length))
    | .bx i j => ti' (.bx i j)
  have lvold:∀ n,n < tips.length → live (tips ++ (takeRet [] r).2) S'' mu' (.fr n)=tips[n]?:=by
    intro n hn
    simp only [live]
    rw [List.getElem?_append_left hn]
  have lvnew:∀ n,¬ n < tips.length → live (tips ++ (takeRet [] r).2) S'' mu' (.fr n)=live (takeRet [] r).2 S' mu' (.fr (n - tips.length)):=by
    intro n hn
    simp only [live]
    rw [List.getElem?_append_right (by omega)]
  have E:Ext base prot S w mu hw S'' w' mu' hw':=by
    refine ⟨e.emu,e.ehw,lkS1,fun b o v hc h => e.ecell b o v (hc.imp id fun k => up.lk k) h,fun b h => e.eprot b (.inl h),e.ebelow,?_⟩
    rw [dn.len]
    exact hlen1
  have LV:LvExt (live tips S mu) ti (live (tips ++ (takeRet [] r).2) S'' mu') ti2:=by
    intro id o ho
    cases id with
    | fr n =>
      have hn:n < tips.length:=lt_of_get (show tips[n]?=some o from ho)
      exact ⟨o,(lvold n hn).trans ho,fun L' e => ⟨L',e,.inl ⟨rfl,by simp [ti2,hn]⟩⟩⟩
    | bx i j =>
      have ho':live [] SL mu (.bx i j)=some o:=by
        rw [up.live]; exact ho
      obtain ⟨o',h1,h2⟩:=lv _ o ho'
      exact ⟨o',by rw [livebx]; exact h1,h2⟩
  -- the two kinds of tips
  have kind:∀ id L,live (tips ++ (takeRet [] r).2) S'' mu' id=some (some L) → (∃ n,id=.fr n ∧ n < tips.length ∧ tips[n]?=some (some L) ∧ ti2 id=ti (.fr n)) ∨
      (∃ id',live (takeRet [] r).2 S' mu' id'=some (some L) ∧ ti2 id=ti' id' ∧ ((∃ i j,id=.bx i j ∧ id'=.bx i j) ∨ ∃ n,id=.fr (tips.length + n) ∧ id'=.fr n)):=by
    intro id L h
    cases id with
    | fr n =>
      by_cases hn:n < tips.length
      · rw [lvold n hn] at h
        exact .inl ⟨n,rfl,hn,h,by simp [ti2,hn]⟩
      · rw [lvnew n hn] at h
        exact .inr ⟨_,h,by simp [ti2,hn],.inr ⟨n - tips.length,by congr 1; omega,rfl⟩⟩
    | bx i j =>
      rw [livebx] at h
      exact .inr ⟨_,h,rfl,.inl ⟨i,j,rfl,rfl⟩⟩
  refine ⟨mu',hw',ti2,⟨fun i bx b h1 h2 => ?_,fun i cells bt l b h1 h2 vs el h3 j x y hx hy => ?_,J.iinj,fun i b hi => ?_,J.iout,fun id L hid => ?_,fun id id' L L' h1 h2 hb => ?_,fun b hb => J.iprot b (.inl hb),J.ibase,J.iglb⟩,E,LV,?_,?_,fun i hi hlt => ⟨?_,?_⟩⟩
  · obtain ⟨bx',g1,g2⟩:=same i bx h1
    have hb:=J.ibox i bx' b g1 h2
    rcases g2 with rfl | ⟨cs,bt,l,l',rfl,rfl⟩
    · cases bx' with
      | mem cs bt l =>
        obtain ⟨vs,el,p,q⟩:=hb
        exact ⟨vs,el,p,q.1,fun j x hj => by
          obtain ⟨a,y,c,d⟩:=q.2 j x hj
          exact ⟨a,y,c,restr x y (ltL_get (cellsOK i cs bt l b g1 h2) hj) d⟩⟩
      | iter s pos => exact hb
    · obtain ⟨vs,el,p,q⟩:=hb
      exact ⟨vs,el,p,q.1,fun j x hj => by
        obtain ⟨a,y,c,d⟩:=q.2 j x hj
        exact ⟨a,y,c,restr x y (ltL_get (cellsOK i cs bt l b g1 h2) hj) d⟩⟩
  · have:∃ l0,S'[i]?=some (.mem cells bt l0):=by
      obtain ⟨bx',g1,g2⟩:=same i _ h1
      rcases g2 with rfl | ⟨cs,bt',l0,l',rfl,h⟩
      · exact ⟨_,g1⟩
      · cases h; exact ⟨_,g1⟩
    obtain ⟨l0,hS⟩:=this
    obtain ⟨p,q⟩:=J.iflag i cells bt l0 b hS h2 vs el h3 j x y hx hy
    refine ⟨p,?_⟩
    cases x with
    | sl rr sz es =>
      cases rr with
      | fr n => simp [noFr] at p
      | fresh => simp [noFr] at p
      | bx i' j' =>
        obtain ⟨o,a,b⟩:=q
        exact ⟨o,by rw [livebx]; exact a,b⟩
      | _ => exact q
    | tup vs => exact q
    | _ => trivial
  · obtain ⟨a,b',c,d,f⟩:=J.idom i b hi
    exact ⟨by rw [dn.len]; exact a,b',c,d,fun h => f (.inl h)⟩
  · rcases kind id L hid with ⟨n,rfl,hn,h1,h2⟩ | ⟨id',h1,h2,_⟩
    · rw [h2]
      obtain ⟨a,b,c⟩:=I.itip (.fr n) L h1
      obtain ⟨d,f⟩:=e.eprot (ti (.fr n)).b (.inr ⟨n,L,h1,rfl⟩)
      exact ⟨a.keep f d,b,fun i hi => (J.idom i _ hi).2.2.2.2 (.inr ⟨n,L,h1,rfl⟩)⟩
    · rw [h2]
      obtain ⟨a,b,c⟩:=J.itip id' L h1
      exact ⟨a,fun h => b (.inl h),c⟩
  · rcases kind id L h1 with ⟨n,rfl,hn,g1,g2⟩ | ⟨i1,g1,g2,g3⟩ <;> rcases kind id' L' h2 with ⟨n',rfl,hn',k1,k2⟩ | ⟨i2,k1,k2,k3⟩
    · rw [g2,k2] at hb
      exact I.itinj _ _ L L' g1 k1 hb
    · rw [g2,k2] at hb
      exact absurd (.inr ⟨n,L,g1,hb⟩) (J.itip i2 L' k1).2.1
    · rw [g2,k2] at hb
      exact absurd (.inr ⟨n',L',k1,hb.symm⟩) (J.itip i1 L g1).2.1
    · rw [g2,k2] at hb
      have:=J.itinj i1 i2 L L' g1 k1 hb
      subst this
      rcases g3 with ⟨i,j,rfl,rfl⟩ | ⟨n,rfl,rfl⟩ <;> rcases k3 with ⟨i',j',rfl,h⟩ | ⟨n',rfl,h⟩ <;> cases h <;> rfl
  · exact (restr _ _ (lt_mono (Nat.le_refl _) (fun k _ h => by simp only [decide_eq_true_eq] at h; simp [h]) _ (fine_lt hpl)) rv).shift tips.length
  · refine Flag.shift (ti:=ti') tips.length (fun k o hk => ⟨?_,?_⟩) (fun i j o hk => ⟨by rw [livebx]; exact hk,rfl⟩) fl
    · rw [lvnew _ (by omega),Nat.add_sub_cancel_left]; exact hk
    · show (if tips.length + k < tips.length then ti (.fr (tips.length + k)) else ti' (.fr (tips.length + k - tips.length)))=_
      rw [if_neg (by omega),Nat.add_sub_cancel_left]
  · obtain ⟨h1,h2⟩:=hhole i hi
    rw [h2,(hole i hi (by rw [up.len]; exact hlt)).1,h1]
  · exact (hole i hi (by rw [up.len]; exact hlt)).2
end
end Go.Proofs.YtekgdmhdkhgpjaaGreatDoor.am

namespace Go.Proofs.YtekgdmhdkhgpjaaGreatDoor.am
open Go Go.RowKit
section
variable {P:Program} {base:Nat} {prot:Nat → Prop} {tips tips':List (Option Nat)} {S S':St} {w w':World} {mu:Nat → Option Nat} {hw hw':Nat → Nat} {ti ti':Id → TI}
def RA (w:World) (mu:Nat → Option Nat) (hw:Nat → Nat) (lk:Nat → Prop) (l:List AV) (vs:Array Value):Prop :=
  l.length=vs.size ∧ ∀ (j:Nat) (a:AV),l[j]?=some a → ∃ v,vs[j]?=some v ∧ RV w mu hw lk a v
theorem RA.append {lk:Nat → Prop} {l m:List AV} {vs us:Array Value} (h:RA w mu hw lk l vs) (k:RA w mu hw lk m us):RA w mu hw lk (l ++ m) (vs ++ us):=by
  refine ⟨by simp [h.1,k.1],fun j a hj => ?_⟩
  rcases Nat.lt_or_ge j l.length with hlt | hge
  · rw [List.getElem?_append_left hlt] at hj
    obtain ⟨v,hv,hr⟩:=h.2 j a hj
    exact ⟨v,by rw [Array.getElem?_append_left (lt_of_aget hv)]; exact hv,hr⟩
  · rw [List.getElem?_append_right hge] at hj
    obtain ⟨v,hv,hr⟩:=k.2 _ a hj
    have hl:=h.1
    exact ⟨v,by rw [Array.getElem?_append_right (by omega),← hl]; exact hv,hr⟩
theorem RA.range {lk:Nat → Prop} {l:List AV} {f:Nat → Value} (h:∀ (j:Nat) (a:AV),l[j]?=some a → RV w mu hw lk a (f j)):RA w mu hw lk l ((List.range l.length).map f).toArray:=by
  refine ⟨by simp,fun j a hj => ⟨f j,?_,h j a hj⟩⟩
  have:=lt_of_get hj
  simp [this]
def Named (P : Program) : Prop := ∀ (f : FuncId) (fn : Func), P.funcs[f]? = some fn → (fn.name == "runtime.NumGoroutine") = false
theorem evCall_sound {call:Caller} (hsim:CallSim P call) (hold:CallOld call) (hN:Named P) {E:Env} (I:Inv base prot E.tips S w mu hw ti) {o:Oper} {a:Act} {f:Operand} {args:Array Operand} {ts:Array TypeId}
    (ho:o.op=.call ⟨.value f,args,ts⟩) (SL:Slots S w mu hw (live E.tips S mu) ti E.slots a.tmps) {r:AV} (h:evCall call E S ⟨.value f,args,ts⟩=some (r,tips',S')) :
    ∃ g vargs,(execOp a.eval o).run P w=.ok (.enter g vargs) w ∧ Calls P g vargs w fun e w' => ∃ v,e=.returned v ∧ Step base prot E.tips S w mu hw ti tips' S' w' r v:=by
  have hρ:=fun x => (SL.eval (E:=E) (a:=a) I.iglb x).1
  unfold evCall at h
  split at h
  · simp at h
  rename_i g l hc
  simp only [callee] at hc
  split at hc
  case h_2 => simp at hc
  rename_i g' first caps hf
  simp at hc
  obtain ⟨rfl,rfl⟩:=hc
  have H:=hρ f
  rw [hf] at H
  generalize hvf:a.eval f=vf at H
  cases H with
  | fn _ _ _ f1 f2 n1 n2 =>
    have RAall:RA w mu hw (lkS S mu) (first ++ (args.toList.map (fun x => E.ev x) ++ caps)) ((((List.range first.length).map f1).toArray ++ args.map a.eval) ++ ((List.range caps.length).map f2).toArray):=by
      rw [← List.append_assoc]
      refine ((RA.range n1).append ⟨by simp,fun j x hj => ?_⟩).append (RA.range n2)
      simp only [List.getElem?_map,Option.map_eq_some_iff] at hj
      obtain ⟨y,hy,rfl⟩:=hj
      refine ⟨a.eval y,?_,hρ y⟩
      simp only [Array.getElem?_map,Option.map_eq_some_iff]
      exact ⟨y,by simpa using hy,rfl⟩
    have fin:∀ (vargs:Array Value) (fn:Func) (c:Code),P.funcs[g']?=some fn → fn.body=some c → (execOp a.eval o).run P w=.ok (.enter g' ((((List.range first.length).map f1).toArray ++ args.map a.eval) ++ ((List.range caps.length).map f2).toArray)) w:=by
      intro vargs fn c hfn hb
      simp only [execOp,ho,resolve,hvf,Deferred.ofValue,invoke,callFunc,Sem.run_bind,Sem.run_pure,Result.andThen_ok,run_program,hfn,hN _ _ hfn,hb,Bool.false_eq_true,if_false,Option.isNone_some]
    generalize hL:first ++ (args.toList.map (fun x => E.ev x) ++ caps)=L at h RAall
    split at h
    · split at h
      · simp at h
      rename_i l' hl'
      split at h
      · simp at h
      rename_i r0 S1 hcall
      simp only [Option.some.injEq,Prod.mk.injEq] at h
      obtain ⟨rfl,rfl,rfl⟩:=h
      obtain ⟨m1,m2⟩:=mapM_opt _ _ _ hl'
      obtain ⟨hlen,hpl,hk,hnew⟩:=hold _ _ _ _ _ hcall
      have I2:=inv_enter I (LockUp.refl S)
      obtain ⟨⟨fn,c,hfn,hb⟩,hcl⟩:=hsim _ _ _ _ _ hcall base (guarded prot E.tips ti) w mu hw ti _ I2 (by rw [m1]; exact RAall.1) (fun j x hj => by
        obtain ⟨y,hy,hg⟩:=m2 j x hj
        obtain ⟨v,hv,hr⟩:=RAall.2 j y hy
        obtain ⟨q1,q2⟩:=raw_sound hr hg
        exact ⟨v,hv,q1,q2 _ _⟩)
      exact ⟨g',_,fin #[] fn c hfn hb,hcl.mono fun e w' A => call_step I (LockUp.refl S) (Dn.refl _ _) (fun _ _ => ⟨rfl,rfl⟩) (SameC.refl S) hlen hpl hk hnew A⟩
    · split at h
      · simp at h
      rename_i l' hl'
      split at h
      · simp at h
      rename_i r0 S1 hcall
      simp only [Option.some.injEq,Prod.mk.injEq] at h
      obtain ⟨rfl,rfl,rfl⟩:=h
      obtain ⟨m1,m2⟩:=mapM_opt _ _ _ hl'
      obtain ⟨hlen,hpl,hk,hnew⟩:=hold _ _ _ _ _ hcall
      have I2:=inv_enter I (lockUp_all L S)
      obtain ⟨⟨fn,c,hfn,hb⟩,hcl⟩:=hsim _ _ _ _ _ hcall base (guarded prot E.tips ti) w mu hw ti _ I2 (by rw [m1]; exact RAall.1) (fun j x hj => by
        obtain ⟨y,hy,hg⟩:=m2 j x hj
        obtain ⟨v,hv,hr⟩:=RAall.2 j y hy
        obtain ⟨q1,q2⟩:=arg_sound I (List.mem_of_getElem? hy) hr hg
        exact ⟨v,hv,q1,q2 _ _⟩)
      have hbox:∀ i,mu i=none → ∀ x ∈ L,boxOf x ≠ some i:=by
        intro i hi x hx e
        obtain ⟨j,hj⟩:=List.getElem?_of_mem hx
        obtain ⟨v,_,hr⟩:=RAall.2 j x hj
        cases hr with
        | aref _ _ _ _ _ b hb _ => simp only [boxOf,Option.some.injEq] at e; subst e; rw [hi] at hb; cases hb
        | oref _ _ _ _ b _ hb _ => simp only [boxOf,Option.some.injEq] at e; subst e; rw [hi] at hb; cases hb
        | _ => simp [boxOf] at e
      exact ⟨g',_,fin #[] fn c hfn hb,hcl.mono fun e w' A => call_step I (lockUp_all L S) (dn_all S L S1) (fun i hi => ⟨lock_other L S (hbox i hi),unlock_other L S1 (hbox i hi)⟩) (sameC_lockAll L S) hlen hpl hk hnew A⟩
theorem op_wp {call:Caller} (hsim:CallSim P call) (hold:CallOld call) (hN:Named P) {E:Env} (I:Inv base prot E.tips S w mu hw ti) {o:Oper} {a:Act} (SL:Slots S w mu hw (live E.tips S mu) ti E.slots a.tmps) {r:AV}
    (h:evOp P call E S o.op=some (r,tips',S')) {K:Act → World → Prop} {Q:Exit → Act → World → Prop}
    (hK:∀ v w',Step base prot E.tips S w mu hw ti tips' S' w' r v → K (a.put o.dst v) w'):o.wp P a w K Q:=by
  unfold Oper.wp
  by_cases hc:isCall o.op=true
  · have:∃ f args ts,o.op=.call ⟨.value f,args,ts⟩:=by
      unfold isCall at hc
      split at hc
      · exact ⟨_,_,_,by assumption⟩
      · simp at hc
    obtain ⟨f,args,ts,ho⟩:=this
    rw [ho] at h
    simp only [evOp] at h
    obtain ⟨g,vargs,h1,h2⟩:=evCall_sound hsim hold hN I ho SL h
    rw [h1,Oper.upon_enter]
    refine h2.mono fun e w' hh => ?_
    obtain ⟨v,rfl,hs⟩:=hh
    exact hK v w' hs
  · obtain ⟨nx,v,w',h1,h2,h3⟩:=op_sound I SL (by simpa using hc) h
    rw [h1]
    rcases h2 with rfl | ⟨rfl,rfl⟩
    · exact hK v w' h3
    · exact hK _ w' h3
theorem opr_wp {call:Caller} (hsim:CallSim P call) (hold:CallOld call) (hN:Named P) {E:Env} (I:Inv base prot E.tips S w mu hw ti) {o:Oper} {a:Act} (SL:Slots S w mu hw (live E.tips S mu) ti E.slots a.tmps) {r:AV}
    (h:evOpr P call E S o=some (r,tips',S')) {K:Act → World → Prop} {Q:Exit → Act → World → Prop}
    (hK:∀ v w',Step base prot E.tips S w mu hw ti tips' S' w' r v → K (a.put o.dst v) w'):o.wp P a w K Q:=by
  unfold evOpr at h
  split at h
  · rename_i os ox ts ho
    simp only [Option.map_eq_some_iff,Prod.mk.injEq] at h
    obtain ⟨⟨r1,S1⟩,hz,rfl,rfl,rfl⟩:=h
    obtain ⟨v,w',h1,h2⟩:=own_sound I SL ho hz
    unfold Oper.wp
    rw [h1]
    exact hK v w' h2
  · exact op_wp hsim hold hN I SL h hK
theorem guard_ok {ops:Array Oper} {E:Env} {a:Act} {lv:Live} {o:Oper} (SL:Slots S w mu hw lv ti E.slots a.tmps) (ht:guardTold ops E o=true):Region.wanted o (yielded ops a.tmps)=guardOK ops E o:=by
  unfold guardTold at ht
  unfold Region.wanted guardOK yielded
  split at ht
  · rename_i h; simp [h]
  · rename_i j want h
    simp only [h]
    split at ht
    case h_2 => simp at ht
    rename_i d hd
    simp only [hd,Option.bind_some]
    obtain ⟨hr,_⟩:=SL.2 d
    split at ht
    · rename_i b hb
      rw [hb] at hr ⊢
      have:∃ x,x=a.tmps.getD d undef:=⟨_,rfl⟩
      generalize hv:a.tmps.getD d undef=v at hr
      cases hr
      have hd2:a.tmps[d]?=some (.bool b):=by
        rw [Array.getD_eq_getD_getElem?] at hv
        cases hx:a.tmps[d]? with
        | none => simp [hx,undef] at hv
        | some y => simp [hx] at hv; rw [hv]
      simp [hd2]
    · rename_i hb
      rw [hb] at hr ⊢
      generalize hv:a.tmps.getD d undef=v at hr
      have hnb:∀ b,v ≠ .bool b:=by cases hr <;> simp
      have hd2:∀ b,a.tmps[d]? ≠ some (.bool b):=by
        intro b hx
        rw [Array.getD_eq_getD_getElem?,hx] at hv
        exact hnb b hv.symm
      cases hx:a.tmps[d]? with
      | none => simp
      | some y => cases y <;> first | rfl | exact absurd hx (hd2 _)
    · simp at ht
def Run (base:Nat) (prot:Nat → Prop) (S0:St) (w0:World) (mu0:Nat → Option Nat) (hw0:Nat → Nat) (ti0:Id → TI) (E:Env) (S:St) (a:Act) (w:World):Prop :=
  ∃ mu hw ti,Inv base prot E.tips S w mu hw ti ∧ Slots S w mu hw (live E.tips S mu) ti E.slots a.tmps ∧ Ext base prot S0 w0 mu0 hw0 S w mu hw ∧ LvExt (live [] S0 mu0) ti0 (live E.tips S mu) ti ∧ a.defers=[] ∧
    ∀ i,mu0 i=none → i < S0.length → S[i]?=S0[i]? ∧ mu i=none
theorem put_defers (a:Act) (d:Option Tmp) (v:Value):(a.put d v).defers=a.defers:=by cases d <;> rfl
theorem slots_step {E:Env} {a:Act} {r:AV} {v:Value} {d:Option Tmp} {mu':Nat → Option Nat} (SL:Slots S w mu hw (live E.tips S mu) ti E.slots a.tmps) (e:Ext base prot S w mu hw S' w' mu' hw') (l:LvExt (live E.tips S mu) ti (live tips' S' mu') ti')
    (rv:RV w' mu' hw' (lkS S' mu') r v) (fl:Flag (live tips' S' mu') ti' r v):Slots S' w' mu' hw' (live (E.put d r tips').tips S' mu') ti' (E.put d r tips').slots (a.put d v).tmps :=
  (SL.ext e l).put d rv fl
theorem skip_slots {E:Env} {a:Act} {lv:Live} (d:Option Tmp) (SL:Slots S w mu hw lv ti E.slots a.tmps):Slots S w mu hw lv ti (setSlot E.slots d (.tup [])) (a.put d undef).tmps:=by
  refine SL.put d ?_ ?_
  · have:=RV.tup (w:=w) (mu:=mu) (hw:=hw) (lk:=lkS S mu) [] (fun _ => undef) (by simp)
    simpa [undef] using this
  · intro arr _ j x y hx; simp at hx
theorem ops_wp {call:Caller} (hsim:CallSim P call) (hold:CallOld call) (hN:Named P) {S0:St} {w0:World} {mu0:Nat → Option Nat} {hw0:Nat → Nat} {ti0:Id → TI} {ops:Array Oper} {Q:Exit → Act → World → Prop} :
    ∀ (l:List Oper) (E:Env) (S:St) (a:Act) (w:World) (E':Env) (S':St),evOps P call ops l E S=some (E',S') → Run base prot S0 w0 mu0 hw0 ti0 E S a w →
      (∀ a' w',Run base prot S0 w0 mu0 hw0 ti0 E' S' a' w' → Q .normal a' w') → wpList P ops Q l a w:=by
  intro l
  induction l with
  | nil =>
    intro E S a w E' S' h R hQ
    simp [evOps] at h
    obtain ⟨rfl,rfl⟩:=h
    exact hQ a w R
  | cons o l ih =>
    intro E S a w E' S' h R hQ
    obtain ⟨mu,hw,ti,I,SL,e,lv,hd,hh⟩:=R
    unfold evOps at h
    split at h
    case isFalse => simp at h
    rename_i ht
    have hg:=guard_ok SL ht
    unfold wpList
    split at h
    · rename_i hok
      rw [if_pos (by rw [hg]; exact hok)]
      split at h
      case h_2 => simp at h
      rename_i v tips1 S1 h1
      refine .inl (opr_wp hsim hold hN I SL h1 fun y w1 hs => ?_)
      obtain ⟨mu1,hw1,ti1,I1,e1,l1,r1,f1,n1⟩:=hs
      refine ih _ _ _ _ E' S' h ⟨mu1,hw1,ti1,I1,slots_step SL e1 l1 r1 f1,e.trans e1,lv.trans l1,by rw [put_defers]; exact hd,fun i hi hlt => ?_⟩ hQ
      obtain ⟨q1,q2⟩:=hh i hi hlt
      have hlt2:i < S.length:=Nat.lt_of_lt_of_le hlt e.elen
      obtain ⟨q3,q4⟩:=n1 i q2 hlt2
      exact ⟨q3.trans q1,q4⟩
    · rename_i hok
      rw [if_neg (by rw [hg]; exact hok)]
      exact ih _ _ _ _ E' S' h ⟨mu,hw,ti,I,skip_slots o.dst SL,e,lv,by rw [put_defers]; exact hd,hh⟩ hQ
end
end Go.Proofs.YtekgdmhdkhgpjaaGreatDoor.am

namespace Go.Proofs.YtekgdmhdkhgpjaaGreatDoor.am
open Go Go.RowKit
def DrawSim (P:Program) (call:Caller):Prop :=
  ∀ (id:Nat) (ops:Array Oper) (E:Env) (S:St) (E':Env) (S':St),regionOK ops=true → evDraw P call ops E S=some (E',S') →
    ∀ (base:Nat) (prot:Nat → Prop) (S0:St) (w0:World) (mu0:Nat → Option Nat) (hw0:Nat → Nat) (ti0:Id → TI) (a:Act) (w:World) (Q:Exit → Act → World → Prop),Run base prot S0 w0 mu0 hw0 ti0 E S a w →
      (∀ a' w',Run base prot S0 w0 mu0 hw0 ti0 E' S' a' w' → Q .normal a' w') → (Code.region id ops true).wp P Q a w
def exitOf:Out → Exit
  | .normal => .normal
  | .exit id => .exit id
  | .ret => .ret
section
variable {P:Program} {base:Nat} {prot:Nat → Prop} {S0:St} {w0:World} {mu0:Nat → Option Nat} {hw0:Nat → Nat} {ti0:Id → TI}
theorem region_list {id:Nat} {ops:Array Oper} {Q:Exit → Act → World → Prop} {a:Act} {w:World} (h:wpList P ops Q ops.toList a w):(Code.region id ops false).wp P Q a w:=by
  refine wp_region ?_
  have:=wpOps_eq_wpList (P:=P) (ops:=ops) (Q:=Q) ops.toList 0 (fun j => by simp)
  rw [List.range_eq_range']
  have e:ops.toList.length=ops.size:=by simp
  rw [e] at this
  rw [this]
  exact h
end
end Go.Proofs.YtekgdmhdkhgpjaaGreatDoor.am

namespace Go.Proofs.YtekgdmhdkhgpjaaGreatDoor.am
open Go Go.RowKit
section
variable {P:Program} {base:Nat} {prot:Nat → Prop} {tips tips':List (Option Nat)} {S S':St} {w w':World} {mu:Nat → Option Nat} {hw hw':Nat → Nat} {ti ti':Id → TI}
structure Taken (orig tips u:List (Option Nat)) (ks:List Nat):Prop where
  len:ks.length=u.length
  from_:∀ (m:Nat) (L:Nat),u[m]?=some (some L) → ∃ k,ks[m]?=some k ∧ orig[k]?=some (some L) ∧ ∀ L',tips[k]? ≠ some (some L')
  inj:∀ (m m' k:Nat),ks[m]?=some k → ks[m']?=some k → m=m'
  sub:∀ (k L:Nat),tips[k]?=some (some L) → orig[k]?=some (some L)
  gone:∀ (m k:Nat),ks[m]?=some k → ∀ L',tips[k]? ≠ some (some L')
def tiOf (ti:Id → TI) (ks:List Nat):Id → TI
  | .fr m => ti (.fr (ks.getD m 0))
  | .bx i j => ti (.bx i j)
theorem Taken.take {orig tips u:List (Option Nat)} {ks:List Nat} (h:Taken orig tips u ks) {k L:Nat} (hk:tips[k]?=some (some L)):Taken orig (tips.set k none) (u ++ [some L]) (ks ++ [k]):=by
  have hlt:k < tips.length:=lt_of_get hk
  have hgone:∀ k' L',(tips.set k none)[k']?=some (some L') → k' ≠ k ∧ tips[k']?=some (some L'):=by
    intro k' L' h'
    by_cases e:k'=k
    · subst e; rw [List.getElem?_set_self hlt] at h'; cases h'
    · rw [List.getElem?_set_ne fun a => e a.symm] at h'; exact ⟨e,h'⟩
  refine ⟨by simp [h.len],fun m L' hm => ?_,fun m m' k' h1 h2 => ?_,fun k' L' h' => h.sub k' L' (hgone k' L' h').2,fun m k' hm L' h' => ?_⟩
  · rcases Nat.lt_or_ge m u.length with hl | hl
    · rw [List.getElem?_append_left hl] at hm
      obtain ⟨k',a,b,c⟩:=h.from_ m L' hm
      exact ⟨k',by rw [List.getElem?_append_left (lt_of_get a)]; exact a,b,fun L'' h'' => c L'' (hgone k' L'' h'').2⟩
    · have:=lt_of_get hm
      simp at this
      obtain rfl:m=u.length:=by omega
      simp at hm
      subst hm
      exact ⟨k,by rw [← h.len]; simp,h.sub k L hk,fun L'' h'' => (hgone k L'' h'').1 rfl⟩
  · have split:∀ m,(ks ++ [k])[m]?=some k' → (ks[m]?=some k' ∧ m < ks.length) ∨ (m=ks.length ∧ k'=k):=by
      intro m hm
      rcases Nat.lt_or_ge m ks.length with hl | hl
      · rw [List.getElem?_append_left hl] at hm; exact .inl ⟨hm,hl⟩
      · have:=lt_of_get hm
        simp at this
        obtain rfl:m=ks.length:=by omega
        simp at hm
        exact .inr ⟨rfl,hm.symm⟩
    rcases split m h1 with ⟨a,b⟩ | ⟨a,b⟩ <;> rcases split m' h2 with ⟨c,d⟩ | ⟨c,d⟩
    · exact h.inj m m' k' a c
    · subst d; exact absurd hk (h.gone m k' a L)
    · subst b; exact absurd hk (h.gone m' k' c L)
    · omega
  · rcases Nat.lt_or_ge m ks.length with hl | hl
    · rw [List.getElem?_append_left hl] at hm
      exact h.gone m k' hm L' (hgone k' L' h').2
    · have:=lt_of_get hm
      simp at this
      obtain rfl:m=ks.length:=by omega
      simp at hm
      subst hm
      exact (hgone k L' h').1 rfl
theorem give_take1 {orig tips u:List (Option Nat)} {ks:List Nat} (h:Taken orig tips u ks) {x:AV} {v:Value} (hr:RV w mu hw (lkS S mu) x v) (hf:Flag1 (live orig S mu) ti x v) :
    ∃ ks',Taken orig (giveRes tips x).2 (takeRes u (giveRes tips x).1).2 (ks ++ ks') ∧ RV w mu hw (lkS S mu) (takeRes u (giveRes tips x).1).1 v ∧
      (∃ u',(takeRes u (giveRes tips x).1).2=u ++ u') ∧ Flag1 (live (takeRes u (giveRes tips x).1).2 S mu) (tiOf ti (ks ++ ks')) (takeRes u (giveRes tips x).1).1 v:=by
  have same:∀ y,giveRes tips x=(y,tips) → (takeRes u y)=(y,u) → RV w mu hw (lkS S mu) y v → Flag1 (live u S mu) (tiOf ti ks) y v →
      ∃ ks',Taken orig (giveRes tips x).2 (takeRes u (giveRes tips x).1).2 (ks ++ ks') ∧ RV w mu hw (lkS S mu) (takeRes u (giveRes tips x).1).1 v ∧
      (∃ u',(takeRes u (giveRes tips x).1).2=u ++ u') ∧ Flag1 (live (takeRes u (giveRes tips x).1).2 S mu) (tiOf ti (ks ++ ks')) (takeRes u (giveRes tips x).1).1 v:=by
    intro y h1 h2 h3 h4
    refine ⟨[],?_⟩
    rw [h1,h2,List.append_nil]
    exact ⟨h,h3,⟨[],by simp⟩,h4⟩
  cases x with
  | sl r sz es =>
    have hno:(∀ i,r ≠ .loan i) → RV w mu hw (lkS S mu) (.sl .none sz es) v:=fun hl => hr.reright (by simp) hl (by simp) (by simp) (by simp)
    cases r with
    | fr k =>
      by_cases hk:tips[k]?=some (some es.length)
      · have h1:giveRes tips (.sl (.fr k) sz es)=(.sl .fresh sz es,tips.set k none):=by simp [giveRes,hk]
        refine ⟨[k],?_⟩
        rw [h1]
        simp only [takeRes]
        have T:=h.take hk
        refine ⟨T,hr.reright (by simp) (by simp) (by simp) (by simp) (by simp),⟨_,rfl⟩,?_⟩
        obtain ⟨o,a,b⟩:=hf
        have ha:orig[k]?=some o:=a
        rw [h.sub k _ hk] at ha
        obtain rfl:=Option.some.inj ha
        refine ⟨some es.length,by simp [live],fun L e => ?_⟩
        obtain rfl:=Option.some.inj e
        refine ⟨Nat.le_refl _,fun _ => ?_⟩
        have:tiOf ti (ks ++ [k]) (.fr u.length)=ti (.fr k):=by
          simp [tiOf,← h.len]
        rw [this]
        exact (b _ rfl).2 rfl
      · exact same (.sl .none sz es) (by simp [giveRes,hk]) rfl (hno (by simp)) trivial
    | bx i j => exact same (.sl .none sz es) rfl rfl (hno (by simp)) trivial
    | fresh => exact hf.elim
    | none => exact same _ rfl rfl hr trivial
    | exact => exact same _ rfl rfl hr trivial
    | loan i => exact same _ rfl rfl hr trivial
  | tup vs => exact hf.elim
  | _ => exact same _ rfl rfl hr trivial
theorem live_mono_fr {u u':List (Option Nat)} {ks ks':List Nat} (hl:ks.length=u.length) {x:AV} {v:Value} (h:Flag1 (live u S mu) (tiOf ti ks) x v):Flag1 (live (u ++ u') S mu) (tiOf ti (ks ++ ks')) x v:=by
  cases x with
  | sl r sz es =>
    cases r with
    | fr k =>
      obtain ⟨o,a,b⟩:=h
      have hk:k < u.length:=lt_of_get (show u[k]?=some o from a)
      refine ⟨o,?_,fun L e => ?_⟩
      · simp only [live] at a ⊢
        rw [List.getElem?_append_left hk]; exact a
      · have:tiOf ti (ks ++ ks') (.fr k)=tiOf ti ks (.fr k):=by
          simp only [tiOf,List.getD_eq_getElem?_getD]
          rw [List.getElem?_append_left (by omega)]
        rw [this]
        exact b L e
    | bx i j => exact h
    | _ => exact h
  | _ => exact h
theorem give_take {orig:List (Option Nat)}:∀ (l:List AV) (vs:List Value) (tips u:List (Option Nat)) (ks:List Nat),Taken orig tips u ks → l.length=vs.length →
    (∀ (j:Nat) (x:AV) (v:Value),l[j]?=some x → vs[j]?=some v → RV w mu hw (lkS S mu) x v ∧ Flag1 (live orig S mu) ti x v) →
    ∃ ks' tips',Taken orig tips' (takeResL u (giveResL tips l)).2 (ks ++ ks') ∧ (∃ u',(takeResL u (giveResL tips l)).2=u ++ u') ∧ (takeResL u (giveResL tips l)).1.length=l.length ∧
      ∀ (j:Nat) (x:AV) (v:Value),(takeResL u (giveResL tips l)).1[j]?=some x → vs[j]?=some v → RV w mu hw (lkS S mu) x v ∧ Flag1 (live (takeResL u (giveResL tips l)).2 S mu) (tiOf ti (ks ++ ks')) x v:=by
  intro l
  induction l with
  | nil =>
    intro vs tips u ks h hl _
    refine ⟨[],tips,by simpa [giveResL,takeResL] using h,⟨[],by simp [giveResL,takeResL]⟩,by simp [giveResL,takeResL],fun j x v hj => by simp [giveResL,takeResL] at hj⟩
  | cons x l ih =>
    intro vs tips u ks h hl hall
    cases vs with
    | nil => simp at hl
    | cons v vs =>
      obtain ⟨hr,hf⟩:=hall 0 x v rfl rfl
      obtain ⟨k1,T1,r1,⟨u1,e1⟩,f1⟩:=give_take1 h hr hf
      obtain ⟨k2,t2,T2,⟨u2,e2⟩,l2,a2⟩:=ih vs (giveRes tips x).2 (takeRes u (giveRes tips x).1).2 (ks ++ k1) T1 (by simpa using hl) (fun j y z hy hz => hall (j + 1) y z (by simpa using hy) (by simpa using hz))
      refine ⟨k1 ++ k2,t2,?_⟩
      simp only [giveResL,takeResL]
      rw [← List.append_assoc]
      refine ⟨T2,⟨u1 ++ u2,by rw [e2,e1,List.append_assoc]⟩,by simp [l2],fun j y z hy hz => ?_⟩
      cases j with
      | zero =>
        simp at hy hz
        subst hy; subst hz
        refine ⟨r1,?_⟩
        rw [e2]
        exact live_mono_fr T1.len f1
      | succ j => exact a2 j y z (by simpa using hy) (by simpa using hz)
theorem ptr_of_deref {lk:Nat → Prop} {p:AV} {v:Value} {t:TypeId} {a:AV} (h:RV w mu hw lk p v) (he:evLoad P S t p=some a):∃ ad,v=.pointer (some ad):=by
  unfold evLoad at he
  split at he
  case h_2 => simp at he
  rename_i cs off hd
  unfold deref at hd
  split at hd
  · cases h; exact ⟨_,rfl⟩
  · cases h; exact ⟨_,rfl⟩
  · simp at hd
theorem res_run {E:Env} {a:Act} (I:Inv base prot E.tips S w mu hw ti) (SL:Slots S w mu hw (live E.tips S mu) ti E.slots a.tmps) {fn:Func}:∀ (l:List ResultVar) (vs:List AV),evRes P fn E S l=some vs →
    ∃ ys:List Value,(l.mapM (fun r => match r with
        | .tmp t => pure (a.tmps.getD t undef)
        | .cell a' t => do loadVar t (← asAddr (a.tmps.getD a' undef)):ResultVar → Sem Value)).run P w=.ok ys w ∧ vs.length=ys.length ∧
      ∀ (j:Nat) (x:AV) (v:Value),vs[j]?=some x → ys[j]?=some v → RV w mu hw (lkS S mu) x v ∧ Flag (live E.tips S mu) ti x v:=by
  intro l
  induction l with
  | nil =>
    intro vs h
    simp [evRes] at h
    subst h
    exact ⟨[],rfl,rfl,fun j x v hj => by simp at hj⟩
  | cons r l ih =>
    intro vs h
    cases r with
    | tmp t =>
      simp only [evRes,Option.map_eq_some_iff] at h
      obtain ⟨vs',h1,rfl⟩:=h
      obtain ⟨ys,a1,a2,a3⟩:=ih vs' h1
      refine ⟨a.tmps.getD t undef :: ys,?_,by simp [a2],fun j x v hx hv => ?_⟩
      · rw [List.mapM_cons]
        simp only [Sem.run_bind,Sem.run_pure,Result.andThen_ok,a1]
      · cases j with
        | zero => simp at hx hv; subst hx; subst hv; simpa using SL.2 t
        | succ j => exact a3 j x v (by simpa using hx) (by simpa using hv)
    | cell a' t =>
      simp only [evRes] at h
      split at h
      · rename_i v0 vs' h0 h1
        simp at h
        subst h
        obtain ⟨ys,a1,a2,a3⟩:=ih vs' h1
        obtain ⟨hp,_⟩:=SL.2 a'
        obtain ⟨y,b1,b2,b3⟩:=load_run (P:=P) I hp h0
        obtain ⟨ad,had⟩:=ptr_of_deref hp h0
        refine ⟨y :: ys,?_,by simp [a2],fun j x v hx hv => ?_⟩
        · rw [had] at b1
          have b1':(loadVar t ad).run P w=.ok y w:=by simpa [Instr.loadAt,Instr.sureAddr] using b1
          have hrun:(do loadVar t (← asAddr (a.tmps.getD a' undef)):Sem Value).run P w=.ok y w:=by rw [had]; exact b1'
          rw [List.mapM_cons,Sem.run_bind]
          show ((do loadVar t (← asAddr (a.tmps.getD a' undef)):Sem Value).run P w).andThen _=_
          rw [hrun,Result.andThen_ok,Sem.run_bind,a1]
          rfl
        · cases j with
          | zero => simp at hx hv; subst hx; subst hv; exact ⟨b2,b3⟩
          | succ j => exact a3 j x v (by simpa using hx) (by simpa using hv)
      · simp at h
end
end Go.Proofs.YtekgdmhdkhgpjaaGreatDoor.am

namespace Go.Proofs.YtekgdmhdkhgpjaaGreatDoor.am
open Go Go.RowKit
section
variable {P:Program} {base:Nat} {prot:Nat → Prop} {tips tips':List (Option Nat)} {S S1:St} {w w':World} {mu mu1:Nat → Option Nat} {hw hw1:Nat → Nat} {ti ti1:Id → TI} {n0:Nat}
theorem old_of_inv (I:Inv base prot tips S w mu hw ti):OldOK (fun i => ∃ b,mu i=some b) S.length (fun _ => true) S:=by
  intro i cs bt l hi ⟨b,hb⟩ hS
  obtain ⟨vs,el,p,q⟩:=I.ibox i _ b hS hb
  rw [ltL_iff]
  intro x hx
  obtain ⟨j,hj⟩:=List.getElem?_of_mem hx
  obtain ⟨_,y,_,hr⟩:=q.2 j x hj
  exact hr.lt_of (fun i b h => (I.idom i b h).1) fun _ _ _ _ => rfl
theorem leave_tips {orig tr:List (Option Nat)} {ks:List Nat} {tipsE:List (Option Nat)} (I1:Inv base prot orig S1 w' mu1 hw1 ti1) (lv:LvExt (live [] S mu) ti (live orig S1 mu1) ti1) (T:Taken orig tipsE tr ks) :
    Inv base prot tr S1 w' mu1 hw1 (tiOf ti1 ks) ∧ LvExt (live [] S mu) ti (live tr S1 mu1) (tiOf ti1 ks):=by
  have kind:∀ id L,live tr S1 mu1 id=some (some L) → ∃ id',live orig S1 mu1 id'=some (some L) ∧ tiOf ti1 ks id=ti1 id' ∧ ((∃ i j,id=.bx i j ∧ id'=.bx i j) ∨ ∃ m k,id=.fr m ∧ id'=.fr k ∧ ks[m]?=some k):=by
    intro id L h
    cases id with
    | fr m =>
      obtain ⟨k,a,b,_⟩:=T.from_ m L h
      exact ⟨.fr k,b,by simp [tiOf,a],.inr ⟨m,k,rfl,rfl,a⟩⟩
    | bx i j => exact ⟨.bx i j,h,rfl,.inl ⟨i,j,rfl,rfl⟩⟩
  refine ⟨⟨I1.ibox,fun i cells bt l b h1 h2 vs el h3 j x y hx hy => ?_,I1.iinj,I1.idom,I1.iout,fun id L hid => ?_,fun id id' L L' h1 h2 hb => ?_,I1.iprot,I1.ibase,I1.iglb⟩,fun id o ho => ?_⟩
  · obtain ⟨p,q⟩:=I1.iflag i cells bt l b h1 h2 vs el h3 j x y hx hy
    refine ⟨p,?_⟩
    cases x with
    | sl rr sz es =>
      cases rr with
      | fr n => simp [noFr] at p
      | fresh => simp [noFr] at p
      | bx i' j' => exact q
      | _ => exact q
    | tup vs => exact q
    | _ => trivial
  · obtain ⟨id',h1,h2,_⟩:=kind id L hid
    rw [h2]
    exact I1.itip id' L h1
  · obtain ⟨i1,a1,a2,a3⟩:=kind id L h1
    obtain ⟨i2,b1,b2,b3⟩:=kind id' L' h2
    rw [a2,b2] at hb
    have:=I1.itinj i1 i2 L L' a1 b1 hb
    subst this
    rcases a3 with ⟨i,j,rfl,rfl⟩ | ⟨m,k,rfl,rfl,hk⟩ <;> rcases b3 with ⟨i',j',rfl,h⟩ | ⟨m',k',rfl,h,hk'⟩
    · cases h; rfl
    · cases h
    · cases h
    · cases h
      rw [T.inj m m' k hk hk']
  · cases id with
    | fr n => simp [live] at ho
    | bx i j => exact lv _ o ho
noncomputable def settle (w:World) (n:Nat) (mu:Nat → Option Nat) (hw:Nat → Nat) (b:Nat):Nat :=
  open Classical in if ∃ i,n ≤ i ∧ mu i=some b then (match w.heap[b]? with | some (.cells vs _ _) => vs.size | _ => 0) else hw b
theorem settle_no {n b:Nat} (h:∀ i,n ≤ i → mu i ≠ some b):settle w n mu hw b=hw b:=by
  unfold settle
  rw [if_neg]
  rintro ⟨i,a,c⟩
  exact h i a c
theorem settle_yes {n b i:Nat} {vs:Array Value} {el:TypeId} {fr:Nat × Nat} (h:n ≤ i) (hm:mu i=some b) (hb:w.heap[b]?=some (.cells vs el fr)):settle w n mu hw b=vs.size:=by
  unfold settle
  rw [if_pos ⟨i,h,hm⟩,hb]
theorem settle_ge {n b:Nat} (I:Inv base prot tips S w mu hw ti):hw b ≤ settle w n mu hw b:=by
  by_cases h:∃ i,n ≤ i ∧ mu i=some b
  · obtain ⟨i,_,hm⟩:=h
    rw [(I.idom i b hm).2.2.2.1]
    exact Nat.zero_le _
  · rw [settle_no fun i a c => h ⟨i,a,c⟩]
    exact Nat.le_refl _
theorem inv_drop {tr:List (Option Nat)} (I:Inv base prot [] S w mu hw ti) (I1:Inv base prot tr S1 w' mu1 hw1 ti1) (e:Ext base prot S w mu hw S1 w' mu1 hw1)
    (lv:LvExt (live [] S mu) ti (live tr S1 mu1) ti1) (hole:∀ i,mu i=none → i < S.length → S1[i]?=S[i]? ∧ mu1 i=none) (K:Keeps S.length S S1) :
    Inv base prot tr (S1.take S.length) w' mu (settle w' S.length mu1 hw1) ti1 ∧ Ext base prot S w mu hw (S1.take S.length) w' mu (settle w' S.length mu1 hw1) ∧ LvExt (live [] S mu) ti (live tr (S1.take S.length) mu) ti1 ∧
      (∀ r v,lt S.length (fun _ => true) r=true → RV w' mu1 hw1 (lkS S1 mu1) r v → RV w' mu (settle w' S.length mu1 hw1) (lkS (S1.take S.length) mu) r v) ∧
      (∀ id,(∀ i j,id=.bx i j → i < S.length) → live tr (S1.take S.length) mu id=live tr S1 mu1 id) ∧ ∀ i,mu i=none → i < S.length → (S1.take S.length)[i]?=S[i]?:=by
  have hmu:∀ i b,i < S.length → mu1 i=some b → mu i=some b:=by
    intro i b hi h
    cases hm:mu i with
    | none => rw [(hole i hm hi).2] at h; cases h
    | some b' => rw [e.emu i b' hm] at h; exact h
  have hmu2:∀ i,i < S.length → mu i=mu1 i:=by
    intro i hi
    cases hm:mu i with
    | none => exact (hole i hm hi).2.symm
    | some b' => exact (e.emu i b' hm).symm
  have htake:∀ (i:Nat),i < S.length → (S1.take S.length)[i]?=S1[i]?:=fun i hi => List.getElem?_take_of_lt hi
  have hin:∀ (i:Nat) (bx:Box),(S1.take S.length)[i]?=some bx → i < S.length ∧ S1[i]?=some bx:=by
    intro i bx h
    have hi:i < S.length:=by have:=lt_of_get h; simp at this; omega
    exact ⟨hi,by rw [← htake i hi]; exact h⟩
  have hlk:∀ i b,i < S.length → mu1 i=some b → lkS S1 mu1 b → lkS (S1.take S.length) mu b:=by
    rintro i b hi hm ⟨i',cs,bt,h1,h2⟩
    have:=I1.iinj i' i b h2 hm
    subst this
    exact ⟨i',cs,bt,by rw [htake i' hi]; exact h1,hmu i' b hi hm⟩
  have old:=K.old (fun i => ∃ b,mu i=some b) S.length (fun _ => true) (Nat.le_refl _) (old_of_inv I)
  have hge:∀ b o,o < hw1 b → o < settle w' S.length mu1 hw1 b:=fun b o h => Nat.lt_of_lt_of_le h (settle_ge I1)
  have restr:∀ x y,lt S.length (fun _ => true) x=true → RV w' mu1 hw1 (lkS S1 mu1) x y → RV w' mu (settle w' S.length mu1 hw1) (lkS (S1.take S.length) mu) x y :=
    fun x y hl h => (h.restrict hmu (fun i b hi _ hm hb => hlk i b hi hm hb) hl).mono (fun _ _ h => h) hge (fun _ h => h) (fun _ _ _ _ h => h)
  have hlive:∀ id,(∀ i j,id=.bx i j → i < S.length) → live tr (S1.take S.length) mu id=live tr S1 mu1 id:=by
    intro id hid
    cases id with
    | fr n => rfl
    | bx i j =>
      have hi:=hid i j rfl
      simp only [live,hmu2 i hi,htake i hi]
  have hbx:∀ t i j L,live t (S1.take S.length) mu (.bx i j)=some (some L) → i < S.length:=by
    intro t i j L h
    cases hm:mu i with
    | none => simp [live,hm] at h
    | some b => exact (I.idom i b hm).1
  have up:∀ id L,live tr (S1.take S.length) mu id=some (some L) → live tr S1 mu1 id=some (some L):=by
    intro id L h
    rw [← h]
    refine (hlive id fun i j e => ?_).symm
    subst e
    exact hbx tr i j L h
  have old0:∀ i b,i < S.length → mu1 i=some b → settle w' S.length mu1 hw1 b=hw1 b:=by
    intro i b hi hm
    refine settle_no fun i' h hm' => ?_
    have:=I1.iinj i i' b hm hm'
    omega
  refine ⟨⟨fun i bx b h1 h2 => ?_,fun i cells bt l b h1 h2 vs el h3 j x y hx hy => ?_,I.iinj,fun i b hi => ?_,fun b hb => ?_,fun id L hid => ?_,fun id id' L L' h1 h2 hb => I1.itinj id id' L L' (up _ _ h1) (up _ _ h2) hb,I1.iprot,I1.ibase,I1.iglb.mono (fun b => settle_ge I1) (fun _ _ _ _ h => h)⟩,?_,?_,restr,hlive,fun i hi hl => ?_⟩
  · obtain ⟨hi,hS⟩:=hin i bx h1
    have:=I1.ibox i bx b hS (e.emu i b h2)
    cases bx with
    | mem cs bt l =>
      obtain ⟨vs,el,p,q⟩:=this
      exact ⟨vs,el,p,q.1,fun j x hj => by
        obtain ⟨a,y,c,d⟩:=q.2 j x hj
        exact ⟨a,y,c,restr x y (ltL_get (old i cs bt l hi ⟨b,h2⟩ hS) hj) d⟩⟩
    | iter s pos => exact this
  · obtain ⟨hi,hS⟩:=hin i _ h1
    obtain ⟨p,q⟩:=I1.iflag i cells bt l b hS (e.emu i b h2) vs el h3 j x y hx hy
    have hxl:=ltL_get (old i cells bt l hi ⟨b,h2⟩ hS) hx
    refine ⟨p,?_⟩
    cases x with
    | sl rr sz es =>
      cases rr with
      | fr n => simp [noFr] at p
      | fresh => simp [noFr] at p
      | bx i' j' =>
        obtain ⟨o,a,b⟩:=q
        have hi':i' < S.length:=by simp only [lt,rlt,Bool.and_eq_true,decide_eq_true_eq] at hxl; exact hxl.1
        exact ⟨o,by rw [hlive _ fun i0 j0 e0 => by cases e0; exact hi']; exact a,b⟩
      | _ => exact q
    | tup vs => exact q
    | _ => trivial
  · obtain ⟨a,b',c,d,f⟩:=I1.idom i b (e.emu i b hi)
    have hi2:=(I.idom i b hi).1
    exact ⟨by simp; omega,b',c,by rw [old0 i b hi2 (e.emu i b hi)]; exact d,f⟩
  · rw [settle_no fun i _ hm => by have:=(I1.idom i b hm).2.2.1; omega]
    exact I1.iout b hb
  · obtain ⟨a,b,c⟩:=I1.itip id L (up id L hid)
    exact ⟨a.keep (settle_no fun i _ => c i) rfl,b,fun i hi => c i (e.emu i _ hi)⟩
  · refine ⟨fun _ _ h => h,fun b => Nat.le_trans (e.ehw b) (settle_ge I1),fun b hb => ?_,e.ecell,fun b hb => ⟨(e.eprot b hb).1,?_⟩,e.ebelow,by have:=e.elen; simp; omega⟩
    · obtain ⟨i,cs,bt,h1,h2⟩:=hb
      exact hlk i b (I.idom i b h2).1 (e.emu i b h2) (e.elk b ⟨i,cs,bt,h1,h2⟩)
    · rw [settle_no fun i _ hm => (I1.idom i b hm).2.2.2.2 hb]
      exact (e.eprot b hb).2
  · intro id o ho
    cases id with
    | fr n => simp [live] at ho
    | bx i j =>
      have hi:i < S.length:=by
        cases hm:mu i with
        | none => simp [live,hm] at ho
        | some b => exact (I.idom i b hm).1
      obtain ⟨o',h1,h2⟩:=lv _ o ho
      exact ⟨o',by rw [hlive _ fun i' j' e0 => by cases e0; exact hi]; exact h1,h2⟩
  · rw [htake i hl]; exact (hole i hi hl).1
theorem plain_rv {mu2:Nat → Option Nat} {hw2:Nat → Nat} {lk lk2:Nat → Prop} (hge:∀ b o,o < hw b → o < hw2 b) {a:AV} {v:Value} (hp:plain a=true) (h:RV w mu hw lk a v):RV w mu2 hw2 lk2 a v:=by
  have h1:RV w mu2 hw lk2 a v:=h.restrict (m:=0) (q:=fun _ => false) (fun i b h => by omega) (fun i b h => by omega) (plain_lt 0 _ a hp)
  exact h1.mono (fun _ _ h => h) hge (fun _ h => h) (fun _ _ _ _ h => h)
theorem mapM_get {α β:Type} {f:α → Option β} {l:List α} {r:List β} (h:l.mapM f=some r):r.length=l.length ∧ ∀ (j:Nat) (y:β),r[j]?=some y → ∃ x,l[j]?=some x ∧ f x=some y:=mapM_opt f l r h
theorem plainL_of:∀ {r:List AV},(∀ x ∈ r,plain x=true) → plainL r=true
  | [],_ => rfl
  | a :: r,h => by simp [plainL,h a (by simp),plainL_of (r:=r) fun x hx => h x (by simp [hx])]
theorem plainEs_of:∀ {r:List (List AV)},(∀ x ∈ r,plainL x=true) → plainEs r=true
  | [],_ => rfl
  | a :: r,h => by simp [plainEs,h a (by simp),plainEs_of (r:=r) fun x hx => h x (by simp [hx])]
theorem frz_plain:∀ (d:Nat) (v v':AV),frz S1 n0 d v=some v' → plain v'=true ∧ (nf v=true → nf v'=true):=by
  intro d
  induction d with
  | zero => intro v v' h; simp [frz] at h
  | succ d ih =>
    intro v v' h
    have cells:∀ (l r:List AV),l.mapM (frz S1 n0 d)=some r → plainL r=true:=by
      intro l r h
      obtain ⟨_,h2⟩:=mapM_get h
      have:∀ x ∈ r,plain x=true:=by
        intro x hx
        obtain ⟨j,hj⟩:=List.getElem?_of_mem hx
        obtain ⟨y,_,hy⟩:=h2 j x hj
        exact (ih y x hy).1
      exact plainL_of this
    have rows:∀ (es r:List (List AV)),(es.mapM fun (l:List AV) => l.mapM (frz S1 n0 d))=some r → plainEs r=true:=by
      intro es r h
      obtain ⟨_,h2⟩:=mapM_get h
      have:∀ x ∈ r,plainL x=true:=by
        intro x hx
        obtain ⟨j,hj⟩:=List.getElem?_of_mem hx
        obtain ⟨y,_,hy⟩:=h2 j x hj
        exact cells y x hy
      exact plainEs_of this
    unfold frz at h
    split at h
    · rename_i hp; simp at h; subst h; exact ⟨hp,id⟩
    · split at h
      · split at h
        · simp at h
        split at h
        · simp only [Option.map_eq_some_iff] at h
          obtain ⟨r,hr,rfl⟩:=h
          exact ⟨rows _ r hr,fun _ => rfl⟩
        · simp at h
      · split at h
        · simp at h
        split at h
        · simp only [Option.map_eq_some_iff] at h
          obtain ⟨r,hr,rfl⟩:=h
          exact ⟨rows _ r hr,fun _ => rfl⟩
        · simp at h
      · split at h
        · simp at h
        split at h
        · simp only [Option.map_eq_some_iff] at h
          obtain ⟨r,hr,rfl⟩:=h
          refine ⟨?_,fun _ => rfl⟩
          rename_i cs _ _ _
          refine cells (cs.map strip) r ?_
          rw [← hr,List.mapM_map]
          rfl
        · simp at h
      · simp only [Option.map_eq_some_iff] at h
        obtain ⟨r,hr,rfl⟩:=h
        exact ⟨rows _ r hr,fun _ => rfl⟩
      · simp only [Option.map_eq_some_iff] at h
        obtain ⟨r,hr,rfl⟩:=h
        exact ⟨rows _ r hr,fun _ => rfl⟩
      · simp only [Option.map_eq_some_iff] at h
        obtain ⟨r,hr,rfl⟩:=h
        exact ⟨(ih _ _ hr).1,fun _ => rfl⟩
      · simp only [Option.map_eq_some_iff] at h
        obtain ⟨r,hr,rfl⟩:=h
        exact ⟨cells _ r hr,fun h => by simp [nf] at h⟩
      · simp at h
theorem nfa_nf {a:AV} (h:nf a=true):nfa a=true:=by
  cases a <;> first | rfl | exact h
set_option maxHeartbeats 1000000 in
theorem frz_rv {tr:List (Option Nat)} {mu2:Nat → Option Nat} {lk2:Nat → Prop} (I1:Inv base prot tr S1 w' mu1 hw1 ti1):∀ (d:Nat) (v v':AV) (x:Value),RV w' mu1 hw1 (lkS S1 mu1) v x → frz S1 n0 d v=some v' → RV w' mu2 (settle w' n0 mu1 hw1) lk2 v' x:=by
  have hge:∀ b o,o < hw1 b → o < settle w' n0 mu1 hw1 b:=fun b o h => Nat.lt_of_lt_of_le h (settle_ge I1)
  intro d
  induction d with
  | zero => intro v v' x _ h; simp [frz] at h
  | succ d ih =>
    intro v v' x hr h
    -- the elements of a box's slice
    have box:∀ (i off len cap sz b:Nat) (es:List (List AV)) (z:Nat),¬ i < n0 → mu1 i=some b → len ≤ cap → sz ≠ 0 →
        (match S1[i]? with
          | some (.mem cs _ _) => if off + len * sz ≤ cs.length ∧ sz ≠ 0 then some (sz,(List.range len).map fun k => (sub cs (off + k * sz) sz).map strip) else none
          | _ => none)=some (z,es) → ∀ es',(es.mapM fun (l:List AV) => l.mapM (frz S1 n0 d))=some es' →
        RV w' mu2 (settle w' n0 mu1 hw1) lk2 (.sl .none sz es') (.slice (some ⟨b,off,none⟩) len cap):=by
      intro i off len cap sz b es z hi hm h0 hsz hes es' hes'
      split at hes
      case h_2 => simp at hes
      rename_i cs bt l hS
      split at hes
      case isFalse => simp at hes
      rename_i hc
      simp at hes
      obtain ⟨rfl,rfl⟩:=hes
      obtain ⟨vs,el,hvs,hrb⟩:=I1.ibox i _ b hS hm
      have hset:=settle_yes (n:=n0) (hw:=hw1) (Nat.le_of_not_lt hi) hm hvs
      obtain ⟨l1,l2⟩:=mapM_get hes'
      have get:∀ (i':Nat) (c':List AV),es'[i']?=some c' → i' < len ∧ (((sub cs (off + i' * sz) sz).map strip).mapM (frz S1 n0 d))=some c' ∧ off + i' * sz + sz ≤ cs.length:=by
        intro i' c' hi'
        obtain ⟨c,hc1,hc2⟩:=l2 i' c' hi'
        have hlt:i' < len:=by have:=lt_of_get hc1; simpa using this
        simp [hlt] at hc1
        have:(i' + 1) * sz ≤ len * sz:=Nat.mul_le_mul_right sz hlt
        rw [Nat.add_mul] at this
        exact ⟨hlt,hc1 ▸ hc2,by omega⟩
      have elem:∀ (i':Nat) (c:List AV) (j:Nat) (a:AV),es'[i']?=some c → c[j]?=some a →
          nf a=true ∧ off + i' * sz + j < settle w' n0 mu1 hw1 b ∧ w'.cell? ⟨b,off + i' * sz + j,none⟩=some (vs.getD (off + i' * sz + j) undef) ∧ RV w' mu2 (settle w' n0 mu1 hw1) lk2 a (vs.getD (off + i' * sz + j) undef):=by
        intro i' c j a hi' hj
        obtain ⟨g1,g2,g3⟩:=get i' c hi'
        obtain ⟨k1,k2⟩:=mapM_get g2
        obtain ⟨y,hy1,hy2⟩:=k2 j a hj
        obtain ⟨p,u,hu,hru⟩:=(hrb.subrl (off + i' * sz) sz g3).2 j y hy1
        have hjl:j < sz:=by have:=lt_of_get hy1; simp [sub] at this; omega
        have hu':vs[off + i' * sz + j]?=some u:=by
          rw [Array.getElem?_extract] at hu
          split at hu
          · exact hu
          · cases hu
        have eg:vs.getD (off + i' * sz + j) undef=u:=by simp [Array.getD_eq_getD_getElem?,hu']
        rw [eg]
        exact ⟨(frz_plain d y a hy2).2 p,by rw [hset]; exact lt_of_aget hu',by rw [cell_of_block hvs,hu'],ih y a u hru hy2⟩
      refine .sl .none sz es' b off len cap (fun i' j => vs.getD (off + i' * sz + j) undef) ⟨by rw [l1]; simp,h0,hsz⟩ (by simp) (by simp) (by simp) (fun i' c hi' => ?_) (fun i' c j a hi' hj => ?_) (fun i' c j a hi' hj => (elem i' c j a hi' hj).2.2.2)
      · obtain ⟨g1,g2,g3⟩:=get i' c hi'
        rw [(mapM_get g2).1]
        simp [sub]; omega
      · obtain ⟨e1,e2,e3,_⟩:=elem i' c j a hi' hj
        exact ⟨e1,e2,e3⟩
    -- a slice of known content
    have slc:∀ (r:Right) (sz:Nat) (es es':List (List AV)),(r=.none ∨ r=.exact) → RV w' mu1 hw1 (lkS S1 mu1) (.sl r sz es) x → (es.mapM fun (l:List AV) => l.mapM (frz S1 n0 d))=some es' → RV w' mu2 (settle w' n0 mu1 hw1) lk2 (.sl .none sz es') x:=by
      intro r sz es es' hrr hr hes'
      obtain ⟨l1,l2⟩:=mapM_get hes'
      cases hr with
      | emp _ p cap =>
        obtain rfl:es'=[]:=by simpa using hes'.symm
        exact .emp sz p cap
      | emp0 _ p =>
        obtain rfl:es'=[]:=by simpa using hes'.symm
        exact .emp sz p 0
      | sl _ _ _ b o len cap f h0 hrx hb hl hs h1 h2 =>
        refine .sl .none sz es' b o len cap f ⟨by rw [l1]; exact h0.1,h0.2⟩ (by simp) (by simp) (by simp) (fun i c hi => ?_) (fun i c j a hi hj => ?_) (fun i c j a hi hj => ?_)
        · obtain ⟨c0,hc1,hc2⟩:=l2 i c hi
          rw [(mapM_get hc2).1]
          exact hs i c0 hc1
        · obtain ⟨c0,hc1,hc2⟩:=l2 i c hi
          obtain ⟨y,hy1,hy2⟩:=(mapM_get hc2).2 j a hj
          obtain ⟨p,q,z⟩:=h1 i c0 j y hc1 hy1
          refine ⟨(frz_plain d y a hy2).2 p,?_,z⟩
          rcases hrr with rfl | rfl <;> exact hge _ _ q
        · obtain ⟨c0,hc1,hc2⟩:=l2 i c hi
          obtain ⟨y,hy1,hy2⟩:=(mapM_get hc2).2 j a hj
          exact ih y a _ (h2 i c0 j y hc1 hy1) hy2
    unfold frz at h
    split at h
    · rename_i hp; simp at h; subst h; exact plain_rv hge hp hr
    · split at h
      · rename_i i off len sz _
        split at h
        · simp at h
        rename_i hi
        split at h
        case h_2 => simp at h
        rename_i z es hes
        simp only [Option.map_eq_some_iff] at h
        obtain ⟨es',hes',rfl⟩:=h
        cases hr with
        | oref _ _ _ _ b cap hb h0 => exact box i off len cap sz b es z hi hb h0.1 h0.2 hes es' hes'
      · rename_i i off len cap sz _
        split at h
        · simp at h
        rename_i hi
        split at h
        case h_2 => simp at h
        rename_i z es hes
        simp only [Option.map_eq_some_iff] at h
        obtain ⟨es',hes',rfl⟩:=h
        cases hr with
        | aref _ _ _ _ _ b hb h0 => exact box i off len cap sz b es z hi hb h0.1 h0.2 hes es' hes'
      · rename_i i off _
        split at h
        · simp at h
        rename_i hi
        split at h
        case h_2 => simp at h
        rename_i cs bt l hS
        simp only [Option.map_eq_some_iff] at h
        obtain ⟨cs',hcs',rfl⟩:=h
        cases hr with
        | ptr _ _ b hb =>
          obtain ⟨vs,el,hvs,hrb⟩:=I1.ibox i _ b hS hb
          have hset:=settle_yes (n:=n0) (hw:=hw1) (Nat.le_of_not_lt hi) hb hvs
          have elem:∀ (j:Nat) (a:AV),cs'[j]?=some a → nf a=true ∧ j < settle w' n0 mu1 hw1 b ∧ w'.cell? ⟨b,j,none⟩=some (vs.getD j undef) ∧ RV w' mu2 (settle w' n0 mu1 hw1) lk2 a (vs.getD j undef):=by
            intro j a hj
            obtain ⟨y,hy1,hy2⟩:=(mapM_get hcs').2 j a hj
            obtain ⟨p,u,hu,hru⟩:=hrb.2 j y hy1
            have eg:vs.getD j undef=u:=by simp [Array.getD_eq_getD_getElem?,hu]
            rw [eg]
            exact ⟨(frz_plain d _ a hy2).2 p,by rw [hset]; exact lt_of_aget hu,by rw [cell_of_block hvs,hu],ih _ a u hru.strip hy2⟩
          have:=RV.rptr (w:=w') (mu:=mu2) (hw:=settle w' n0 mu1 hw1) (lk:=lk2) .none cs' off b 0 (fun j => vs.getD j undef) (.inl rfl) (fun j a hj => by
            obtain ⟨e1,e2,e3,_⟩:=elem j a hj
            exact ⟨e1,by simpa [immR] using e2,by simpa using e3⟩) (fun j a hj => (elem j a hj).2.2.2)
          simpa using this
      · simp only [Option.map_eq_some_iff] at h
        obtain ⟨es',hes',rfl⟩:=h
        exact slc .none _ _ _ (.inl rfl) hr hes'
      · simp only [Option.map_eq_some_iff] at h
        obtain ⟨es',hes',rfl⟩:=h
        exact slc .exact _ _ _ (.inr rfl) hr hes'
      · rename_i t a _
        simp only [Option.map_eq_some_iff] at h
        obtain ⟨a',ha',rfl⟩:=h
        cases hr with
        | ifc _ _ y h1 h2 =>
          refine .ifc t a' y ?_ (ih a a' y h2 ha')
          cases a with
          | agg cs =>
            cases d with
            | zero => simp [frz] at ha'
            | succ d =>
              unfold frz at ha'
              split at ha'
              · simp at ha'; subst ha'; rfl
              · simp only [Option.map_eq_some_iff] at ha'
                obtain ⟨_,_,rfl⟩:=ha'
                rfl
          | _ =>
            exact nfa_nf ((frz_plain d _ a' ha').2 h1)
      · rename_i cs _
        simp only [Option.map_eq_some_iff] at h
        obtain ⟨cs',hcs',rfl⟩:=h
        cases hr with
        | agg _ f h1 h2 =>
          obtain ⟨l1,l2⟩:=mapM_get hcs'
          rw [← l1]
          refine .agg cs' f (fun j a hj => ?_) (fun j a hj => ?_)
          · obtain ⟨y,hy1,hy2⟩:=l2 j a hj
            exact (frz_plain d y a hy2).2 (h1 j y hy1)
          · obtain ⟨y,hy1,hy2⟩:=l2 j a hj
            exact ih y a _ (h2 j y hy1) hy2
      · simp at h
theorem giveRes_notTup (tips:List (Option Nat)) (x:AV) (h:notTup x=true):notTup (giveRes tips x).1=true:=by
  cases x with
  | sl r sz es => cases r <;> first | rfl | (simp only [giveRes]; split <;> rfl)
  | tup vs => simp [notTup] at h
  | _ => rfl
theorem takeRes_notTup (u:List (Option Nat)) (x:AV) (h:notTup x=true):notTup (takeRes u x).1=true:=by
  cases x with
  | sl r sz es => cases r <;> rfl
  | tup vs => simp [notTup] at h
  | _ => rfl
theorem Flag.of1 {lv:Live} {x:AV} {v:Value} (h:Flag1 lv ti x v):Flag lv ti x v:=by
  cases x with
  | tup vs => exact h.elim
  | sl r sz es => exact h
  | _ => trivial
theorem Flag.to1 {lv:Live} {x:AV} {v:Value} (h:Flag lv ti x v) (hn:notTup x=true):Flag1 lv ti x v:=by
  cases x with
  | tup vs => simp [notTup] at hn
  | sl r sz es => exact h
  | _ => trivial
end
end Go.Proofs.YtekgdmhdkhgpjaaGreatDoor.am
