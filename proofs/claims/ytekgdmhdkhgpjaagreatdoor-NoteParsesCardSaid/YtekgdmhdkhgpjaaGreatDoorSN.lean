/- Several texts, one behind the other: Wt1 Wt2 Wt3 Wt4 Wt5 -/
import Derived.Test.YtekgdmhdkhgpjaaGreatDoorSI
import Derived.Test.YtekgdmhdkhgpjaaGreatDoorSH
import Derived.Test.YtekgdmhdkhgpjaaGreatDoorSM
import Derived.Test.YtekgdmhdkhgpjaaGreatDoorSG
set_option linter.unusedSimpArgs false
set_option linter.unusedVariables false
set_option linter.unusedSimpArgs false
namespace Go.Proofs.YtekgdmhdkhgpjaaGreatDoor.am
open Go
def hexd (n:Nat):UInt8:=if n < 10 then UInt8.ofNat (48 + n) else UInt8.ofNat (87 + n)
def isEsc (c:UInt8):Bool:=decide (c.toNat < 32) || (decide (126 < c.toNat) || (decide (c.toNat=34) || decide (c.toNat=92)))
def escT (c:UInt8):Str:=if isEsc c then [92,hexd (c.toNat / 16),hexd (c.toNat % 16)] else [c]
def quoteB (s:Str):Str:=s.flatMap escT
def quoteT (s:Str):Str:=34 :: (quoteB s ++ [34])
theorem escT_len (c:UInt8):(escT c).length ≤ 3 ∧ 1 ≤ (escT c).length:=by unfold escT; split <;> simp
theorem quoteB_len:∀ s:Str,(quoteB s).length ≤ 3 * s.length
  | [] => by simp [quoteB]
  | c :: s => by
    have h1:=(escT_len c).1
    have h2:=quoteB_len s
    simp only [quoteB,List.flatMap_cons,List.length_append,List.length_cons] at h2 ⊢
    omega
def bcl (l:Str):List (List AV):=l.map fun b => [cellB b]
@[simp] theorem bcl_len (l:Str):(bcl l).length=l.length:=by simp [bcl]
@[simp] theorem bcl_app (a b:Str):bcl (a ++ b)=bcl a ++ bcl b:=by simp [bcl]
theorem bytesTo_bcl (l:Str):bytesTo (bcl l)=some l:=by
  have:=bytesTo_enc l
  simpa [encB,bcl,Function.comp_def] using this
def OutOK (out:AV) (tips:List (Option Nat)) (l:Str):Prop:=(out=.sl .exact 1 (bcl l) ∧ tips=[]) ∨ (out=.sl (.fr 0) 1 (bcl l) ∧ tips=[some l.length])
theorem app_ok {out:AV} {tips:List (Option Nat)} {l:Str} (h:OutOK out tips l) (x:Str) (hx:x ≠ []) (hl:l.length + x.length ≤ 1073741824) (S:St):appendK 1 tips S out (.sl .exact 1 (bcl x))=some (.sl (.fr 0) 1 (bcl (l ++ x)),[some (l ++ x).length],S):=by
  have hx':¬ x.length=0:=by cases x <;> simp at hx ⊢
  have hb:¬ (1073741824 < l.length + x.length):=by omega
  rcases h with ⟨rfl,rfl⟩ | ⟨rfl,rfl⟩
  · simp [appendK,elemsOf,hx',hb,hx]
  · simp [appendK,elemsOf,hx',hb,hx]
theorem hex_at (n:Nat) (h:n < 16):([48,49,50,51,52,53,54,55,56,57,97,98,99,100,101,102]:List UInt8)[n]?=some (hexd n):=by
  have key:∀ n:Fin 16,([48,49,50,51,52,53,54,55,56,57,97,98,99,100,101,102]:List UInt8)[n.val]?=some (hexd n.val):=by decide
  exact key ⟨n,h⟩
theorem bI_add (k:IntKind) (a b:Int):evBinII .add k a k b=some (.int k (k.wrap (a + b))):=by simp only [evBinII,ne_eq,not_true_eq_false,if_false]
theorem bI_eql (k:IntKind) (a b:Int):evBinII .eql k a k b=some (.bool (a == b)):=by simp only [evBinII,ne_eq,not_true_eq_false,if_false]
theorem bI_lss (k:IntKind) (a b:Int):evBinII .lss k a k b=some (.bool (decide (a < b))):=by simp only [evBinII,ne_eq,not_true_eq_false,if_false]
theorem bI_geq (k:IntKind) (a b:Int):evBinII .geq k a k b=some (.bool (decide (a ≥ b))):=by simp only [evBinII,ne_eq,not_true_eq_false,if_false]
theorem bI_shr (k k2:IntKind) (a b:Int) (h:¬ b < 0):evBinII .shr k a k2 b=some (.int k (a.fdiv (2 ^ (min b.toNat k.bits)))):=by simp only [evBinII]; rw [if_neg h]
theorem evBinII_and15 (c:UInt8):evBinII .and .u8 (c.toNat:Int) .u8 15=some (.int .u8 ((c.toNat % 16:Nat):Int)):=by
  have key:∀ n:Fin 256,IntKind.wrap .u8 (BitVec.ofInt IntKind.u8.bits (n.val:Int) &&& BitVec.ofInt IntKind.u8.bits 15).toNat=((n.val % 16:Nat):Int):=by decide +kernel
  have:=key ⟨c.toNat,c.toNat_lt⟩
  simp only [evBinII]
  rw [this]
  rfl
theorem L_note_quote (s:Str) (hs:s.length ≤ 1000000) (nb:Nat) (S:St):∀ d i,i + d=s.length → ∀ (out:AV) (tips:List (Option Nat)),OutOK out tips (34 :: quoteB (s.take i)) →
    ∃ out' tips',OutOK out' tips' (34 :: quoteB s) ∧ DC lib nk (.loop l_note_quote_0) ⟨[(0,.str s),(3,out),(4,.int .i64 (i:Nat))],tips,nb⟩ S=some (.exit 0,⟨[(3,out')],tips',nb⟩,S):=by
  intro d
  induction d with
  | zero =>
    intro i hi out tips ho
    have h6:s.take i=s:=List.take_of_length_le (by omega)
    rw [h6] at ho
    refine ⟨out,tips,ho,?_⟩
    rw [DC_loop',DC_of l_note_quote_0.eq_1]
    have h5:¬ i < s.length:=by omega
    simp [h5]
  | succ d ih =>
    intro i hi out tips ho
    have h3:i < s.length:=by omega
    obtain ⟨c,hc,hc'⟩:=get_of_lt' (l:=s) (i:=i) h3
    have ht:quoteB (s.take (i + 1))=quoteB (s.take i) ++ escT c:=by
      rw [List.take_add_one,hc]; simp [quoteB]
    have hql:=quoteB_len (s.take i)
    have hel:=escT_len c
    have htl:(s.take i).length ≤ 1000000:=by simp; omega
    have hne:escT c ≠ []:=by intro e; rw [e] at hel; simp at hel
    have happ:=app_ok ho (escT c) hne (by simp; omega) S
    obtain ⟨out',tips',ho',hn⟩:=ih (i + 1) (by omega) _ _ (.inr ⟨rfl,rfl⟩:OutOK (.sl (.fr 0) 1 (bcl (34 :: quoteB (s.take (i + 1))))) [some (34 :: quoteB (s.take (i + 1))).length] _)
    refine ⟨out',tips',ho',?_⟩
    rw [ht] at hn
    have hw:=wrap_succ (i:=i) (by omega)
    rw [DC_loop',DC_of l_note_quote_0.eq_1]
    simp at hw hn
    cases he:isEsc c
    · have hEx:escT c=[c]:=by simp [escT,he]
      rw [hEx] at happ hn
      simp [isEsc] at he
      have c1:¬ (c.toNat:Int) < 32:=by omega
      have c2:¬ (127:Int) ≤ c.toNat:=by omega
      have c3:¬ (c.toNat:Int)=34:=by omega
      have c4:¬ (c.toNat:Int)=92:=by omega
      simp [bcl,cellB] at happ hn
      simp [h3,hc,hc',c1,c2,c3,c4,fillEs,strip,happ]
      rw [DC_keep_of l_note_quote_0.eq_1]
      simp [hw,hn]
    · have hEx:escT c=[92,hexd (c.toNat / 16),hexd (c.toNat % 16)]:=by simp [escT,he]
      rw [hEx] at happ hn
      have hlt:=c.toNat_lt
      have k1:=hex_at (c.toNat / 16) (by omega)
      have k2:=hex_at (c.toNat % 16) (by omega)
      have k5:((c.toNat:Int) / 16).toNat=c.toNat / 16:=by omega
      have k6:((c.toNat:Int) % 16).toNat=c.toNat % 16:=by omega
      have k7:((c.toNat:Int) / 16 < 0)=False:=by simp only [eq_iff_iff,iff_false]; omega
      have k8:((c.toNat:Int) % 16 < 0)=False:=by simp only [eq_iff_iff,iff_false]; omega
      simp [bcl,cellB] at happ hn
      have cases4:((c.toNat:Int) < 32) ∨ (¬ (c.toNat:Int) < 32 ∧ (127:Int) ≤ c.toNat) ∨ (¬ (c.toNat:Int) < 32 ∧ ¬ (127:Int) ≤ c.toNat ∧ (c.toNat:Int)=34) ∨ (¬ (c.toNat:Int) < 32 ∧ ¬ (127:Int) ≤ c.toNat ∧ ¬ (c.toNat:Int)=34 ∧ (c.toNat:Int)=92):=by
        simp [isEsc] at he
        omega
      rcases cases4 with c1 | ⟨c1,c2⟩ | ⟨c1,c2,c3⟩ | ⟨c1,c2,c3,c4⟩
      · simp [-evBinII,bI_add,bI_lss,bI_geq,bI_eql,bI_shr,evBinII_and15,h3,hc,hc',c1,fdiv_nn,IntKind.bits,k1,k2,k5,k6,k7,k8,fillEs,strip,happ]
        rw [DC_keep_of l_note_quote_0.eq_1]
        simp [hw,hn]
      · simp [-evBinII,bI_add,bI_lss,bI_geq,bI_eql,bI_shr,evBinII_and15,h3,hc,hc',c1,c2,fdiv_nn,IntKind.bits,k1,k2,k5,k6,k7,k8,fillEs,strip,happ]
        rw [DC_keep_of l_note_quote_0.eq_1]
        simp [hw,hn]
      · simp [-evBinII,bI_add,bI_lss,bI_geq,bI_eql,bI_shr,evBinII_and15,h3,hc,hc',c1,c2,eq_true c3,fdiv_nn,IntKind.bits,k1,k2,k5,k6,k7,k8,fillEs,strip,happ]
        rw [DC_keep_of l_note_quote_0.eq_1]
        simp [hw,hn]
      · simp [-evBinII,bI_add,bI_lss,bI_geq,bI_eql,bI_shr,evBinII_and15,h3,hc,hc',c1,c2,c3,eq_true c4,fdiv_nn,IntKind.bits,k1,k2,k5,k6,k7,k8,fillEs,strip,happ]
        rw [DC_keep_of l_note_quote_0.eq_1]
        simp [hw,hn]
theorem F_note_quote (s:Str) (hs:s.length ≤ 1000000) (S:St):DF lib nk 43 [.str s] S=some (.str (quoteT s),S):=by
  rw [run_note_quote,DC_of c_note_quote.eq_1]
  obtain ⟨out,tips,ho,h⟩:=L_note_quote s hs S.length S s.length 0 (by omega) (.sl .exact 1 (bcl [34])) [] (.inl ⟨by simp [quoteB],rfl⟩)
  have hq:=quoteB_len s
  have happ:=app_ok ho [34] (by simp) (by simp; omega) S
  have hb:=bytesTo_bcl (quoteT s)
  simp [bcl,cellB,quoteT] at h happ hb
  simp [fillEs,strip]
  rw [DC_keep_of l_note_quote_0.eq_1]
  simp [h,fillEs,strip,happ,cvBK,hb,quoteT]
end Go.Proofs.YtekgdmhdkhgpjaaGreatDoor.am

set_option linter.unusedSimpArgs false
namespace Go.Proofs.YtekgdmhdkhgpjaaGreatDoor.am
open Go
def itemsN (ns:List Str) (ts:List Str):List Str:=List.zipWith (fun n t => n ++ (61 :: t)) ns ts
def itemsI (is:List Int) (ts:List Str):List Str:=List.zipWith (fun i t => dec i.toNat ++ (58 :: t)) is ts
mutual
def Val.text:Val → Str
  | .mk k n s ns is ps => if k=1 then (if n=1 then [116,114,117,101] else [102,97,108,115,101]) else if k=2 then decI n else if k=3 then quoteT s else if k=4 then 35 :: s
      else if k=5 then 123 :: (joinL [44] (itemsN ns (Val.texts ps)) ++ [125]) else 91 :: (joinL [44] (itemsI is (Val.texts ps)) ++ [93])
def Val.texts:List Val → List Str
  | [] => []
  | v :: r => Val.text v :: Val.texts r
end
theorem Val.texts_eq:∀ l:List Val,Val.texts l=l.map Val.text
  | [] => rfl
  | v :: r => by simp [Val.texts,Val.texts_eq r]
theorem Val.text_eq (v:Val):v.text=if v.kind=1 then (if v.n=1 then [116,114,117,101] else [102,97,108,115,101]) else if v.kind=2 then decI v.n else if v.kind=3 then quoteT v.s else if v.kind=4 then 35 :: v.s
      else if v.kind=5 then 123 :: (joinL [44] (itemsN v.names (v.parts.map Val.text)) ++ [125]) else 91 :: (joinL [44] (itemsI v.ids (v.parts.map Val.text)) ++ [93]):=by
  cases v; rw [Val.text,Val.texts_eq]; rfl
theorem joinL_len (B:Nat):∀ l:List Str,(∀ x ∈ l,x.length ≤ B) → (joinL [44] l).length ≤ l.length * (B + 1)
  | [],_ => by simp [joinL]
  | [s],h => by have:=h s (by simp); simp [joinL]; omega
  | s :: t :: r,h => by
    have h1:=h s (by simp)
    have h2:=joinL_len B (t :: r) fun x hx => h x (by simp [hx])
    rw [joinL]
    · simp only [List.length_append,List.length_cons,List.length_nil] at h2 ⊢
      have:(r.length + 1 + 1) * (B + 1)=(r.length + 1) * (B + 1) + (B + 1):=by rw [Nat.add_mul]; omega
      omega
    · simp
theorem nameB_len {s:Str} (h:nameB s=true):s.length ≤ 12:=by
  unfold nameB at h; simp at h; omega
theorem goN_name:∀ (l:List Str) (p:Option Str),goN p l=true → ∀ x ∈ l,nameB x=true
  | [],_,_,x,hx => by simp at hx
  | s :: r,p,h,x,hx => by
    simp only [goN,Bool.and_eq_true] at h
    rcases List.mem_cons.1 hx with rfl | hx
    · exact h.1.1
    · exact goN_name r _ h.2 x hx
theorem decI_len {n:Int} (h0:-9223372036854775808 ≤ n) (h1:n < 9223372036854775808):(decI n).length ≤ 21:=by
  unfold decI
  split
  · have:=dec_len20 (n:=n.natAbs) (by omega); simp; omega
  · have:=dec_len20 (n:=n.toNat) (by omega); omega
structure Val.RightAt (d:Nat) (v:Val):Prop where
  kind:v.kind=1 ∨ v.kind=2 ∨ v.kind=3 ∨ v.kind=4 ∨ v.kind=5 ∨ v.kind=6
  bare:v.kind ≠ 5 → v.kind ≠ 6 → v.names=[] ∧ v.ids=[] ∧ v.parts=[]
  s3:v.kind=3 → v.s.length ≤ 64
  s4:v.kind=4 → nameB v.s=true
  k5:v.kind=5 → v.ids=[] ∧ v.parts.length=v.names.length ∧ goN none v.names=true ∧ v.names.length ≤ 8
  k6:v.kind=6 → v.names=[] ∧ v.parts.length=v.ids.length ∧ goI [] v.ids=true ∧ v.ids.length ≤ 12
  n1:v.kind=1 → v.n=0 ∨ v.n=1
  n0:v.kind ≠ 1 → v.kind ≠ 2 → v.n=0
  s0:v.kind ≠ 3 → v.kind ≠ 4 → v.s=[]
  all:∀ p ∈ v.parts,p.rightB d=true
theorem Val.right_at {d:Nat} {v:Val} (h:v.rightB (d + 1)=true):v.RightAt d:=by
  rw [Val.rightB,Bool.and_eq_true,List.all_eq_true] at h
  obtain ⟨hp,ha⟩:=h
  unfold Val.plainB Val.bare at hp
  by_cases k1:v.kind=1
  · rw [if_pos k1] at hp; simp at hp
    exact ⟨.inl k1,fun _ _ => hp.1,by omega,by omega,by omega,by omega,fun _ => hp.2.2,by omega,fun _ _ => hp.2.1,ha⟩
  rw [if_neg k1] at hp
  by_cases k2:v.kind=2
  · rw [if_pos k2] at hp; simp at hp
    exact ⟨.inr (.inl k2),fun _ _ => hp.1,by omega,by omega,by omega,by omega,by omega,by omega,fun _ _ => hp.2,ha⟩
  rw [if_neg k2] at hp
  by_cases k3:v.kind=3
  · rw [if_pos k3] at hp; simp at hp
    exact ⟨.inr (.inr (.inl k3)),fun _ _ => hp.1,fun _ => hp.2.2,by omega,by omega,by omega,by omega,fun _ _ => hp.2.1,by omega,ha⟩
  rw [if_neg k3] at hp
  by_cases k4:v.kind=4
  · rw [if_pos k4] at hp; simp at hp
    exact ⟨.inr (.inr (.inr (.inl k4))),fun _ _ => hp.1,by omega,fun _ => hp.2.2,by omega,by omega,by omega,fun _ _ => hp.2.1,by omega,ha⟩
  rw [if_neg k4] at hp
  by_cases k5:v.kind=5
  · rw [if_pos k5] at hp; simp at hp
    exact ⟨.inr (.inr (.inr (.inr (.inl k5)))),by omega,by omega,by omega,fun _ => ⟨hp.2.2.1,hp.2.2.2.1,hp.2.2.2.2.1,hp.2.2.2.2.2⟩,by omega,by omega,fun _ _ => hp.1,fun _ _ => hp.2.1,ha⟩
  rw [if_neg k5] at hp
  by_cases k6:v.kind=6
  · rw [if_pos k6] at hp; simp at hp
    exact ⟨.inr (.inr (.inr (.inr (.inr k6)))),by omega,by omega,by omega,by omega,fun _ => ⟨hp.2.2.1,hp.2.2.2.1,hp.2.2.2.2.1,hp.2.2.2.2.2⟩,by omega,fun _ _ => hp.1,fun _ _ => hp.2.1,ha⟩
  rw [if_neg k6] at hp
  cases hp
theorem zip_mem {α β γ:Type} {f:α → β → γ}:∀ {l:List α} {m:List β} {x:γ},x ∈ List.zipWith f l m → ∃ a b,a ∈ l ∧ b ∈ m ∧ x=f a b
  | [],m,x,h => by simp at h
  | a :: l,[],x,h => by simp at h
  | a :: l,b :: m,x,h => by
    simp only [List.zipWith_cons_cons,List.mem_cons] at h
    rcases h with rfl | h
    · exact ⟨a,b,by simp,by simp,rfl⟩
    · obtain ⟨a',b',h1,h2,h3⟩:=zip_mem h
      exact ⟨a',b',by simp [h1],by simp [h2],h3⟩
theorem Val.text_len:∀ (d:Nat) (v:Val),v.Wf → v.rightB d=true → v.text.length + 400 ≤ 400 * 13 ^ d:=by
  intro d
  induction d with
  | zero => intro v _ h; simp [Val.rightB] at h
  | succ d ih =>
    intro v hv h
    have R:=Val.right_at h
    have hp:1 ≤ 13 ^ d:=Nat.pow_pos (by decide)
    rw [Nat.pow_succ]
    have hparts:∀ t ∈ v.parts.map Val.text,t.length ≤ 400 * 13 ^ d - 400:=by
      intro t ht
      obtain ⟨p,hp',rfl⟩:=List.mem_map.1 ht
      have:=ih p (hv.all p hp') (R.all p hp')
      omega
    have hbig:∀ p ∈ v.parts,800 ≤ 400 * 13 ^ d:=by
      intro p hp'
      have:=ih p (hv.all p hp') (R.all p hp')
      have h2:1 ≤ d:=by
        cases d with
        | zero => have:=R.all p hp'; simp [Val.rightB] at this
        | succ d => omega
      have h3:13 ≤ 13 ^ d:=by
        have:=Nat.pow_le_pow_right (n:=13) (by decide) h2
        simpa using this
      omega
    rw [Val.text_eq]
    rcases R.kind with k | k | k | k | k | k
    · rw [if_pos k]; split <;> simp <;> omega
    · rw [if_neg (by omega),if_pos k]
      have:=decI_len hv.one.n0 hv.one.n1
      omega
    · rw [if_neg (by omega),if_neg (by omega),if_pos k]
      have h1:=R.s3 k
      have h2:=quoteB_len v.s
      simp [quoteT]; omega
    · rw [if_neg (by omega),if_neg (by omega),if_neg (by omega),if_pos k]
      have:=nameB_len (R.s4 k)
      simp; omega
    · rw [if_neg (by omega),if_neg (by omega),if_neg (by omega),if_neg (by omega),if_pos k]
      obtain ⟨_,h2,h3,h4⟩:=R.k5 k
      have hl:=joinL_len (400 * 13 ^ d - 400 + 13) (itemsN v.names (v.parts.map Val.text)) (by
        intro x hx
        obtain ⟨n,t,a,b,rfl⟩:=zip_mem hx
        have e1:=nameB_len (goN_name _ _ h3 n a)
        have e2:=hparts t b
        simp; omega)
      have hlen:(itemsN v.names (v.parts.map Val.text)).length ≤ 8:=by simp [itemsN]; omega
      have hmul:(itemsN v.names (v.parts.map Val.text)).length * (400 * 13 ^ d - 400 + 13 + 1) ≤ 8 * (400 * 13 ^ d - 400 + 13 + 1):=Nat.mul_le_mul_right _ hlen
      simp only [List.length_cons,List.length_append,List.length_nil]
      omega
    · rw [if_neg (by omega),if_neg (by omega),if_neg (by omega),if_neg (by omega),if_neg (by omega)]
      obtain ⟨_,h2,h3,h4⟩:=R.k6 k
      have hl:=joinL_len (400 * 13 ^ d - 400 + 21) (itemsI v.ids (v.parts.map Val.text)) (by
        intro x hx
        obtain ⟨n,t,a,b,rfl⟩:=zip_mem hx
        have e1:=dec_len20 (n:=n.toNat) (by have:=hv.one.id n a; omega)
        have e2:=hparts t b
        simp; omega)
      have hlen:(itemsI v.ids (v.parts.map Val.text)).length ≤ 12:=by simp [itemsI]; omega
      have hmul:(itemsI v.ids (v.parts.map Val.text)).length * (400 * 13 ^ d - 400 + 21 + 1) ≤ 12 * (400 * 13 ^ d - 400 + 21 + 1):=Nat.mul_le_mul_right _ hlen
      simp only [List.length_cons,List.length_append,List.length_nil]
      omega
end Go.Proofs.YtekgdmhdkhgpjaaGreatDoor.am

set_option linter.unusedSimpArgs false
namespace Go.Proofs.YtekgdmhdkhgpjaaGreatDoor.am
open Go
def scl (l:List Str):List (List AV):=l.map fun s => [AV.str s]
@[simp] theorem scl_len (l:List Str):(scl l).length=l.length:=by simp [scl]
theorem strsOf_scl:∀ l:List Str,strsOf (scl l)=some l
  | [] => rfl
  | s :: r => by
    have:=strsOf_scl r
    simp only [scl,List.map_cons,strsOf] at this ⊢
    rw [this]; rfl
def OutS (out:AV) (tips:List (Option Nat)) (l:List Str):Prop:=(l=[] ∧ out=.nils ∧ tips=[]) ∨ (out=.sl (.fr 0) 1 (scl l) ∧ tips=[some l.length])
theorem app1_ok {out:AV} {tips:List (Option Nat)} {l:List Str} (h:OutS out tips l) (x:Str) (hl:l.length < 1073741824) (S:St):appendK 1 tips S out (.sl .exact 1 [[.str x]])=some (.sl (.fr 0) 1 (scl (l ++ [x])),[some (l.length + 1)],S):=by
  have hb:¬ (1073741824 < l.length + 1):=by omega
  rcases h with ⟨rfl,rfl,rfl⟩ | ⟨rfl,rfl⟩
  · simp [appendK,elemsOf,scl]
  · simp [appendK,elemsOf,hb,scl]
theorem L_note_joined (g:FuncId) (hg:nk.prim g=none) (hraw:rawF g=false) (j:Nat) (items:List Str) (hlen:items.length ≤ 1000000) (left right:Str) (nb:Nat) (S:St)
    (hF:∀ (i:Nat) (t:Str),items[i]?=some t → DF lib nk g [.int .i64 i,.ptr j 0] S=some (.str t,S)):∀ d i,i + d=items.length → ∀ (out:AV) (tips:List (Option Nat)),OutS out tips (items.take i) →
    ∃ out' tips',OutS out' tips' items ∧ DC lib nk (.loop l_note_joined_0) ⟨[(0,.str left),(2,.fn g [] [.ptr j 0]),(3,.str right),(9,out),(11,.int .i64 items.length),(12,.int .i64 (i:Nat))],tips,nb⟩ S=some (.exit 0,⟨[(0,.str left),(3,.str right),(9,out')],tips',nb⟩,S):=by
  intro d
  induction d with
  | zero =>
    intro i hi out tips ho
    have h6:items.take i=items:=List.take_of_length_le (by omega)
    rw [h6] at ho
    refine ⟨out,tips,ho,?_⟩
    rw [DC_loop',DC_of l_note_joined_0.eq_1]
    have h5:¬ i < items.length:=by omega
    simp [h5]
  | succ d ih =>
    intro i hi out tips ho
    have h3:i < items.length:=by omega
    obtain ⟨x,hx,hx'⟩:=get_of_lt' (l:=items) (i:=i) h3
    have ht:items.take (i + 1)=items.take i ++ [x]:=by rw [List.take_add_one,hx]; rfl
    have hlt:(items.take i).length=i:=by simp; omega
    have happ:=app1_ok ho x (by omega) S
    obtain ⟨out',tips',ho',hn⟩:=ih (i + 1) (by omega) (.sl (.fr 0) 1 (scl (items.take (i + 1)))) [some (items.take (i + 1)).length] (.inr ⟨rfl,rfl⟩)
    refine ⟨out',tips',ho',?_⟩
    have hc:=hF i x hx
    have hw:=wrap_succ (i:=i) (by omega)
    rw [ht] at hn
    rw [DC_loop',DC_of l_note_joined_0.eq_1]
    simp [scl,hlt] at happ hn
    simp at hw
    simp [h3,hg,hraw,hc,fillEs,strip,happ]
    rw [DC_keep_of l_note_joined_0.eq_1]
    simp [hw,hn]
theorem F_note_joined (g:FuncId) (hg:nk.prim g=none) (hraw:rawF g=false) (j:Nat) (items:List Str) (hlen:items.length ≤ 1000000) (left right:Str) (S:St) (hll:left.length ≤ 10) (hrl:right.length ≤ 10) (hB:(joinL [44] items).length ≤ 1000000000)
    (hF:∀ (i:Nat) (t:Str),items[i]?=some t → DF lib nk g [.int .i64 i,.ptr j 0] S=some (.str t,S)) :
    DF lib nk 44 [.str left,.int .i64 items.length,.fn g [] [.ptr j 0],.str right] S=some (.str (left ++ (joinL [44] items ++ right)),S):=by
  rw [run_note_joined,DC_of c_note_joined.eq_1]
  obtain ⟨out,tips,ho,h⟩:=L_note_joined g hg hraw j items hlen left right S.length S hF items.length 0 (by omega) .nils [] (.inl ⟨by simp,rfl,rfl⟩)
  have q1:left.length + (joinL [44] items).length ≤ 1073741824:=by omega
  have q2:left.length + (joinL [44] items).length + right.length ≤ 1073741824:=by omega
  have q3:left.length + ((joinL [44] items).length + right.length) ≤ 1073741824:=by omega
  have q4:(joinL [44] items).length ≤ 1073741824:=by omega
  have q5:items.length ≤ 1048576:=by omega
  have hso:=strsOf_scl items
  simp at h
  simp
  rw [DC_keep_of l_note_joined_0.eq_1]
  rcases ho with ⟨rfl,rfl,rfl⟩ | ⟨rfl,rfl⟩
  · simp [joinL] at q1 q2 q3 h
    simp [h,giveArg,strip,joinP,joinL,q1,q2,q3,lockOne,unlockOne,boxOf]
  · simp [h,giveArg,strip,joinP,hso,q1,q2,q3,q4,q5,lockOne,unlockOne,boxOf]
theorem F_strconv_FormatBool (b:Bool) (S:St):DF lib nk 41 [.bool b] S=some (.str (if b then [116,114,117,101] else [102,97,108,115,101]),S):=by
  have h:DF lib nk 70 [.bool b] S=some (.str (if b then [116,114,117,101] else [102,97,108,115,101]),S):=by
    rw [run_internal_strconv_FormatBool,DC_of c_internal_strconv_FormatBool.eq_1]
    cases b <;> simp
  rw [run_strconv_FormatBool,DC_of c_strconv_FormatBool.eq_1]
  cases b <;> (simp at h; simp [h])
theorem pow13 {d:Nat} (h:d ≤ 5):400 * 13 ^ d ≤ 148517200:=by
  have:=Nat.pow_le_pow_right (n:=13) (by decide) h
  have e:(13:Nat) ^ 5=371293:=by decide
  omega
theorem F_note_written_1 (v:Val) (hv:v.Wf1) (i:Nat) (nm:Str) (p:Val) (hn:v.names[i]?=some nm) (hp:v.parts[i]?=some p) (j:Nat) (S:St) (hS:S[j]?=some (.mem v.enc [] false))
    (hB:nm.length + p.text.length ≤ 1000000000) (hF:∀ S,DF lib nk 26 [.agg p.enc] S=some (.str p.text,S)):DF lib nk 45 [.int .i64 i,.ptr j 0] S=some (.str (nm ++ (61 :: p.text)),S):=by
  rw [DF_run (lib:=lib) (f:=45) (k:=k_note_written_1) rfl (Nat.le_of_ble_eq_true rfl) S]
  unfold k_note_written_1
  simp only [argsK_cons,argsK_nil]
  rw [DC_of c_note_written_1.eq_1]
  have hld:∀ sh off,loadK S sh (.ptr j off)=partK sh v.enc off:=fun sh off => loadK_ptr hS sh off
  obtain ⟨h1,h1'⟩:=List.getElem?_eq_some_iff.1 hn
  obtain ⟨h2,h2'⟩:=List.getElem?_eq_some_iff.1 hp
  have q1:nm.length + 1 ≤ 1073741824:=by omega
  have q2:nm.length + 1 + p.text.length ≤ 1073741824:=by omega
  have q3:nm.length + (1 + p.text.length) ≤ 1073741824:=by omega
  have q4:nm.length + (p.text.length + 1) ≤ 1073741824:=by omega
  simp [hld,hn,hp,h1,h1',h2,h2',hF,q1,q2,q3,q4]
theorem F_note_written_2 (v:Val) (hv:v.Wf1) (i:Nat) (n:Int) (p:Val) (hn:v.ids[i]?=some n) (hp:v.parts[i]?=some p) (j:Nat) (S:St) (hS:S[j]?=some (.mem v.enc [] false))
    (hB:p.text.length ≤ 1000000000) (hF:∀ S,DF lib nk 26 [.agg p.enc] S=some (.str p.text,S)):DF lib nk 46 [.int .i64 i,.ptr j 0] S=some (.str (dec n.toNat ++ (58 :: p.text)),S):=by
  rw [DF_run (lib:=lib) (f:=46) (k:=k_note_written_2) rfl (Nat.le_of_ble_eq_true rfl) S]
  unfold k_note_written_2
  simp only [argsK_cons,argsK_nil]
  rw [DC_of c_note_written_2.eq_1]
  have hld:∀ sh off,loadK S sh (.ptr j off)=partK sh v.enc off:=fun sh off => loadK_ptr hS sh off
  obtain ⟨h1,h1'⟩:=List.getElem?_eq_some_iff.1 hn
  obtain ⟨h2,h2'⟩:=List.getElem?_eq_some_iff.1 hp
  obtain ⟨n0,n1⟩:=hv.id n (List.mem_of_getElem? hn)
  have hd:=dec_len20 (n:=n.toNat) (by omega)
  have hfu:=F_strconv_FormatUint n.toNat (by omega) S
  rw [show ((n.toNat:Nat):Int)=n by omega] at hfu
  have q1:(dec n.toNat).length + 1 ≤ 1073741824:=by omega
  have q2:(dec n.toNat).length + 1 + p.text.length ≤ 1073741824:=by omega
  simp [hld,hn,hp,h1,h1',h2,h2',hF,hfu,q1,q2]
theorem get_zip {α β γ:Type} {f:α → β → γ} {l:List α} {m:List β} {i:Nat} {x:γ} (h:(List.zipWith f l m)[i]?=some x):∃ a b,l[i]?=some a ∧ m[i]?=some b ∧ x=f a b:=by
  rw [List.getElem?_zipWith] at h
  cases ha:l[i]? with
  | none => simp [ha] at h
  | some a =>
    cases hb:m[i]? with
    | none => simp [ha,hb] at h
    | some b => simp [ha,hb] at h; exact ⟨a,b,rfl,rfl,h.symm⟩
theorem F_note_written:∀ (d:Nat) (v:Val),d ≤ 5 → v.Wf → v.rightB d=true → ∀ S:St,DF lib nk 26 [.agg v.enc] S=some (.str v.text,S):=by
  intro d
  induction d with
  | zero => intro v _ _ h; simp [Val.rightB] at h
  | succ d ih =>
    intro v hd hv h S
    have R:=Val.right_at h
    have hp13:=pow13 (d:=d) (by omega)
    have htl:=Val.text_len (d + 1) v hv h
    have hp13':=pow13 (d:=d + 1) hd
    have parts:∀ p ∈ v.parts,p.text.length ≤ 148517200 ∧ ∀ S,DF lib nk 26 [.agg p.enc] S=some (.str p.text,S):=by
      intro p hp
      have:=Val.text_len d p (hv.all p hp) (R.all p hp)
      exact ⟨by omega,ih p (by omega) (hv.all p hp) (R.all p hp)⟩
    rw [run_note_written,DC_of c_note_written.eq_1]
    rw [Val.text_eq] at htl ⊢
    rcases R.kind with k | k | k | k | k | k
    · have hb:=F_strconv_FormatBool (decide (v.n=1)) (S ++ [.mem v.enc [] false])
      by_cases c:v.n=1
      · simp [c] at hb
        simp [k,c,hb]
      · simp [c] at hb
        simp [k,c,hb]
    · have hb:=F_strconv_Itoa v.n hv.one.n0 hv.one.n1 (S ++ [.mem v.enc [] false])
      simp [k,hb]
    · have hb:=F_note_quote v.s (by have:=R.s3 k; omega) (S ++ [.mem v.enc [] false])
      simp [k,hb]
    · have hl:=nameB_len (R.s4 k)
      have q:1 + v.s.length ≤ 1073741824:=by omega
      have q':v.s.length + 1 ≤ 1073741824:=by omega
      simp [k,q,q']
    · obtain ⟨_,h2,h3,h4⟩:=R.k5 k
      simp [k] at htl
      have hj:=F_note_joined 45 rfl rfl S.length (itemsN v.names (v.parts.map Val.text)) (by simp [itemsN]; omega) [123] [125] (S ++ [.mem v.enc [] false]) (by simp) (by simp) (by omega) (fun i t ht => by
        obtain ⟨nm,tx,a,b,rfl⟩:=get_zip ht
        simp only [List.getElem?_map,Option.map_eq_some_iff] at b
        obtain ⟨p,b1,rfl⟩:=b
        obtain ⟨c1,c2⟩:=parts p (List.mem_of_getElem? b1)
        have e1:=nameB_len (goN_name _ _ h3 nm (List.mem_of_getElem? a))
        exact F_note_written_1 v hv.one i nm p a b1 S.length _ (by simp) (by omega) c2)
      have hlen:(itemsN v.names (v.parts.map Val.text)).length=v.parts.length:=by simp [itemsN]; omega
      rw [hlen] at hj
      simp at hj
      simp [k,hj]
    · obtain ⟨_,h2,h3,h4⟩:=R.k6 k
      simp [k] at htl
      have hj:=F_note_joined 46 rfl rfl S.length (itemsI v.ids (v.parts.map Val.text)) (by simp [itemsI]; omega) [91] [93] (S ++ [.mem v.enc [] false]) (by simp) (by simp) (by omega) (fun i t ht => by
        obtain ⟨n,tx,a,b,rfl⟩:=get_zip ht
        simp only [List.getElem?_map,Option.map_eq_some_iff] at b
        obtain ⟨p,b1,rfl⟩:=b
        obtain ⟨c1,c2⟩:=parts p (List.mem_of_getElem? b1)
        exact F_note_written_2 v hv.one i n p a b1 S.length _ (by simp) (by omega) c2)
      have hlen:(itemsI v.ids (v.parts.map Val.text)).length=v.parts.length:=by simp [itemsI]; omega
      rw [hlen] at hj
      simp at hj
      simp [k,hj]
end Go.Proofs.YtekgdmhdkhgpjaaGreatDoor.am

set_option linter.unusedSimpArgs false
namespace Go.Proofs.YtekgdmhdkhgpjaaGreatDoor.am
open Go
def hexT (l:Str):Str:=l.flatMap fun c => [hexd (c.toNat / 16),hexd (c.toNat % 16)]
theorem hexT_len:∀ l:Str,(hexT l).length=2 * l.length
  | [] => rfl
  | c :: l => by have:=hexT_len l; simp only [hexT,List.flatMap_cons,List.length_append,List.length_cons,List.length_nil] at this ⊢; omega
theorem slS_hex (n:Nat) (h:n < 16):slSK (.str [48,49,50,51,52,53,54,55,56,57,97,98,99,100,101,102]) (some (.int .i64 n)) (some (.int .i64 ((n:Int) + 1)))=some (.str [hexd n]):=by
  have h2:n=0 ∨ n=1 ∨ n=2 ∨ n=3 ∨ n=4 ∨ n=5 ∨ n=6 ∨ n=7 ∨ n=8 ∨ n=9 ∨ n=10 ∨ n=11 ∨ n=12 ∨ n=13 ∨ n=14 ∨ n=15:=by omega
  rcases h2 with rfl | rfl | rfl | rfl | rfl | rfl | rfl | rfl | rfl | rfl | rfl | rfl | rfl | rfl | rfl | rfl <;> rfl
theorem L_dioptreref03_Hex (b:Str) (hb:b.length ≤ 1000000) (nb:Nat) (S:St):∀ d i,i + d=b.length →
    DC lib nk (.loop l_dioptreref03_Hex_0) ⟨[(0,encBs b),(3,.str [48,49,50,51,52,53,54,55,56,57,97,98,99,100,101,102]),(4,.str (hexT (b.take i))),(5,.int .i64 (i:Nat))],[],nb⟩ S=some (.exit 0,⟨[(4,.str (hexT b))],[],nb⟩,S):=by
  intro d
  induction d with
  | zero =>
    intro i hi
    rw [DC_loop',DC_of l_dioptreref03_Hex_0.eq_1]
    have h5:¬ i < b.length:=by omega
    have h6:b.take i=b:=List.take_of_length_le (by omega)
    simp [h5,h6]
  | succ d ih =>
    intro i hi
    have h3:i < b.length:=by omega
    rw [DC_loop',DC_of l_dioptreref03_Hex_0.eq_1]
    obtain ⟨c,hc,hc'⟩:=get_of_lt' (l:=b) (i:=i) h3
    have ht:hexT (b.take (i + 1))=hexT (b.take i) ++ [hexd (c.toNat / 16),hexd (c.toNat % 16)]:=by
      rw [List.take_add_one,hc]; simp [hexT]
    have hn:=ih (i + 1) (by omega)
    rw [ht] at hn
    have hl:=hexT_len (b.take i)
    have hl2:(b.take i).length ≤ 1000000:=by simp; omega
    have hlt:=c.toNat_lt
    have hw:=wrap_succ (i:=i) (by omega)
    have w0:IntKind.wrap .i64 (c.toNat:Int)=c.toNat:=wrap_i64 _ (by omega) (by omega)
    have w1:(c.toNat:Int).tdiv 16=c.toNat / 16:=td _ _
    have w2:(c.toNat:Int).tmod 16=c.toNat % 16:=tm _ _
    have w3:IntKind.wrap .i64 ((c.toNat:Int) / 16)=(c.toNat:Int) / 16:=wrap_i64 _ (by omega) (by omega)
    have w4:IntKind.wrap .i64 ((c.toNat:Int) / 16 + 1)=(c.toNat:Int) / 16 + 1:=wrap_i64 _ (by omega) (by omega)
    have w5:IntKind.wrap .i64 ((c.toNat:Int) % 16 + 1)=(c.toNat:Int) % 16 + 1:=wrap_i64 _ (by omega) (by omega)
    have k1:=slS_hex (c.toNat / 16) (by omega)
    have k2:=slS_hex (c.toNat % 16) (by omega)
    have q1:(hexT (b.take i)).length + 1 ≤ 1073741824:=by omega
    have q2:(hexT (b.take i)).length + 1 + 1 ≤ 1073741824:=by omega
    simp at hn hw k1 k2
    simp [h3,hc,hc',cellB,w0,w1,w2,w3,w4,w5,k1,k2,q1,q2]
    rw [DC_keep_of l_dioptreref03_Hex_0.eq_1]
    simp [hw,hn]
theorem F_dioptreref03_Hex (b:Str) (hb:b.length ≤ 1000000) (S:St):DF lib nk 35 [encBs b] S=some (.str (hexT b),S):=by
  rw [run_dioptreref03_Hex,DC_of c_dioptreref03_Hex.eq_1]
  have h:=L_dioptreref03_Hex b hb S.length S b.length 0 (by omega)
  simp [hexT] at h
  simp
  rw [DC_keep_of l_dioptreref03_Hex_0.eq_1]
  simp [h,hexT]
theorem RL_dioptreref11_Text_0 (c:UInt8) (S:St) (sl:KE) (tips:List (Option Nat)) (nb:Nat) (k:KC) (p x y:AV) (h1:KE.get sl 1=p) (h3:KE.get sl 3=x) (h4:KE.get sl 4=y) (h5:KE.get sl 5=.int .u8 (c.toNat:Int)) :
    seqC lib nk (.keep [1,3,4,5,46] k) (regC (evKs (viaK nk (DF lib nk)) r_dioptreref11_Text_0 ⟨sl,tips,nb⟩ S))=DC lib nk k ⟨[(1,p),(3,x),(4,y),(5,.int .u8 (c.toNat:Int)),(46,.bool (isEsc c))],tips,nb⟩ S:=by
  unfold r_dioptreref11_Text_0
  have he:isEsc c=(decide ((c.toNat:Int) < 32) || (decide ((126:Int) < c.toNat) || (decide ((c.toNat:Int)=34) || decide ((c.toNat:Int)=92)))):=by
    unfold isEsc
    have e1:((c.toNat:Int) < 32)=(c.toNat < 32):=by simp only [eq_iff_iff]; omega
    have e2:((126:Int) < c.toNat)=(126 < c.toNat):=by simp only [eq_iff_iff]; omega
    have e3:((c.toNat:Int)=34)=(c.toNat=34):=by simp only [eq_iff_iff]; omega
    have e4:((c.toNat:Int)=92)=(c.toNat=92):=by simp only [eq_iff_iff]; omega
    simp only [e1,e2,e3,e4]
  by_cases c1:(c.toNat:Int) < 32
  · simp [h1,h3,h4,h5,he,c1]
  by_cases c2:(126:Int) < c.toNat
  · simp [h1,h3,h4,h5,he,c1,c2]
  by_cases c3:(c.toNat:Int)=34
  · simp [h1,h3,h4,h5,he,c1,c2,eq_true c3]
  by_cases c4:(c.toNat:Int)=92
  · simp [h1,h3,h4,h5,he,c1,c2,c3,eq_true c4]
  · simp [h1,h3,h4,h5,he,c1,c2,c3,c4]
theorem slS_one {s:Str} {i:Nat} {c:UInt8} (h:s[i]?=some c):slSK (.str s) (some (.int .i64 i)) (some (.int .i64 ((i:Int) + 1)))=some (.str [c]):=by
  have hi:=(List.getElem?_eq_some_iff.1 h).1
  have hi':(i:Int) + 1 ≤ s.length:=by omega
  have h0:(0:Int) ≤ (i:Int) + 1:=by omega
  have e:(s.take (i + 1)).drop i=[c]:=by
    rw [List.take_add_one,h,List.drop_append]
    have:(s.take i).length=i:=by simp; omega
    rw [this,List.drop_eq_nil_of_le (by omega)]
    simp
  have h2:(i:Int) ≤ (i:Int) + 1:=by omega
  simp [slSK,hi',h0,h2,e]
theorem L_dioptreref11_Text_0 (v:Val) (hl:v.s.length ≤ 1000000) (nb:Nat) (S:St):∀ d i,i + d=v.s.length →
    DC lib nk (.loop l_dioptreref11_Text_0) ⟨[(1,.ptr S.length 0),(3,.str (34 :: quoteB (v.s.take i))),(4,.int .i64 (i:Nat))],[],nb⟩ (S ++ [.mem v.enc [] false])=some (.exit 1,⟨[(3,.str (34 :: quoteB v.s))],[],nb⟩,S ++ [.mem v.enc [] false]):=by
  intro d
  induction d with
  | zero =>
    intro i hi
    rw [DC_loop',DC_of l_dioptreref11_Text_0.eq_1]
    have h5:¬ i < v.s.length:=by omega
    have h6:v.s.take i=v.s:=List.take_of_length_le (by omega)
    simp [h5,h6]
  | succ d ih =>
    intro i hi
    have h3:i < v.s.length:=by omega
    rw [DC_loop',DC_of l_dioptreref11_Text_0.eq_1]
    obtain ⟨c,hc,hc'⟩:=get_of_lt' (l:=v.s) (i:=i) h3
    have ht:quoteB (v.s.take (i + 1))=quoteB (v.s.take i) ++ escT c:=by
      rw [List.take_add_one,hc]; simp [quoteB]
    have hn:=ih (i + 1) (by omega)
    rw [ht] at hn
    have hql:=quoteB_len (v.s.take i)
    have htl:(v.s.take i).length ≤ 1000000:=by simp; omega
    have hw:=wrap_succ (i:=i) (by omega)
    have hRL:=RL_dioptreref11_Text_0 c (S ++ [.mem v.enc [] false])
    have q1:(quoteB (v.s.take i)).length + 1 + 1 ≤ 1073741824:=by omega
    have q2:(quoteB (v.s.take i)).length + 1 + 1 + 2 ≤ 1073741824:=by omega
    have q3:(quoteB (v.s.take i)).length + 1 + 1 + 1 + 1 ≤ 1073741824:=by omega
    have h1:=slS_one hc
    have hx:=F_dioptreref03_Hex [c] (by simp) (S ++ [.mem v.enc [] false])
    simp at hn hw h1
    cases he:isEsc c
    · rw [he] at hRL
      simp [escT,he] at hn
      simp [h3,hc,hc']
      rw [hRL _ _ _ _ (.ptr S.length 0) (.str (34 :: quoteB (v.s.take i))) (.int .i64 i) (by simp) (by simp) (by simp) (by simp)]
      simp [h3,hc,hc',hw,h1,q1]
      rw [DC_keep_of l_dioptreref11_Text_0.eq_1]
      simp [hw,hn]
    · rw [he] at hRL
      simp [escT,he] at hn
      simp [encBs,encSl,cellB,hexT] at hx
      simp [h3,hc,hc']
      rw [hRL _ _ _ _ (.ptr S.length 0) (.str (34 :: quoteB (v.s.take i))) (.int .i64 i) (by simp) (by simp) (by simp) (by simp)]
      simp [h3,hc,hc',hw,fillEs,strip,giveArg,lockOne,unlockOne,boxOf,norm,normc,hx,q1,q2,q3]
      rw [DC_keep_of l_dioptreref11_Text_0.eq_1]
      simp [hw,hn]
end Go.Proofs.YtekgdmhdkhgpjaaGreatDoor.am

set_option linter.unusedSimpArgs false
namespace Go.Proofs.YtekgdmhdkhgpjaaGreatDoor.am
open Go
theorem joinL_cc (sep a b:Str) (r:List Str):joinL sep (a :: b :: r)=a ++ (sep ++ joinL sep (b :: r)):=by
  rw [joinL]; simp
theorem joinL_snoc (sep x:Str):∀ l:List Str,joinL sep (l ++ [x])=if l=[] then x else joinL sep l ++ (sep ++ x)
  | [] => rfl
  | [a] => by simp [joinL]
  | a :: b :: r => by
    have:=joinL_snoc sep x (b :: r)
    simp only [List.cons_append,reduceCtorEq,if_false] at this ⊢
    rw [joinL_cc,this,joinL_cc]
    simp
theorem joinL_mono (sep:Str) (l m:List Str):(joinL sep l).length ≤ (joinL sep (l ++ m)).length:=by
  induction m generalizing l with
  | nil => simp
  | cons x m ih =>
    have h1:=ih (l ++ [x])
    rw [List.append_assoc,List.cons_append,List.nil_append] at h1
    refine Nat.le_trans ?_ h1
    rw [joinL_snoc]
    split
    · rename_i e; subst e; simp [joinL]
    · simp
theorem joinL_take (sep:Str) (l:List Str) (i:Nat):(joinL sep (l.take i)).length ≤ (joinL sep l).length:=by
  have:=joinL_mono sep (l.take i) (l.drop i)
  rwa [List.take_append_drop] at this
def Val.items (v:Val):List Str:=if v.kind=5 then itemsN v.names (v.parts.map Val.text) else itemsI v.ids (v.parts.map Val.text)
theorem L_dioptreref11_Text_1 (v:Val) (hv:v.Wf1) (hk:(v.kind=5 ∧ v.parts.length=v.names.length) ∨ (v.kind=6 ∧ v.parts.length=v.ids.length)) (hB:(joinL [44] v.items).length ≤ 1000000000) (S:St)
    (hF:∀ x ∈ v.parts,∀ S,DF lib nk 21 [.agg x.enc] S=some (.str x.text,S)) (nb:Nat):∀ d i,i + d=v.parts.length →
    DC lib nk (.loop l_dioptreref11_Text_1) ⟨[(1,.ptr S.length 0),(6,.str (joinL [44] (v.items.take i))),(7,.int .i64 (i:Nat))],[],nb⟩ (S ++ [.mem v.enc [] false])=some (.exit 3,⟨[(1,.ptr S.length 0),(6,.str (joinL [44] v.items))],[],nb⟩,S ++ [.mem v.enc [] false]):=by
  have hpl:=hv.parts
  have hlen:v.items.length=v.parts.length:=by
    unfold Val.items
    rcases hk with ⟨k,e⟩ | ⟨k,e⟩
    · rw [if_pos k]; simp [itemsN]; omega
    · rw [if_neg (by omega)]; simp [itemsI]; omega
  intro d
  induction d with
  | zero =>
    intro i hi
    rw [DC_loop',DC_of l_dioptreref11_Text_1.eq_1]
    have h5:¬ i < v.parts.length:=by omega
    have h6:v.items.take i=v.items:=List.take_of_length_le (by omega)
    simp [h5,h6]
  | succ d ih =>
    intro i hi
    have h3:i < v.parts.length:=by omega
    rw [DC_loop',DC_of l_dioptreref11_Text_1.eq_1]
    obtain ⟨p,hp,hp'⟩:=get_of_lt' (l:=v.parts) (i:=i) h3
    obtain ⟨x,hx⟩:=get_of_lt (l:=v.items) (i:=i) (by omega)
    have ht:v.items.take (i + 1)=v.items.take i ++ [x]:=by rw [List.take_add_one,hx]; rfl
    have hn:=ih (i + 1) (by omega)
    have hmono:=joinL_take [44] v.items (i + 1)
    have hmono0:=joinL_take [44] v.items i
    rw [ht,joinL_snoc] at hn hmono
    have hc:=hF p (List.mem_of_getElem? hp) (S ++ [.mem v.enc [] false])
    have hw:=wrap_succ (i:=i) (by omega)
    have hnil:(v.items.take i=[]) ↔ i=0:=by
      constructor
      · intro e
        have h7:(v.items.take i).length=0:=by rw [e]; rfl
        rw [List.length_take] at h7
        omega
      · rintro rfl; rfl
    have hx2:(v.kind=5 ∧ ∃ nm,v.names[i]?=some nm ∧ x=nm ++ (61 :: p.text)) ∨ (v.kind=6 ∧ ∃ n,v.ids[i]?=some n ∧ x=dec n.toNat ++ (58 :: p.text)):=by
      unfold Val.items at hx
      rcases hk with ⟨k,e⟩ | ⟨k,e⟩
      · rw [if_pos k] at hx
        obtain ⟨a,b,h1,h2,h4⟩:=get_zip hx
        simp only [List.getElem?_map,hp,Option.map_some,Option.some.injEq] at h2
        subst h2
        exact .inl ⟨k,a,h1,h4⟩
      · rw [if_neg (by omega)] at hx
        obtain ⟨a,b,h1,h2,h4⟩:=get_zip hx
        simp only [List.getElem?_map,hp,Option.map_some,Option.some.injEq] at h2
        subst h2
        exact .inr ⟨k,a,h1,h4⟩
    by_cases hi0:i=0
    · have e1:=hnil.2 hi0
      rw [if_pos e1] at hn hmono
      have z1:¬ 0 < i:=by omega
      have z2:¬ (0:Int) < i:=by omega
      rcases hx2 with ⟨k,nm,g1,rfl⟩ | ⟨k,n,g1,rfl⟩
      · obtain ⟨g2,g3⟩:=List.getElem?_eq_some_iff.1 g1
        simp only [List.length_append,List.length_cons] at hmono
        have q1:nm.length ≤ 1073741824:=by omega
        have q2:nm.length + 1 ≤ 1073741824:=by omega
        have q3:nm.length + 1 + p.text.length ≤ 1073741824:=by omega
        simp at hn hw
        simp [h3,hp,hp',hc,k,z1,z2,g1,g2,g3,e1,joinL,q1,q2,q3]
        rw [DC_keep_of l_dioptreref11_Text_1.eq_1]
        simp [hw,hn]
      · obtain ⟨g2,g3⟩:=List.getElem?_eq_some_iff.1 g1
        obtain ⟨n0,n1⟩:=hv.id n (List.mem_of_getElem? g1)
        have hnum:=F_dioptreref11_Number n.toNat (by omega) (S ++ [.mem v.enc [] false])
        rw [show ((n.toNat:Nat):Int)=n by omega] at hnum
        simp only [List.length_append,List.length_cons] at hmono
        have q1:(dec n.toNat).length ≤ 1073741824:=by omega
        have q2:(dec n.toNat).length + 1 ≤ 1073741824:=by omega
        have q3:(dec n.toNat).length + 1 + p.text.length ≤ 1073741824:=by omega
        simp at hn hw
        simp [h3,hp,hp',hc,k,z1,z2,g1,g2,g3,e1,joinL,hnum,q1,q2,q3]
        rw [DC_keep_of l_dioptreref11_Text_1.eq_1]
        simp [hw,hn]
    · have e1:¬ v.items.take i=[]:=fun h => hi0 (hnil.1 h)
      rw [if_neg e1] at hn hmono
      have z1:0 < i:=by omega
      have z2:(0:Int) < i:=by omega
      generalize joinL [44] (v.items.take i)=cur at *
      have q0:cur.length + 1 ≤ 1073741824:=by omega
      rcases hx2 with ⟨k,nm,g1,rfl⟩ | ⟨k,n,g1,rfl⟩
      · obtain ⟨g2,g3⟩:=List.getElem?_eq_some_iff.1 g1
        simp only [List.length_append,List.length_cons,List.length_nil] at hmono
        have q1:cur.length + 1 + nm.length ≤ 1073741824:=by omega
        have q2:cur.length + (nm.length + 1) + 1 ≤ 1073741824:=by omega
        have q3:cur.length + (nm.length + 1 + 1) + p.text.length ≤ 1073741824:=by omega
        simp at hn hw
        simp [h3,hp,hp',hc,k,z1,z2,g1,g2,g3,q0,q1,q2,q3]
        rw [DC_keep_of l_dioptreref11_Text_1.eq_1]
        simp [hw,hn]
      · obtain ⟨g2,g3⟩:=List.getElem?_eq_some_iff.1 g1
        obtain ⟨n0,n1⟩:=hv.id n (List.mem_of_getElem? g1)
        have hnum:=F_dioptreref11_Number n.toNat (by omega) (S ++ [.mem v.enc [] false])
        rw [show ((n.toNat:Nat):Int)=n by omega] at hnum
        simp only [List.length_append,List.length_cons,List.length_nil] at hmono
        have q1:cur.length + 1 + (dec n.toNat).length ≤ 1073741824:=by omega
        have q2:cur.length + ((dec n.toNat).length + 1) + 1 ≤ 1073741824:=by omega
        have q3:cur.length + ((dec n.toNat).length + 1 + 1) + p.text.length ≤ 1073741824:=by omega
        simp at hn hw
        simp [h3,hp,hp',hc,k,z1,z2,g1,g2,g3,hnum,q0,q1,q2,q3]
        rw [DC_keep_of l_dioptreref11_Text_1.eq_1]
        simp [hw,hn]
theorem F_dioptreref11_Text:∀ (d:Nat) (v:Val),d ≤ 5 → v.Wf → v.rightB d=true → ∀ S:St,DF lib nk 21 [.agg v.enc] S=some (.str v.text,S):=by
  intro d
  induction d with
  | zero => intro v _ _ h; simp [Val.rightB] at h
  | succ d ih =>
    intro v hd hv h S
    have R:=Val.right_at h
    have htl:=Val.text_len (d + 1) v hv h
    have hp13':=pow13 (d:=d + 1) hd
    have hparts:∀ x ∈ v.parts,∀ S,DF lib nk 21 [.agg x.enc] S=some (.str x.text,S):=fun p hp => ih p (by omega) (hv.all p hp) (R.all p hp)
    rw [run_dioptreref11_Text,DC_of c_dioptreref11_Text.eq_1]
    rw [Val.text_eq] at htl ⊢
    rcases R.kind with k | k | k | k | k | k
    · by_cases c:v.n=1
      · simp [k,c]
      · simp [k,c]
    · have hb:=F_dioptreref11_Int v.n hv.one.n0 hv.one.n1 (S ++ [.mem v.enc [] false])
      simp [k,hb]
    · have hl:=R.s3 k
      have hb:=L_dioptreref11_Text_0 v (by omega) S.length S v.s.length 0 (by omega)
      have hq:=quoteB_len v.s
      have q1:(quoteB v.s).length + 1 + 1 ≤ 1073741824:=by omega
      simp [quoteB] at hb
      simp [k]
      rw [DC_keep_of l_dioptreref11_Text_0.eq_1]
      simp [quoteB] at q1
      simp [hb,quoteT,quoteB,q1]
    · have hl:=nameB_len (R.s4 k)
      have q:1 + v.s.length ≤ 1073741824:=by omega
      have q':v.s.length + 1 ≤ 1073741824:=by omega
      simp [k,q,q']
    · obtain ⟨_,h2,h3,h4⟩:=R.k5 k
      have hit:v.items=itemsN v.names (v.parts.map Val.text):=by unfold Val.items; rw [if_pos k]
      simp [k] at htl
      have hb:=L_dioptreref11_Text_1 v hv.one (.inl ⟨k,h2⟩) (by rw [hit]; omega) S hparts S.length v.parts.length 0 (by omega)
      rw [hit] at hb
      have q1:1 + (joinL [44] (itemsN v.names (v.parts.map Val.text))).length ≤ 1073741824:=by omega
      have q2:(joinL [44] (itemsN v.names (v.parts.map Val.text))).length + 1 ≤ 1073741824:=by omega
      have q3:(joinL [44] (itemsN v.names (v.parts.map Val.text))).length + 1 + 1 ≤ 1073741824:=by omega
      simp [joinL] at hb
      simp [k]
      rw [DC_keep_of l_dioptreref11_Text_1.eq_1]
      simp [k,hb,q1,q2,q3]
    · obtain ⟨_,h2,h3,h4⟩:=R.k6 k
      have hit:v.items=itemsI v.ids (v.parts.map Val.text):=by unfold Val.items; rw [if_neg (by omega)]
      simp [k] at htl
      have hb:=L_dioptreref11_Text_1 v hv.one (.inr ⟨k,h2⟩) (by rw [hit]; omega) S hparts S.length v.parts.length 0 (by omega)
      rw [hit] at hb
      have q1:1 + (joinL [44] (itemsI v.ids (v.parts.map Val.text))).length ≤ 1073741824:=by omega
      have q2:(joinL [44] (itemsI v.ids (v.parts.map Val.text))).length + 1 ≤ 1073741824:=by omega
      have q3:(joinL [44] (itemsI v.ids (v.parts.map Val.text))).length + 1 + 1 ≤ 1073741824:=by omega
      simp [joinL] at hb
      simp [k]
      rw [DC_keep_of l_dioptreref11_Text_1.eq_1]
      simp [k,hb,q1,q2,q3]
end Go.Proofs.YtekgdmhdkhgpjaaGreatDoor.am
