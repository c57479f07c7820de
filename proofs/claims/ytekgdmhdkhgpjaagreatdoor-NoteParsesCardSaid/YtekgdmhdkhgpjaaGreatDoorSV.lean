/- The document's reader: the parts of a record, of a list. -/
import Derived.Test.YtekgdmhdkhgpjaaGreatDoorSU
set_option linter.unusedSimpArgs false
set_option linter.unusedVariables false
set_option linter.unusedSimpArgs false
set_option linter.unusedVariables false
namespace Go.Proofs.YtekgdmhdkhgpjaaGreatDoor.am
open Go
def RS (d:Nat):Prop:=∀ (s:Str) (S:St),s.length ≤ 1000000000 → ∃ v s' ok,Val.Wf v ∧ v.depth ≤ d + 1 ∧ s'.length ≤ s.length ∧
  (∀ w r,Val.Wf w → w.rightB d=true → Term r → s=w.text ++ r → v=w ∧ s'=r ∧ ok=true) ∧
  DF lib nk 36 [.str s,.int .i64 (6 - (d:Int))] S=some (.tup [.agg v.enc,.str s',.bool ok],S)
theorem isOf1 (m:UInt8):isOf m m m=fun b => decide (b=m):=by funext x; simp [isOf]
theorem row0t {S:St} {i sz:Nat} {es:List (List AV)} {x:List AV} {n m:Nat} {cs:List AV} {o:Nat} (t:List (Option Nat)) (hS:S[i]?=some (.mem cs (tips2 n m) false)) (hn:es.length=n) (hm:n=m) (hb:n + 1 ≤ 1073741824)
    (ho:o + 1 ≤ cs.length) (hp:plainEs (es ++ [x])=true) :
    ∃ v1 t1 S1 t2,appendK sz t S (rowA i 0 sz es) (.sl .exact sz [x])=some (v1,t1,S1) ∧
      ∀ nb,storeK t1 nb S1 1 (.ptr i o) v1=some (t2,S.set i (.mem (splice cs o [rowA i 0 sz (es ++ [x])]) (tips2 (n + 1) m) false)):=by
  subst hm
  by_cases h:n=0
  · subst h
    have he:es=[]:=List.eq_nil_of_length_eq_zero hn
    subst he
    refine ⟨.sl (.fr t.length) sz [x],t ++ [some 1],S,t ++ [none],by simp [appendK,rowA,elemsOf],fun nb => ?_⟩
    unfold storeK
    simp only [hS]
    have hpp:plain (strip (.sl (.fr t.length) sz [x]))=true:=by simpa [strip,plain] using hp
    simp [isVal,AV.cells,ho,hpp,regBox,tips2,rowA]
  · have he:es ≠ []:=by intro e; subst e; simp at hn; omega
    have hi:=(List.getElem?_eq_some_iff.1 hS).1
    refine ⟨.sl (.bx i 0) sz (es ++ [x]),t,S.set i (.mem cs (tips2 (n + 1) n) false),t,?_,fun nb => ?_⟩
    · simp [appendK,rowA,he,elemsOf,hn,hS,tips2,h]
      omega
    · unfold storeK
      have hpp:plain (strip (.sl (.bx i 0) sz (es ++ [x])))=true:=by simpa [strip,plain] using hp
      simp [hi,isVal,AV.cells,ho,hpp,regBox,rowA]
theorem row1t {S:St} {i sz:Nat} {es:List (List AV)} {x:List AV} {n m:Nat} {cs:List AV} {o:Nat} (t:List (Option Nat)) (hS:S[i]?=some (.mem cs (tips2 (n + 1) m) false)) (hn:es.length=m) (hm:n=m) (hb:n + 1 ≤ 1073741824)
    (ho:o + 1 ≤ cs.length) (hp:plainEs (es ++ [x])=true) :
    ∃ v1 t1 S1 t2,appendK sz t S (rowA i 1 sz es) (.sl .exact sz [x])=some (v1,t1,S1) ∧
      ∀ nb,storeK t1 nb S1 1 (.ptr i o) v1=some (t2,S.set i (.mem (splice cs o [rowA i 1 sz (es ++ [x])]) (tips2 (n + 1) (m + 1)) false)):=by
  subst hm
  by_cases h:n=0
  · subst h
    have he:es=[]:=List.eq_nil_of_length_eq_zero hn
    subst he
    refine ⟨.sl (.fr t.length) sz [x],t ++ [some 1],S,t ++ [none],by simp [appendK,rowA,elemsOf],fun nb => ?_⟩
    unfold storeK
    simp only [hS]
    have hpp:plain (strip (.sl (.fr t.length) sz [x]))=true:=by simpa [strip,plain] using hp
    simp [isVal,AV.cells,ho,hpp,regBox,tips2,rowA]
  · have he:es ≠ []:=by intro e; subst e; simp at hn; omega
    have hi:=(List.getElem?_eq_some_iff.1 hS).1
    refine ⟨.sl (.bx i 1) sz (es ++ [x]),t,S.set i (.mem cs (tips2 (n + 1) (n + 1)) false),t,?_,fun nb => ?_⟩
    · simp [appendK,rowA,he,elemsOf,hn,hS,tips2,h]
      omega
    · unfold storeK
      have hpp:plain (strip (.sl (.bx i 1) sz (es ++ [x])))=true:=by simpa [strip,plain] using hp
      simp [hi,isVal,AV.cells,ho,hpp,regBox,rowA]
theorem plain_enc (v:Val):plainL v.enc=true:=DatL.plain (by simp)
theorem tupPl {a:AV} (h:Dat a) (s:Str) (b:Bool):plainRes (.tup [a,.str s,.bool b])=true:=by
  have key:∀ c:AV,Dat c → (match c with | .sl .fresh _ es => plainEs es | c => plain c)=true:=by
    intro c hc
    split
    · have:=hc.plain; simp [plain] at this
    · exact hc.plain
  have h1:=key a h
  unfold plainRes
  simp only [List.all_cons,List.all_nil,Bool.and_true,Bool.and_eq_true]
  exact ⟨h1,rfl,rfl⟩
theorem cut1 {m:UInt8} {s a r:Str} (ha:∀ x ∈ a,x ≠ m) (h:s=a ++ m :: r):upto (isOf m m m) s=a ∧ from' (isOf m m m) s=m :: r:=by
  rw [isOf1,h]
  exact upto_mark (fun x hx => by simpa using ha x hx)
theorem bt_cases {α:Type} (k:α → Str) (mark e:UInt8) (he:e=125 ∨ e=93) (first:Bool) (s:Str) :
    (∃ r,s=e :: r) ∨ ((∀ r,s ≠ e :: r) ∧ first=false ∧ (∀ r,s ≠ 44 :: r)) ∨ ((∀ r,s ≠ e :: r) ∧ ∃ s1,(first=true ∧ s=s1 ∨ first=false ∧ s=44 :: s1)):=by
  by_cases h:∃ r,s=e :: r
  · exact .inl h
  have h':∀ r,s ≠ e :: r:=fun r hr => h ⟨r,hr⟩
  cases first
  · by_cases h2:∃ r,s=44 :: r
    · obtain ⟨s1,e1⟩:=h2
      exact .inr (.inr ⟨h',s1,.inr ⟨rfl,e1⟩⟩)
    · exact .inr (.inl ⟨h',rfl,fun r hr => h2 ⟨r,hr⟩⟩)
  · exact .inr (.inr ⟨h',s,.inl ⟨rfl,rfl⟩⟩)
theorem bt_nil {α:Type} {k:α → Str} {mark e:UInt8} (he:e=125 ∨ e=93) {first:Bool} {s r r':Str} {ys:List α} {qs:List Val} (hk0:∀ y ∈ ys,∃ b t,k y=b :: t ∧ b ≠ e) (hyq:ys.length=qs.length)
    (h:s=bt k mark first ys qs ++ e :: r) (h':s=e :: r'):ys=[] ∧ qs=[] ∧ r'=r:=by
  rcases ys with _ | ⟨y,ys⟩
  · rcases qs with _ | ⟨q,qs⟩
    · refine ⟨rfl,rfl,?_⟩
      have h3:s=e :: r:=by rw [h]; cases first <;> simp [bt,bodyT,tl]
      rw [h'] at h3
      simpa using h3
    · simp at hyq
  · rcases qs with _ | ⟨q,qs⟩
    · simp at hyq
    · exfalso
      rw [h'] at h
      cases first
      · simp [bt,tl] at h
        rcases he with he | he <;> (rw [he] at h; exact absurd h.1 (by decide))
      · obtain ⟨b,t,e1,e2⟩:=hk0 y (by simp)
        simp [bt,bodyT,e1] at h
        exact e2 h.1.symm
theorem bt_cons {α:Type} {k:α → Str} {mark e:UInt8} {first:Bool} {s r:Str} {ys:List α} {qs:List Val} (hyq:ys.length=qs.length) (h:s=bt k mark first ys qs ++ e :: r) (hne:∀ r,s ≠ e :: r) :
    ∃ y ys' q qs',ys=y :: ys' ∧ qs=q :: qs' ∧ ((first=true → s=k y ++ mark :: (q.text ++ (bt k mark false ys' qs' ++ e :: r))) ∧ (first=false → s=44 :: (k y ++ mark :: (q.text ++ (bt k mark false ys' qs' ++ e :: r))))):=by
  rcases ys with _ | ⟨y,ys⟩
  · rcases qs with _ | ⟨q,qs⟩
    · have h3:s=e :: r:=by rw [h]; cases first <;> simp [bt,bodyT,tl]
      exact absurd h3 (hne r)
    · simp at hyq
  · rcases qs with _ | ⟨q,qs⟩
    · simp at hyq
    · refine ⟨y,ys,q,qs,rfl,rfl,fun e => ?_,fun e => ?_⟩ <;> (subst e; simpa [bt,bodyT,tl] using h)
theorem term_bt {α:Type} (k:α → Str) (mark e:UInt8) (he:e=125 ∨ e=93) (zs:List α) (ws:List Val) (u:Str):Term (bt k mark false zs ws ++ e :: u):=by
  have:=term_tl k mark e he zs ws u
  simpa [bt] using this
def rN (xs:List Str) (ps:List Val):List AV:=[.int .i64 5,.int .i64 0,.str [],rowS 1 (ncl xs),.nils,rowS 6 (vcl ps)]
theorem plain_rN (xs:List Str) (ps:List Val):plainL (rN xs ps)=true:=by
  have p1:=rowS_datC (sz:=1) (plain_ncl xs)
  have p2:=rowS_datC (sz:=6) (plain_vcl ps)
  simp [rN,plainL,p1.2,p2.2,plain]
section
variable {d:Nat} (hV:RS d) (dep:Int) (hdep:IntKind.wrap .i64 (dep + 1)=6 - (d:Int)) (S:St)
theorem L_partsN_load (xs:List Str) (ps:List Val) (b:Box) (G:List Box):loadK (S ++ b :: vbN (S.length + 1) xs ps :: G) (.agg 6) (.ptr (S.length + 1) 0)=some (.agg (rN xs ps)):=by
  simp [vbN,partK,sub,strip_rowA,rN]
theorem L_partsN_store (xs:List Str) (ps:List Val) (G:List Box) (t:List (Option Nat)) (nb:Nat):storeK t nb (S ++ zb :: G) 6 (.ptr S.length 0) (.agg (rN xs ps))=some (t,S ++ .mem (rN xs ps) [] false :: G):=by
  rw [stTa0 (S:=S) (T:=S) rfl (plain_rN xs ps)]
  simp [zb,rN,splice]
include hV hdep in
theorem L_partsN:∀ (n k:Nat) (s:Str) (xs:List Str) (ps:List Val) (G:List Box) (t:List (Option Nat)),k + n=20 → xs.length=k → ps.length=k → s.length ≤ 1000000000 → (∀ x ∈ xs,x.length < 9223372036854775808) → (∀ p ∈ ps,Val.Wf p ∧ p.depth ≤ d + 1) →
    ∃ xs' ps' s' ok G' t' o,(∀ x ∈ xs',x.length < 9223372036854775808) ∧ (∀ p ∈ ps',Val.Wf p ∧ p.depth ≤ d + 1) ∧ xs'.length ≤ 20 ∧ ps'.length ≤ 20 ∧ s'.length ≤ s.length ∧
      (∀ ys qs r,(∀ y ∈ ys,nameB y=true) → (∀ q ∈ qs,Val.Wf q ∧ q.rightB d=true) → ys.length=qs.length → k + ys.length ≤ 19 → s=bt (fun n:Str => n) 61 (decide (k=0)) ys qs ++ 125 :: r → xs'=xs ++ ys ∧ ps'=ps ++ qs ∧ s'=r ∧ ok=true) ∧ (o=true → ok=false) ∧
      ∀ nb,DC lib nk (.loop l_dioptreref11_parts_0) ⟨[(0,.str s),(1,.int .i64 dep),(4,.ptr S.length 0),(7,.ptr (S.length + 1) 0),(8,.int .u8 125),(9,.int .u8 61),(10,.int .i64 (k:Nat))],t,nb⟩ (S ++ zb :: vbN (S.length + 1) xs ps :: G) =
        if o then some (.exit 0,⟨[(0,.str s'),(4,.ptr S.length 0),(7,.ptr (S.length + 1) 0)],t',nb⟩,S ++ zb :: vbN (S.length + 1) xs' ps' :: G')
        else some (.ret,⟨[(4,.ptr S.length 0),(5,.str s'),(6,.bool ok)],t',nb⟩,S ++ .mem (rN xs' ps') [] false :: G'):=by
  have hk0:∀ y:Str,nameB y=true → ∃ b t,((fun n:Str => n):Str → Str) y=b :: t ∧ b ≠ 125:=by
    intro y hn
    cases y with
    | nil => simp [nameB] at hn
    | cons b t => exact ⟨b,t,rfl,(nameR_not (nameB_chars hn b (by simp))).2.1⟩
  have ld:=L_partsN_load S
  have st:=L_partsN_store S
  have he:(125:UInt8)=125 ∨ (125:UInt8)=93:=by decide
  have ldk:∀ xs ps b G,loadK (S ++ b :: vbN (S.length + 1) xs ps :: G) .cell (.ptr (S.length + 1) 0)=some (.int .i64 5):=fun xs ps b G => by simp [vbN]
  have ldn:∀ xs ps b G,loadK (S ++ b :: vbN (S.length + 1) xs ps :: G) .cell (.ptr (S.length + 1) 3)=some (rowA (S.length + 1) 0 1 (ncl xs)):=fun xs ps b G => by simp [vbN]
  have ldp:∀ xs ps b G,loadK (S ++ b :: vbN (S.length + 1) xs ps :: G) .cell (.ptr (S.length + 1) 5)=some (rowA (S.length + 1) 1 6 (vcl ps)):=fun xs ps b G => by simp [vbN]
  have st15:∀ (b1 b2:Box) (G:List Box) (v:Val) (t:List (Option Nat)) (nb:Nat),storeK t nb (S ++ b1 :: b2 :: (G ++ [.mem [.int .i64 0,.int .i64 0,.str [],.nils,.nils,.nils] [] false])) 6 (.ptr (S.length + (G.length + 1 + 1)) 0) (.agg v.enc)=some (t,S ++ b1 :: b2 :: (G ++ [.mem v.enc [] false])):=fun b1 b2 G v t nb => by
    rw [stTa (S:=S) (T:=S) rfl (plain_enc v)]
    simp [splice]
  have ld15:∀ (b1 b2:Box) (G:List Box) (v:Val),loadK (S ++ b1 :: b2 :: (G ++ [.mem v.enc [] false])) (.agg 6) (.ptr (S.length + (G.length + 1 + 1)) 0)=some (.agg v.enc):=fun b1 b2 G v => by
    simp
  intro n
  induction n with
  | zero =>
    intro k s xs ps G t hk hx hp hs ox op
    refine ⟨xs,ps,s,false,G,t,true,ox,op,by omega,by omega,Nat.le_refl _,fun ys qs r _ _ _ h => by omega,fun _ => rfl,fun nb => ?_⟩
    have hk':¬ ((k:Int) < 20):=by omega
    rw [DC_loop',DC_of l_dioptreref11_parts_0.eq_1]
    simp [hk']
  | succ n ih =>
    intro k s xs ps G t hk hx hp hs ox op
    have hk':(k:Int) < 20:=by omega
    have hkw:=wrap_succ (i:=k) (by omega)
    simp at hkw
    rcases bt_cases ((fun n:Str => n):Str → Str) 61 125 he (decide (k=0)) s with ⟨r,rfl⟩ | ⟨hne,hf,hc⟩ | ⟨hne,s1,hs1⟩
    · -- the end
      refine ⟨xs,ps,r,true,vbN (S.length + 1) xs ps :: G,t,false,ox,op,by omega,by omega,by simp,fun ys qs r' gy gq hyq _ h => ?_,fun h => by (cases h),fun nb => ?_⟩
      · obtain ⟨rfl,rfl,rfl⟩:=bt_nil he (fun y hy => hk0 y (gy y hy)) hyq h rfl
        simp
      · have hsl:slSK (.str (125 :: r)) (some (.int .i64 1)) none=some (.str r):=by have:=slS_from (s:=125 :: r) (n:=1) (by simp); simpa using this
        rw [DC_loop',DC_of l_dioptreref11_parts_0.eq_1]
        simp [hk',ld,st,hsl]
    · -- no comma
      refine ⟨xs,ps,s,false,vbN (S.length + 1) xs ps :: G,t,false,ox,op,by omega,by omega,Nat.le_refl _,fun ys qs r' gy gq hyq _ h => ?_,fun _ => rfl,fun nb => ?_⟩
      · exfalso
        obtain ⟨y,ys',q,qs',_,_,_,h2⟩:=bt_cons hyq h hne
        exact hc _ (h2 hf)
      · have hk1:0 < k:=by simp at hf; omega
        rw [DC_loop',DC_of l_dioptreref11_parts_0.eq_1]
        cases s with
        | nil => simp [hk',hk1,ld,st]
        | cons c r =>
          have c1:¬ c=125:=fun e => hne r (by rw [e])
          have c2:¬ c=44:=fun e => hc r (by rw [e])
          have c1':¬ (c.toNat:Int)=125:=fun e => c1 (UInt8.toNat_inj.1 (by rw [show c.toNat=125 by omega]; rfl))
          have c2':¬ (c.toNat:Int)=44:=fun e => c2 (UInt8.toNat_inj.1 (by rw [show c.toNat=44 by omega]; rfl))
          simp [hk',hk1,c1,c2,c1',c2',ld,st]
    · -- a part
      have hs1l:s1.length ≤ s.length:=by rcases hs1 with ⟨_,e⟩ | ⟨_,e⟩ <;> (rw [e]; simp)
      have sp:∀ ys qs r,ys.length=qs.length → s=bt (fun n:Str => n) 61 (decide (k=0)) ys qs ++ 125 :: r → ∃ y ys' q qs',ys=y :: ys' ∧ qs=q :: qs' ∧ s1=((fun n:Str => n):Str → Str) y ++ 61 :: (q.text ++ (bt (fun n:Str => n) 61 false ys' qs' ++ 125 :: r)):=by
        intro ys qs r hyq h
        obtain ⟨y,ys',q,qs',e1,e2,h1,h2⟩:=bt_cons hyq h hne
        refine ⟨y,ys',q,qs',e1,e2,?_⟩
        rcases hs1 with ⟨f,e⟩ | ⟨f,e⟩
        · rw [← e]; exact h1 f
        · have:=h2 f; rw [e] at this; simpa using this
      -- how it comes to s1
      have go:∀ (Q:Option (Out × KEnv × St)) (nb:Nat),True:=fun _ _ => trivial
      obtain ⟨u1,u2⟩:=upto_le (isOf 61 61 61) s1
      have fc:=fun S => F_dioptreref11_cut s1 (by omega) 61 61 61 S
      have hcut:∀ a r:Str,(∀ x ∈ a,x ≠ 61) → s1=a ++ 61 :: r → upto (isOf 61 61 61) s1=a ∧ from' (isOf 61 61 61) s1=61 :: r:=fun a r => cut1
      simp at fc
      generalize upto (isOf 61 61 61) s1=nm at *
      generalize from' (isOf 61 61 61) s1=rest at *
      have hE1:s=[] ∨ ∃ c r,s=c :: r ∧ ¬ c=125 ∧ ¬ (c.toNat:Int)=125:=by
        cases s with
        | nil => exact .inl rfl
        | cons c r =>
          have c1:¬ c=125:=fun e => hne r (by rw [e])
          exact .inr ⟨c,r,rfl,c1,fun e => c1 (UInt8.toNat_inj.1 (by rw [show c.toNat=125 by omega]; rfl))⟩
      have hsl:slSK (.str (44 :: s1)) (some (.int .i64 1)) none=some (.str s1):=by have:=slS_from (s:=44 :: s1) (n:=1) (by simp); simpa using this
      have hgo:(k=0 ∧ s=s1 ∧ (s1=[] ∨ ∃ c r,s1=c :: r ∧ ¬ c=125 ∧ ¬ (c.toNat:Int)=125)) ∨ (0 < k ∧ ¬ k=0 ∧ s=44 :: s1):=by
        rcases hs1 with ⟨f,e⟩ | ⟨f,e⟩
        · simp at f; exact .inl ⟨f,e,by rw [← e]; exact hE1⟩
        · simp at f; exact .inr ⟨by omega,f,e⟩
      rcases rest with _ | ⟨m0,rest⟩
      · -- no mark
        refine ⟨xs,ps,s1,false,vbN (S.length + 1) xs ps :: G,t,false,ox,op,by omega,by omega,hs1l,fun ys qs r gy gq hyq _ h => ?_,fun _ => rfl,fun nb => ?_⟩
        · exfalso
          obtain ⟨y,ys',q,qs',e1,e2,h1⟩:=sp ys qs r hyq h
          have:=(hcut _ _ (fun x hx => by have:=(nameR_not (nameB_chars (gy y (by rw [e1]; simp)) x hx)).2.2.2.1; simpa using this) h1).2
          simp at this
        · rw [DC_loop',DC_of l_dioptreref11_parts_0.eq_1]
          rcases hgo with ⟨g1,g2,(g3 | ⟨c,r,g3,g4,g5⟩)⟩ | ⟨g1,g2,g3⟩
          · subst g2; subst g3; simp [takeRet,takeResL,takeRes,evExtract,hk',g1,ld,st,fc]
          · subst g2; rw [g3] at fc ⊢; simp [takeRet,takeResL,takeRes,evExtract,hk',g1,g4,g5,ld,st,fc]
          · rw [g3]; simp [takeRet,takeResL,takeRes,evExtract,hk',g1,g2,hsl,ld,st,fc]
      obtain ⟨v1,t1,S1,t2,r1,r2⟩:=row0t (sz:=1) (es:=ncl xs) (x:=[.str nm]) (o:=3) t (show (S ++ zb :: vbN (S.length + 1) xs ps :: G)[S.length + 1]?=some (vbN (S.length + 1) xs ps) from gT rfl _ 1) (ncl_len xs) (by omega) (by omega) (by simp) (plainEs_snoc (plain_ncl xs) rfl)
      have w1:∀ nb,storeK t1 nb S1 1 (.ptr (S.length + 1) 3) v1=some (t2,S ++ zb :: vbN (S.length + 1) (xs ++ [nm]) ps :: G):=fun nb => by
        rw [r2 nb,← ncl_app,sT (S:=S) (T:=S) rfl]
        simp [vbN,splice]
      obtain ⟨p,s2,ok,p1,p2,p3,p4,p5⟩:=hV rest (S ++ zb :: vbN (S.length + 1) (xs ++ [nm]) ps :: G) (by simp at u2; omega)
      have hslr:slSK (.str (m0 :: rest)) (some (.int .i64 1)) none=some (.str rest):=by have:=slS_from (s:=m0 :: rest) (n:=1) (by simp); simpa using this
      have ox':∀ x ∈ xs ++ [nm],x.length < 9223372036854775808:=by
        intro z hz
        rcases List.mem_append.1 hz with h | h
        · exact ox z h
        · simp at h; rw [h]; omega
      have op':∀ z ∈ ps ++ [p],Val.Wf z ∧ z.depth ≤ d + 1:=by
        intro z hz
        rcases List.mem_append.1 hz with h | h
        · exact op z h
        · simp at h; rw [h]; exact ⟨p1,p2⟩
      simp at u2
      have hcorr:∀ ys qs r,(∀ y ∈ ys,nameB y=true) → (∀ q ∈ qs,Val.Wf q ∧ q.rightB d=true) → ys.length=qs.length → s=bt (fun n:Str => n) 61 (decide (k=0)) ys qs ++ 125 :: r → ∃ ys' q qs',ys=nm :: ys' ∧ qs=q :: qs' ∧ p=q ∧ s2=bt (fun n:Str => n) 61 false ys' qs' ++ 125 :: r ∧ ok=true:=by
        intro ys qs r gy gq hyq h
        obtain ⟨y,ys',q,qs',e1,e2,h1⟩:=sp ys qs r hyq h
        have hc2:=hcut _ _ (fun x hx => by have:=(nameR_not (nameB_chars (gy y (by rw [e1]; simp)) x hx)).2.2.2.1; simpa using this) h1
        have hq:=gq q (by rw [e2]; simp)
        have hy:=gy y (by rw [e1]; simp)
        have e3:rest=q.text ++ (bt (fun n:Str => n) 61 false ys' qs' ++ 125 :: r):=by have:=hc2.2; simp at this; exact this.2
        obtain ⟨f1,f2,f3⟩:=p4 q _ hq.1 hq.2 (term_bt _ _ _ he _ _ _) e3
        have e4:y=nm:=hc2.1.symm
        exact ⟨ys',q,qs',by rw [e1,e4],e2,f1,f2,f3⟩
      cases ok
      · -- no value
        refine ⟨xs ++ [nm],ps,s1,false,vbN (S.length + 1) (xs ++ [nm]) ps :: (G ++ [.mem p.enc [] false]),t2,false,ox',op,by simp; omega,by omega,hs1l,fun ys qs r gy gq hyq _ h => ?_,fun _ => rfl,fun nb => ?_⟩
        · obtain ⟨_,_,_,_,_,_,_,h5⟩:=hcorr ys qs r gy gq hyq h
          cases h5
        · rw [DC_loop',DC_of l_dioptreref11_parts_0.eq_1]
          rcases hgo with ⟨g1,g2,(g3 | ⟨c,r,g3,g4,g5⟩)⟩ | ⟨g1,g2,g3⟩
          · exfalso; rw [g3] at u2; simp at u2
          · subst g2; rw [g3] at fc ⊢; simp [takeRet,takeResL,takeRes,evExtract,hk',g1,g4,g5,ld,st,fc,ldk,ldn,fillEs,r1,w1,hdep,hslr,p5,st15,evUn]
          · rw [g3]; simp [takeRet,takeResL,takeRes,evExtract,hk',g1,g2,hsl,ld,st,fc,ldk,ldn,fillEs,r1,w1,hdep,hslr,p5,st15,evUn]
      · -- a value
        have hg1:(S ++ zb :: vbN (S.length + 1) (xs ++ [nm]) ps :: (G ++ [.mem p.enc [] false]))[S.length + 1]?=some (vbN (S.length + 1) (xs ++ [nm]) ps):=gT rfl _ 1
        unfold vbN at hg1
        rw [List.length_append] at hg1
        obtain ⟨v2,t3,S2,t4,q1,q2⟩:=row1t (sz:=6) (es:=vcl ps) (x:=p.enc) (o:=5) (n:=xs.length) t2 hg1 (vcl_len ps) (by omega) (by omega) (by simp) (plainEs_snoc (plain_vcl ps) (plain_enc p))
        have q1':appendK 6 t2 (S ++ zb :: vbN (S.length + 1) (xs ++ [nm]) ps :: (G ++ [.mem p.enc [] false])) (rowA (S.length + 1) 1 6 (vcl ps)) (.sl .exact 6 [p.enc])=some (v2,t3,S2):=by
          unfold vbN; rw [List.length_append]; exact q1
        have w2:∀ nb,storeK t3 nb S2 1 (.ptr (S.length + 1) 5) v2=some (t4,S ++ zb :: vbN (S.length + 1) (xs ++ [nm]) (ps ++ [p]) :: (G ++ [.mem p.enc [] false])):=fun nb => by
          rw [q2 nb,← vcl_app,sT (S:=S) (T:=S) rfl]
          simp [vbN,splice]
        obtain ⟨xs',ps',s',ok',G',t',o,o1,o2,o3,o4,o5,o6,o7,o8⟩:=ih (k + 1) s2 (xs ++ [nm]) (ps ++ [p]) (G ++ [.mem p.enc [] false]) t4 (by omega) (by simp [hx]) (by simp [hp]) (by omega) ox' op'
        refine ⟨xs',ps',s',ok',G',t',o,o1,o2,o3,o4,by omega,fun ys qs r gy gq hyq hyl h => ?_,o7,fun nb => ?_⟩
        · obtain ⟨ys',q,qs',e1,e2,e3,e4,_⟩:=hcorr ys qs r gy gq hyq h
          subst e1; subst e2; subst e3
          obtain ⟨f1,f2,f3,f4⟩:=o6 ys' qs' r (fun y hy => gy y (by simp [hy])) (fun y hy => gq y (by simp [hy])) (by simpa using hyq) (by simp at hyl; omega) (by simpa using e4)
          exact ⟨by rw [f1]; simp,by rw [f2]; simp,f3,f4⟩
        · have o8':=o8 nb
          generalize hR:(if o=true then _ else _:Option (Out × KEnv × St))=R at o8' ⊢
          simp at o8'
          rw [DC_loop',DC_of l_dioptreref11_parts_0.eq_1]
          rcases hgo with ⟨g1,g2,(g3 | ⟨c,r,g3,g4,g5⟩)⟩ | ⟨g1,g2,g3⟩
          · exfalso; rw [g3] at u2; simp at u2
          · subst g2; rw [g3] at fc ⊢
            simp [takeRet,takeResL,takeRes,evExtract,hk',g1,g4,g5,ld,st,fc,ldk,ldn,ldp,fillEs,r1,w1,hdep,hslr,p5,st15,ld15,q1',w2,evUn]
            rw [DC_keep_of l_dioptreref11_parts_0.eq_1]
            subst g1
            simp at o8'
            simp [o8']
          · rw [g3]
            simp [takeRet,takeResL,takeRes,evExtract,hk',g1,g2,hsl,ld,st,fc,ldk,ldn,ldp,fillEs,r1,w1,hdep,hslr,p5,st15,ld15,q1',w2,evUn]
            rw [DC_keep_of l_dioptreref11_parts_0.eq_1]
            simp [hkw,o8']
end
def rI (xs:List Int) (ps:List Val):List AV:=[.int .i64 6,.int .i64 0,.str [],.nils,rowS 1 (icl xs),rowS 6 (vcl ps)]
theorem plain_rI (xs:List Int) (ps:List Val):plainL (rI xs ps)=true:=by
  have p1:=rowS_datC (sz:=1) (plain_icl xs)
  have p2:=rowS_datC (sz:=6) (plain_vcl ps)
  simp [rI,plainL,p1.2,p2.2,plain]
section
variable {d:Nat} (hV:RS d) (dep:Int) (hdep:IntKind.wrap .i64 (dep + 1)=6 - (d:Int)) (S:St)
theorem L_partsI_load (xs:List Int) (ps:List Val) (b:Box) (G:List Box):loadK (S ++ b :: vbI (S.length + 1) xs ps :: G) (.agg 6) (.ptr (S.length + 1) 0)=some (.agg (rI xs ps)):=by
  simp [vbI,partK,sub,strip_rowA,rI]
theorem L_partsI_store (xs:List Int) (ps:List Val) (G:List Box) (t:List (Option Nat)) (nb:Nat):storeK t nb (S ++ zb :: G) 6 (.ptr S.length 0) (.agg (rI xs ps))=some (t,S ++ .mem (rI xs ps) [] false :: G):=by
  rw [stTa0 (S:=S) (T:=S) rfl (plain_rI xs ps)]
  simp [zb,rI,splice]
include hV hdep in
theorem L_partsI:∀ (n k:Nat) (s:Str) (xs:List Int) (ps:List Val) (G:List Box) (t:List (Option Nat)),k + n=20 → xs.length=k → ps.length=k → s.length ≤ 1000000000 → (∀ x ∈ xs,0 ≤ x ∧ x < 18446744073709551616) → (∀ p ∈ ps,Val.Wf p ∧ p.depth ≤ d + 1) →
    ∃ xs' ps' s' ok G' t' o,(∀ x ∈ xs',0 ≤ x ∧ x < 18446744073709551616) ∧ (∀ p ∈ ps',Val.Wf p ∧ p.depth ≤ d + 1) ∧ xs'.length ≤ 20 ∧ ps'.length ≤ 20 ∧ s'.length ≤ s.length ∧
      (∀ ys qs r,(∀ y ∈ ys,0 ≤ y ∧ y < 18446744073709551616) → (∀ q ∈ qs,Val.Wf q ∧ q.rightB d=true) → ys.length=qs.length → k + ys.length ≤ 19 → s=bt (fun n:Int => dec n.toNat) 58 (decide (k=0)) ys qs ++ 93 :: r → xs'=xs ++ ys ∧ ps'=ps ++ qs ∧ s'=r ∧ ok=true) ∧ (o=true → ok=false) ∧
      ∀ nb,DC lib nk (.loop l_dioptreref11_parts_0) ⟨[(0,.str s),(1,.int .i64 dep),(4,.ptr S.length 0),(7,.ptr (S.length + 1) 0),(8,.int .u8 93),(9,.int .u8 58),(10,.int .i64 (k:Nat))],t,nb⟩ (S ++ zb :: vbI (S.length + 1) xs ps :: G) =
        if o then some (.exit 0,⟨[(0,.str s'),(4,.ptr S.length 0),(7,.ptr (S.length + 1) 0)],t',nb⟩,S ++ zb :: vbI (S.length + 1) xs' ps' :: G')
        else some (.ret,⟨[(4,.ptr S.length 0),(5,.str s'),(6,.bool ok)],t',nb⟩,S ++ .mem (rI xs' ps') [] false :: G'):=by
  have hk0:∀ y:Int,0 ≤ y ∧ y < 18446744073709551616 → ∃ b t,((fun n:Int => dec n.toNat):Int → Str) y=b :: t ∧ b ≠ 93:=by
    intro y _
    obtain ⟨b,t,e,hb⟩:=dec_cons y.toNat
    exact ⟨b,t,e,(dig_not hb).2.2.1⟩
  have ld:=L_partsI_load S
  have st:=L_partsI_store S
  have he:(93:UInt8)=125 ∨ (93:UInt8)=93:=by decide
  have ldk:∀ xs ps b G,loadK (S ++ b :: vbI (S.length + 1) xs ps :: G) .cell (.ptr (S.length + 1) 0)=some (.int .i64 6):=fun xs ps b G => by simp [vbI]
  have ldn:∀ xs ps b G,loadK (S ++ b :: vbI (S.length + 1) xs ps :: G) .cell (.ptr (S.length + 1) 4)=some (rowA (S.length + 1) 0 1 (icl xs)):=fun xs ps b G => by simp [vbI]
  have ldp:∀ xs ps b G,loadK (S ++ b :: vbI (S.length + 1) xs ps :: G) .cell (.ptr (S.length + 1) 5)=some (rowA (S.length + 1) 1 6 (vcl ps)):=fun xs ps b G => by simp [vbI]
  have st15:∀ (b1 b2:Box) (G:List Box) (v:Val) (t:List (Option Nat)) (nb:Nat),storeK t nb (S ++ b1 :: b2 :: (G ++ [.mem [.int .i64 0,.int .i64 0,.str [],.nils,.nils,.nils] [] false])) 6 (.ptr (S.length + (G.length + 1 + 1)) 0) (.agg v.enc)=some (t,S ++ b1 :: b2 :: (G ++ [.mem v.enc [] false])):=fun b1 b2 G v t nb => by
    rw [stTa (S:=S) (T:=S) rfl (plain_enc v)]
    simp [splice]
  have ld15:∀ (b1 b2:Box) (G:List Box) (v:Val),loadK (S ++ b1 :: b2 :: (G ++ [.mem v.enc [] false])) (.agg 6) (.ptr (S.length + (G.length + 1 + 1)) 0)=some (.agg v.enc):=fun b1 b2 G v => by
    simp
  intro n
  induction n with
  | zero =>
    intro k s xs ps G t hk hx hp hs ox op
    refine ⟨xs,ps,s,false,G,t,true,ox,op,by omega,by omega,Nat.le_refl _,fun ys qs r _ _ _ h => by omega,fun _ => rfl,fun nb => ?_⟩
    have hk':¬ ((k:Int) < 20):=by omega
    rw [DC_loop',DC_of l_dioptreref11_parts_0.eq_1]
    simp [hk']
  | succ n ih =>
    intro k s xs ps G t hk hx hp hs ox op
    have hk':(k:Int) < 20:=by omega
    have hkw:=wrap_succ (i:=k) (by omega)
    simp at hkw
    rcases bt_cases ((fun n:Int => dec n.toNat):Int → Str) 58 93 he (decide (k=0)) s with ⟨r,rfl⟩ | ⟨hne,hf,hc⟩ | ⟨hne,s1,hs1⟩
    · -- the end
      refine ⟨xs,ps,r,true,vbI (S.length + 1) xs ps :: G,t,false,ox,op,by omega,by omega,by simp,fun ys qs r' gy gq hyq _ h => ?_,fun h => by (cases h),fun nb => ?_⟩
      · obtain ⟨rfl,rfl,rfl⟩:=bt_nil he (fun y hy => hk0 y (gy y hy)) hyq h rfl
        simp
      · have hsl:slSK (.str (93 :: r)) (some (.int .i64 1)) none=some (.str r):=by have:=slS_from (s:=93 :: r) (n:=1) (by simp); simpa using this
        rw [DC_loop',DC_of l_dioptreref11_parts_0.eq_1]
        simp [hk',ld,st,hsl]
    · -- no comma
      refine ⟨xs,ps,s,false,vbI (S.length + 1) xs ps :: G,t,false,ox,op,by omega,by omega,Nat.le_refl _,fun ys qs r' gy gq hyq _ h => ?_,fun _ => rfl,fun nb => ?_⟩
      · exfalso
        obtain ⟨y,ys',q,qs',_,_,_,h2⟩:=bt_cons hyq h hne
        exact hc _ (h2 hf)
      · have hk1:0 < k:=by simp at hf; omega
        rw [DC_loop',DC_of l_dioptreref11_parts_0.eq_1]
        cases s with
        | nil => simp [hk',hk1,ld,st]
        | cons c r =>
          have c1:¬ c=93:=fun e => hne r (by rw [e])
          have c2:¬ c=44:=fun e => hc r (by rw [e])
          have c1':¬ (c.toNat:Int)=93:=fun e => c1 (UInt8.toNat_inj.1 (by rw [show c.toNat=93 by omega]; rfl))
          have c2':¬ (c.toNat:Int)=44:=fun e => c2 (UInt8.toNat_inj.1 (by rw [show c.toNat=44 by omega]; rfl))
          simp [hk',hk1,c1,c2,c1',c2',ld,st]
    · -- a part
      have hs1l:s1.length ≤ s.length:=by rcases hs1 with ⟨_,e⟩ | ⟨_,e⟩ <;> (rw [e]; simp)
      have sp:∀ ys qs r,ys.length=qs.length → s=bt (fun n:Int => dec n.toNat) 58 (decide (k=0)) ys qs ++ 93 :: r → ∃ y ys' q qs',ys=y :: ys' ∧ qs=q :: qs' ∧ s1=((fun n:Int => dec n.toNat):Int → Str) y ++ 58 :: (q.text ++ (bt (fun n:Int => dec n.toNat) 58 false ys' qs' ++ 93 :: r)):=by
        intro ys qs r hyq h
        obtain ⟨y,ys',q,qs',e1,e2,h1,h2⟩:=bt_cons hyq h hne
        refine ⟨y,ys',q,qs',e1,e2,?_⟩
        rcases hs1 with ⟨f,e⟩ | ⟨f,e⟩
        · rw [← e]; exact h1 f
        · have:=h2 f; rw [e] at this; simpa using this
      -- how it comes to s1
      have go:∀ (Q:Option (Out × KEnv × St)) (nb:Nat),True:=fun _ _ => trivial
      obtain ⟨u1,u2⟩:=upto_le (isOf 58 58 58) s1
      have fc:=fun S => F_dioptreref11_cut s1 (by omega) 58 58 58 S
      have hcut:∀ a r:Str,(∀ x ∈ a,x ≠ 58) → s1=a ++ 58 :: r → upto (isOf 58 58 58) s1=a ∧ from' (isOf 58 58 58) s1=58 :: r:=fun a r => cut1
      simp at fc
      generalize upto (isOf 58 58 58) s1=nm at *
      generalize from' (isOf 58 58 58) s1=rest at *
      have hE1:s=[] ∨ ∃ c r,s=c :: r ∧ ¬ c=93 ∧ ¬ (c.toNat:Int)=93:=by
        cases s with
        | nil => exact .inl rfl
        | cons c r =>
          have c1:¬ c=93:=fun e => hne r (by rw [e])
          exact .inr ⟨c,r,rfl,c1,fun e => c1 (UInt8.toNat_inj.1 (by rw [show c.toNat=93 by omega]; rfl))⟩
      have hsl:slSK (.str (44 :: s1)) (some (.int .i64 1)) none=some (.str s1):=by have:=slS_from (s:=44 :: s1) (n:=1) (by simp); simpa using this
      have hgo:(k=0 ∧ s=s1 ∧ (s1=[] ∨ ∃ c r,s1=c :: r ∧ ¬ c=93 ∧ ¬ (c.toNat:Int)=93)) ∨ (0 < k ∧ ¬ k=0 ∧ s=44 :: s1):=by
        rcases hs1 with ⟨f,e⟩ | ⟨f,e⟩
        · simp at f; exact .inl ⟨f,e,by rw [← e]; exact hE1⟩
        · simp at f; exact .inr ⟨by omega,f,e⟩
      rcases rest with _ | ⟨m0,rest⟩
      · -- no mark
        refine ⟨xs,ps,s1,false,vbI (S.length + 1) xs ps :: G,t,false,ox,op,by omega,by omega,hs1l,fun ys qs r gy gq hyq _ h => ?_,fun _ => rfl,fun nb => ?_⟩
        · exfalso
          obtain ⟨y,ys',q,qs',e1,e2,h1⟩:=sp ys qs r hyq h
          have:=(hcut _ _ (fun x hx => by have:=(dig_not (dec_digit _ x hx)).2.2.2.2.1; simpa using this) h1).2
          simp at this
        · rw [DC_loop',DC_of l_dioptreref11_parts_0.eq_1]
          rcases hgo with ⟨g1,g2,(g3 | ⟨c,r,g3,g4,g5⟩)⟩ | ⟨g1,g2,g3⟩
          · subst g2; subst g3; simp [takeRet,takeResL,takeRes,evExtract,hk',g1,ld,st,fc]
          · subst g2; rw [g3] at fc ⊢; simp [takeRet,takeResL,takeRes,evExtract,hk',g1,g4,g5,ld,st,fc]
          · rw [g3]; simp [takeRet,takeResL,takeRes,evExtract,hk',g1,g2,hsl,ld,st,fc]
      obtain ⟨num,okn,n1,n2,n3,n4⟩:=F_dioptreref11_number nm (by omega) (S ++ zb :: vbI (S.length + 1) xs ps :: G)
      cases okn
      · refine ⟨xs,ps,s1,false,vbI (S.length + 1) xs ps :: G,t,false,ox,op,by omega,by omega,hs1l,fun ys qs r gy gq hyq _ h => ?_,fun _ => rfl,fun nb => ?_⟩
        · exfalso
          obtain ⟨y,ys',q,qs',e1,e2,h1⟩:=sp ys qs r hyq h
          have hc2:=hcut _ _ (fun x hx => by have:=(dig_not (dec_digit _ x hx)).2.2.2.2.1; simpa using this) h1
          have hy:=gy y (by rw [e1]; simp)
          have:=(n3 y.toNat (by omega) hc2.1).2
          cases this
        · rw [DC_loop',DC_of l_dioptreref11_parts_0.eq_1]
          rcases hgo with ⟨g1,g2,(g3 | ⟨c,r,g3,g4,g5⟩)⟩ | ⟨g1,g2,g3⟩
          · exfalso; rw [g3] at u2; simp at u2
          · subst g2; rw [g3] at fc ⊢; simp [takeRet,takeResL,takeRes,evExtract,hk',g1,g4,g5,ld,st,fc,ldk,ldn,n4,evUn]
          · rw [g3]; simp [takeRet,takeResL,takeRes,evExtract,hk',g1,g2,hsl,ld,st,fc,ldk,ldn,n4,evUn]
      obtain ⟨v1,t1,S1,t2,r1,r2⟩:=row0t (sz:=1) (es:=icl xs) (x:=[.int .u64 (num:Int)]) (o:=4) t (show (S ++ zb :: vbI (S.length + 1) xs ps :: G)[S.length + 1]?=some (vbI (S.length + 1) xs ps) from gT rfl _ 1) (icl_len xs) (by omega) (by omega) (by simp) (plainEs_snoc (plain_icl xs) rfl)
      have w1:∀ nb,storeK t1 nb S1 1 (.ptr (S.length + 1) 4) v1=some (t2,S ++ zb :: vbI (S.length + 1) (xs ++ [(num:Int)]) ps :: G):=fun nb => by
        rw [r2 nb,← icl_app,sT (S:=S) (T:=S) rfl]
        simp [vbI,splice]
      obtain ⟨p,s2,ok,p1,p2,p3,p4,p5⟩:=hV rest (S ++ zb :: vbI (S.length + 1) (xs ++ [(num:Int)]) ps :: G) (by simp at u2; omega)
      have hslr:slSK (.str (m0 :: rest)) (some (.int .i64 1)) none=some (.str rest):=by have:=slS_from (s:=m0 :: rest) (n:=1) (by simp); simpa using this
      have ox':∀ x ∈ xs ++ [(num:Int)],0 ≤ x ∧ x < 18446744073709551616:=by
        intro z hz
        rcases List.mem_append.1 hz with h | h
        · exact ox z h
        · simp at h; rw [h]; omega
      have op':∀ z ∈ ps ++ [p],Val.Wf z ∧ z.depth ≤ d + 1:=by
        intro z hz
        rcases List.mem_append.1 hz with h | h
        · exact op z h
        · simp at h; rw [h]; exact ⟨p1,p2⟩
      simp at u2
      have hcorr:∀ ys qs r,(∀ y ∈ ys,0 ≤ y ∧ y < 18446744073709551616) → (∀ q ∈ qs,Val.Wf q ∧ q.rightB d=true) → ys.length=qs.length → s=bt (fun n:Int => dec n.toNat) 58 (decide (k=0)) ys qs ++ 93 :: r → ∃ ys' q qs',ys=(num:Int) :: ys' ∧ qs=q :: qs' ∧ p=q ∧ s2=bt (fun n:Int => dec n.toNat) 58 false ys' qs' ++ 93 :: r ∧ ok=true:=by
        intro ys qs r gy gq hyq h
        obtain ⟨y,ys',q,qs',e1,e2,h1⟩:=sp ys qs r hyq h
        have hc2:=hcut _ _ (fun x hx => by have:=(dig_not (dec_digit _ x hx)).2.2.2.2.1; simpa using this) h1
        have hq:=gq q (by rw [e2]; simp)
        have hy:=gy y (by rw [e1]; simp)
        have e3:rest=q.text ++ (bt (fun n:Int => dec n.toNat) 58 false ys' qs' ++ 93 :: r):=by have:=hc2.2; simp at this; exact this.2
        obtain ⟨f1,f2,f3⟩:=p4 q _ hq.1 hq.2 (term_bt _ _ _ he _ _ _) e3
        have e4:y=(num:Int):=by
          have:=(n3 y.toNat (by omega) hc2.1).1
          omega
        exact ⟨ys',q,qs',by rw [e1,e4],e2,f1,f2,f3⟩
      cases ok
      · -- no value
        refine ⟨xs ++ [(num:Int)],ps,s1,false,vbI (S.length + 1) (xs ++ [(num:Int)]) ps :: (G ++ [.mem p.enc [] false]),t2,false,ox',op,by simp; omega,by omega,hs1l,fun ys qs r gy gq hyq _ h => ?_,fun _ => rfl,fun nb => ?_⟩
        · obtain ⟨_,_,_,_,_,_,_,h5⟩:=hcorr ys qs r gy gq hyq h
          cases h5
        · rw [DC_loop',DC_of l_dioptreref11_parts_0.eq_1]
          rcases hgo with ⟨g1,g2,(g3 | ⟨c,r,g3,g4,g5⟩)⟩ | ⟨g1,g2,g3⟩
          · exfalso; rw [g3] at u2; simp at u2
          · subst g2; rw [g3] at fc ⊢; simp [takeRet,takeResL,takeRes,evExtract,hk',g1,g4,g5,ld,st,fc,ldk,ldn,fillEs,r1,w1,hdep,hslr,p5,st15,n4,evUn]
          · rw [g3]; simp [takeRet,takeResL,takeRes,evExtract,hk',g1,g2,hsl,ld,st,fc,ldk,ldn,fillEs,r1,w1,hdep,hslr,p5,st15,n4,evUn]
      · -- a value
        have hg1:(S ++ zb :: vbI (S.length + 1) (xs ++ [(num:Int)]) ps :: (G ++ [.mem p.enc [] false]))[S.length + 1]?=some (vbI (S.length + 1) (xs ++ [(num:Int)]) ps):=gT rfl _ 1
        unfold vbI at hg1
        rw [List.length_append] at hg1
        obtain ⟨v2,t3,S2,t4,q1,q2⟩:=row1t (sz:=6) (es:=vcl ps) (x:=p.enc) (o:=5) (n:=xs.length) t2 hg1 (vcl_len ps) (by omega) (by omega) (by simp) (plainEs_snoc (plain_vcl ps) (plain_enc p))
        have q1':appendK 6 t2 (S ++ zb :: vbI (S.length + 1) (xs ++ [(num:Int)]) ps :: (G ++ [.mem p.enc [] false])) (rowA (S.length + 1) 1 6 (vcl ps)) (.sl .exact 6 [p.enc])=some (v2,t3,S2):=by
          unfold vbI; rw [List.length_append]; exact q1
        have w2:∀ nb,storeK t3 nb S2 1 (.ptr (S.length + 1) 5) v2=some (t4,S ++ zb :: vbI (S.length + 1) (xs ++ [(num:Int)]) (ps ++ [p]) :: (G ++ [.mem p.enc [] false])):=fun nb => by
          rw [q2 nb,← vcl_app,sT (S:=S) (T:=S) rfl]
          simp [vbI,splice]
        obtain ⟨xs',ps',s',ok',G',t',o,o1,o2,o3,o4,o5,o6,o7,o8⟩:=ih (k + 1) s2 (xs ++ [(num:Int)]) (ps ++ [p]) (G ++ [.mem p.enc [] false]) t4 (by omega) (by simp [hx]) (by simp [hp]) (by omega) ox' op'
        refine ⟨xs',ps',s',ok',G',t',o,o1,o2,o3,o4,by omega,fun ys qs r gy gq hyq hyl h => ?_,o7,fun nb => ?_⟩
        · obtain ⟨ys',q,qs',e1,e2,e3,e4,_⟩:=hcorr ys qs r gy gq hyq h
          subst e1; subst e2; subst e3
          obtain ⟨f1,f2,f3,f4⟩:=o6 ys' qs' r (fun y hy => gy y (by simp [hy])) (fun y hy => gq y (by simp [hy])) (by simpa using hyq) (by simp at hyl; omega) (by simpa using e4)
          exact ⟨by rw [f1]; simp,by rw [f2]; simp,f3,f4⟩
        · have o8':=o8 nb
          generalize hR:(if o=true then _ else _:Option (Out × KEnv × St))=R at o8' ⊢
          simp at o8'
          rw [DC_loop',DC_of l_dioptreref11_parts_0.eq_1]
          rcases hgo with ⟨g1,g2,(g3 | ⟨c,r,g3,g4,g5⟩)⟩ | ⟨g1,g2,g3⟩
          · exfalso; rw [g3] at u2; simp at u2
          · subst g2; rw [g3] at fc ⊢
            simp [takeRet,takeResL,takeRes,evExtract,hk',g1,g4,g5,ld,st,fc,ldk,ldn,ldp,fillEs,r1,w1,hdep,hslr,p5,st15,ld15,q1',w2,n4,evUn]
            rw [DC_keep_of l_dioptreref11_parts_0.eq_1]
            subst g1
            simp at o8'
            simp [o8']
          · rw [g3]
            simp [takeRet,takeResL,takeRes,evExtract,hk',g1,g2,hsl,ld,st,fc,ldk,ldn,ldp,fillEs,r1,w1,hdep,hslr,p5,st15,ld15,q1',w2,n4,evUn]
            rw [DC_keep_of l_dioptreref11_parts_0.eq_1]
            simp [hkw,o8']
end
end Go.Proofs.YtekgdmhdkhgpjaaGreatDoor.am
