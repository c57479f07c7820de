/- Several texts, one behind the other: Pz12 Pz13 Pz14 Pz15 Pz16 Pz17 Pz18 Pz19 -/
import Derived.Test.YtekgdmhdkhgpjaaGreatDoorSR
import Derived.Test.YtekgdmhdkhgpjaaGreatDoorSO
import Derived.Test.YtekgdmhdkhgpjaaGreatDoorSN
set_option linter.unusedSimpArgs false
set_option linter.unusedVariables false
set_option linter.unusedSimpArgs false
set_option linter.unusedVariables false
namespace Go.Proofs.YtekgdmhdkhgpjaaGreatDoor.am
open Go
def rowA (i k sz:Nat) (es:List (List AV)):AV:=if es=[] then .nils else .sl (.bx i k) sz es
def ncl (l:List Str):List (List AV):=l.map fun s => [AV.str s]
def icl (l:List Int):List (List AV):=l.map fun n => [AV.int .u64 n]
def vcl (l:List Val):List (List AV):=l.map Val.enc
def tips2 (n m:Nat):List (Option Nat):=if n=0 then [] else if m=0 then [some n] else [some n,some m]
def vbN (i:Nat) (ns:List Str) (ps:List Val):Box:=.mem [.int .i64 5,.int .i64 0,.str [],rowA i 0 1 (ncl ns),.nils,rowA i 1 6 (vcl ps)] (tips2 ns.length ps.length) false
def vbI (i:Nat) (is:List Int) (ps:List Val):Box:=.mem [.int .i64 6,.int .i64 0,.str [],.nils,rowA i 0 1 (icl is),rowA i 1 6 (vcl ps)] (tips2 is.length ps.length) false
theorem ncl_app (a:List Str) (x:Str):ncl (a ++ [x])=ncl a ++ [[.str x]]:=by simp [ncl]
theorem icl_app (a:List Int) (x:Int):icl (a ++ [x])=icl a ++ [[.int .u64 x]]:=by simp [icl]
theorem vcl_app (a:List Val) (x:Val):vcl (a ++ [x])=vcl a ++ [x.enc]:=by simp [vcl]
@[simp] theorem ncl_len (a:List Str):(ncl a).length=a.length:=by simp [ncl]
@[simp] theorem icl_len (a:List Int):(icl a).length=a.length:=by simp [icl]
@[simp] theorem vcl_len (a:List Val):(vcl a).length=a.length:=by simp [vcl]
theorem plainEs_snoc {es:List (List AV)} {x:List AV} (h:plainEs es=true) (hx:plainL x=true):plainEs (es ++ [x])=true:=by
  rw [plainEs_iff] at h ⊢
  intro y hy
  rcases List.mem_append.1 hy with h1 | h1
  · exact h y h1
  · simp at h1; rw [h1]; exact hx
theorem plain_ncl (l:List Str):plainEs (ncl l)=true:=plainEs_iff.2 fun x hx => by
  obtain ⟨s,_,rfl⟩:=List.mem_map.1 hx
  rfl
theorem plain_icl (l:List Int):plainEs (icl l)=true:=plainEs_iff.2 fun x hx => by
  obtain ⟨s,_,rfl⟩:=List.mem_map.1 hx
  rfl
theorem plain_vcl (l:List Val):plainEs (vcl l)=true:=plainEs_iff.2 fun x hx => by
  obtain ⟨s,_,rfl⟩:=List.mem_map.1 hx
  exact DatL.plain (by simp)
theorem row0 {S:St} {i sz:Nat} {es:List (List AV)} {x:List AV} {n m:Nat} {cs:List AV} {o:Nat} (hS:S[i]?=some (.mem cs (tips2 n m) false)) (hn:es.length=n) (hm:n=m) (hb:n + 1 ≤ 1073741824)
    (ho:o + 1 ≤ cs.length) (hp:plainEs (es ++ [x])=true) :
    ∃ v1 t1 S1 t2,(t2=[] ∨ t2=[none]) ∧ (n=0 → t2=[none]) ∧ appendK sz [] S (rowA i 0 sz es) (.sl .exact sz [x])=some (v1,t1,S1) ∧
      ∀ nb,storeK t1 nb S1 1 (.ptr i o) v1=some (t2,S.set i (.mem (splice cs o [rowA i 0 sz (es ++ [x])]) (tips2 (n + 1) m) false)):=by
  subst hm
  by_cases h:n=0
  · subst h
    have he:es=[]:=List.eq_nil_of_length_eq_zero hn
    subst he
    refine ⟨.sl (.fr 0) sz [x],[some 1],S,[none],.inr rfl,fun _ => rfl,by simp [appendK,rowA,elemsOf],fun nb => ?_⟩
    unfold storeK
    simp only [hS]
    have hpp:plain (strip (.sl (.fr 0) sz [x]))=true:=by simpa [strip,plain] using hp
    simp [isVal,AV.cells,ho,hpp,regBox,tips2,rowA]
  · have he:es ≠ []:=by intro e; subst e; simp at hn; omega
    have hi:=(List.getElem?_eq_some_iff.1 hS).1
    refine ⟨.sl (.bx i 0) sz (es ++ [x]),[],S.set i (.mem cs (tips2 (n + 1) n) false),[],.inl rfl,fun e => absurd e h,?_,fun nb => ?_⟩
    · simp [appendK,rowA,he,elemsOf,hn,hS,tips2,h]
      omega
    · unfold storeK
      have hpp:plain (strip (.sl (.bx i 0) sz (es ++ [x])))=true:=by simpa [strip,plain] using hp
      simp [hi,isVal,AV.cells,ho,hpp,regBox,rowA]
theorem row1 {S:St} {i sz:Nat} {es:List (List AV)} {x:List AV} {n m:Nat} {cs:List AV} {o:Nat} {t:List (Option Nat)} (hS:S[i]?=some (.mem cs (tips2 (n + 1) m) false)) (hn:es.length=m) (hm:n=m) (hb:n + 1 ≤ 1073741824)
    (ht:t=[] ∨ t=[none]) (ho:o + 1 ≤ cs.length) (hp:plainEs (es ++ [x])=true) :
    ∃ v1 t1 S1 t2,appendK sz t S (rowA i 1 sz es) (.sl .exact sz [x])=some (v1,t1,S1) ∧
      ∀ nb,storeK t1 nb S1 1 (.ptr i o) v1=some (t2,S.set i (.mem (splice cs o [rowA i 1 sz (es ++ [x])]) (tips2 (n + 1) (m + 1)) false)):=by
  subst hm
  by_cases h:n=0
  · subst h
    have he:es=[]:=List.eq_nil_of_length_eq_zero hn
    subst he
    refine ⟨.sl (.fr t.length) sz [x],t ++ [some 1],S,t ++ [none],by simp [appendK,rowA,elemsOf],fun nb => ?_⟩
    unfold storeK
    simp only [hS]
    have hpp:plain (strip (.sl (.fr t.length) sz [x]))=true:=by simpa [strip,plain] using hp
    simp [isVal,AV.cells,ho,hpp,regBox,tips2,rowA]
  · have he:es ≠ []:=by intro e; subst e; simp at hn; omega
    have hi:=(List.getElem?_eq_some_iff.1 hS).1
    refine ⟨.sl (.bx i 1) sz (es ++ [x]),t,S.set i (.mem cs (tips2 (n + 1) (n + 1)) false),t,?_,fun nb => ?_⟩
    · simp [appendK,rowA,he,elemsOf,hn,hS,tips2,h]
      omega
    · unfold storeK
      have hpp:plain (strip (.sl (.bx i 1) sz (es ++ [x])))=true:=by simpa [strip,plain] using hp
      simp [hi,isVal,AV.cells,ho,hpp,regBox,rowA]
end Go.Proofs.YtekgdmhdkhgpjaaGreatDoor.am

set_option linter.unusedSimpArgs false
set_option linter.unusedVariables false
namespace Go.Proofs.YtekgdmhdkhgpjaaGreatDoor.am
open Go
def VS (d:Nat):Prop:=∀ (s:Str) (bad:Bool) (S:St) (j:Nat),s.length ≤ 1000000000 → S[j]?=some (psr s bad) → ∃ v s' bad',Val.Wf v ∧ s'.length ≤ s.length ∧ (bad=true → bad'=true) ∧
  (bad=false → ∀ w r,Val.Wf w → w.rightB d=true → Term r → s=w.text ++ r → v=w ∧ s'=r ∧ bad'=false) ∧
  DF lib nk 33 [.ptr j 0,.int .i64 d] S=some (.agg v.enc,S.set j (psr s' bad'))
theorem cutP_lt {t s:Str} (h:hasP t s=true) (ht:t ≠ []):(cutP t s).length < s.length:=by
  have h1:=congrArg List.length (of_decide_eq_true h)
  have h2:0 < t.length:=by cases t <;> simp at ht ⊢
  simp only [List.length_take] at h1
  simp [cutP,h]
  omega
@[simp] theorem takeRet_tt (t:List (Option Nat)):takeRet t (.tup [])=(.tup [],t):=rfl
@[simp] theorem lenLK_rowA (i k sz:Nat) (es:List (List AV)):lenLK (rowA i k sz es)=some (.int .i64 es.length):=by
  unfold rowA
  split
  · rename_i h; subst h; rfl
  · rfl
theorem upto_le (p:UInt8 → Bool) (s:Str):(upto p s).length ≤ s.length ∧ (from' p s).length ≤ s.length:=by
  have:=congrArg List.length (upto_app p s)
  simp at this
  omega
theorem upto_mark {c:UInt8} {a r:Str} (ha:∀ x ∈ a,decide (x=c)=false):upto (fun b => decide (b=c)) (a ++ c :: r)=a ∧ from' (fun b => decide (b=c)) (a ++ c :: r)=c :: r :=
  upto_eq ha (by intro x hx; simp at hx; simp [hx])
section
variable (j pb pc i d:Nat) (hd:d < 1000000)
section
variable (M:Str → Bool → List Str → List Val → St) (hM1:∀ s bad xs ps,(M s bad xs ps)[j]?=some (psr s bad)) (hM2:∀ s bad xs ps s' bad',(M s bad xs ps).set j (psr s' bad')=M s' bad' xs ps)
  (hV1:∀ s bad xs ps,(M s bad xs ps)[i]?=some (vbN i xs ps)) (hV2:∀ s bad xs ps xs' ps',(M s bad xs ps).set i (vbN i xs' ps')=M s bad xs' ps')
  (hP:∀ s bad xs ps,loadK (M s bad xs ps) .cell (.ptr pb 0)=some (.ptr j 0)) (hC:∀ s bad xs ps,loadK (M s bad xs ps) .cell (.ptr pc 0)=some (.int .i64 ((d:Int) + 1))) (m:Nat) (hm:∀ s bad xs ps,(M s bad xs ps).length=m)
include hd hM1 hM2 hV1 hV2 hP hC hm in
theorem F_value_1 (hV:VS d):∀ s bad xs ps,xs.length + s.length ≤ 1000000000 → xs.length=ps.length → ∃ x p s' bad',x.length < 9223372036854775808 ∧ Val.Wf p ∧ s'.length ≤ s.length ∧ (bad'=false → s'.length < s.length) ∧ (bad=true → bad'=true) ∧
    (bad=false → ∀ y q r,nameB y=true → (Val.Wf q ∧ q.rightB d=true) → Term r → s=y ++ 61 :: (q.text ++ r) → x=y ∧ p=q ∧ s'=r ∧ bad'=false) ∧
    DF lib nk 58 [.ptr i 0,.ptr pb 0,.ptr pc 0] (M s bad xs ps)=some (.tup [],M s' bad' (xs ++ [x]) (ps ++ [p])):=by
  intro s bad xs ps hb hl
  obtain ⟨u1,u2⟩:=upto_le (fun b => decide (b=61)) s
  have hu:=F_note_parser_until1 (hM1 s bad xs ps) 61 (by decide)
  rw [hM2] at hu
  have hum:=fun (a r:Str) (ha:∀ x ∈ a,decide (x=(61:UInt8))=false) => upto_mark (c:=61) (a:=a) (r:=r) ha
  have hue:∀ a r:Str,(∀ x ∈ a,decide (x=(61:UInt8))=false) → s=a ++ 61 :: r → upto (fun b => decide (b=61)) s=a ∧ from' (fun b => decide (b=61)) s=61 :: r:=by
    intro a r ha hs; rw [hs]; exact hum a r ha
  generalize upto (fun b => decide (b=61)) s=x at *
  generalize from' (fun b => decide (b=61)) s=s1 at *
  obtain ⟨v1,t1,S1,t2,r1,r2,r3,r4⟩:=row0 (sz:=1) (es:=ncl xs) (x:=[.str x]) (o:=3) (hV1 s1 bad xs ps) (ncl_len xs) hl (by omega) (by simp) (plainEs_snoc (plain_ncl xs) rfl)
  have hw:=F_note_parser_want (hM1 s1 bad (xs ++ [x]) ps) (by omega) [61] (by decide)
  rw [hM2] at hw
  have hcl:=cutP_len [61] s1
  obtain ⟨p,s3,bad3,p1,p2,p3,p4,p5⟩:=hV (cutP [61] s1) (!hasP [61] s1 || bad) (M (cutP [61] s1) (!hasP [61] s1 || bad) (xs ++ [x]) ps) j (by omega) (hM1 _ _ _ _)
  rw [hM2] at p5
  have hv3:=hV1 s3 bad3 (xs ++ [x]) ps
  unfold vbN at hv3
  rw [List.length_append] at hv3
  obtain ⟨v2,t3,S2,t4,q1,q2⟩:=row1 (sz:=6) (es:=vcl ps) (x:=p.enc) (o:=5) (t:=t2) hv3 (vcl_len ps) hl (by omega) r1 (by simp) (plainEs_snoc (plain_vcl ps) (DatL.plain (by simp)))
  refine ⟨x,p,s3,bad3,by omega,p1,by omega,fun h => ?_,fun h => p3 (by rw [h]; simp),fun h y q r hy hq hr hs => ?_,?_⟩
  · have hb2:(!hasP [61] s1 || bad)=false:=by
      cases e:(!hasP [61] s1 || bad) with
      | false => rfl
      | true => rw [p3 e] at h; cases h
    simp only [Bool.or_eq_false_iff,Bool.not_eq_false'] at hb2
    have:=cutP_lt hb2.1 (by simp)
    omega
  · obtain ⟨e1,e2⟩:=hue y (q.text ++ r) (fun b hb => by have:=(nameR_not (nameB_chars hy b hb)).2.2.2.1; simp [this]) hs
    rw [e2,h] at p4
    have e3:hasP [61] (61 :: (q.text ++ r))=true:=hasP_app [61] _
    have e4:cutP [61] (61 :: (q.text ++ r))=q.text ++ r:=cutP_app [61] _
    rw [e3,e4] at p4
    obtain ⟨f1,f2,f3⟩:=p4 rfl q r hq.1 hq.2 hr rfl
    exact ⟨e1,f1,f2,f3⟩
  · have l3:∀ s bad xs ps,loadK (M s bad xs ps) .cell (.ptr i 3)=some (rowA i 0 1 (ncl xs)):=fun s bad xs ps => by rw [loadK_ptr (hV1 s bad xs ps)]; rfl
    have l5:∀ s bad xs ps,loadK (M s bad xs ps) .cell (.ptr i 5)=some (rowA i 1 6 (vcl ps)):=fun s bad xs ps => by rw [loadK_ptr (hV1 s bad xs ps)]; rfl
    have w1:∀ nb,storeK t1 nb S1 1 (.ptr i 3) v1=some (t2,M s1 bad (xs ++ [x]) ps):=fun nb => by
      rw [r4 nb,← ncl_app,← hV2 s1 bad xs ps (xs ++ [x]) ps]
      simp [vbN,splice]
    have w2:∀ nb,storeK t3 nb S2 1 (.ptr i 5) v2=some (t4,M s3 bad3 (xs ++ [x]) (ps ++ [p])):=fun nb => by
      rw [q2 nb,← vcl_app,← hV2 s3 bad3 (xs ++ [x]) ps (xs ++ [x]) (ps ++ [p])]
      simp [vbN,splice]
    have hwr:IntKind.wrap .i64 ((d:Int) + 1 - 1)=d:=by rw [wrap_i64 _ (by omega) (by omega)]; omega
    have hwr':IntKind.wrap .i64 (d:Int)=d:=wrap_i64 _ (by omega) (by omega)
    have htk:List.take (M s bad xs ps).length (M s3 bad3 (xs ++ [x]) (ps ++ [p]))=M s3 bad3 (xs ++ [x]) (ps ++ [p]):=List.take_of_length_le (by rw [hm,hm]; exact Nat.le_refl _)
    rw [DF_run (lib:=lib) (f:=58) (k:=k_note_parser_value_1) rfl (Nat.le_of_ble_eq_true rfl) _]
    unfold k_note_parser_value_1
    simp only [argsK_cons,argsK_nil]
    rw [DC_of c_note_parser_value_1.eq_1]
    simp [hP,hC,l3,l5,hu,r3,w1,hw,hwr,hwr',p5,q1,w2,fillEs,htk]
end
section
variable (M:Str → Bool → List Int → List Val → St) (hM1:∀ s bad xs ps,(M s bad xs ps)[j]?=some (psr s bad)) (hM2:∀ s bad xs ps s' bad',(M s bad xs ps).set j (psr s' bad')=M s' bad' xs ps)
  (hV1:∀ s bad xs ps,(M s bad xs ps)[i]?=some (vbI i xs ps)) (hV2:∀ s bad xs ps xs' ps',(M s bad xs ps).set i (vbI i xs' ps')=M s bad xs' ps')
  (hP:∀ s bad xs ps,loadK (M s bad xs ps) .cell (.ptr pb 0)=some (.ptr j 0)) (hC:∀ s bad xs ps,loadK (M s bad xs ps) .cell (.ptr pc 0)=some (.int .i64 ((d:Int) + 1))) (m:Nat) (hm:∀ s bad xs ps,(M s bad xs ps).length=m)
include hd hM1 hM2 hV1 hV2 hP hC hm in
theorem F_value_2 (hV:VS d):∀ s bad xs ps,xs.length + s.length ≤ 1000000000 → xs.length=ps.length → ∃ (x:Int) (p:Val) (s':Str) (bad':Bool),(0 ≤ x ∧ x < 18446744073709551616) ∧ Val.Wf p ∧ s'.length ≤ s.length ∧ (bad'=false → s'.length < s.length) ∧ (bad=true → bad'=true) ∧
    (bad=false → ∀ (y:Int) q r,(0 ≤ y ∧ y < 18446744073709551616) → (Val.Wf q ∧ q.rightB d=true) → Term r → s=dec y.toNat ++ 58 :: (q.text ++ r) → x=y ∧ p=q ∧ s'=r ∧ bad'=false) ∧
    DF lib nk 60 [.ptr pb 0,.ptr i 0,.ptr pc 0] (M s bad xs ps)=some (.tup [],M s' bad' (xs ++ [x]) (ps ++ [p])):=by
  intro s bad xs ps hb hl
  obtain ⟨u1,u2⟩:=upto_le (fun b => decide (b=58)) s
  have hu:=F_note_parser_until1 (hM1 s bad xs ps) 58 (by decide)
  rw [hM2] at hu
  have hue:∀ a r:Str,(∀ x ∈ a,decide (x=(58:UInt8))=false) → s=a ++ 58 :: r → upto (fun b => decide (b=58)) s=a ∧ from' (fun b => decide (b=58)) s=58 :: r:=by
    intro a r ha hs; rw [hs]; exact upto_mark ha
  generalize upto (fun b => decide (b=58)) s=tx at *
  generalize from' (fun b => decide (b=58)) s=s1 at *
  obtain ⟨n,e,n1,n2,n3⟩:=F_strconv_ParseUint tx (by omega) (M s1 bad xs ps)
  -- what is bad then
  obtain ⟨bad1,b1,b2,b3⟩:∃ bad1:Bool,(bad=true → bad1=true) ∧ (bad=false → ∀ y:Int,(0 ≤ y ∧ y < 18446744073709551616) → tx=dec y.toNat → (n:Int)=y ∧ bad1=false) ∧
      ((e=.nili ∧ bad1=bad) ∨ ((∃ f z,e=errY f tx z) ∧ bad1=true)):=by
    have key:∀ y:Int,(0 ≤ y ∧ y < 18446744073709551616) → tx=dec y.toNat → e=.nili ∧ (n:Int)=y:=by
      intro y hy ht
      have h1:=pu_dec (m:=y.toNat) (by omega)
      rw [← ht] at h1
      obtain ⟨c,u,hc,_⟩:=dec_cons y.toNat
      rcases n2 with ⟨rfl,h2,h3⟩ | ⟨h2,_⟩
      · rw [h1] at h3
        simp at h3
        exact ⟨rfl,by omega⟩
      · rcases h2 with h2 | h2
        · rw [ht,hc] at h2; cases h2
        · rw [h1] at h2; cases h2
    rcases n2 with ⟨h1,_⟩ | ⟨_,f,z,h1⟩
    · exact ⟨bad,fun h => h,fun h y hy ht => ⟨(key y hy ht).2,h⟩,.inl ⟨h1,rfl⟩⟩
    · exact ⟨true,fun _ => rfl,fun h y hy ht => (by have:=(key y hy ht).1; rw [h1] at this; cases this),.inr ⟨⟨f,z,h1⟩,rfl⟩⟩
  have hst:=store_psr1 (nb:=(M s bad xs ps).length) (b:=bad1) [] (hM1 s1 bad xs ps)
  rw [hM2] at hst
  have hw:=F_note_parser_want (hM1 s1 bad1 xs ps) (by omega) [58] (by decide)
  rw [hM2] at hw
  have hcl:=cutP_len [58] s1
  obtain ⟨v1,t1,S1,t2,r1,r2,r3,r4⟩:=row0 (sz:=1) (es:=icl xs) (x:=[.int .u64 (n:Int)]) (o:=4) (hV1 (cutP [58] s1) (!hasP [58] s1 || bad1) xs ps) (icl_len xs) hl (by omega) (by simp) (plainEs_snoc (plain_icl xs) rfl)
  obtain ⟨p,s3,bad3,p1,p2,p3,p4,p5⟩:=hV (cutP [58] s1) (!hasP [58] s1 || bad1) (M (cutP [58] s1) (!hasP [58] s1 || bad1) (xs ++ [(n:Int)]) ps) j (by omega) (hM1 _ _ _ _)
  rw [hM2] at p5
  have hv3:=hV1 s3 bad3 (xs ++ [(n:Int)]) ps
  unfold vbI at hv3
  rw [List.length_append] at hv3
  obtain ⟨v2,t3,S2,t4,q1,q2⟩:=row1 (sz:=6) (es:=vcl ps) (x:=p.enc) (o:=5) (t:=t2) hv3 (vcl_len ps) hl (by omega) r1 (by simp) (plainEs_snoc (plain_vcl ps) (DatL.plain (by simp)))
  refine ⟨n,p,s3,bad3,by omega,p1,by omega,fun h => ?_,fun h => p3 (by rw [b1 h]; simp),fun h y q r hy hq hr hs => ?_,?_⟩
  · have hb2:(!hasP [58] s1 || bad1)=false:=by
      cases e:(!hasP [58] s1 || bad1) with
      | false => rfl
      | true => rw [p3 e] at h; cases h
    simp only [Bool.or_eq_false_iff,Bool.not_eq_false'] at hb2
    have:=cutP_lt hb2.1 (by simp)
    omega
  · obtain ⟨e1,e2⟩:=hue (dec y.toNat) (q.text ++ r) (fun b hb => by have:=(dig_not (dec_digit _ b hb)).2.2.2.2.1; simp [this]) hs
    obtain ⟨e5,e6⟩:=b2 h y hy e1
    rw [e2,e6] at p4
    have e3:hasP [58] (58 :: (q.text ++ r))=true:=hasP_app [58] _
    have e4:cutP [58] (58 :: (q.text ++ r))=q.text ++ r:=cutP_app [58] _
    rw [e3,e4] at p4
    obtain ⟨f1,f2,f3⟩:=p4 rfl q r hq.1 hq.2 hr rfl
    exact ⟨e5,f1,f2,f3⟩
  · have l4:∀ s bad xs ps,loadK (M s bad xs ps) .cell (.ptr i 4)=some (rowA i 0 1 (icl xs)):=fun s bad xs ps => by rw [loadK_ptr (hV1 s bad xs ps)]; rfl
    have l5:∀ s bad xs ps,loadK (M s bad xs ps) .cell (.ptr i 5)=some (rowA i 1 6 (vcl ps)):=fun s bad xs ps => by rw [loadK_ptr (hV1 s bad xs ps)]; rfl
    have lb:=fun s bad xs ps => load_psr1 (hM1 s bad xs ps)
    have w1:∀ nb,storeK t1 nb S1 1 (.ptr i 4) v1=some (t2,M (cutP [58] s1) (!hasP [58] s1 || bad1) (xs ++ [(n:Int)]) ps):=fun nb => by
      rw [r4 nb,← icl_app,← hV2 (cutP [58] s1) (!hasP [58] s1 || bad1) xs ps (xs ++ [(n:Int)]) ps]
      simp [vbI,splice]
    have w2:∀ nb,storeK t3 nb S2 1 (.ptr i 5) v2=some (t4,M s3 bad3 (xs ++ [(n:Int)]) (ps ++ [p])):=fun nb => by
      rw [q2 nb,← vcl_app,← hV2 s3 bad3 (xs ++ [(n:Int)]) ps (xs ++ [(n:Int)]) (ps ++ [p])]
      simp [vbI,splice]
    have hwr:IntKind.wrap .i64 ((d:Int) + 1 - 1)=d:=by rw [wrap_i64 _ (by omega) (by omega)]; omega
    have hwr':IntKind.wrap .i64 (d:Int)=d:=wrap_i64 _ (by omega) (by omega)
    have htk:List.take (M s bad xs ps).length (M s3 bad3 (xs ++ [(n:Int)]) (ps ++ [p]))=M s3 bad3 (xs ++ [(n:Int)]) (ps ++ [p]):=List.take_of_length_le (by rw [hm,hm]; exact Nat.le_refl _)
    rw [DF_run (lib:=lib) (f:=60) (k:=k_note_parser_value_2) rfl (Nat.le_of_ble_eq_true rfl) _]
    unfold k_note_parser_value_2
    simp only [argsK_cons,argsK_nil]
    rw [DC_of c_note_parser_value_2.eq_1]
    rcases b3 with ⟨rfl,rfl⟩ | ⟨⟨f,z,rfl⟩,rfl⟩
    · cases bad1
      · simp at w1 hst hw p5 r3
        simp [hP,hC,l4,l5,lb,hu,n3,evExtract,hst,r3,w1,hw,hwr,hwr',p5,q1,w2,fillEs,htk]
      · simp at w1 hst hw p5 r3
        simp [hP,hC,l4,l5,lb,hu,n3,evExtract,hst,r3,w1,hw,hwr,hwr',p5,q1,w2,fillEs,htk]
    · simp at w1 hst hw p5 r3
      cases bad
      · simp [hP,hC,l4,l5,lb,hu,n3,evExtract,hst,r3,w1,hw,hwr,hwr',p5,q1,w2,fillEs,htk]
      · simp [hP,hC,l4,l5,lb,hu,n3,evExtract,hst,r3,w1,hw,hwr,hwr',p5,q1,w2,fillEs,htk]
end
end
end Go.Proofs.YtekgdmhdkhgpjaaGreatDoor.am

set_option linter.unusedSimpArgs false
set_option linter.unusedVariables false
namespace Go.Proofs.YtekgdmhdkhgpjaaGreatDoor.am
open Go
section
variable {S T:St} (h:T.length=S.length)
include h in
theorem gT (l:List Box) (k:Nat):(T ++ l)[S.length + k]?=l[k]?:=by rw [← h]; exact get_at T l k
include h in
theorem sT (l:List Box) (k:Nat) (b:Box):(T ++ l).set (S.length + k) b=T ++ l.set k b:=by rw [← h]; exact set_at T l k b
include h in
theorem lT (sh:Sh) (l:List Box) (k off:Nat):loadK (T ++ l) sh (.ptr (S.length + k) off)=match l[k]? with
    | some (.mem cs _ _) => partK sh cs off
    | _ => none:=by rw [← h]; exact loadK_at T sh l k off
include h in
theorem lT0 (sh:Sh) (l:List Box) (off:Nat):loadK (T ++ l) sh (.ptr S.length off)=match l[0]? with
    | some (Box.mem cs _ _) => partK sh cs off
    | _ => none:=lT h sh l 0 off
include h in
theorem stT {v:AV} (hv:Dat v) (l:List Box) (k off:Nat) (tips:List (Option Nat)) (nb n:Nat):storeK tips nb (T ++ l) n (.ptr (S.length + k) off) v=match l[k]? with
    | some (.mem cs bt false) => if v.cells.length=n ∧ off + n ≤ cs.length then some (tips,T ++ l.set k (.mem (splice cs off v.cells) bt false)) else none
    | _ => none:=by rw [← h]; exact storeK_dat_at hv T l k off tips nb n
include h in
theorem takeT (l:List Box):(T ++ l).take S.length=T:=by rw [← h]; exact take_at T l
end
theorem set_front {S:St} {j:Nat} {b:Box} (l:List Box) (h:j < S.length):(S ++ l).set j b=S.set j b ++ l:=List.set_append_left _ _ h
theorem get_front {S:St} {j:Nat} {b:Box} (l:List Box) (h:S[j]?=some b):(S ++ l)[j]?=some b:=by
  rw [List.getElem?_append_left (List.getElem?_eq_some_iff.1 h).1]; exact h
def rowS (sz:Nat) (es:List (List AV)):AV:=if es=[] then .nils else .sl .none sz es
theorem strip_rowA (i k sz:Nat) (es:List (List AV)):strip (rowA i k sz es)=rowS sz es:=by
  unfold rowA rowS
  split <;> rfl
@[simp] theorem normc_rowS (sz:Nat) (es:List (List AV)):normc (rowS sz es)=encSl sz es:=by
  unfold rowS
  cases es <;> rfl
theorem rowS_datC {sz:Nat} {es:List (List AV)} (h:plainEs es=true):strip (rowS sz es)=rowS sz es ∧ plain (rowS sz es)=true:=by
  unfold rowS
  split
  · exact ⟨rfl,rfl⟩
  · exact ⟨rfl,by simpa [plain] using h⟩
section
variable {S T:St} (h:T.length=S.length)
include h in
theorem stTa {cs':List AV} (hp:plainL cs'=true) (l:List Box) (k off:Nat) (tips:List (Option Nat)) (nb n:Nat):storeK tips nb (T ++ l) n (.ptr (S.length + k) off) (.agg cs')=match l[k]? with
    | some (.mem cs bt false) => if cs'.length=n ∧ off + n ≤ cs.length then some (tips,T ++ l.set k (.mem (splice cs off cs') bt false)) else none
    | _ => none:=by
  unfold storeK
  simp only [gT h]
  cases hl:l[k]? with
  | none => rfl
  | some b =>
    cases b with
    | iter s p => rfl
    | mem cs bt lk =>
      cases lk with
      | true => rfl
      | false =>
        have h1:plain (strip (.agg cs'))=true:=by simpa [strip,plain] using hp
        have h2:(isVal (.agg cs')=true ∧ (AV.agg cs').cells.length=n ∧ off + n ≤ cs.length ∧ (nb ≤ S.length + k ∨ plain (strip (.agg cs'))=true)) ↔ (cs'.length=n ∧ off + n ≤ cs.length):=by
          constructor
          · exact fun e => ⟨e.2.1,e.2.2.1⟩
          · exact fun e => ⟨rfl,e.1,e.2,.inr h1⟩
        simp only [h2,regBox,sT h]
        rfl
end
section
variable {α:Type} (k:α → Str) (mark e:UInt8) (he:e=125 ∨ e=93) (Ok Good:α → Prop) (GoodV:Val → Prop) (g:FuncId) (hg:nk.prim g=none) (hraw:rawF g=false) (pa pb pc:Nat) (j:Nat)
  (M:Str → Bool → List α → List Val → St) (hM1:∀ s bad xs ps,(M s bad xs ps)[j]?=some (psr s bad)) (hM2:∀ s bad xs ps s' bad',(M s bad xs ps).set j (psr s' bad')=M s' bad' xs ps)
  (m:Nat) (hm:∀ s bad xs ps,(M s bad xs ps).length=m)
  (hk0:∀ y,Good y → ∃ b t,k y=b :: t ∧ b ≠ e)
  (hE:∀ s bad xs ps,xs.length + s.length ≤ 1000000000 → xs.length=ps.length → ∃ x p s' bad',Ok x ∧ p.Wf ∧ s'.length ≤ s.length ∧ (bad'=false → s'.length < s.length) ∧ (bad=true → bad'=true) ∧
    (bad=false → ∀ y q r,Good y → GoodV q → Term r → s=k y ++ mark :: (q.text ++ r) → x=y ∧ p=q ∧ s'=r ∧ bad'=false) ∧
    DF lib nk g [.ptr pa 0,.ptr pb 0,.ptr pc 0] (M s bad xs ps)=some (.tup [],M s' bad' (xs ++ [x]) (ps ++ [p])))
include he hg hraw hM1 hM2 hk0 hE hm in
theorem F_note_parser_list (s:Str) (hs:s.length ≤ 1000000000):∃ xs' ps' s' bad',(∀ x ∈ xs',Ok x) ∧ (∀ p ∈ ps',p.Wf) ∧ xs'.length=ps'.length ∧ xs'.length ≤ 1000000001 ∧ s'.length ≤ s.length ∧
      (∀ ys qs r,(∀ y ∈ ys,Good y) → (∀ q ∈ qs,GoodV q) → ys.length=qs.length → s=bodyT k mark ys qs ++ e :: r → xs'=ys ∧ ps'=qs ∧ s'=r ∧ bad'=false) ∧
      DF lib nk 57 [.ptr j 0,.str [e],.fn g [] [.ptr pa 0,.ptr pb 0,.ptr pc 0]] (M s false [] [])=some (.tup [],M s' bad' xs' ps'):=by
  obtain ⟨xs',ps',s',bad',r1,r2,r3,r4,r5,r6,r7⟩:=L_note_parser_list k mark e he Ok Good GoodV g hg hraw pa pb pc j M hM1 hM2 hk0 hE (s.length + 1) s false [] [] true (by omega) (by simpa using hs) rfl (by simp) (by simp)
  refine ⟨xs',ps',s',bad',r1,r2,r3,r4,r5,fun ys qs r hy hq hyq h => by have:=r6 rfl ys qs r hy hq hyq h; simpa using this,?_⟩
  rw [run_note_parser_list,DC_of c_note_parser_list.eq_1]
  simp
  rw [DC_keep_of l_note_parser_list_0.eq_1]
  have ht:List.take (M s false [] []).length (M s' bad' xs' ps')=M s' bad' xs' ps':=List.take_of_length_le (by rw [hm,hm]; exact Nat.le_refl _)
  simp [r7,ht]
end
end Go.Proofs.YtekgdmhdkhgpjaaGreatDoor.am

set_option linter.unusedSimpArgs false
set_option linter.unusedVariables false
namespace Go.Proofs.YtekgdmhdkhgpjaaGreatDoor.am
open Go
theorem hasP_first {a:UInt8} {t s:Str} (h:hasP (a :: t) s=true):∃ s',s=a :: s':=by
  have h1:=of_decide_eq_true h
  cases s with
  | nil => simp at h1
  | cons b s' => simp at h1; exact ⟨s',by rw [h1.1]⟩
theorem hasP_one {a:UInt8} {s:Str} (h:hasP [a] s=false):∀ s',s ≠ a :: s':=by
  intro s' e
  subst e
  simp [hasP] at h
theorem wf_mk {k n:Int} {s:Str} (hk0:-9223372036854775808 ≤ k) (hk1:k < 9223372036854775808) (h0:-9223372036854775808 ≤ n) (h1:n < 9223372036854775808) (hs:s.length < 9223372036854775808):Val.Wf (.mk k n s [] [] []) :=
  .mk _ ⟨hk0,hk1,h0,h1,hs,by simp [Val.names],by simp [Val.names],by simp [Val.ids],by simp [Val.ids],by simp [Val.parts]⟩ (by simp [Val.parts])
theorem Val.eq_mk {w:Val} {k n:Int} {s:Str} {ns:List Str} {is:List Int} {ps:List Val} (h0:w.kind=k) (h1:w.n=n) (h2:w.s=s) (h3:w.names=ns) (h4:w.ids=is) (h5:w.parts=ps):w=.mk k n s ns is ps:=by
  subst h0; subst h1; subst h2; subst h3; subst h4; subst h5; cases w; rfl
theorem kind_first {d:Nat} {w:Val} (h:w.rightB (d + 1)=true) {a:UInt8} {s r s':Str} (h1:s=a :: s') (h2:s=w.text ++ r):w.kind=cls a:=by
  obtain ⟨b,t,e1,e2⟩:=(Val.right_at h).text_first
  rw [h1,e1] at h2
  simp at h2
  rw [h2.1,e2]
section
variable (S:St) (j d:Nat)
def zv:List AV:=[.int .i64 0,.int .i64 0,.str [],.nils,.nils,.nils]
def mbx (l:List Box):List Box:=.mem [.ptr j 0] [] false :: .mem [.int .i64 ((d:Int) + 1)] [] false :: .mem zv [] false :: l
def mN (s:Str) (bad:Bool) (xs:List Str) (ps:List Val):St:=S.set j (psr s bad) ++ mbx j d [vbN (S.length + 3) xs ps]
def mI (s:Str) (bad:Bool) (xs:List Int) (ps:List Val):St:=S.set j (psr s bad) ++ mbx j d [vbI (S.length + 3) xs ps]
end
end Go.Proofs.YtekgdmhdkhgpjaaGreatDoor.am

set_option linter.unusedSimpArgs false
set_option linter.unusedVariables false
namespace Go.Proofs.YtekgdmhdkhgpjaaGreatDoor.am
open Go
@[simp] theorem plain_zv:plainL [AV.int .i64 0,.int .i64 0,.str [],.nils,.nils,.nils]=true:=rfl
@[simp] theorem normc_nils:normc .nils=.sl .none 1 []:=rfl
@[simp] theorem strip_nils':strip .nils=.nils:=rfl
@[simp] theorem notTup_agg (cs:List AV):notTup (.agg cs)=true:=rfl
theorem normr_mk (k n:Int) (s:Str):normr (.agg [.int .i64 k,.int .i64 n,.str s,.nils,.nils,.nils])=.agg (Val.mk k n s [] [] []).enc:=rfl
theorem VS_zero:VS 0:=by
  intro s bad S j hs hj
  have hjl:=(List.getElem?_eq_some_iff.1 hj).1
  refine ⟨.mk 0 0 [] [] [] [],s,true,wf_mk (by decide) (by decide) (by decide) (by decide) (by decide),Nat.le_refl _,fun _ => rfl,fun _ w r _ hw => by simp [Val.rightB] at hw,?_⟩
  rw [run_note_parser_value,DC_of c_note_parser_value.eq_1]
  have h0:∀ l,storeK [] S.length (S ++ l) 1 (.ptr j 1) (.bool true)=some ([],S.set j (psr s true) ++ l):=fun l => by
    rw [store_psr1 [] (get_front l hj),set_front l hjl]
  have hT:(S.set j (psr s true)).length=S.length:=by simp
  have s0:=fun l k off tips nb n => stTa (S:=S) (T:=S) rfl plain_zv l k off tips nb n
  have s1:=fun l k off tips nb n => stTa hT plain_zv l k off tips nb n
  simp [h0,fillEs,fillK,s0,s1,lT hT,lT0 hT,takeT hT,splice,partK,sub,normr_mk]
section
variable {S:St} {j d:Nat} {s:Str}
theorem skip_at (hj:S[j]?=some (psr s false)) (hs:s.length ≤ 1000000000) (t:Str) (ht:t.length < 9223372036854775808) (l:List Box) :
    DF lib nk 54 [.ptr j 0,.str t] (S ++ l)=some (.bool (hasP t s),S.set j (psr (cutP t s) false) ++ l):=by
  have hjl:=(List.getElem?_eq_some_iff.1 hj).1
  rw [F_note_parser_skip (get_front l hj) (by omega) t ht,set_front l hjl]
theorem skip_no (hj:S[j]?=some (psr s false)) (hs:s.length ≤ 1000000000) (t:Str) (ht:t.length < 9223372036854775808) (h:hasP t s=false) (l:List Box) :
    DF lib nk 54 [.ptr j 0,.str t] (S ++ l)=some (.bool false,S ++ l):=by
  rw [skip_at hj hs t ht l,h]
  have h4:cutP t s=s:=by simp [cutP,h]
  rw [h4,set_same hj]
theorem skip_yes (hj:S[j]?=some (psr s false)) (hs:s.length ≤ 1000000000) (t:Str) (ht:t.length < 9223372036854775808) (h:hasP t s=true) (l:List Box) :
    DF lib nk 54 [.ptr j 0,.str t] (S ++ l)=some (.bool true,S.set j (psr (cutP t s) false) ++ l):=by
  rw [skip_at hj hs t ht l,h]
def VR (d:Nat) (s:Str) (S:St) (j:Nat) (v:Val) (s':Str) (bad':Bool):Prop:=Val.Wf v ∧ s'.length ≤ s.length ∧
  (∀ w r,Val.Wf w → w.rightB (d + 1)=true → Term r → s=w.text ++ r → v=w ∧ s'=r ∧ bad'=false) ∧
  DF lib nk 33 [.ptr j 0,.int .i64 ((d:Int) + 1)] S=some (.agg v.enc,S.set j (psr s' bad'))
theorem value_false (hj:S[j]?=some (psr s false)) (hs:s.length ≤ 1000000000) (h1:hasP [102,97,108,115,101] s=true):VR d s S j (.mk 1 0 [] [] [] []) (cutP [102,97,108,115,101] s) false:=by
  have hl:=cutP_len [102,97,108,115,101] s
  refine ⟨wf_mk (by decide) (by decide) (by decide) (by decide) (by decide),hl,fun w r hw hr ht e => ?_,?_⟩
  · obtain ⟨s',hs'⟩:=hasP_first h1
    have k:=kind_first hr hs' e
    have k':w.kind=1:=by rw [k]; decide
    have A:=Val.right_at hr
    obtain ⟨a1,a2,a3⟩:=A.bare (by omega) (by omega)
    have a4:=A.s0 (by omega) (by omega)
    rw [Val.text_eq,if_pos k'] at e
    rcases A.n1 k' with n | n
    · rw [n,if_neg (by decide)] at e
      refine ⟨(Val.eq_mk k' n a4 a1 a2 a3).symm,by rw [e]; exact cutP_app _ _,rfl⟩
    · rw [n,if_pos rfl] at e
      rw [e] at h1
      simp [hasP] at h1
  · rw [run_note_parser_value,DC_of c_note_parser_value.eq_1]
    have hd0:¬ ((d:Int) + 1=0):=by omega
    have h0:∀ l,loadK (S ++ l) .cell (.ptr j 1)=some (.bool false):=fun l => load_psr1 (get_front l hj)
    have k1:=skip_yes hj hs [102,97,108,115,101] (by decide) h1
    have hT:(S.set j (psr (cutP [102,97,108,115,101] s) false)).length=S.length:=by simp
    have s0:=fun l k off tips nb n => stTa (S:=S) (T:=S) rfl plain_zv l k off tips nb n
    have s1:=fun n1 n2 s l k off tips nb n => stTa hT (show plainL [.int .i64 n1,.int .i64 n2,.str s,.nils,.nils,.nils]=true from rfl) l k off tips nb n
    have s2:=fun x l k off tips nb n => stT hT (dat_int .i64 x) l k off tips nb n
    simp [h0,hd0,k1,fillEs,fillK,s0,s1,s2,lT hT,lT0 hT,takeT hT,splice,partK,sub,normr_mk]
theorem value_true (hj:S[j]?=some (psr s false)) (hs:s.length ≤ 1000000000) (h1:hasP [102,97,108,115,101] s=false) (h2:hasP [116,114,117,101] s=true):VR d s S j (.mk 1 1 [] [] [] []) (cutP [116,114,117,101] s) false:=by
  have hl:=cutP_len [116,114,117,101] s
  refine ⟨wf_mk (by decide) (by decide) (by decide) (by decide) (by decide),hl,fun w r hw hr ht e => ?_,?_⟩
  · obtain ⟨s',hs'⟩:=hasP_first h2
    have k:=kind_first hr hs' e
    have k':w.kind=1:=by rw [k]; decide
    have A:=Val.right_at hr
    obtain ⟨a1,a2,a3⟩:=A.bare (by omega) (by omega)
    have a4:=A.s0 (by omega) (by omega)
    rw [Val.text_eq,if_pos k'] at e
    rcases A.n1 k' with n | n
    · rw [n,if_neg (by decide)] at e
      rw [e] at h2
      simp [hasP] at h2
    · rw [n,if_pos rfl] at e
      refine ⟨(Val.eq_mk k' n a4 a1 a2 a3).symm,by rw [e]; exact cutP_app _ _,rfl⟩
  · rw [run_note_parser_value,DC_of c_note_parser_value.eq_1]
    have hd0:¬ ((d:Int) + 1=0):=by omega
    have h0:∀ l,loadK (S ++ l) .cell (.ptr j 1)=some (.bool false):=fun l => load_psr1 (get_front l hj)
    have k1:=skip_no hj hs [102,97,108,115,101] (by decide) h1
    have k2:=skip_yes hj hs [116,114,117,101] (by decide) h2
    have hT:(S.set j (psr (cutP [116,114,117,101] s) false)).length=S.length:=by simp
    have s0:=fun l k off tips nb n => stTa (S:=S) (T:=S) rfl plain_zv l k off tips nb n
    have s1:=fun n1 n2 s l k off tips nb n => stTa hT (show plainL [.int .i64 n1,.int .i64 n2,.str s,.nils,.nils,.nils]=true from rfl) l k off tips nb n
    have s2:=fun x l k off tips nb n => stT hT (dat_int .i64 x) l k off tips nb n
    have s3:=fun x l k off tips nb n => stT hT (dat_str x) l k off tips nb n
    simp [h0,hd0,k1,k2,fillEs,fillK,s0,s1,s2,s3,lT hT,lT0 hT,takeT hT,splice,partK,sub,normr_mk]
theorem value_word (hj:S[j]?=some (psr s false)) (hs:s.length ≤ 1000000000) (h1:hasP [102,97,108,115,101] s=false) (h2:hasP [116,114,117,101] s=false) (h3:hasP [35] s=true):VR d s S j (.mk 4 0 (upto isStop (cutP [35] s)) [] [] []) (from' isStop (cutP [35] s)) false:=by
  have hl:=cutP_len [35] s
  obtain ⟨u1,u2⟩:=upto_le isStop (cutP [35] s)
  refine ⟨wf_mk (by decide) (by decide) (by decide) (by decide) (by omega),by omega,fun w r hw hr ht e => ?_,?_⟩
  · obtain ⟨s',hs'⟩:=hasP_first h3
    have k:=kind_first hr hs' e
    have k':w.kind=4:=by rw [k]; decide
    have A:=Val.right_at hr
    obtain ⟨a1,a2,a3⟩:=A.bare (by omega) (by omega)
    have a5:=A.n0 (by omega) (by omega)
    rw [Val.text_eq,if_neg (by omega),if_neg (by omega),if_neg (by omega),if_pos k'] at e
    have e1:cutP [35] s=w.s ++ r:=by rw [e]; exact cutP_app [35] _
    have hc:∀ x ∈ w.s,isStop x=false:=by
      intro x hx
      have:=nameR_not (nameB_chars (A.s4 k') x hx)
      exact stop_not ⟨this.1,this.2.1,this.2.2.1⟩
    obtain ⟨e2,e3⟩:=upto_eq (p:=isStop) hc ht
    rw [e1,e2,e3]
    exact ⟨(Val.eq_mk k' a5 rfl a1 a2 a3).symm,rfl,rfl⟩
  · rw [run_note_parser_value,DC_of c_note_parser_value.eq_1]
    have hd0:¬ ((d:Int) + 1=0):=by omega
    have h0:∀ l,loadK (S ++ l) .cell (.ptr j 1)=some (.bool false):=fun l => load_psr1 (get_front l hj)
    have k1:=skip_no hj hs [102,97,108,115,101] (by decide) h1
    have k2:=skip_no hj hs [116,114,117,101] (by decide) h2
    have k3:=skip_yes hj hs [35] (by decide) h3
    have hj1:(S.set j (psr (cutP [35] s) false))[j]?=some (psr (cutP [35] s) false):=get_set hj
    have hjl:=(List.getElem?_eq_some_iff.1 hj1).1
    have k4:∀ l,DF lib nk 55 [.ptr j 0,.str [44,125,93]] (S.set j (psr (cutP [35] s) false) ++ l)=some (.str (upto isStop (cutP [35] s)),S.set j (psr (from' isStop (cutP [35] s)) false) ++ l):=fun l => by
      rw [F_note_parser_until3 (get_front l hj1) (by omega),set_front l hjl,List.set_set]
    have hT0:(S.set j (psr (cutP [35] s) false)).length=S.length:=by simp
    have hT:(S.set j (psr (from' isStop (cutP [35] s)) false)).length=S.length:=by simp
    have s0:=fun l k off tips nb n => stTa (S:=S) (T:=S) rfl plain_zv l k off tips nb n
    have s1:=fun n1 n2 s l k off tips nb n => stTa hT (show plainL [.int .i64 n1,.int .i64 n2,.str s,.nils,.nils,.nils]=true from rfl) l k off tips nb n
    have s2:=fun x l k off tips nb n => stT hT (dat_int .i64 x) l k off tips nb n
    have s3:=fun x l k off tips nb n => stT hT (dat_str x) l k off tips nb n
    simp [h0,hd0,k1,k2,k3,k4,fillEs,fillK,s0,s1,s2,s3,lT hT,lT0 hT,takeT hT,splice,partK,sub,normr_mk,lT hT0,lT0 hT0]
theorem value_text (hj:S[j]?=some (psr s false)) (hs:s.length ≤ 1000000000) (h1:hasP [102,97,108,115,101] s=false) (h2:hasP [116,114,117,101] s=false) (h3:hasP [35] s=false) (h4:hasP [34] s=true):∃ u s' bad',VR d s S j (.mk 3 0 u [] [] []) s' bad':=by
  have hl:=cutP_len [34] s
  have hj1:(S.set j (psr (cutP [34] s) false))[j]?=some (psr (cutP [34] s) false):=get_set hj
  have hjl:=(List.getElem?_eq_some_iff.1 hj1).1
  obtain ⟨txt,s',bad',q1,q2,q3,q4⟩:=F_note_parser_text (get_front [.mem [.ptr j 0] [] false,.mem [.int .i64 ((d:Int) + 1)] [] false,.mem [.int .i64 0,.int .i64 0,.str [],.nils,.nils,.nils] [] false,.mem [.int .i64 0,.int .i64 0,.str [],.nils,.nils,.nils] [] false] hj1) (by omega)
  rw [set_front _ hjl,List.set_set] at q4
  refine ⟨txt,s',bad',wf_mk (by decide) (by decide) (by decide) (by decide) (by omega),by omega,fun w r hw hr ht e => ?_,?_⟩
  · obtain ⟨s',hs'⟩:=hasP_first h4
    have k:=kind_first hr hs' e
    have k':w.kind=3:=by rw [k]; decide
    have A:=Val.right_at hr
    obtain ⟨a1,a2,a3⟩:=A.bare (by omega) (by omega)
    have a5:=A.n0 (by omega) (by omega)
    rw [Val.text_eq,if_neg (by omega),if_neg (by omega),if_pos k'] at e
    have e1:cutP [34] s=quoteB w.s ++ 34 :: r:=by rw [e]; simp only [quoteT]; rw [show (34 :: (quoteB w.s ++ [34]) ++ r:Str)=[34] ++ (quoteB w.s ++ 34 :: r) by simp]; exact cutP_app [34] _
    obtain ⟨f1,f2,f3⟩:=q3 rfl _ _ e1
    rw [f1,f2,f3]
    exact ⟨(Val.eq_mk k' a5 rfl a1 a2 a3).symm,rfl,rfl⟩
  · rw [run_note_parser_value,DC_of c_note_parser_value.eq_1]
    have hd0:¬ ((d:Int) + 1=0):=by omega
    have h0:∀ l,loadK (S ++ l) .cell (.ptr j 1)=some (.bool false):=fun l => load_psr1 (get_front l hj)
    have k1:=skip_no hj hs [102,97,108,115,101] (by decide) h1
    have k2:=skip_no hj hs [116,114,117,101] (by decide) h2
    have k3:=skip_no hj hs [35] (by decide) h3
    have k4:=skip_yes hj hs [34] (by decide) h4
    have hT0:(S.set j (psr (cutP [34] s) false)).length=S.length:=by simp
    have hT:(S.set j (psr s' bad')).length=S.length:=by simp
    have s0:=fun l k off tips nb n => stTa (S:=S) (T:=S) rfl plain_zv l k off tips nb n
    have s1:=fun n1 n2 s l k off tips nb n => stTa hT (show plainL [.int .i64 n1,.int .i64 n2,.str s,.nils,.nils,.nils]=true from rfl) l k off tips nb n
    have s2:=fun x l k off tips nb n => stT hT (dat_int .i64 x) l k off tips nb n
    have s3:=fun x l k off tips nb n => stT hT (dat_str x) l k off tips nb n
    simp [h0,hd0,k1,k2,k3,k4,fillEs,fillK,s0,s1,s2,s3,lT hT,lT0 hT,takeT hT,splice,partK,sub,normr_mk,q4,lT hT0,lT0 hT0]
end
end Go.Proofs.YtekgdmhdkhgpjaaGreatDoor.am

set_option linter.unusedSimpArgs false
set_option linter.unusedVariables false
namespace Go.Proofs.YtekgdmhdkhgpjaaGreatDoor.am
open Go
@[simp] theorem normc_int (k:IntKind) (n:Int):normc (.int k n)=.int k n:=rfl
@[simp] theorem normc_str (s:Str):normc (.str s)=.str s:=rfl
theorem normr_rec (ns:List Str) (ps:List Val):normr (.agg [.int .i64 5,.int .i64 0,.str [],rowS 1 (ncl ns),.nils,rowS 6 (vcl ps)])=.agg (Val.mk 5 0 [] ns [] ps).enc:=by
  rw [Val.enc_eq]
  simp [normr,encStrs,encIds,encVs,show encSl 1 []=.sl .none 1 [] from rfl,Val.kind,Val.n,Val.s,Val.names,Val.ids,Val.parts,ncl,vcl]
theorem normr_lst (is:List Int) (ps:List Val):normr (.agg [.int .i64 6,.int .i64 0,.str [],.nils,rowS 1 (icl is),rowS 6 (vcl ps)])=.agg (Val.mk 6 0 [] [] is ps).enc:=by
  rw [Val.enc_eq]
  simp [normr,encStrs,encIds,encVs,show encSl 1 []=.sl .none 1 [] from rfl,Val.kind,Val.n,Val.s,Val.names,Val.ids,Val.parts,icl,vcl]
section
variable {S:St} {j d:Nat} {s:Str}
theorem value_rec (hd:d < 1000000) (hV:VS d) (hj:S[j]?=some (psr s false)) (hs:s.length ≤ 1000000000) (h1:hasP [102,97,108,115,101] s=false) (h2:hasP [116,114,117,101] s=false) (h3:hasP [35] s=false) (h4:hasP [34] s=false) (h5:hasP [123] s=true) :
    ∃ v s' bad',VR d s S j v s' bad':=by
  have hl:=cutP_len [123] s
  have hg:∀ s bad,(S.set j (psr s bad)).length=S.length:=fun s bad => by simp
  have hM1:∀ s bad xs ps,(mN S j d s bad xs ps)[j]?=some (psr s bad):=fun s bad xs ps => get_front _ (get_set hj)
  have hM2:∀ s bad xs ps s' bad',(mN S j d s bad xs ps).set j (psr s' bad')=mN S j d s' bad' xs ps:=fun s bad xs ps s' bad' => by
    unfold mN
    rw [set_front _ (by simpa using (List.getElem?_eq_some_iff.1 hj).1),List.set_set]
  have hV1:∀ s bad xs ps,(mN S j d s bad xs ps)[S.length + 3]?=some (vbN (S.length + 3) xs ps):=fun s bad xs ps => gT (hg s bad) _ 3
  have hV2:∀ s bad xs ps xs' ps',(mN S j d s bad xs ps).set (S.length + 3) (vbN (S.length + 3) xs' ps')=mN S j d s bad xs' ps':=fun s bad xs ps xs' ps' => sT (hg s bad) _ 3 _
  have hP:∀ s bad xs ps,loadK (mN S j d s bad xs ps) .cell (.ptr S.length 0)=some (.ptr j 0):=fun s bad xs ps => lT0 (hg s bad) _ _ _
  have hC:∀ s bad xs ps,loadK (mN S j d s bad xs ps) .cell (.ptr (S.length + 1) 0)=some (.int .i64 ((d:Int) + 1)):=fun s bad xs ps => lT (hg s bad) _ _ 1 _
  have hm:∀ s bad xs ps,(mN S j d s bad xs ps).length=S.length + 4:=fun s bad xs ps => by simp [mN,mbx]
  have hE:=F_value_1 j S.length (S.length + 1) (S.length + 3) d hd (mN S j d) hM1 hM2 hV1 hV2 hP hC (S.length + 4) hm hV
  have hk0:∀ y:Str,nameB y=true → ∃ b t,y=b :: t ∧ b ≠ 125:=by
    intro y hn
    cases y with
    | nil => simp [nameB] at hn
    | cons b t => exact ⟨b,t,rfl,(nameR_not (nameB_chars hn b (by simp))).2.1⟩
  obtain ⟨xs,ps,s',bad',r1,r2,r3,r4,r5,r6,r7⟩:=F_note_parser_list (fun x:Str => x) 61 125 (.inl rfl) (fun x => x.length < 9223372036854775808) (fun y => nameB y=true) (fun q => Val.Wf q ∧ q.rightB d=true)
    58 rfl rfl (S.length + 3) S.length (S.length + 1) j (mN S j d) hM1 hM2 (S.length + 4) hm hk0 hE (cutP [123] s) (by omega)
  have r8:DF lib nk 57 [.ptr j 0,.str [125],.fn 58 [] [.ptr (S.length + 3) 0,.ptr S.length 0,.ptr (S.length + 1) 0]]
      (S.set j (psr (cutP [123] s) false) ++ [.mem [.ptr j 0] [] false,.mem [.int .i64 ((d:Int) + 1)] [] false,.mem [.int .i64 0,.int .i64 0,.str [],.nils,.nils,.nils] [] false,.mem [.int .i64 5,.int .i64 0,.str [],.nils,.nils,.nils] [] false]) =
      some (.tup [],S.set j (psr s' bad') ++ [.mem [.ptr j 0] [] false,.mem [.int .i64 ((d:Int) + 1)] [] false,.mem [.int .i64 0,.int .i64 0,.str [],.nils,.nils,.nils] [] false,
        .mem [.int .i64 5,.int .i64 0,.str [],rowA (S.length + 3) 0 1 (ncl xs),.nils,rowA (S.length + 3) 1 6 (vcl ps)] (tips2 xs.length ps.length) false]):=r7
  refine ⟨.mk 5 0 [] xs [] ps,s',bad',.mk _ ⟨by simp [Val.kind],by simp [Val.kind],by simp [Val.n],by simp [Val.n],by simp [Val.s],by simp only [Val.names]; omega,r1,by simp [Val.ids],by simp [Val.ids],by simp only [Val.parts]; omega⟩ r2,by omega,fun w r hw hr ht e => ?_,?_⟩
  · obtain ⟨s1,hs'⟩:=hasP_first h5
    have k:=kind_first hr hs' e
    have k':w.kind=5:=by rw [k]; decide
    have A:=Val.right_at hr
    obtain ⟨a1,a2,a3,_⟩:=A.k5 k'
    have a4:=A.s0 (by omega) (by omega)
    have a5:=A.n0 (by omega) (by omega)
    rw [Val.text_eq,if_neg (by omega),if_neg (by omega),if_neg (by omega),if_neg (by omega),if_pos k'] at e
    simp only [itemsN,body_items (fun n:Str => n)] at e
    have e1:cutP [123] s=bodyT (fun n:Str => n) 61 w.names w.parts ++ 125 :: r:=by
      rw [e]
      have:=cutP_app [123] (bodyT (fun n:Str => n) 61 w.names w.parts ++ 125 :: r)
      simpa using this
    obtain ⟨f1,f2,f3,f4⟩:=r6 w.names w.parts r (goN_name _ none a3) (fun q hq => ⟨hw.all q hq,A.all q hq⟩) a2.symm e1
    rw [f1,f2]
    exact ⟨(Val.eq_mk k' a5 a4 rfl a1 rfl).symm,f3,f4⟩
  · rw [run_note_parser_value,DC_of c_note_parser_value.eq_1]
    have hd0:¬ ((d:Int) + 1=0):=by omega
    have h0:∀ l,loadK (S ++ l) .cell (.ptr j 1)=some (.bool false):=fun l => load_psr1 (get_front l hj)
    have k1:=skip_no hj hs [102,97,108,115,101] (by decide) h1
    have k2:=skip_no hj hs [116,114,117,101] (by decide) h2
    have k3:=skip_no hj hs [35] (by decide) h3
    have k4:=skip_no hj hs [34] (by decide) h4
    have k5:=skip_yes hj hs [123] (by decide) h5
    have hT0:=hg (cutP [123] s) false
    have hT:=hg s' bad'
    have p1:=rowS_datC (sz:=1) (plain_ncl xs)
    have p2:=rowS_datC (sz:=6) (plain_vcl ps)
    have s0:=fun l k off tips nb n => stTa (S:=S) (T:=S) rfl plain_zv l k off tips nb n
    have s1:=fun l k off tips nb n => stTa hT (show plainL [.int .i64 5,.int .i64 0,.str [],rowS 1 (ncl xs),.nils,rowS 6 (vcl ps)]=true by simp [plainL,p1.2,p2.2,plain]) l k off tips nb n
    have s2:=fun x l k off tips nb n => stT hT0 (dat_int .i64 x) l k off tips nb n
    simp [h0,hd0,k1,k2,k3,k4,k5,r8,fillEs,fillK,s0,s1,s2,lT hT,lT0 hT,lT hT0,lT0 hT0,takeT hT,splice,partK,sub,strip_rowA,p1.1,p2.1,normr_rec]
theorem value_list (hd:d < 1000000) (hV:VS d) (hj:S[j]?=some (psr s false)) (hs:s.length ≤ 1000000000) (h1:hasP [102,97,108,115,101] s=false) (h2:hasP [116,114,117,101] s=false) (h3:hasP [35] s=false) (h4:hasP [34] s=false) (h5:hasP [123] s=false) (h6:hasP [91] s=true) :
    ∃ v s' bad',VR d s S j v s' bad':=by
  have hl:=cutP_len [91] s
  have hg:∀ s bad,(S.set j (psr s bad)).length=S.length:=fun s bad => by simp
  have hM1:∀ s bad xs ps,(mI S j d s bad xs ps)[j]?=some (psr s bad):=fun s bad xs ps => get_front _ (get_set hj)
  have hM2:∀ s bad xs ps s' bad',(mI S j d s bad xs ps).set j (psr s' bad')=mI S j d s' bad' xs ps:=fun s bad xs ps s' bad' => by
    unfold mI
    rw [set_front _ (by simpa using (List.getElem?_eq_some_iff.1 hj).1),List.set_set]
  have hV1:∀ s bad xs ps,(mI S j d s bad xs ps)[S.length + 3]?=some (vbI (S.length + 3) xs ps):=fun s bad xs ps => gT (hg s bad) _ 3
  have hV2:∀ s bad xs ps xs' ps',(mI S j d s bad xs ps).set (S.length + 3) (vbI (S.length + 3) xs' ps')=mI S j d s bad xs' ps':=fun s bad xs ps xs' ps' => sT (hg s bad) _ 3 _
  have hP:∀ s bad xs ps,loadK (mI S j d s bad xs ps) .cell (.ptr S.length 0)=some (.ptr j 0):=fun s bad xs ps => lT0 (hg s bad) _ _ _
  have hC:∀ s bad xs ps,loadK (mI S j d s bad xs ps) .cell (.ptr (S.length + 1) 0)=some (.int .i64 ((d:Int) + 1)):=fun s bad xs ps => lT (hg s bad) _ _ 1 _
  have hm:∀ s bad xs ps,(mI S j d s bad xs ps).length=S.length + 4:=fun s bad xs ps => by simp [mI,mbx]
  have hE:=F_value_2 j S.length (S.length + 1) (S.length + 3) d hd (mI S j d) hM1 hM2 hV1 hV2 hP hC (S.length + 4) hm hV
  have hk0:∀ y:Int,(0 ≤ y ∧ y < 18446744073709551616) → ∃ b t,dec y.toNat=b :: t ∧ b ≠ 93:=by
    intro y _
    obtain ⟨b,t,e,hb⟩:=dec_cons y.toNat
    exact ⟨b,t,e,(dig_not hb).2.2.1⟩
  obtain ⟨xs,ps,s',bad',r1,r2,r3,r4,r5,r6,r7⟩:=F_note_parser_list (fun n:Int => dec n.toNat) 58 93 (.inr rfl) (fun y => 0 ≤ y ∧ y < 18446744073709551616) (fun y => 0 ≤ y ∧ y < 18446744073709551616) (fun q => Val.Wf q ∧ q.rightB d=true)
    60 rfl rfl S.length (S.length + 3) (S.length + 1) j (mI S j d) hM1 hM2 (S.length + 4) hm hk0 hE (cutP [91] s) (by omega)
  have r8:DF lib nk 57 [.ptr j 0,.str [93],.fn 60 [] [.ptr S.length 0,.ptr (S.length + 3) 0,.ptr (S.length + 1) 0]]
      (S.set j (psr (cutP [91] s) false) ++ [.mem [.ptr j 0] [] false,.mem [.int .i64 ((d:Int) + 1)] [] false,.mem [.int .i64 0,.int .i64 0,.str [],.nils,.nils,.nils] [] false,.mem [.int .i64 6,.int .i64 0,.str [],.nils,.nils,.nils] [] false]) =
      some (.tup [],S.set j (psr s' bad') ++ [.mem [.ptr j 0] [] false,.mem [.int .i64 ((d:Int) + 1)] [] false,.mem [.int .i64 0,.int .i64 0,.str [],.nils,.nils,.nils] [] false,
        .mem [.int .i64 6,.int .i64 0,.str [],.nils,rowA (S.length + 3) 0 1 (icl xs),rowA (S.length + 3) 1 6 (vcl ps)] (tips2 xs.length ps.length) false]):=r7
  refine ⟨.mk 6 0 [] [] xs ps,s',bad',.mk _ ⟨by simp [Val.kind],by simp [Val.kind],by simp [Val.n],by simp [Val.n],by simp [Val.s],by simp [Val.names],by simp [Val.names],by simp only [Val.ids]; omega,r1,by simp only [Val.parts]; omega⟩ r2,by omega,fun w r hw hr ht e => ?_,?_⟩
  · obtain ⟨s1,hs'⟩:=hasP_first h6
    have k:=kind_first hr hs' e
    have k':w.kind=6:=by rw [k]; decide
    have A:=Val.right_at hr
    obtain ⟨a1,a2,a3,_⟩:=A.k6 k'
    have a4:=A.s0 (by omega) (by omega)
    have a5:=A.n0 (by omega) (by omega)
    rw [Val.text_eq,if_neg (by omega),if_neg (by omega),if_neg (by omega),if_neg (by omega),if_neg (by omega)] at e
    simp only [itemsI,body_items (fun n:Int => dec n.toNat)] at e
    have e1:cutP [91] s=bodyT (fun n:Int => dec n.toNat) 58 w.ids w.parts ++ 93 :: r:=by
      rw [e]
      have:=cutP_app [91] (bodyT (fun n:Int => dec n.toNat) 58 w.ids w.parts ++ 93 :: r)
      simpa using this
    obtain ⟨f1,f2,f3,f4⟩:=r6 w.ids w.parts r (fun y hy => hw.one.id y hy) (fun q hq => ⟨hw.all q hq,A.all q hq⟩) a2.symm e1
    rw [f1,f2]
    exact ⟨(Val.eq_mk k' a5 a4 a1 rfl rfl).symm,f3,f4⟩
  · rw [run_note_parser_value,DC_of c_note_parser_value.eq_1]
    have hd0:¬ ((d:Int) + 1=0):=by omega
    have h0:∀ l,loadK (S ++ l) .cell (.ptr j 1)=some (.bool false):=fun l => load_psr1 (get_front l hj)
    have k1:=skip_no hj hs [102,97,108,115,101] (by decide) h1
    have k2:=skip_no hj hs [116,114,117,101] (by decide) h2
    have k3:=skip_no hj hs [35] (by decide) h3
    have k4:=skip_no hj hs [34] (by decide) h4
    have k5:=skip_no hj hs [123] (by decide) h5
    have k6:=skip_yes hj hs [91] (by decide) h6
    have hT0:=hg (cutP [91] s) false
    have hT:=hg s' bad'
    have p1:=rowS_datC (sz:=1) (plain_icl xs)
    have p2:=rowS_datC (sz:=6) (plain_vcl ps)
    have s0:=fun l k off tips nb n => stTa (S:=S) (T:=S) rfl plain_zv l k off tips nb n
    have s1:=fun l k off tips nb n => stTa hT (show plainL [.int .i64 6,.int .i64 0,.str [],.nils,rowS 1 (icl xs),rowS 6 (vcl ps)]=true by simp [plainL,p1.2,p2.2,plain]) l k off tips nb n
    have s2:=fun x l k off tips nb n => stT hT0 (dat_int .i64 x) l k off tips nb n
    simp [h0,hd0,k1,k2,k3,k4,k5,k6,r8,fillEs,fillK,s0,s1,s2,lT hT,lT0 hT,lT hT0,lT0 hT0,takeT hT,splice,partK,sub,strip_rowA,p1.1,p2.1,normr_lst]
theorem value_num (hj:S[j]?=some (psr s false)) (hs:s.length ≤ 1000000000) (h1:hasP [102,97,108,115,101] s=false) (h2:hasP [116,114,117,101] s=false) (h3:hasP [35] s=false) (h4:hasP [34] s=false) (h5:hasP [123] s=false) (h6:hasP [91] s=false) :
    ∃ v s' bad',VR d s S j v s' bad':=by
  obtain ⟨u1,u2⟩:=upto_le isStop s
  have hjl:=(List.getElem?_eq_some_iff.1 hj).1
  obtain ⟨n,e,n1,n2,n3,n4,n5⟩:=F_strconv_Atoi (upto isStop s) (by omega) (S.set j (psr (from' isStop s) false) ++ [.mem [.ptr j 0] [] false,.mem [.int .i64 ((d:Int) + 1)] [] false,.mem [.int .i64 0,.int .i64 0,.str [],.nils,.nils,.nils] [] false,.mem [.int .i64 0,.int .i64 0,.str [],.nils,.nils,.nils] [] false])
  obtain ⟨bad',b1,b2⟩:∃ bad':Bool,(e=.nili → bad'=false) ∧ ((e=.nili ∧ bad'=false) ∨ ((∃ f z,e=errY f (upto isStop s) z) ∧ bad'=true)):=by
    rcases n3 with h | ⟨f,z,h⟩
    · exact ⟨false,fun _ => rfl,.inl ⟨h,rfl⟩⟩
    · exact ⟨true,fun h' => (by rw [h'] at h; cases h),.inr ⟨⟨f,z,h⟩,rfl⟩⟩
  refine ⟨.mk 2 n [] [] [] [],from' isStop s,bad',wf_mk (by decide) (by decide) n1 n2 (by decide),by omega,fun w r hw hr ht e => ?_,?_⟩
  · have A:=Val.right_at hr
    have k':w.kind=2:=by
      rcases A.kind with k | k | k | k | k | k
      · exfalso
        rw [Val.text_eq,if_pos k] at e
        split at e
        · rw [e,hasP_app] at h2; cases h2
        · rw [e,hasP_app] at h1; cases h1
      · exact k
      · exfalso
        rw [Val.text_eq,if_neg (by omega),if_neg (by omega),if_pos k] at e
        exact hasP_one h4 _ e
      · exfalso
        rw [Val.text_eq,if_neg (by omega),if_neg (by omega),if_neg (by omega),if_pos k] at e
        exact hasP_one h3 _ e
      · exfalso
        rw [Val.text_eq,if_neg (by omega),if_neg (by omega),if_neg (by omega),if_neg (by omega),if_pos k] at e
        exact hasP_one h5 _ e
      · exfalso
        rw [Val.text_eq,if_neg (by omega),if_neg (by omega),if_neg (by omega),if_neg (by omega),if_neg (by omega)] at e
        exact hasP_one h6 _ e
    obtain ⟨a1,a2,a3⟩:=A.bare (by omega) (by omega)
    have a4:=A.s0 (by omega) (by omega)
    rw [Val.text_eq,if_neg (by omega),if_pos k'] at e
    have hc:∀ x ∈ decI w.n,isStop x=false:=by
      intro x hx
      rcases decI_chars w.n x hx with e | e
      · subst e; rfl
      · exact stop_not ⟨(dig_not e).1,(dig_not e).2.1,(dig_not e).2.2.1⟩
    obtain ⟨e2,e3⟩:=upto_eq (p:=isStop) hc ht
    rw [← e] at e2 e3
    obtain ⟨m1,m2⟩:=n4 w.n hw.one.n0 hw.one.n1 e2
    rw [e3,m1,b1 m2]
    exact ⟨(Val.eq_mk k' rfl a4 a1 a2 a3).symm,rfl,rfl⟩
  · rw [run_note_parser_value,DC_of c_note_parser_value.eq_1]
    have hd0:¬ ((d:Int) + 1=0):=by omega
    have h0:∀ l,loadK (S ++ l) .cell (.ptr j 1)=some (.bool false):=fun l => load_psr1 (get_front l hj)
    have k1:=skip_no hj hs [102,97,108,115,101] (by decide) h1
    have k2:=skip_no hj hs [116,114,117,101] (by decide) h2
    have k3:=skip_no hj hs [35] (by decide) h3
    have k4:=skip_no hj hs [34] (by decide) h4
    have k5:=skip_no hj hs [123] (by decide) h5
    have k6:=skip_no hj hs [91] (by decide) h6
    have k7:∀ l,DF lib nk 55 [.ptr j 0,.str [44,125,93]] (S ++ l)=some (.str (upto isStop s),S.set j (psr (from' isStop s) false) ++ l):=fun l => by
      rw [F_note_parser_until3 (get_front l hj) (by omega),set_front l hjl]
    have hT0:(S.set j (psr (from' isStop s) false)).length=S.length:=by simp
    have hT:(S.set j (psr (from' isStop s) bad')).length=S.length:=by simp
    have st:∀ l nb,storeK [] nb (S.set j (psr (from' isStop s) false) ++ l) 1 (.ptr j 1) (.bool bad')=some ([],S.set j (psr (from' isStop s) bad') ++ l):=fun l nb => by
      rw [store_psr1 [] (get_front l (get_set hj)),set_front l (by simpa using hjl),List.set_set]
    have s0:=fun l k off tips nb n => stTa (S:=S) (T:=S) rfl plain_zv l k off tips nb n
    have s1:=fun n1 n2 s l k off tips nb n => stTa hT (show plainL [.int .i64 n1,.int .i64 n2,.str s,.nils,.nils,.nils]=true from rfl) l k off tips nb n
    have s2:=fun x l k off tips nb n => stT hT (dat_int .i64 x) l k off tips nb n
    rcases b2 with ⟨rfl,rfl⟩ | ⟨⟨f,z,rfl⟩,rfl⟩
    · simp [h0,hd0,k1,k2,k3,k4,k5,k6,k7,n5,evExtract,st,fillEs,fillK,s0,s1,s2,lT hT,lT0 hT,lT hT0,lT0 hT0,takeT hT,splice,partK,sub,normr_mk]
    · simp [h0,hd0,k1,k2,k3,k4,k5,k6,k7,n5,evExtract,st,fillEs,fillK,s0,s1,s2,lT hT,lT0 hT,lT hT0,lT0 hT0,takeT hT,splice,partK,sub,normr_mk]
theorem value_bad (hj:S[j]?=some (psr s true)) (hs:s.length ≤ 1000000000):DF lib nk 33 [.ptr j 0,.int .i64 ((d:Int) + 1)] S=some (.agg (Val.mk 0 0 [] [] [] []).enc,S.set j (psr s true)):=by
  have hjl:=(List.getElem?_eq_some_iff.1 hj).1
  rw [run_note_parser_value,DC_of c_note_parser_value.eq_1]
  have hd0:¬ ((d:Int) + 1=0):=by omega
  have h0:∀ l,loadK (S ++ l) .cell (.ptr j 1)=some (.bool true):=fun l => load_psr1 (get_front l hj)
  have st:∀ l nb,storeK [] nb (S ++ l) 1 (.ptr j 1) (.bool true)=some ([],S.set j (psr s true) ++ l):=fun l nb => by
    rw [store_psr1 [] (get_front l hj),set_front l hjl]
  have hT:(S.set j (psr s true)).length=S.length:=by simp
  have s0:=fun l k off tips nb n => stTa (S:=S) (T:=S) rfl plain_zv l k off tips nb n
  have s1:=fun l k off tips nb n => stTa hT plain_zv l k off tips nb n
  simp [h0,hd0,st,fillEs,fillK,s0,s1,lT hT,lT0 hT,takeT hT,splice,partK,sub,normr_mk]
end
theorem VS_succ {d:Nat} (hd:d < 1000000) (hV:VS d):VS (d + 1):=by
  intro s bad S j hs hj
  cases bad
  · have key:∃ v s' bad',VR d s S j v s' bad':=by
      cases h1:hasP [102,97,108,115,101] s
      rotate_left
      · exact ⟨_,_,_,value_false hj hs h1⟩
      cases h2:hasP [116,114,117,101] s
      rotate_left
      · exact ⟨_,_,_,value_true hj hs h1 h2⟩
      cases h3:hasP [35] s
      rotate_left
      · exact ⟨_,_,_,value_word hj hs h1 h2 h3⟩
      cases h4:hasP [34] s
      rotate_left
      · obtain ⟨u,s',bad',h⟩:=value_text (d:=d) hj hs h1 h2 h3 h4
        exact ⟨_,_,_,h⟩
      cases h5:hasP [123] s
      rotate_left
      · exact value_rec hd hV hj hs h1 h2 h3 h4 h5
      cases h6:hasP [91] s
      · exact value_num hj hs h1 h2 h3 h4 h5 h6
      · exact value_list hd hV hj hs h1 h2 h3 h4 h5 h6
    obtain ⟨v,s',bad',k1,k2,k3,k4⟩:=key
    exact ⟨v,s',bad',k1,k2,fun h => (by cases h),fun _ => k3,k4⟩
  · exact ⟨.mk 0 0 [] [] [] [],s,true,wf_mk (by decide) (by decide) (by decide) (by decide) (by decide),Nat.le_refl _,fun _ => rfl,fun h => (by cases h),value_bad hj hs⟩
theorem VS_all:∀ d:Nat,d ≤ 1000000 → VS d
  | 0,_ => VS_zero
  | d + 1,h => VS_succ (by omega) (VS_all d (by omega))
end Go.Proofs.YtekgdmhdkhgpjaaGreatDoor.am

set_option linter.unusedSimpArgs false
set_option linter.unusedVariables false
namespace Go.Proofs.YtekgdmhdkhgpjaaGreatDoor.am
open Go
def zeroV:Val:=.mk 0 0 [] [] [] []
def PR (s:Str) (r:Option Val):Prop:=(∀ w,Val.Wf w → w.rightB 5=true → w.text=s → r=some w) ∧ (∀ v,r=some v → Val.Wf v ∧ v.rightB 5=true ∧ v.text=s)
theorem PR_fun {s:Str} {r r':Option Val} (h:PR s r) (h':PR s r'):r=r':=by
  cases r with
  | some v =>
    obtain ⟨a,b,c⟩:=h.2 v rfl
    exact (h'.1 v a b c).symm
  | none =>
    cases r' with
    | none => rfl
    | some v =>
      obtain ⟨a,b,c⟩:=h'.2 v rfl
      exact h.1 v a b c
def parseR:Option Val → List AV
  | some v => [.agg v.enc,.nili]
  | none => [.agg zeroV.enc,.ifc 57 (.int .i64 2)]
theorem stTa0 {S T:St} (h:T.length=S.length) {cs':List AV} (hp:plainL cs'=true) (l:List Box) (off:Nat) (tips:List (Option Nat)) (nb n:Nat):storeK tips nb (T ++ l) n (.ptr S.length off) (.agg cs')=match l[0]? with
    | some (Box.mem cs bt false) => if cs'.length=n ∧ off + n ≤ cs.length then some (tips,T ++ l.set 0 (.mem (splice cs off cs') bt false)) else none
    | _ => none:=stTa h hp l 0 off tips nb n
theorem plainRes_two {a b:AV} (ha:Dat a) (hb:Dat b):plainRes (.tup [a,b])=true:=by
  have key:∀ c:AV,Dat c → (match c with | .sl .fresh _ es => plainEs es | c => plain c)=true:=by
    intro c hc
    split
    · have:=hc.plain; simp [plain] at this
    · exact hc.plain
  have h1:=key a ha
  have h2:=key b hb
  unfold plainRes
  simp only [List.all_cons,List.all_nil,Bool.and_true,Bool.and_eq_true]
  exact ⟨h1,h2⟩
theorem partK_zv:partK (.agg 6) [AV.int .i64 0,.int .i64 0,.str [],.nils,.nils,.nils] 0=some (.agg [AV.int .i64 0,.int .i64 0,.str [],.nils,.nils,.nils]):=rfl
theorem F_note_Parse (s:Str) (hs:s.length ≤ 1000000000) (S:St):∃ r,PR s r ∧ DF lib nk 20 [.str s] S=some (.tup (parseR r),S):=by
  have hj:(S ++ [.mem [.int .i64 0,.int .i64 0,.str [],.nils,.nils,.nils] [] false,psr s false])[S.length + 1]?=some (psr s false):=by simp
  obtain ⟨v,s',bad',v1,v2,v3,v4,v5⟩:=VS_all 5 (by decide) s false _ (S.length + 1) hs hj
  have s0:=fun l k off tips nb n => stTa (S:=S) (T:=S) rfl plain_zv l k off tips nb n
  have s00:=fun l off tips nb n => stTa0 (S:=S) (T:=S) rfl plain_zv l off tips nb n
  have pr1:∀ v:Val,plainRes (.tup [.agg v.enc,.nili])=true:=fun v => plainRes_two (by simp) (by simp)
  have pr2:∀ v:Val,plainRes (.tup [.agg v.enc,.ifc 57 (.int .i64 2)])=true:=fun v => plainRes_two (by simp) (by simp)
  have nT:Term []:=fun b h => (by cases h)
  simp [psr] at v5
  rw [run_note_Parse,DC_of c_note_Parse.eq_1]
  have e1:=F_value_Right v v1
  have e2:=F_note_written 5 v (by omega) v1
  by_cases hc:bad'=false ∧ v.rightB 5=true ∧ v.text=s
  · obtain ⟨rfl,c2,c3⟩:=hc
    refine ⟨some v,⟨fun w hw hr ht => ?_,fun u hu => by cases hu; exact ⟨v1,c2,c3⟩⟩,?_⟩
    · obtain ⟨f1,_,_⟩:=v4 rfl w [] hw hr nT (by simp [ht])
      rw [f1]
    · rw [c2] at e1
      have e2:=e2 c2
      rw [c3] at e2
      simp [r_note_Parse_0,fillK,splice,v5,psr,s0,s00,pr1,pr2,normr_mk,partK_zv,e1,e2,evUn,parseR]
      done
  · refine ⟨none,⟨fun w hw hr ht => ?_,fun u hu => by cases hu⟩,?_⟩
    · obtain ⟨f1,_,f3⟩:=v4 rfl w [] hw hr nT (by simp [ht])
      exact absurd ⟨f3,by rw [f1]; exact hr,by rw [f1]; exact ht⟩ hc
    · cases bad'
      · cases r:v.rightB 5
        · rw [r] at e1
          simp [r_note_Parse_0,fillK,splice,v5,psr,s0,s00,pr1,pr2,normr_mk,partK_zv,e1,evUn,parseR,zeroV]
          done
        · have c3:¬ v.text=s:=fun e => hc ⟨rfl,r,e⟩
          rw [r] at e1
          have e2:=e2 r
          simp [r_note_Parse_0,fillK,splice,v5,psr,s0,s00,pr1,pr2,normr_mk,partK_zv,e1,e2,c3,evUn,parseR,zeroV]
          done
      · simp [r_note_Parse_0,fillK,splice,v5,psr,s0,s00,pr1,pr2,normr_mk,partK_zv,evUn,parseR,zeroV]
        done
end Go.Proofs.YtekgdmhdkhgpjaaGreatDoor.am

set_option linter.unusedSimpArgs false
set_option linter.unusedVariables false
namespace Go.Proofs.YtekgdmhdkhgpjaaGreatDoor.am
open Go
@[simp] theorem takeRet_s1 (t:TypeId) (n:Int):takeRet [] (.tup [.str [],.ifc t (.int .i64 n)])=(.tup [.str [],.ifc t (.int .i64 n)],[]):=rfl
@[simp] theorem takeRet_ae (l:List AV):takeRet [] (.tup [.agg l,.nili])=(.tup [.agg l,.nili],[]):=rfl
@[simp] theorem takeRet_ai (l:List AV) (t:TypeId) (n:Int):takeRet [] (.tup [.agg l,.ifc t (.int .i64 n)])=(.tup [.agg l,.ifc t (.int .i64 n)],[]):=rfl
theorem F_dioptrelaw01_Code (n:Int) (S:St):DF lib nk 19 [.ifc 57 (.int .i64 n)] S=some (.int .i64 n,S):=by
  rw [run_dioptrelaw01_Code,DC_of c_dioptrelaw01_Code.eq_1]
  simp [evBinE,evEqK,asP,errNum,isVal,strip,giveArg,lockOne,unlockOne,boxOf,norm,normc,takeRet,takeRes]
end Go.Proofs.YtekgdmhdkhgpjaaGreatDoor.am
