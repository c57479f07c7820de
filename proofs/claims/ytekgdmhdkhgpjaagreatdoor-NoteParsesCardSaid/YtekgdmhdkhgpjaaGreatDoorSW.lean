/- Several texts, one behind the other: Rz4 Rz5 Rz6 -/
import Derived.Test.YtekgdmhdkhgpjaaGreatDoorSV
import Derived.Test.YtekgdmhdkhgpjaaGreatDoorSS
set_option linter.unusedSimpArgs false
set_option linter.unusedVariables false
set_option linter.unusedSimpArgs false
set_option linter.unusedVariables false
namespace Go.Proofs.YtekgdmhdkhgpjaaGreatDoor.am
open Go
theorem depth_mk {k n:Int} {s:Str} {ns:List Str} {is:List Int} {ps:List Val} {d:Nat} (h:∀ p ∈ ps,Val.depth p ≤ d + 1):Val.depth (.mk k n s ns is ps) ≤ d + 1 + 1:=by
  rw [Val.depth_eq,Val.depths_le]
  exact ⟨by omega,fun p hp => by have:=h p hp; omega⟩
theorem rN_all (xs:List Str) (ps:List Val):partK (.agg 6) (rN xs ps) 0=some (.agg (rN xs ps)):=by
  have p1:=rowS_datC (sz:=1) (plain_ncl xs)
  have p2:=rowS_datC (sz:=6) (plain_vcl ps)
  simp [rN,partK,sub,p1.1,p2.1]
theorem rI_all (xs:List Int) (ps:List Val):partK (.agg 6) (rI xs ps) 0=some (.agg (rI xs ps)):=by
  have p1:=rowS_datC (sz:=1) (plain_icl xs)
  have p2:=rowS_datC (sz:=6) (plain_vcl ps)
  simp [rI,partK,sub,p1.1,p2.1]
theorem rN_normr (xs:List Str) (ps:List Val):normr (.agg (rN xs ps))=.agg (Val.mk 5 0 [] xs [] ps).enc:=normr_rec xs ps
theorem rI_normr (xs:List Int) (ps:List Val):normr (.agg (rI xs ps))=.agg (Val.mk 6 0 [] [] xs ps).enc:=normr_lst xs ps
theorem resK_asb (f:FuncId) (t:List (Option Nat)) {X E:List AV} (s:Str) (b:Bool) (S S':St) (h:normr (.agg X)=.agg E) (hp:plainRes (.tup [.agg E,.str s,.bool b])=true):resK f t [.agg X,.str s,.bool b] S S'=some (.tup [.agg E,.str s,.bool b],S'.take S.length):=by
  have e:retOf (giveResL t ([AV.agg X,.str s,.bool b].map normr))=.tup [.agg E,.str s,.bool b]:=by
    simp only [List.map_cons,List.map_nil,h]; rfl
  unfold resK
  rw [e,if_pos hp,if_pos (by rfl)]
section
variable {d:Nat} (hV:RS d) (dep:Int) (hdep:IntKind.wrap .i64 (dep + 1)=6 - (d:Int)) (S:St) (s1:Str) (hs:s1.length < 1000000000)
include hV hdep hs in
theorem F_parts_rec:∃ v s' ok,Val.Wf v ∧ v.depth ≤ d + 1 + 1 ∧ s'.length ≤ s1.length ∧ (∀ w r,Val.Wf w → w.rightB (d + 1)=true → Term r → 123 :: s1=w.text ++ r → v=w ∧ s'=r ∧ ok=true) ∧
    DF lib nk 64 [.str (123 :: s1),.int .i64 dep] S=some (.tup [.agg v.enc,.str s',.bool ok],S):=by
  obtain ⟨xs,ps,s',ok,G',t',o,o1,o2,o3,o4,o5,o6,o7,o8⟩:=L_partsN hV dep hdep S 20 0 s1 [] [] [] [] rfl rfl rfl (by omega) (by simp) (by simp)
  refine ⟨.mk 5 0 [] xs [] ps,s',ok,.mk _ ⟨by simp [Val.kind],by simp [Val.kind],by simp [Val.n],by simp [Val.n],by simp [Val.s],by simp only [Val.names]; omega,o1,by simp [Val.ids],by simp [Val.ids],by simp only [Val.parts]; omega⟩ (fun p hp => (o2 p hp).1),depth_mk (fun p hp => (o2 p hp).2),o5,fun w r hw hr ht e => ?_,?_⟩
  · have k:=kind_first hr rfl e
    have k':w.kind=5:=by rw [k]; decide
    have A:=Val.right_at hr
    obtain ⟨a1,a2,a3,a6⟩:=A.k5 k'
    have a4:=A.s0 (by omega) (by omega)
    have a5:=A.n0 (by omega) (by omega)
    rw [Val.text_eq,if_neg (by omega),if_neg (by omega),if_neg (by omega),if_neg (by omega),if_pos k'] at e
    simp only [itemsN,body_items (fun n:Str => n)] at e
    have e1:s1=bt (fun n:Str => n) 61 (decide (0=0)) w.names w.parts ++ 125 :: r:=by simpa [bt] using e
    obtain ⟨f1,f2,f3,f4⟩:=o6 w.names w.parts r (goN_name _ none a3) (fun q hq => ⟨hw.all q hq,A.all q hq⟩) a2.symm (by omega) e1
    simp at f1 f2
    rw [f1,f2]
    exact ⟨(Val.eq_mk k' a5 a4 rfl a1 rfl).symm,f3,f4⟩
  · rw [run_dioptreref11_parts,DC_of c_dioptreref11_parts.eq_1]
    have o8':=o8 S.length
    have e0:vbN (S.length + 1) [] []=.mem [.int .i64 5,.int .i64 0,.str [],.nils,.nils,.nils] [] false:=rfl
    have ld:=L_partsN_load S
    have st:=L_partsN_store S
    rw [e0] at o8'
    simp only [zb] at o8' st
    have hsl:slSK (.str (123 :: s1)) (some (.int .i64 1)) none=some (.str s1):=by have:=slS_from (s:=123 :: s1) (n:=1) (by simp); simpa using this
    have s0:=fun l k off tips nb n => stTa (S:=S) (T:=S) rfl (show plainL [.int .i64 5,.int .i64 0,.str [],.nils,.nils,.nils]=true from rfl) l k off tips nb n
    have pr:∀ v:Val,plainRes (.tup [.agg v.enc,.str s',.bool ok])=true:=fun v => tupPl (by simp) _ _
    have p1:=rowS_datC (sz:=1) (plain_ncl xs)
    have p2:=rowS_datC (sz:=6) (plain_vcl ps)
    cases o
    · simp at o8'
      simp [hsl,fillEs,fillK,s0,splice]
      rw [DC_keep_of l_dioptreref11_parts_0.eq_1]
      simp [o8',rN_all,resK_asb _ _ _ _ _ _ (rN_normr xs ps) (pr _)]
    · have ok':=o7 rfl
      subst ok'
      simp at o8'
      simp [hsl,fillEs,fillK,s0,splice]
      rw [DC_keep_of l_dioptreref11_parts_0.eq_1]
      simp [o8',ld,st,rN_all,resK_asb _ _ _ _ _ _ (rN_normr xs ps) (pr _)]
include hV hdep hs in
theorem F_parts_lst:∃ v s' ok,Val.Wf v ∧ v.depth ≤ d + 1 + 1 ∧ s'.length ≤ s1.length ∧ (∀ w r,Val.Wf w → w.rightB (d + 1)=true → Term r → 91 :: s1=w.text ++ r → v=w ∧ s'=r ∧ ok=true) ∧
    DF lib nk 64 [.str (91 :: s1),.int .i64 dep] S=some (.tup [.agg v.enc,.str s',.bool ok],S):=by
  obtain ⟨xs,ps,s',ok,G',t',o,o1,o2,o3,o4,o5,o6,o7,o8⟩:=L_partsI hV dep hdep S 20 0 s1 [] [] [] [] rfl rfl rfl (by omega) (by simp) (by simp)
  refine ⟨.mk 6 0 [] [] xs ps,s',ok,.mk _ ⟨by simp [Val.kind],by simp [Val.kind],by simp [Val.n],by simp [Val.n],by simp [Val.s],by simp [Val.names],by simp [Val.names],by simp only [Val.ids]; omega,o1,by simp only [Val.parts]; omega⟩ (fun p hp => (o2 p hp).1),depth_mk (fun p hp => (o2 p hp).2),o5,fun w r hw hr ht e => ?_,?_⟩
  · have k:=kind_first hr rfl e
    have k':w.kind=6:=by rw [k]; decide
    have A:=Val.right_at hr
    obtain ⟨a1,a2,a3,a6⟩:=A.k6 k'
    have a4:=A.s0 (by omega) (by omega)
    have a5:=A.n0 (by omega) (by omega)
    rw [Val.text_eq,if_neg (by omega),if_neg (by omega),if_neg (by omega),if_neg (by omega),if_neg (by omega)] at e
    simp only [itemsI,body_items (fun n:Int => dec n.toNat)] at e
    have e1:s1=bt (fun n:Int => dec n.toNat) 58 (decide (0=0)) w.ids w.parts ++ 93 :: r:=by simpa [bt] using e
    obtain ⟨f1,f2,f3,f4⟩:=o6 w.ids w.parts r (fun y hy => hw.one.id y hy) (fun q hq => ⟨hw.all q hq,A.all q hq⟩) a2.symm (by omega) e1
    simp at f1 f2
    rw [f1,f2]
    exact ⟨(Val.eq_mk k' a5 a4 a1 rfl rfl).symm,f3,f4⟩
  · rw [run_dioptreref11_parts,DC_of c_dioptreref11_parts.eq_1]
    have o8':=o8 S.length
    have e0:vbI (S.length + 1) [] []=.mem [.int .i64 6,.int .i64 0,.str [],.nils,.nils,.nils] [] false:=rfl
    have ld:=L_partsI_load S
    have st:=L_partsI_store S
    rw [e0] at o8'
    simp only [zb] at o8' st
    have hsl:slSK (.str (91 :: s1)) (some (.int .i64 1)) none=some (.str s1):=by have:=slS_from (s:=91 :: s1) (n:=1) (by simp); simpa using this
    have s0:=fun l k off tips nb n => stTa (S:=S) (T:=S) rfl (show plainL [.int .i64 5,.int .i64 0,.str [],.nils,.nils,.nils]=true from rfl) l k off tips nb n
    have s2:=fun x l k off tips nb n => stT (S:=S) (T:=S) rfl (dat_int .i64 x) l k off tips nb n
    have pr:∀ v:Val,plainRes (.tup [.agg v.enc,.str s',.bool ok])=true:=fun v => tupPl (by simp) _ _
    have p1:=rowS_datC (sz:=1) (plain_icl xs)
    have p2:=rowS_datC (sz:=6) (plain_vcl ps)
    cases o
    · simp at o8'
      simp [hsl,fillEs,fillK,s0,s2,splice]
      rw [DC_keep_of l_dioptreref11_parts_0.eq_1]
      simp [o8',rI_all,resK_asb _ _ _ _ _ _ (rI_normr xs ps) (pr _)]
    · have ok':=o7 rfl
      subst ok'
      simp at o8'
      simp [hsl,fillEs,fillK,s0,s2,splice]
      rw [DC_keep_of l_dioptreref11_parts_0.eq_1]
      simp [o8',ld,st,rI_all,resK_asb _ _ _ _ _ _ (rI_normr xs ps) (pr _)]
end
end Go.Proofs.YtekgdmhdkhgpjaaGreatDoor.am

set_option linter.unusedSimpArgs false
set_option linter.unusedVariables false
namespace Go.Proofs.YtekgdmhdkhgpjaaGreatDoor.am
open Go
theorem depth_leaf (k n:Int) (s:Str) (d:Nat):Val.depth (.mk k n s [] [] []) ≤ d + 1:=by simp [Val.depth_eq,Val.parts,Val.depths]
theorem wf_zero:Val.Wf zeroV:=wf_mk (by decide) (by decide) (by decide) (by decide) (by decide)
theorem fmax1 (n:Int):foldMax (fun a b => decide (b < a)) .i64 1 [.int .i64 n]=some (.int .i64 (min 1 n)):=by
  have:(if n < 1 then n else 1)=min 1 n:=by split <;> omega
  simp [foldMax,this]
theorem slS_fst (b:UInt8) (t:Str):slSK (.str (b :: t)) (some (.int .i64 0)) (some (.int .i64 1))=some (.str [b]):=by
  have h:(1:Int) ≤ (t.length:Int) + 1:=by omega
  simp [slSK,bound,h]
theorem resK_mk (f:FuncId) (t:List (Option Nat)) (k n:Int) (s s':Str) (b:Bool) (S S':St):resK f t [.agg [.int .i64 k,.int .i64 n,.str s,.nils,.nils,.nils],.str s',.bool b] S S'=some (.tup [.agg (Val.mk k n s [] [] []).enc,.str s',.bool b],S'.take S.length) :=
  resK_asb f t s' b S S' (normr_mk k n s) (tupPl (by simp) _ _)
theorem text_ne {d:Nat} {w:Val} {r:Str} (hr:w.rightB (d + 1)=true) (e:([]:Str)=w.text ++ r):False:=by
  obtain ⟨b,t,e1,e2⟩:=(Val.right_at hr).text_first
  rw [e1] at e
  simp at e
theorem word_of {d:Nat} {w:Val} {r s:Str} (hw:w.Wf) (hr:w.rightB (d + 1)=true) (ht:Term r) (e:s=w.text ++ r) (h34:∀ t,s ≠ 34 :: t) (h123:∀ t,s ≠ 123 :: t) (h91:∀ t,s ≠ 91 :: t) :
    upto isStop s=w.text ∧ from' isStop s=r ∧ (w.kind=1 ∨ w.kind=2 ∨ w.kind=4):=by
  have A:=Val.right_at hr
  have key:(w.kind=1 ∨ w.kind=2 ∨ w.kind=4) ∧ ∀ x ∈ w.text,isStop x=false:=by
    rcases A.kind with k | k | k | k | k | k
    · refine ⟨.inl k,?_⟩
      rw [Val.text_eq,if_pos k]
      split <;> decide
    · refine ⟨.inr (.inl k),fun x hx => ?_⟩
      rw [Val.text_eq,if_neg (by omega),if_pos k] at hx
      rcases decI_chars w.n x hx with e | e
      · subst e; rfl
      · exact stop_not ⟨(dig_not e).1,(dig_not e).2.1,(dig_not e).2.2.1⟩
    · exfalso
      rw [Val.text_eq,if_neg (by omega),if_neg (by omega),if_pos k] at e
      exact h34 _ e
    · refine ⟨.inr (.inr k),fun x hx => ?_⟩
      rw [Val.text_eq,if_neg (by omega),if_neg (by omega),if_neg (by omega),if_pos k] at hx
      simp at hx
      rcases hx with hx | hx
      · subst hx; rfl
      · have:=nameR_not (nameB_chars (A.s4 k) x hx)
        exact stop_not ⟨this.1,this.2.1,this.2.2.1⟩
    · exfalso
      rw [Val.text_eq,if_neg (by omega),if_neg (by omega),if_neg (by omega),if_neg (by omega),if_pos k] at e
      exact h123 _ e
    · exfalso
      rw [Val.text_eq,if_neg (by omega),if_neg (by omega),if_neg (by omega),if_neg (by omega),if_neg (by omega)] at e
      exact h91 _ e
  obtain ⟨e2,e3⟩:=upto_eq (p:=isStop) key.2 ht
  rw [← e] at e2 e3
  exact ⟨e2,e3,key.1⟩
section
variable {d:Nat} (dep:Int) (hd:dep ≤ 5) (S:St) (s:Str)
def RR (d:Nat) (s:Str) (S:St) (dep:Int) (v:Val) (s':Str) (ok:Bool):Prop:=Val.Wf v ∧ v.depth ≤ d + 1 + 1 ∧ s'.length ≤ s.length ∧
  (∀ w r,Val.Wf w → w.rightB (d + 1)=true → Term r → s=w.text ++ r → v=w ∧ s'=r ∧ ok=true) ∧
  DF lib nk 36 [.str s,.int .i64 dep] S=some (.tup [.agg v.enc,.str s',.bool ok],S)
include hd in
theorem Read_text (s1:Str) (hs:s1.length < 1000000000):∃ v s' ok,RR d (34 :: s1) S dep v s' ok:=by
  obtain ⟨txt,i',out',tips',bad,o1,o2,o3,o4,o5⟩:=L_ReadText (34 :: s1) (by simp; omega) S (s1.length + 1) 1 [] .nils [] (by simp) (by simp) (.inl ⟨rfl,rfl,rfl⟩) (by simp)
  have hd':¬ 5 < dep:=by omega
  have s0:=fun l k off tips nb n => stTa (S:=S) (T:=S) rfl plain_zv l k off tips nb n
  have s00:=fun l off tips nb n => stTa0 (S:=S) (T:=S) rfl plain_zv l off tips nb n
  have s1':=fun n1 n2 s l off tips nb n => stTa0 (S:=S) (T:=S) rfl (show plainL [.int .i64 n1,.int .i64 n2,.str s,.nils,.nils,.nils]=true from rfl) l off tips nb n
  have pr:∀ (v:Val) s' ok,plainRes (.tup [.agg v.enc,.str s',.bool ok])=true:=fun v _ _ => tupPl (by simp) _ _
  have o5':=o5 S.length
  have e34:∀ (w:Val) r,w.rightB (d + 1)=true → 34 :: s1=w.text ++ r → w.kind=3 ∧ s1=quoteB w.s ++ 34 :: r:=by
    intro w r hr e
    have k:=kind_first hr rfl e
    have k':w.kind=3:=by rw [k]; decide
    rw [Val.text_eq,if_neg (by omega),if_neg (by omega),if_pos k'] at e
    refine ⟨k',?_⟩
    simpa [quoteT] using e
  cases bad
  · by_cases hi:i' < (34 :: s1).length
    · refine ⟨.mk 3 0 txt [] [] [],(34 :: s1).drop (i' + 1),true,wf_mk (by decide) (by decide) (by decide) (by decide) (by simp at o3 o1; omega),depth_leaf _ _ _ _,by simp; omega,fun w r hw hr ht e => ?_,?_⟩
      · obtain ⟨k',e1⟩:=e34 w r hr e
        have A:=Val.right_at hr
        obtain ⟨a1,a2,a3⟩:=A.bare (by omega) (by omega)
        have a5:=A.n0 (by omega) (by omega)
        obtain ⟨_,f2,f3⟩:=o4 w.s r (by simpa using e1)
        refine ⟨(Val.eq_mk k' a5 f2.symm a1 a2 a3).symm,?_,rfl⟩
        rw [← List.drop_drop,f3]; rfl
      · have h6:¬ ((s1.length:Int) + 1 ≤ i'):=by simp at hi; omega
        have w1:IntKind.wrap .i64 ((i':Int) + 1)=((i' + 1:Nat):Int):=by rw [wrap_i64 _ (by simp at o1; omega) (by simp at o1; omega)]; omega
        have hsl:=slS_from (s:=34 :: s1) (n:=i' + 1) (by omega)
        generalize hD:(34 :: s1).drop (i' + 1)=D at *
        generalize i' + 1=I1 at *
        simp [zb] at o5' hsl
        rw [run_dioptreref11_Read,DC_of c_dioptreref11_Read.eq_1]
        simp [hd',fillEs,fillK,s0,splice]
        rw [DC_keep_of l_dioptreref11_Read_0.eq_1]
        rcases o2 with ⟨e,rfl,rfl⟩ | ⟨rfl,rfl⟩
        · simp at e
          subst e
          simp [o5',h6,cvBK,w1,hsl,fillEs,fillK,s1',splice,partK,sub,normr_mk,fmax1,resK_mk,pr]
        · simp [o5',h6,cvBK,bytesTo_bcl,w1,hsl,fillEs,fillK,s1',splice,partK,sub,normr_mk,fmax1,resK_mk,pr]
    · refine ⟨zeroV,34 :: s1,false,wf_zero,depth_leaf _ _ _ _,Nat.le_refl _,fun w r hw hr ht e => ?_,?_⟩
      · exfalso
        obtain ⟨k',e1⟩:=e34 w r hr e
        obtain ⟨_,f2,f3⟩:=o4 w.s r (by simpa using e1)
        rw [List.drop_eq_nil_of_le (by omega)] at f3
        cases f3
      · have h6:((34 :: s1).length:Int) ≤ i':=by omega
        simp [zb] at o5' h6
        rw [run_dioptreref11_Read,DC_of c_dioptreref11_Read.eq_1]
        simp [hd',fillEs,fillK,s0,splice]
        rw [DC_keep_of l_dioptreref11_Read_0.eq_1]
        simp [o5',h6,fillEs,fillK,s00,splice,partK,sub,normr_mk,fmax1,resK_mk,pr,zeroV]
  · refine ⟨zeroV,34 :: s1,false,wf_zero,depth_leaf _ _ _ _,Nat.le_refl _,fun w r hw hr ht e => ?_,?_⟩
    · exfalso
      obtain ⟨k',e1⟩:=e34 w r hr e
      obtain ⟨f1,_,_⟩:=o4 w.s r (by simpa using e1)
      cases f1
    · simp [zb] at o5'
      rw [run_dioptreref11_Read,DC_of c_dioptreref11_Read.eq_1]
      simp [hd',fillEs,fillK,s0,splice]
      rw [DC_keep_of l_dioptreref11_Read_0.eq_1]
      simp [o5',fillEs,fillK,s00,splice,partK,sub,normr_mk,fmax1,resK_mk,pr,zeroV]
include hd in
theorem Read_word (c:UInt8) (s1:Str) (hs:s1.length < 1000000000) (n34:¬ c=34) (n123:¬ c=123) (n91:¬ c=91):∃ v s' ok,RR d (c :: s1) S dep v s' ok:=by
  have hd':¬ 5 < dep:=by omega
  have s0:=fun l k off tips nb n => stTa (S:=S) (T:=S) rfl plain_zv l k off tips nb n
  have s00:=fun l off tips nb n => stTa0 (S:=S) (T:=S) rfl plain_zv l off tips nb n
  have s1':=fun n1 n2 s l off tips nb n => stTa0 (S:=S) (T:=S) rfl (show plainL [.int .i64 n1,.int .i64 n2,.str s,.nils,.nils,.nils]=true from rfl) l off tips nb n
  have pr:∀ (v:Val) s' ok,plainRes (.tup [.agg v.enc,.str s',.bool ok])=true:=fun v _ _ => tupPl (by simp) _ _
  have m34:¬ (c.toNat:Int)=34:=fun h => n34 (UInt8.toNat_inj.1 (by rw [show c.toNat=34 by omega]; rfl))
  have m123:¬ (c.toNat:Int)=123:=fun h => n123 (UInt8.toNat_inj.1 (by rw [show c.toNat=123 by omega]; rfl))
  have m91:¬ (c.toNat:Int)=91:=fun h => n91 (UInt8.toNat_inj.1 (by rw [show c.toNat=91 by omega]; rfl))
  have hw0:∀ w r,Val.Wf w → w.rightB (d + 1)=true → Term r → c :: s1=w.text ++ r → upto isStop (c :: s1)=w.text ∧ from' isStop (c :: s1)=r ∧ (w.kind=1 ∨ w.kind=2 ∨ w.kind=4):=fun w r hw hr ht e =>
    word_of hw hr ht e (by intro t h; simp at h; exact n34 h.1) (by intro t h; simp at h; exact n123 h.1) (by intro t h; simp at h; exact n91 h.1)
  have fc:=fun S => F_dioptreref11_cut (c :: s1) (by simp; omega) 44 125 93 S
  rw [show isOf 44 125 93=isStop from rfl] at fc
  obtain ⟨u1,u2⟩:=upto_le isStop (c :: s1)
  simp at fc
  generalize upto isStop (c :: s1)=word at *
  generalize from' isStop (c :: s1)=rest at *
  by_cases h1:word=[116,114,117,101]
  · subst h1
    refine ⟨.mk 1 1 [] [] [] [],rest,true,wf_mk (by decide) (by decide) (by decide) (by decide) (by decide),depth_leaf _ _ _ _,u2,fun w r hw hr ht e => ?_,?_⟩
    · obtain ⟨f1,f2,f3⟩:=hw0 w r hw hr ht e
      have k:=kind_first hr rfl (show [116,114,117,101]=w.text ++ [] by rw [f1]; simp)
      have k':w.kind=1:=by rw [k]; decide
      have A:=Val.right_at hr
      obtain ⟨a1,a2,a3⟩:=A.bare (by omega) (by omega)
      have a4:=A.s0 (by omega) (by omega)
      rw [Val.text_eq,if_pos k'] at f1
      rcases A.n1 k' with n | n
      · rw [n,if_neg (by decide)] at f1; exact absurd f1 (by decide)
      · exact ⟨(Val.eq_mk k' n a4 a1 a2 a3).symm,f2,rfl⟩
    · rw [run_dioptreref11_Read,DC_of c_dioptreref11_Read.eq_1]
      simp [takeRet,takeResL,takeRes,evExtract,hd',n34,n123,n91,m34,m123,m91,fc,fillEs,fillK,s0,s1',splice,partK,sub,normr_mk,fmax1,resK_mk,pr]
  by_cases h2:word=[102,97,108,115,101]
  · subst h2
    refine ⟨.mk 1 0 [] [] [] [],rest,true,wf_mk (by decide) (by decide) (by decide) (by decide) (by decide),depth_leaf _ _ _ _,u2,fun w r hw hr ht e => ?_,?_⟩
    · obtain ⟨f1,f2,f3⟩:=hw0 w r hw hr ht e
      have k:=kind_first hr rfl (show [102,97,108,115,101]=w.text ++ [] by rw [f1]; simp)
      have k':w.kind=1:=by rw [k]; decide
      have A:=Val.right_at hr
      obtain ⟨a1,a2,a3⟩:=A.bare (by omega) (by omega)
      have a4:=A.s0 (by omega) (by omega)
      rw [Val.text_eq,if_pos k'] at f1
      rcases A.n1 k' with n | n
      · exact ⟨(Val.eq_mk k' n a4 a1 a2 a3).symm,f2,rfl⟩
      · rw [n,if_pos rfl] at f1; exact absurd f1 (by decide)
    · rw [run_dioptreref11_Read,DC_of c_dioptreref11_Read.eq_1]
      simp [takeRet,takeResL,takeRes,evExtract,hd',n34,n123,n91,m34,m123,m91,fc,fillEs,fillK,s0,s1',splice,partK,sub,normr_mk,fmax1,resK_mk,pr]
  by_cases h3:∃ t,word=35 :: t
  · obtain ⟨t,rfl⟩:=h3
    simp at u1
    refine ⟨.mk 4 0 t [] [] [],rest,true,wf_mk (by decide) (by decide) (by decide) (by decide) (by omega),depth_leaf _ _ _ _,u2,fun w r hw hr ht e => ?_,?_⟩
    · obtain ⟨f1,f2,f3⟩:=hw0 w r hw hr ht e
      have k:=kind_first hr rfl (show 35 :: t=w.text ++ [] by rw [f1]; simp)
      have k':w.kind=4:=by rw [k]; decide
      have A:=Val.right_at hr
      obtain ⟨a1,a2,a3⟩:=A.bare (by omega) (by omega)
      have a5:=A.n0 (by omega) (by omega)
      rw [Val.text_eq,if_neg (by omega),if_neg (by omega),if_neg (by omega),if_pos k'] at f1
      simp at f1
      exact ⟨(Val.eq_mk k' a5 f1.symm a1 a2 a3).symm,f2,rfl⟩
    · have hsl:slSK (.str (35 :: t)) (some (.int .i64 1)) none=some (.str t):=by have:=slS_from (s:=35 :: t) (n:=1) (by simp); simpa using this
      have hs0:slSK (.str (35 :: t)) (some (.int .i64 0)) (some (.int .i64 1))=some (.str [35]):=slS_fst 35 t
      have hmin:min (1:Int) ((t.length:Int) + 1)=1:=by omega
      rw [run_dioptreref11_Read,DC_of c_dioptreref11_Read.eq_1]
      simp [takeRet,takeResL,takeRes,evExtract,hd',n34,n123,n91,m34,m123,m91,fc,hsl,hs0,hmin,fillEs,fillK,s0,s1',splice,partK,sub,normr_mk,fmax1,resK_mk,pr]
  have bad:(∀ w r,Val.Wf w → w.rightB (d + 1)=true → Term r → c :: s1=w.text ++ r → False) → DF lib nk 36 [.str (c :: s1),.int .i64 dep] S=some (.tup [.agg zeroV.enc,.str (c :: s1),.bool false],S) → ∃ v s' ok,RR d (c :: s1) S dep v s' ok:=by
    intro h h'
    exact ⟨zeroV,c :: s1,false,wf_zero,depth_leaf _ _ _ _,Nat.le_refl _,fun w r hw hr ht e => (h w r hw hr ht e).elim,h'⟩
  -- a number
  have hnum:∀ w r,Val.Wf w → w.rightB (d + 1)=true → Term r → c :: s1=w.text ++ r → w=.mk 2 w.n [] [] [] [] ∧ word=decI w.n ∧ rest=r:=by
    intro w r hw hr ht e
    obtain ⟨f1,f2,f3⟩:=hw0 w r hw hr ht e
    have A:=Val.right_at hr
    rcases f3 with k' | k' | k'
    · exfalso
      rw [Val.text_eq,if_pos k'] at f1
      split at f1
      · exact h1 f1
      · exact h2 f1
    · obtain ⟨a1,a2,a3⟩:=A.bare (by omega) (by omega)
      have a4:=A.s0 (by omega) (by omega)
      rw [Val.text_eq,if_neg (by omega),if_pos k'] at f1
      exact ⟨Val.eq_mk k' rfl a4 a1 a2 a3,f1,f2⟩
    · exfalso
      rw [Val.text_eq,if_neg (by omega),if_neg (by omega),if_neg (by omega),if_pos k'] at f1
      exact h3 ⟨_,f1⟩
  have hs0:slSK (.str word) (some (.int .i64 0)) (some (.int .i64 (min (1:Int) (word.length:Int))))=some (.str (word.take 1)) ∧ ¬ word.take 1=[35]:=by
    cases word with
    | nil => exact ⟨by rw [show min (1:Int) ((([]:Str).length:Nat):Int)=0 from rfl]; rfl,by simp⟩
    | cons b t =>
      have hmin:min (1:Int) (((b :: t).length:Nat):Int)=1:=by simp; omega
      refine ⟨by rw [hmin]; exact slS_fst b t,fun h => h3 ⟨t,?_⟩⟩
      simp at h
      rw [h]
  by_cases h4:∃ t,word=45 :: t
  · obtain ⟨t,rfl⟩:=h4
    simp at u1
    have hsl:slSK (.str (45 :: t)) (some (.int .i64 1)) none=some (.str t):=by have:=slS_from (s:=45 :: t) (n:=1) (by simp); simpa using this
    have hmin:min (1:Int) ((t.length:Int) + 1)=1:=by omega
    have hs1:slSK (.str (45 :: t)) (some (.int .i64 0)) (some (.int .i64 1))=some (.str [45]):=slS_fst 45 t
    obtain ⟨v,ok,n1,n2,n3,n4⟩:=F_dioptreref11_number t (by omega) (S ++ [zb,zb])
    simp only [zb] at n4
    have hlt:(t.length:Int) < (t.length:Int) + 1:=by omega
    have hcor:∀ w r,Val.Wf w → w.rightB (d + 1)=true → Term r → c :: s1=w.text ++ r → ok=true ∧ 0 < v ∧ v ≤ 9223372036854775808 ∧ w=.mk 2 (-(v:Int)) [] [] [] [] ∧ rest=r:=by
      intro w r hw hr ht e
      obtain ⟨f1,f2,f3⟩:=hnum w r hw hr ht e
      have w0:=hw.one.n0
      have w1:=hw.one.n1
      unfold decI at f2
      split at f2
      · simp at f2
        obtain ⟨g1,g2⟩:=n3 w.n.natAbs (by omega) f2
        have g3:w.n=-(v:Int):=by omega
        rw [g3] at f1
        exact ⟨g2,by omega,by omega,f1,f3⟩
      · exfalso
        obtain ⟨b,u,e1,e2⟩:=dec_cons w.n.toNat
        rw [e1] at f2
        simp at f2
        rw [← f2.1] at e2
        exact absurd e2 (by decide)
    cases ok
    · refine bad (fun w r hw hr ht e => by have:=(hcor w r hw hr ht e).1; cases this) ?_
      rw [run_dioptreref11_Read,DC_of c_dioptreref11_Read.eq_1]
      simp [takeRet,takeResL,takeRes,evExtract,hd',n34,n123,n91,m34,m123,m91,fc,hsl,hs1,hmin,n4,r_dioptreref11_Read_1,evUn,hlt,fillEs,fillK,s0,s00,splice,partK,sub,normr_mk,fmax1,resK_mk,pr,zeroV]
    by_cases h5:9223372036854775808 < v
    · refine bad (fun w r hw hr ht e => by have:=(hcor w r hw hr ht e).2.2.1; omega) ?_
      have h5':(9223372036854775808:Int) < (v:Int):=by omega
      rw [run_dioptreref11_Read,DC_of c_dioptreref11_Read.eq_1]
      simp [takeRet,takeResL,takeRes,evExtract,hd',n34,n123,n91,m34,m123,m91,fc,hsl,hs1,hmin,n4,r_dioptreref11_Read_1,evUn,hlt,h5,h5',fillEs,fillK,s0,s00,splice,partK,sub,normr_mk,fmax1,resK_mk,pr,zeroV]
    have h5':¬ (9223372036854775808:Int) < (v:Int):=by omega
    by_cases h6:v=0
    · refine bad (fun w r hw hr ht e => by have:=(hcor w r hw hr ht e).2.1; omega) ?_
      subst h6
      rw [run_dioptreref11_Read,DC_of c_dioptreref11_Read.eq_1]
      simp at n4
      simp [takeRet,takeResL,takeRes,evExtract,hd',n34,n123,n91,m34,m123,m91,fc,hsl,hs1,hmin,n4,r_dioptreref11_Read_1,evUn,hlt,fillEs,fillK,s0,s00,splice,partK,sub,normr_mk,fmax1,resK_mk,pr,zeroV]
    have h6':¬ (v:Int)=0:=by omega
    refine ⟨.mk 2 (-(v:Int)) [] [] [] [],rest,true,wf_mk (by decide) (by decide) (by omega) (by omega) (by decide),depth_leaf _ _ _ _,u2,fun w r hw hr ht e => ?_,?_⟩
    · obtain ⟨_,_,_,f4,f5⟩:=hcor w r hw hr ht e
      exact ⟨f4.symm,f5,rfl⟩
    · have w1:IntKind.wrap .u64 ((v:Int) - 1)=(v:Int) - 1:=wrap_u64 _ (by omega) (by omega)
      have w2:IntKind.wrap .i64 ((v:Int) - 1)=(v:Int) - 1:=wrap_i64 _ (by omega) (by omega)
      have w3:IntKind.wrap .i64 (-((v:Int) - 1))=-((v:Int) - 1):=wrap_i64 _ (by omega) (by omega)
      have w3':IntKind.wrap .i64 (1 - (v:Int))=1 - (v:Int):=wrap_i64 _ (by omega) (by omega)
      have w4:IntKind.wrap .i64 (-((v:Int) - 1) - 1)=-(v:Int):=by rw [wrap_i64 _ (by omega) (by omega)]; omega
      have w4':IntKind.wrap .i64 (1 - (v:Int) - 1)=-(v:Int):=by rw [wrap_i64 _ (by omega) (by omega)]; omega
      rw [run_dioptreref11_Read,DC_of c_dioptreref11_Read.eq_1]
      simp [takeRet,takeResL,takeRes,evExtract,hd',n34,n123,n91,m34,m123,m91,fc,hsl,hs1,hmin,n4,r_dioptreref11_Read_1,evUn,hlt,h5,h5',h6,h6',w1,w2,w3,w3',w4,w4',fillEs,fillK,s0,s1',splice,partK,sub,normr_mk,fmax1,resK_mk,pr]
  · have h4':word=[] ∨ ∃ b t,word=b :: t ∧ ¬ b=45 ∧ ¬ (b.toNat:Int)=45 ∧ ¬ b=35 ∧ ¬ (b.toNat:Int)=35:=by
      cases word with
      | nil => exact .inl rfl
      | cons b t =>
        have e1:¬ b=45:=fun e => h4 ⟨t,by rw [e]⟩
        have e2:¬ b=35:=fun e => h3 ⟨t,by rw [e]⟩
        exact .inr ⟨b,t,rfl,e1,fun e => e1 (UInt8.toNat_inj.1 (by rw [show b.toNat=45 by omega]; rfl)),e2,fun e => e2 (UInt8.toNat_inj.1 (by rw [show b.toNat=35 by omega]; rfl))⟩
    obtain ⟨v,ok,n1,n2,n3,n4⟩:=F_dioptreref11_number word (by simp at u1; omega) (S ++ [zb,zb])
    simp only [zb] at n4
    have hcor:∀ w r,Val.Wf w → w.rightB (d + 1)=true → Term r → c :: s1=w.text ++ r → ok=true ∧ v < 9223372036854775808 ∧ w=.mk 2 (v:Int) [] [] [] [] ∧ rest=r:=by
      intro w r hw hr ht e
      obtain ⟨f1,f2,f3⟩:=hnum w r hw hr ht e
      have w0:=hw.one.n0
      have w1:=hw.one.n1
      unfold decI at f2
      split at f2
      · exact absurd ⟨_,f2⟩ h4
      · obtain ⟨g1,g2⟩:=n3 w.n.toNat (by omega) f2
        have g3:w.n=(v:Int):=by omega
        rw [g3] at f1
        exact ⟨g2,by omega,f1,f3⟩
    obtain ⟨hs2,hs3⟩:=hs0
    have hno:ok=false → DF lib nk 36 [.str (c :: s1),.int .i64 dep] S=some (.tup [.agg zeroV.enc,.str (c :: s1),.bool false],S):=by
      intro hok
      subst hok
      rw [run_dioptreref11_Read,DC_of c_dioptreref11_Read.eq_1]
      rcases h4' with rfl | ⟨b,t,rfl,g1,g2,g3,g4⟩
      · simp at hs2
        simp [takeRet,takeResL,takeRes,evExtract,hd',n34,n123,n91,m34,m123,m91,fc,hs2,n4,r_dioptreref11_Read_1,evUn,fillEs,fillK,s0,s00,splice,partK,sub,normr_mk,fmax1,resK_mk,pr,zeroV]
      · have hmin:min (1:Int) ((t.length:Int) + 1)=1:=by omega
        simp [hmin] at hs2
        have h1:¬ (b=116 ∧ t=[114,117,101]):=fun e => h1 (by rw [e.1,e.2])
        have h2:¬ (b=102 ∧ t=[97,108,115,101]):=fun e => h2 (by rw [e.1,e.2])
        simp [takeRet,takeResL,takeRes,evExtract,hd',n34,n123,n91,m34,m123,m91,fc,h1,h2,hs2,g1,g2,g3,g4,hmin,n4,r_dioptreref11_Read_1,evUn,fillEs,fillK,s0,s00,splice,partK,sub,normr_mk,fmax1,resK_mk,pr,zeroV]
    cases ok
    · exact bad (fun w r hw hr ht e => by have:=(hcor w r hw hr ht e).1; cases this) (hno rfl)
    have hne:=n2 rfl
    rcases h4' with rfl | ⟨b,t,rfl,g1,g2,g3,g4⟩
    · exact absurd rfl hne
    have hmin:min (1:Int) ((t.length:Int) + 1)=1:=by omega
    simp [hmin] at hs2
    have h1:¬ (b=116 ∧ t=[114,117,101]):=fun e => h1 (by rw [e.1,e.2])
    have h2:¬ (b=102 ∧ t=[97,108,115,101]):=fun e => h2 (by rw [e.1,e.2])
    by_cases h5:9223372036854775807 < v
    · refine bad (fun w r hw hr ht e => by have:=(hcor w r hw hr ht e).2.1; omega) ?_
      have h5':(9223372036854775807:Int) < (v:Int):=by omega
      rw [run_dioptreref11_Read,DC_of c_dioptreref11_Read.eq_1]
      simp [takeRet,takeResL,takeRes,evExtract,hd',n34,n123,n91,m34,m123,m91,fc,h1,h2,hs2,g1,g2,g3,g4,hmin,n4,r_dioptreref11_Read_1,evUn,h5,h5',fillEs,fillK,s0,s00,splice,partK,sub,normr_mk,fmax1,resK_mk,pr,zeroV]
    have h5':¬ (9223372036854775807:Int) < (v:Int):=by omega
    refine ⟨.mk 2 (v:Int) [] [] [] [],rest,true,wf_mk (by decide) (by decide) (by omega) (by omega) (by decide),depth_leaf _ _ _ _,u2,fun w r hw hr ht e => ?_,?_⟩
    · obtain ⟨_,_,f4,f5⟩:=hcor w r hw hr ht e
      exact ⟨f4.symm,f5,rfl⟩
    · have w2:IntKind.wrap .i64 (v:Int)=(v:Int):=wrap_i64 _ (by omega) (by omega)
      rw [run_dioptreref11_Read,DC_of c_dioptreref11_Read.eq_1]
      simp [takeRet,takeResL,takeRes,evExtract,hd',n34,n123,n91,m34,m123,m91,fc,h1,h2,hs2,g1,g2,g3,g4,hmin,n4,r_dioptreref11_Read_1,evUn,h5,h5',w2,fillEs,fillK,s0,s1',splice,partK,sub,normr_mk,fmax1,resK_mk,pr]
end
theorem RS_zero:RS 0:=by
  intro s S hs
  have s0:=fun l k off tips nb n => stTa (S:=S) (T:=S) rfl plain_zv l k off tips nb n
  have s00:=fun l off tips nb n => stTa0 (S:=S) (T:=S) rfl plain_zv l off tips nb n
  have pr:∀ (v:Val) s' ok,plainRes (.tup [.agg v.enc,.str s',.bool ok])=true:=fun v _ _ => tupPl (by simp) _ _
  refine ⟨zeroV,s,false,wf_zero,depth_leaf _ _ _ _,Nat.le_refl _,fun w r hw hr => by simp [Val.rightB] at hr,?_⟩
  rw [run_dioptreref11_Read,DC_of c_dioptreref11_Read.eq_1]
  by_cases e:s=[]
  · subst e
    simp [takeRet,takeResL,takeRes,evExtract,fillEs,fillK,s0,s00,splice,partK,sub,normr_mk,fmax1,resK_mk,pr,zeroV]
  · obtain ⟨b,t,rfl⟩:=List.exists_cons_of_ne_nil e
    simp [takeRet,takeResL,takeRes,evExtract,e,fillEs,fillK,s0,s00,splice,partK,sub,normr_mk,fmax1,resK_mk,pr,zeroV]
theorem RS_succ {d:Nat} (hd:d ≤ 4) (hV:RS d):RS (d + 1):=by
  intro s S hs
  have hdep:IntKind.wrap .i64 (6 - ((d + 1:Nat):Int) + 1)=6 - (d:Int):=by rw [wrap_i64 _ (by omega) (by omega)]; omega
  have hdl:6 - ((d + 1:Nat):Int) ≤ 5:=by omega
  generalize 6 - ((d + 1:Nat):Int)=dep at *
  have s0:=fun l k off tips nb n => stTa (S:=S) (T:=S) rfl plain_zv l k off tips nb n
  have s00:=fun l off tips nb n => stTa0 (S:=S) (T:=S) rfl plain_zv l off tips nb n
  have hd':¬ 5 < dep:=by omega
  have pr:∀ (v:Val) s' ok,plainRes (.tup [.agg v.enc,.str s',.bool ok])=true:=fun v _ _ => tupPl (by simp) _ _
  have pt:∀ (c:UInt8) s1,(c=123 ∨ c=91) → (∃ v s' ok,Val.Wf v ∧ v.depth ≤ d + 1 + 1 ∧ s'.length ≤ s1.length ∧ (∀ w r,Val.Wf w → w.rightB (d + 1)=true → Term r → c :: s1=w.text ++ r → v=w ∧ s'=r ∧ ok=true) ∧
      DF lib nk 64 [.str (c :: s1),.int .i64 dep] (S ++ [zb,zb])=some (.tup [.agg v.enc,.str s',.bool ok],S ++ [zb,zb])) → ∃ v s' ok,RR d (c :: s1) S dep v s' ok:=by
    rintro c s1 hc ⟨v,s',ok,v1,v2,v3,v4,v5⟩
    refine ⟨v,s',ok,v1,v2,by simp; omega,v4,?_⟩
    have s1':=fun l off tips nb n => stTa0 (S:=S) (T:=S) rfl (plain_enc v) l off tips nb n
    have rv:=fun f t s b S S' => resK_asb f t (X:=v.enc) (E:=v.enc) s b S S' (normr_dat (by simp)) (pr v s b)
    simp only [zb] at v5
    rw [run_dioptreref11_Read,DC_of c_dioptreref11_Read.eq_1]
    rcases hc with rfl | rfl
    · simp [takeRet,takeResL,takeRes,evExtract,hd',fillEs,fillK,s0,s00,s1',splice,v5,pr,rv]
    · simp [takeRet,takeResL,takeRes,evExtract,hd',fillEs,fillK,s0,s00,s1',splice,v5,pr,rv]
  cases s with
  | nil =>
    refine ⟨zeroV,[],false,wf_zero,depth_leaf _ _ _ _,Nat.le_refl _,fun w r hw hr ht e => (text_ne hr e).elim,?_⟩
    rw [run_dioptreref11_Read,DC_of c_dioptreref11_Read.eq_1]
    simp [takeRet,takeResL,takeRes,evExtract,fillEs,fillK,s0,s00,splice,partK,sub,normr_mk,fmax1,resK_mk,pr,zeroV]
  | cons c s1 =>
    simp at hs
    have key:∃ v s' ok,RR d (c :: s1) S dep v s' ok:=by
      by_cases h1:c=34
      · subst h1; exact Read_text dep hdl S s1 (by omega)
      by_cases h2:c=123
      · subst h2; exact pt _ s1 (.inl rfl) (F_parts_rec hV dep hdep _ s1 (by omega))
      by_cases h3:c=91
      · subst h3; exact pt _ s1 (.inr rfl) (F_parts_lst hV dep hdep _ s1 (by omega))
      exact Read_word dep hdl S c s1 (by omega) h1 h2 h3
    obtain ⟨v,s',ok,k1,k2,k3,k4,k5⟩:=key
    exact ⟨v,s',ok,k1,k2,k3,k4,k5⟩
theorem RS_all:∀ d:Nat,d ≤ 5 → RS d
  | 0,_ => RS_zero
  | d + 1,h => RS_succ (by omega) (RS_all d (by omega))
end Go.Proofs.YtekgdmhdkhgpjaaGreatDoor.am

set_option linter.unusedSimpArgs false
set_option linter.unusedVariables false
namespace Go.Proofs.YtekgdmhdkhgpjaaGreatDoor.am
open Go
theorem plainRes_vb {a:AV} (h:Dat a) (b:Bool):plainRes (.tup [a,.bool b])=true:=plainRes_two h (by simp)
theorem F_dioptreref11_Parse (s:Str) (hs:s.length ≤ 1000000000) (S:St):∃ r,PR s r ∧ DF lib nk 22 [.str s] S=some (.tup [.agg (r.getD zeroV).enc,.bool r.isSome],S):=by
  obtain ⟨v,s',ok,v1,v2,v3,v4,v5⟩:=RS_all 5 (by decide) s (S ++ [zb]) hs
  have s0:=fun l k off tips nb n => stTa (S:=S) (T:=S) rfl plain_zv l k off tips nb n
  have s00:=fun l off tips nb n => stTa0 (S:=S) (T:=S) rfl plain_zv l off tips nb n
  have s1:=fun l k off tips nb n => stTa (S:=S) (T:=S) rfl (plain_enc v) l k off tips nb n
  have s11:=fun l off tips nb n => stTa0 (S:=S) (T:=S) rfl (plain_enc v) l off tips nb n
  have pr:∀ (v:Val) ok,plainRes (.tup [.agg v.enc,.bool ok])=true:=fun v _ => plainRes_vb (by simp) _
  have nT:Term []:=fun b h => (by cases h)
  have v5':DF lib nk 36 [.str s,.int .i64 1] (S ++ [zb])=some (.tup [.agg v.enc,.str s',.bool ok],S ++ [zb]):=v5
  simp only [zb] at v5'
  have e1:=F_dioptreref08_Right v v1 (by omega)
  have e2:=F_dioptreref11_Text 5 v (by omega) v1
  by_cases hc:ok=true ∧ s'=[] ∧ v.rightB 5=true ∧ v.text=s
  · obtain ⟨rfl,rfl,c2,c3⟩:=hc
    refine ⟨some v,⟨fun w hw hr ht => ?_,fun u hu => by cases hu; exact ⟨v1,c2,c3⟩⟩,?_⟩
    · obtain ⟨f1,_,_⟩:=v4 w [] hw hr nT (by simp [ht])
      rw [f1]
    · rw [c2] at e1
      have e2:=e2 c2
      rw [c3] at e2
      rw [run_dioptreref11_Parse,DC_of c_dioptreref11_Parse.eq_1]
      simp [takeRet,takeResL,takeRes,evExtract,r_dioptreref11_Parse_0,fillEs,fillK,splice,v5',s0,s00,s1,s11,pr,partK_zv,e1,e2,evUn]
  · refine ⟨none,⟨fun w hw hr ht => ?_,fun u hu => by cases hu⟩,?_⟩
    · obtain ⟨f1,f2,f3⟩:=v4 w [] hw hr nT (by simp [ht])
      exact absurd ⟨f3,f2,by rw [f1]; exact hr,by rw [f1]; exact ht⟩ hc
    · rw [run_dioptreref11_Parse,DC_of c_dioptreref11_Parse.eq_1]
      cases ok
      · simp [takeRet,takeResL,takeRes,evExtract,r_dioptreref11_Parse_0,fillEs,fillK,splice,v5',s0,s00,s1,s11,pr,partK_zv,normr_mk,evUn,zeroV]
      · by_cases h1:s'=[]
        · cases r:v.rightB 5
          · rw [r] at e1
            simp [takeRet,takeResL,takeRes,evExtract,r_dioptreref11_Parse_0,fillEs,fillK,splice,v5',h1,s0,s00,s1,s11,pr,partK_zv,normr_mk,e1,evUn,zeroV]
          · have c3:¬ v.text=s:=fun e => hc ⟨rfl,h1,r,e⟩
            rw [r] at e1
            have e2:=e2 r
            simp [takeRet,takeResL,takeRes,evExtract,r_dioptreref11_Parse_0,fillEs,fillK,splice,v5',h1,s0,s00,s1,s11,pr,partK_zv,normr_mk,e1,e2,c3,evUn,zeroV]
        · obtain ⟨b,t,rfl⟩:=List.exists_cons_of_ne_nil h1
          simp [takeRet,takeResL,takeRes,evExtract,r_dioptreref11_Parse_0,fillEs,fillK,splice,v5',h1,s0,s00,s1,s11,pr,partK_zv,normr_mk,evUn,zeroV]
theorem same_refl (v:Val):same v v=true:=same_self v
theorem F_awake00:DF lib nk 9 [] []=some (.bool true,[]):=(DF_some _).2 ⟨1000,awake_run0⟩
theorem F_dioptrelaw11_NoteParses (s:Str) (S:St) (hS:S=[]):DF lib nk 7 [.str s] S=some (.bool true,S):=by
  rw [run_dioptrelaw11_NoteParses,DC_of c_dioptrelaw11_NoteParses.eq_1]
  have w0:DF lib nk 9 [] S=some (.bool true,S):=by subst hS; exact F_awake00
  have w2:∀ a b,DF lib nk 9 [] (S ++ [a,b])=some (.bool true,S ++ [a,b]):=fun a b => by subst hS; exact F_awake2 _ _
  clear hS
  by_cases hl:600 < s.length
  · have hl':(600:Int) < s.length:=by omega
    simp [hl',hl,w0]
  have hl':¬ (600:Int) < s.length:=by omega
  obtain ⟨r,r1,r2⟩:=F_note_Parse s (by omega) S
  have key:∀ a,∃ r',PR s r' ∧ DF lib nk 22 [.str s] (S ++ [a])=some (.tup [.agg (r'.getD zeroV).enc,.bool r'.isSome],S ++ [a]):=fun a => F_dioptreref11_Parse s (by omega) (S ++ [a])
  have key':∀ a,DF lib nk 22 [.str s] (S ++ [a])=some (.tup [.agg (r.getD zeroV).enc,.bool r.isSome],S ++ [a]):=fun a => by
    obtain ⟨r',h1,h2⟩:=key a
    rw [PR_fun r1 h1]
    exact h2
  cases r with
  | none =>
    have h8:=fun S => F_dioptreref08_Same zeroV zeroV wf_zero wf_zero S
    rw [same_refl] at h8
    have h6:=fun S => F_dioptrelaw01_Code 2 S
    simp [parseR] at r2
    simp at key' h8
    have e0:zeroV.enc=[.int .i64 0,.int .i64 0,.str [],.sl .none 1 [],.sl .none 1 [],.sl .none 1 []]:=rfl
    rw [e0] at r2
    simp only [e0] at key' h8
    have k2:partK (.agg 6) [AV.int .i64 0,.int .i64 0,.str [],.sl .none 1 [],.sl .none 1 [],.sl .none 1 []] 0=some (.agg [AV.int .i64 0,.int .i64 0,.str [],.sl .none 1 [],.sl .none 1 [],.sl .none 1 []]):=rfl
    have st:=fun l k off tips nb n => stTa (S:=S) (T:=S) rfl (show plainL [AV.int .i64 0,.int .i64 0,.str [],.sl .none 1 [],.sl .none 1 [],.sl .none 1 []]=true from rfl) l k off tips nb n
    have st0:=fun l off tips nb n => stTa0 (S:=S) (T:=S) rfl (show plainL [AV.int .i64 0,.int .i64 0,.str [],.sl .none 1 [],.sl .none 1 [],.sl .none 1 []]=true from rfl) l off tips nb n
    have gA:∀ (S:St) l,giveArg S (.agg l)=some (.agg l):=fun _ _ => rfl
    have lA:∀ (S:St) l,lockOne S (.agg l)=S:=fun _ _ => rfl
    have uA:∀ (S S':St) l,unlockOne S S' (.agg l)=S':=fun _ _ _ => rfl
    have nz:norm (.agg [AV.int .i64 0,.int .i64 0,.str [],.nils,.nils,.nils])=.agg [AV.int .i64 0,.int .i64 0,.str [],.sl .none 1 [],.sl .none 1 [],.sl .none 1 []]:=rfl
    have nz':norm (.agg [AV.int .i64 0,.int .i64 0,.str [],.sl .none 1 [],.sl .none 1 [],.sl .none 1 []])=.agg [AV.int .i64 0,.int .i64 0,.str [],.sl .none 1 [],.sl .none 1 [],.sl .none 1 []]:=rfl
    simp [gA,lA,uA,nz,nz',takeRet,takeResL,takeRes,hl',hl,r2,key',h6,h8,evUn,evExtract,w2,k2,st,st0,splice,fillK]
  | some v =>
    obtain ⟨v1,v2,v3⟩:=r1.2 v rfl
    have h5:=fun S => F_note_Print v v1 S
    have h8:=fun S => F_dioptreref08_Same v v v1 v1 S
    rw [same_refl] at h8
    simp [v2,v3] at h5
    simp [parseR] at r2
    simp at key' h8
    simp [takeRet,takeResL,takeRes,hl',hl,r2,key',h5,h8,evUn,w2,evExtract,r_dioptrelaw11_NoteParses_0]
end Go.Proofs.YtekgdmhdkhgpjaaGreatDoor.am
