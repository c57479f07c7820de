/- Several texts, one behind the other: AmKRun AmKFun -/
import Derived.Scope
import Derived.Test.YtekgdmhdkhgpjaaGreatDoorSC
import Derived.Test.YtekgdmhdkhgpjaaGreatDoorSC1
set_option linter.unusedSimpArgs false
set_option linter.unusedVariables false
namespace Go.Proofs.YtekgdmhdkhgpjaaGreatDoor.am
open Go Go.RowKit
section
variable {w:World} {mu:Nat → Option Nat} {hw:Nat → Nat} {lk:Nat → Prop}
theorem RV.normc {a:AV} {v:Value} (h:RV w mu hw lk a v):RV w mu hw lk (normc a) v:=by
  unfold am.normc
  split
  · cases h; exact .emp 1 none 0
  · exact h
  · cases h with
    | emp _ p cap => exact .emp 1 p cap
    | emp0 _ p => exact .emp 1 p 0
    | sl _ _ _ b o len cap f h0 hr hb hl hs h1 h2 =>
      exact .sl .none 1 [] b o len cap f ⟨h0.1,h0.2.1,by simp⟩ (by simp) (by simp) (by simp) (by simp) (by simp) (by simp)
  · rename_i r sz es hno _
    cases h with
    | emp _ p cap => exact .emp sz p cap
    | emp0 _ p => exact .emp sz p 0
    | sl _ _ _ b o len cap f h0 hr hb hl hs h1 h2 =>
      refine .sl .none sz es b o len cap f h0 (by simp) (by simp) (by simp) hs (fun i cs j a hi hj => ?_) h2
      obtain ⟨p,q,z⟩:=h1 i cs j a hi hj
      refine ⟨p,?_,z⟩
      cases r <;> first | exact absurd rfl (hno _ ) | exact q
  · exact h
theorem nf_normc {a:AV} (h:nf a=true):nf (normc a)=true:=by
  unfold am.normc
  split <;> first | rfl | exact h
theorem RV.norm {a:AV} {v:Value} (h:RV w mu hw lk a v):RV w mu hw lk (norm a) v:=by
  unfold am.norm
  split
  · rename_i cs
    cases h with
    | agg _ f h1 h2 =>
      have:=RV.agg (w:=w) (mu:=mu) (hw:=hw) (lk:=lk) (cs.map am.normc) f (fun j a hj => by
        simp only [List.getElem?_map,Option.map_eq_some_iff] at hj
        obtain ⟨y,hy,rfl⟩:=hj
        exact nf_normc (h1 j y hy)) (fun j a hj => by
        simp only [List.getElem?_map,Option.map_eq_some_iff] at hj
        obtain ⟨y,hy,rfl⟩:=hj
        exact (h2 j y hy).normc)
      simpa using this
  · exact h.normc
theorem RV.normn {a:AV} {v:Value} (h:RV w mu hw lk a v):RV w mu hw lk (normn a) v:=by
  unfold am.normn
  split
  · exact h
  · exact h.norm
theorem RV.normr {a:AV} {v:Value} (h:RV w mu hw lk a v):RV w mu hw lk (normr a) v:=by
  unfold am.normr
  split
  · exact h.norm
  · exact h
theorem Flag1.normc {lv:Live} {ti:Id → TI} {a:AV} {v:Value} (h:Flag1 lv ti a v):Flag1 lv ti (am.normc a) v:=by
  unfold am.normc
  split <;> first | trivial | exact h
theorem Flag.normc {lv:Live} {ti:Id → TI} {a:AV} {v:Value} (h:Flag lv ti a v):Flag lv ti (am.normc a) v:=by
  unfold am.normc
  split <;> first | trivial | exact h
theorem Flag.norm {lv:Live} {ti:Id → TI} {a:AV} {v:Value} (h:Flag lv ti a v):Flag lv ti (am.norm a) v:=by
  unfold am.norm
  split
  · trivial
  · exact h.normc
theorem Flag.normn {lv:Live} {ti:Id → TI} {a:AV} {v:Value} (h:Flag lv ti a v):Flag lv ti (am.normn a) v:=by
  unfold am.normn
  split
  · trivial
  · exact h.norm
theorem Flag.normr {lv:Live} {ti:Id → TI} {a:AV} {v:Value} (h:Flag lv ti a v):Flag lv ti (am.normr a) v:=by
  unfold am.normr
  split
  · trivial
  · exact h
end
section
variable {P:Program}
structure PrimOK (P:Program) (nk:NK):Prop where
  sim:∀ f p,nk.prim f=some p → CallSim P fun g args S => if g=f then p args S else none
  old:∀ f p,nk.prim f=some p → CallOld fun g args S => if g=f then p args S else none
theorem callSim_via {F:Caller} {nk:NK} (hp:PrimOK P nk) (h:CallSim P F):CallSim P (viaK nk F):=by
  intro f args S r S' e base prot w mu hw ti vargs I hl ha
  unfold viaK at e
  split at e
  · rename_i p hf
    exact hp.sim f p hf f args S r S' (by simpa using e) base prot w mu hw ti vargs I hl ha
  · refine h f _ S r S' e base prot w mu hw ti vargs I (by simpa using hl) fun j a hj => ?_
    simp only [List.getElem?_map,Option.map_eq_some_iff] at hj
    obtain ⟨y,hy,rfl⟩:=hj
    obtain ⟨v,h1,h2,h3⟩:=ha j y hy
    refine ⟨v,h1,?_⟩
    split
    · exact ⟨h2.normn,h3.normn⟩
    · exact ⟨h2.norm,h3.norm⟩
theorem callOld_via {F:Caller} {nk:NK} (hp:PrimOK P nk) (h:CallOld F):CallOld (viaK nk F):=by
  intro f args S r S' e
  unfold viaK at e
  split at e
  · rename_i p hf
    exact hp.old f p hf f args S r S' (by simpa using e)
  · exact h f _ S r S' e
theorem inv_ops {n:Nat} {c:Code} {l:List KO} (h:kcOf P n c=some (.ops l)):∃ id ops,c=.region id ops false ∧ ops.toList.mapM (koOf P n ops)=some l:=by
  cases c with
  | region id ops d =>
    cases d with
    | false =>
      simp only [kcOf,Option.map_eq_some_iff] at h
      obtain ⟨l',h1,h2⟩:=h
      cases h2
      exact ⟨id,ops,rfl,h1⟩
    | true => simp only [kcOf] at h; repeat' split at h
              all_goals cases h
  | _ => simp only [kcOf] at h <;> (first | (cases h; done) | ((repeat' split at h) <;> cases h) | (simp only [Option.map_eq_some_iff] at h; obtain ⟨_,_,h⟩:=h; cases h))
theorem inv_draw {n:Nat} {c:Code} {al:List (Nat × List AV)} {l:List KD} (h:kcOf P n c=some (.draw al l)) :
    ∃ id ops,c=.region id ops true ∧ regionOK ops=true ∧ alsOf P n ops.toList=some al ∧ kdOf P n ops (Region.before ops) ops.toList.zipIdx=some l:=by
  cases c with
  | region id ops d =>
    cases d with
    | false =>
      simp only [kcOf,Option.map_eq_some_iff] at h
      obtain ⟨_,_,h⟩:=h
      cases h
    | true =>
      simp only [kcOf] at h
      split at h
      · rename_i hr
        split at h
        · rename_i h1 h2
          cases h
          exact ⟨id,ops,rfl,hr,h1,h2⟩
        · cases h
      · repeat' split at h
        all_goals cases h
  | _ => simp only [kcOf] at h <;> (first | (cases h; done) | ((repeat' split at h) <;> cases h) | (simp only [Option.map_eq_some_iff] at h; obtain ⟨_,_,h⟩:=h; cases h))
theorem inv_seq {n:Nat} {c:Code} {x y:KC} (h:kcOf P n c=some (.seq x y)):∃ a b,c=.seq a b ∧ kcOf P n a=some x ∧ kcOf P n b=some y:=by
  cases c with
  | seq a b =>
    simp only [kcOf] at h
    split at h
    · rename_i h1 h2; cases h; exact ⟨a,b,rfl,h1,h2⟩
    · cases h
  | region id ops d =>
    cases d <;> simp only [kcOf] at h
    · simp only [Option.map_eq_some_iff] at h
      obtain ⟨_,_,h⟩:=h
      cases h
    · repeat' split at h
      all_goals cases h
  | _ => simp only [kcOf] at h <;> (first | (cases h; done) | ((repeat' split at h) <;> cases h) | (simp only [Option.map_eq_some_iff] at h; obtain ⟨_,_,h⟩:=h; cases h))
theorem inv_cond {n:Nat} {c:Code} {z:KV} {x y:KC} (h:kcOf P n c=some (.cond z x y)):∃ t a b,c=.cond t a b ∧ kvOf t=z ∧ kcOf P n a=some x ∧ kcOf P n b=some y:=by
  cases c with
  | cond t a b =>
    simp only [kcOf] at h
    split at h
    · rename_i h1 h2; cases h; exact ⟨t,a,b,rfl,rfl,h1,h2⟩
    · cases h
  | region id ops d =>
    cases d <;> simp only [kcOf] at h
    · simp only [Option.map_eq_some_iff] at h
      obtain ⟨_,_,h⟩:=h
      cases h
    · repeat' split at h
      all_goals cases h
  | _ => simp only [kcOf] at h <;> (first | (cases h; done) | ((repeat' split at h) <;> cases h) | (simp only [Option.map_eq_some_iff] at h; obtain ⟨_,_,h⟩:=h; cases h))
theorem inv_block {n:Nat} {c:Code} {id:Nat} {x:KC} (h:kcOf P n c=some (.block id x)):∃ a,c=.block id a ∧ kcOf P n a=some x:=by
  cases c with
  | block id' a =>
    simp only [kcOf,Option.map_eq_some_iff] at h
    obtain ⟨_,h1,h⟩:=h
    cases h
    exact ⟨a,rfl,h1⟩
  | region id ops d =>
    cases d <;> simp only [kcOf] at h
    · simp only [Option.map_eq_some_iff] at h
      obtain ⟨_,_,h⟩:=h
      cases h
    · repeat' split at h
      all_goals cases h
  | _ => simp only [kcOf] at h <;> (first | (cases h; done) | ((repeat' split at h) <;> cases h) | (simp only [Option.map_eq_some_iff] at h; obtain ⟨_,_,h⟩:=h; cases h))
theorem inv_loop {n:Nat} {c:Code} {x:KC} (h:kcOf P n c=some (.loop x)):∃ a,c=.loop a ∧ kcOf P n a=some x:=by
  cases c with
  | loop a =>
    simp only [kcOf,Option.map_eq_some_iff] at h
    obtain ⟨_,h1,h⟩:=h
    cases h
    exact ⟨a,rfl,h1⟩
  | region id ops d =>
    cases d <;> simp only [kcOf] at h
    · simp only [Option.map_eq_some_iff] at h
      obtain ⟨_,_,h⟩:=h
      cases h
    · repeat' split at h
      all_goals cases h
  | _ => simp only [kcOf] at h <;> (first | (cases h; done) | ((repeat' split at h) <;> cases h) | (simp only [Option.map_eq_some_iff] at h; obtain ⟨_,_,h⟩:=h; cases h))
theorem inv_fuse {n:Nat} {c:Code} {al:List (Nat × List AV)} {l:List KD} {k:List KO} (h:kcOf P n c=some (.fuse al l k)) :
    ∃ id ops F,c=.region id ops true ∧ fuseOf P ops=some F ∧ F.q < n ∧ F.l < n ∧ alsOf P n (preOf ops (ops.size - 5)).toList=some al ∧
      kdOf P n (preOf ops (ops.size - 5)) (Region.before (preOf ops (ops.size - 5))) (preOf ops (ops.size - 5)).toList.zipIdx=some l ∧ (postOf F).mapM (koOf P n (postOf F).toArray)=some k:=by
  cases c with
  | region id ops d =>
    cases d with
    | false =>
      simp only [kcOf,Option.map_eq_some_iff] at h
      obtain ⟨_,_,h⟩:=h
      cases h
    | true =>
      simp only [kcOf] at h
      split at h
      · repeat' split at h
        all_goals cases h
      · split at h
        · rename_i F hF
          split at h
          · rename_i hq
            split at h
            · rename_i h1 h2 h3
              cases h
              exact ⟨id,ops,F,rfl,hF,hq.1,hq.2,h1,h2,h3⟩
            · cases h
          · cases h
        · cases h
  | _ => simp only [kcOf] at h <;> (first | (cases h; done) | ((repeat' split at h) <;> cases h) | (simp only [Option.map_eq_some_iff] at h; obtain ⟨_,_,h⟩:=h; cases h))
theorem run_fuse {call:Caller} {n:Nat} {al:List (Nat × List AV)} {l:List KD} {k:List KO} {K K':KEnv} {S S':St} {o:Out} (h:evKC call n (.seq (.draw al l) (.ops k)) K S=some (o,K',S')) :
    o=.normal ∧ ∃ K1 S1,evKD call al l K S=some (K1,S1) ∧ evKs call k K1 S1=some (K',S'):=by
  match n,h with
  | 0,h => simp [evKC] at h
  | 1,h => simp [evKC] at h
  | n + 2,h =>
    simp only [evKC] at h
    cases h1:evKD call al l K S with
    | none => simp [h1] at h
    | some r =>
      obtain ⟨K1,S1⟩:=r
      simp only [h1] at h
      cases h2:evKs call k K1 S1 with
      | none => simp [h2] at h
      | some r2 =>
        obtain ⟨K2,S2⟩:=r2
        simp only [h2,Option.some.injEq,Prod.mk.injEq] at h
        obtain ⟨rfl,rfl,rfl⟩:=h
        exact ⟨rfl,K1,S1,rfl,h2⟩
theorem inv_scope {n:Nat} {c:Code} {x:KC} (h:kcOf P n c=some (.scope x)):∃ a,c=.scope a ∧ kcOf P n a=some x:=by
  cases c with
  | scope a =>
    simp only [kcOf,Option.map_eq_some_iff] at h
    obtain ⟨_,h1,h⟩:=h
    cases h
    exact ⟨a,rfl,h1⟩
  | region id ops d =>
    cases d <;> simp only [kcOf] at h
    · simp only [Option.map_eq_some_iff] at h
      obtain ⟨_,_,h⟩:=h
      cases h
    · repeat' split at h
      all_goals cases h
  | _ => simp only [kcOf] at h <;> (first | (cases h; done) | ((repeat' split at h) <;> cases h) | (simp only [Option.map_eq_some_iff] at h; obtain ⟨_,_,h⟩:=h; cases h))
theorem inv_lab {n:Nat} {c:Code} (h:kcOf P n c=some .lab):∃ l,c=.label l:=by
  cases c with
  | label l => exact ⟨l,rfl⟩
  | region id ops d =>
    cases d <;> simp only [kcOf] at h
    · simp only [Option.map_eq_some_iff] at h
      obtain ⟨_,_,h⟩:=h
      cases h
    · repeat' split at h
      all_goals cases h
  | _ => simp only [kcOf] at h <;> (first | (cases h; done) | ((repeat' split at h) <;> cases h) | (simp only [Option.map_eq_some_iff] at h; obtain ⟨_,_,h⟩:=h; cases h))
theorem inv_leaf {n:Nat} {c:Code} {x:KC} (h:kcOf P n c=some x):(x=.skip → c=.skip) ∧ (x=.ret → c=.ret) ∧ (∀ id,x=.exit id → c=.exit id):=by
  refine ⟨fun e => ?_,fun e => ?_,fun id e => ?_⟩ <;> subst e <;> cases c with
  | region id ops d =>
    cases d <;> simp only [kcOf] at h
    · simp only [Option.map_eq_some_iff] at h
      obtain ⟨_,_,h⟩:=h
      cases h
    · repeat' split at h
      all_goals cases h
  | _ => simp only [kcOf] at h <;> (first | (cases h; rfl; done) | (cases h; done) | ((repeat' split at h) <;> cases h) | (simp only [Option.map_eq_some_iff] at h; obtain ⟨_,_,h⟩:=h; cases h))
theorem get_keep (l:List Nat) (s:KE) (t:Nat):KE.get (l.map fun t => (t,KE.get s t)) t=KE.get s t ∨ KE.get (l.map fun t => (t,KE.get s t)) t=.undef:=by
  induction l with
  | nil => exact .inr rfl
  | cons d l ih =>
    simp only [List.map_cons,KE.get]
    split
    · rename_i e; subst e; exact .inl rfl
    · exact ih
theorem get_norm (l:List Nat):∀ (s:KE) (t:Nat),∃ k:Nat,KE.get (l.foldl (fun s t => (t,am.norm (KE.get s t)) :: s) s) t=Nat.rec (KE.get s t) (fun _ x => am.norm x) k:=by
  induction l with
  | nil => intro s t; exact ⟨0,rfl⟩
  | cons d l ih =>
    intro s t
    rw [List.foldl_cons]
    obtain ⟨k,hk⟩:=ih ((d,am.norm (KE.get s d)) :: s) t
    rw [hk]
    simp only [KE.get]
    by_cases e:d=t
    · subst e
      rw [if_pos rfl]
      refine ⟨k + 1,?_⟩
      clear hk
      induction k with
      | zero => rfl
      | succ k ih2 => exact congrArg am.norm ih2
    · rw [if_neg e]; exact ⟨k,rfl⟩
theorem norm_undef:am.norm .undef=.undef:=rfl
theorem wf_keep {n:Nat} {K:KEnv} (h:WfK n K) (l:List Nat):WfK n (K.keep l):=by
  intro t ht
  rcases get_keep l K.sl t with e | e
  · exact e.trans (h t ht)
  · exact e
theorem wf_norm {n:Nat} {K:KEnv} (h:WfK n K) (l:List Nat):WfK n (K.norm l):=by
  intro t ht
  obtain ⟨k,hk⟩:=get_norm l K.sl t
  refine hk.trans ?_
  rw [h t ht]
  clear hk
  induction k with
  | zero => rfl
  | succ k ih => exact (congrArg am.norm ih).trans norm_undef
section
variable {base:Nat} {prot:Nat → Prop} {S0:St} {w0:World} {mu0:Nat → Option Nat} {hw0:Nat → Nat} {ti0:Id → TI}
theorem run_less {n:Nat} {K K':KEnv} {S:St} {a:Act} {w:World} (R:Run base prot S0 w0 mu0 hw0 ti0 (toE n K) S a w) (wf:WfK n K) (wf':WfK n K') (ht:K'.tips=K.tips)
    (hs:∀ t,KE.get K'.sl t=.undef ∨ ∃ k:Nat,KE.get K'.sl t=Nat.rec (KE.get K.sl t) (fun _ x => am.norm x) k):Run base prot S0 w0 mu0 hw0 ti0 (toE n K') S a w:=by
  obtain ⟨mu,hw,ti,I,SL,e,lv,hd,hh⟩:=R
  have e1:(toE n K').tips=(toE n K).tips:=ht
  refine ⟨mu,hw,ti,by rw [e1]; exact I,⟨?_,fun t => ?_⟩,e,by rw [e1]; exact lv,hd,hh⟩
  · have:=SL.1
    simpa [toE] using this
  · obtain ⟨p,q⟩:=SL.2 t
    rw [e1,toE_get wf']
    rw [toE_get wf] at p q
    rcases hs t with h | ⟨k,h⟩
    · rw [h]; exact ⟨.undef _,trivial⟩
    · rw [h]
      clear h
      induction k with
      | zero => exact ⟨p,q⟩
      | succ k ih => exact ⟨ih.1.norm,ih.2.norm⟩
theorem kcode_sound {call:Caller} {nt:Nat} (hm:P.follows .mixedOrders=true) (hsim:CallSim P call) (hold:CallOld call) (hN:Named P):∀ (n:Nat),
    (∀ (kc:KC) (c:Code) (K:KEnv) (S:St) (o:Out) (K':KEnv) (S':St) (a:Act) (w:World) (Q:Exit → Act → World → Prop),kcOf P nt c=some (erase kc) → WfK nt K → evKC call n kc K S=some (o,K',S') → Run base prot S0 w0 mu0 hw0 ti0 (toE nt K) S a w →
      (∀ a' w',WfK nt K' → Run base prot S0 w0 mu0 hw0 ti0 (toE nt K') S' a' w' → Q (exitOf o) a' w') → c.wp P Q a w) ∧
    (∀ (kb:KC) (b:Code) (K:KEnv) (S:St) (o:Out) (K':KEnv) (S':St) (a:Act) (w:World) (Q:Exit → Act → World → Prop),kcOf P nt b=some (erase kb) → WfK nt K → evKC call n (.loop kb) K S=some (o,K',S') → Run base prot S0 w0 mu0 hw0 ti0 (toE nt K) S a w →
      (∀ a' w',WfK nt K' → Run base prot S0 w0 mu0 hw0 ti0 (toE nt K') S' a' w' → Q (exitOf o) a' w') → Code.rounds P b Q n a w):=by
  intro n
  induction n with
  | zero => exact ⟨fun kc c K S o K' S' a w Q _ _ h => by simp [evKC] at h,fun kc b K S o K' S' a w Q _ _ h => by simp [evKC] at h⟩
  | succ n ih =>
    obtain ⟨A,B⟩:=ih
    have B1:∀ (kb:KC) (b:Code) (K:KEnv) (S:St) (o:Out) (K':KEnv) (S':St) (a:Act) (w:World) (Q:Exit → Act → World → Prop),kcOf P nt b=some (erase kb) → WfK nt K → evKC call (n + 1) (.loop kb) K S=some (o,K',S') → Run base prot S0 w0 mu0 hw0 ti0 (toE nt K) S a w →
        (∀ a' w',WfK nt K' → Run base prot S0 w0 mu0 hw0 ti0 (toE nt K') S' a' w' → Q (exitOf o) a' w') → Code.rounds P b Q (n + 1) a w:=by
      intro kb b K S o K' S' a w Q hk wf h R hQ
      rw [rounds_succ]
      simp only [evKC] at h
      split at h
      · rename_i K1 S1 h1
        exact A kb b K S .normal K1 S1 a w _ hk wf h1 R fun a' w' wf' R' => B kb b K1 S1 o K' S' a' w' Q hk wf' h R' hQ
      · rename_i hne
        refine A kb b K S o K' S' a w _ hk wf h R fun a' w' wf' R' => ?_
        have:=hQ a' w' wf' R'
        cases o with
        | normal => exact absurd h (hne _ _)
        | exit id => exact this
        | ret => exact this
    refine ⟨?_,B1⟩
    intro kc c K S o K' S' a w Q hk wf h R hQ
    cases kc with
    | skip =>
      obtain rfl:=(inv_leaf hk).1 rfl
      simp only [evKC] at h; cases h
      exact wp_skip (hQ a w wf R)
    | ret =>
      obtain rfl:=(inv_leaf hk).2.1 rfl
      simp only [evKC] at h; cases h
      exact wp_ret (hQ a w wf R)
    | exit id =>
      obtain rfl:=(inv_leaf hk).2.2 id rfl
      simp only [evKC] at h; cases h
      exact wp_exit (hQ a w wf R)
    | ops l =>
      obtain ⟨id,ops,rfl,hl⟩:=inv_ops hk
      simp only [evKC] at h
      split at h
      · rename_i K1 S1 h1
        cases h
        obtain ⟨w1,_,e1⟩:=ops_le hl wf h1
        exact region_list (ops_wp hsim hold hN _ (toE nt K) S a w _ _ e1 R fun a' w' R' => hQ a' w' w1 R')
      · cases h
    | draw al l =>
      obtain ⟨id,ops,rfl,hr,ha,hl⟩:=inv_draw hk
      simp only [evKC] at h
      split at h
      · rename_i K1 S1 h1
        cases h
        obtain ⟨w1,_,e1⟩:=draw_le ha hl wf h1
        exact drawSim hm hN hsim hold id ops (toE nt K) S _ _ hr e1 base prot S0 w0 mu0 hw0 ti0 a w Q R fun a' w' R' => hQ a' w' w1 R'
      · cases h
    | seq x y =>
      obtain ⟨p,q,rfl,h1,h2⟩:=inv_seq (x:=erase x) (y:=erase y) hk
      simp only [evKC] at h
      refine wp_seq ?_
      split at h
      · rename_i K1 S1 h3
        exact A x p K S .normal K1 S1 a w _ h1 wf h3 R fun a' w' wf' R' => A y q K1 S1 o K' S' a' w' Q h2 wf' h R' hQ
      · rename_i hne
        refine A x p K S o K' S' a w _ h1 wf h R fun a' w' wf' R' => ?_
        have:=hQ a' w' wf' R'
        cases o with
        | normal => exact absurd h (hne _ _)
        | exit id => exact this
        | ret => exact this
    | cond z x y =>
      obtain ⟨t,p,q,rfl,rfl,h1,h2⟩:=inv_cond (x:=erase x) (y:=erase y) hk
      simp only [evKC,toE_ev wf] at h
      have hx:∀ b,(toE nt K).ev t=.bool b → a.eval t=.bool b:=by
        intro b hb
        obtain ⟨mu,hw,ti,I,SL,_⟩:=R
        have:=(SL.eval (E:=toE nt K) (a:=a) I.iglb t).1
        rw [hb] at this
        generalize hv:a.eval t=v at this
        cases this
        rfl
      split at h
      · rename_i hb
        exact wp_cond_true (hx _ hb) (A x p K S o K' S' a w Q h1 wf h R hQ)
      · rename_i hb
        exact wp_cond_false (hx _ hb) (A y q K S o K' S' a w Q h2 wf h R hQ)
      · cases h
    | block id x =>
      obtain ⟨p,rfl,h1⟩:=inv_block (x:=erase x) hk
      simp only [evKC] at h
      refine wp_block ?_
      split at h
      · rename_i id' K1 S1 h3
        split at h
        · rename_i he
          cases h
          refine A x p K S (.exit id') _ _ a w _ h1 wf h3 R fun a' w' wf' R' => ?_
          simp only [exitOf,Exit.inBlock,if_pos he]
          exact hQ a' w' wf' R'
        · rename_i he
          cases h
          refine A x p K S (.exit id') _ _ a w _ h1 wf h3 R fun a' w' wf' R' => ?_
          simp only [exitOf,Exit.inBlock,if_neg he]
          exact hQ a' w' wf' R'
      · rename_i hne
        refine A x p K S o K' S' a w _ h1 wf h R fun a' w' wf' R' => ?_
        have:=hQ a' w' wf' R'
        cases o with
        | normal => exact this
        | exit id => exact absurd h (hne _ _ _)
        | ret => exact this
    | loop x =>
      obtain ⟨p,rfl,h1⟩:=inv_loop (x:=erase x) hk
      exact wp_loop_rounds (n + 1) (B1 x p K S o K' S' a w Q h1 wf h R hQ)
    | keep l k =>
      simp only [evKC] at h
      refine A k c (K.keep l) S o K' S' a w Q hk (wf_keep wf l) h (run_less R wf (wf_keep wf l) rfl fun t => ?_) hQ
      rcases get_keep l K.sl t with e | e
      · exact .inr ⟨0,e⟩
      · exact .inl e
    | norm l k =>
      simp only [evKC] at h
      exact A k c (K.norm l) S o K' S' a w Q hk (wf_norm wf l) h (run_less R wf (wf_norm wf l) rfl fun t => .inr (get_norm l K.sl t)) hQ
    | scope x =>
      obtain ⟨p,rfl,h1⟩:=inv_scope (x:=erase x) hk
      simp only [evKC] at h
      refine wp_scope_straight (A x p K S o K' S' a w _ h1 wf h R fun a' w' wf' R' => ?_)
      have:=hQ a' w' wf' R'
      cases o <;> exact this
    | lab =>
      obtain ⟨l,rfl⟩:=inv_lab hk
      simp only [evKC] at h; cases h
      exact wp_label (hQ a w wf R)
    | bad => simp only [evKC] at h; cases h
    | fuse al l k =>
      obtain ⟨id,ops,F,rfl,hF,hq,hl,h1,h2,h3⟩:=inv_fuse hk
      simp only [evKC] at h
      obtain ⟨rfl,K1,S1,r1,r2⟩:=run_fuse h
      obtain ⟨w1,_,e1⟩:=draw_le h1 h2 wf r1
      obtain ⟨w2,_,e2⟩:=ops_le h3 w1 r2
      exact fuse_sound hm hN hsim hold (fuseOf_spec hF) e1 e2 (by simpa [toE] using hq) (by simpa [toE] using hl) R fun a' w' R' => hQ a' w' w2 R'
end
theorem kcode_keeps {call:Caller} {nt:Nat} (hc:CallOld call):∀ (n:Nat) (kc:KC) (c:Code) (K:KEnv) (S:St) (o:Out) (K':KEnv) (S':St),kcOf P nt c=some (erase kc) → WfK nt K → K.nb ≤ S.length → evKC call n kc K S=some (o,K',S') →
    WfK nt K' ∧ K'.nb=K.nb ∧ Keeps K.nb S S':=by
  intro n
  induction n with
  | zero => intro kc c K S o K' S' _ _ _ h; simp [evKC] at h
  | succ n ih =>
    intro kc c K S o K' S' hk wf hnb h
    have two:∀ (x y:KC) (p q:Code) (K1:KEnv) (S1:St),kcOf P nt p=some (erase x) → kcOf P nt q=some (erase y) → evKC call n x K S=some (.normal,K1,S1) → evKC call n y K1 S1=some (o,K',S') → WfK nt K' ∧ K'.nb=K.nb ∧ Keeps K.nb S S':=by
      intro x y p q K1 S1 e1 e2 h1 h2
      obtain ⟨a0,a1,a2⟩:=ih _ _ _ _ _ _ _ e1 wf hnb h1
      obtain ⟨b0,b1,b2⟩:=ih _ _ _ _ _ _ _ e2 a0 (by rw [a1]; exact Nat.le_trans hnb a2.len) h2
      exact ⟨b0,b1.trans a1,a2.trans (a1 ▸ b2)⟩
    cases kc with
    | skip => simp only [evKC] at h; cases h; exact ⟨wf,rfl,Keeps.refl _ _⟩
    | ret => simp only [evKC] at h; cases h; exact ⟨wf,rfl,Keeps.refl _ _⟩
    | exit id => simp only [evKC] at h; cases h; exact ⟨wf,rfl,Keeps.refl _ _⟩
    | ops l =>
      obtain ⟨id,ops,rfl,hl⟩:=inv_ops hk
      simp only [evKC] at h
      split at h
      · rename_i K1 S1 h1
        cases h
        obtain ⟨w1,nb1,e1⟩:=ops_le hl wf h1
        exact ⟨w1,nb1,(keeps_ops hc _ (toE nt K) _ _ _ hnb e1).2⟩
      · cases h
    | draw al l =>
      obtain ⟨id,ops,rfl,hr,ha,hl⟩:=inv_draw hk
      simp only [evKC] at h
      split at h
      · rename_i K1 S1 h1
        cases h
        obtain ⟨w1,nb1,e1⟩:=draw_le ha hl wf h1
        exact ⟨w1,nb1,(keeps_draw hc (E:=toE nt K) hnb e1).2⟩
      · cases h
    | seq x y =>
      obtain ⟨p,q,rfl,h1,h2⟩:=inv_seq (x:=erase x) (y:=erase y) hk
      simp only [evKC] at h
      split at h
      · rename_i K1 S1 h3
        exact two x y p q K1 S1 h1 h2 h3 h
      · exact ih _ _ _ _ _ _ _ h1 wf hnb h
    | cond z x y =>
      obtain ⟨t,p,q,rfl,rfl,h1,h2⟩:=inv_cond (x:=erase x) (y:=erase y) hk
      simp only [evKC] at h
      split at h
      · exact ih _ _ _ _ _ _ _ h1 wf hnb h
      · exact ih _ _ _ _ _ _ _ h2 wf hnb h
      · cases h
    | block id x =>
      obtain ⟨p,rfl,h1⟩:=inv_block (x:=erase x) hk
      simp only [evKC] at h
      split at h
      · rename_i id' K1 S1 h3
        split at h <;> cases h <;> exact ih _ _ _ _ _ _ _ h1 wf hnb h3
      · exact ih _ _ _ _ _ _ _ h1 wf hnb h
    | loop x =>
      obtain ⟨p,rfl,h1⟩:=inv_loop (x:=erase x) hk
      simp only [evKC] at h
      split at h
      · rename_i K1 S1 h3
        exact two x (.loop x) p (.loop p) K1 S1 h1 (by simp only [kcOf,erase,h1,Option.map_some]) h3 h
      · exact ih _ _ _ _ _ _ _ h1 wf hnb h
    | keep l k =>
      simp only [evKC] at h
      exact ih k c (K.keep l) S o K' S' hk (wf_keep wf l) hnb h
    | norm l k =>
      simp only [evKC] at h
      exact ih k c (K.norm l) S o K' S' hk (wf_norm wf l) hnb h
    | scope x =>
      obtain ⟨p,rfl,h1⟩:=inv_scope (x:=erase x) hk
      simp only [evKC] at h
      exact ih _ _ _ _ _ _ _ h1 wf hnb h
    | lab => simp only [evKC] at h; cases h; exact ⟨wf,rfl,Keeps.refl _ _⟩
    | bad => simp only [evKC] at h; cases h
    | fuse al l k =>
      obtain ⟨id,ops,F,rfl,hF,hq,hl,h1,h2,h3⟩:=inv_fuse hk
      simp only [evKC] at h
      obtain ⟨rfl,K1,S1,r1,r2⟩:=run_fuse h
      obtain ⟨w1,nb1,e1⟩:=draw_le h1 h2 wf r1
      obtain ⟨w2,nb2,e2⟩:=ops_le h3 w1 r2
      have k1:=keeps_draw hc (E:=toE nt K) hnb e1
      have k2:=(keeps_ops hc _ (toE nt K1) _ _ _ (by show K1.nb ≤ _; rw [nb1]; exact Nat.le_trans hnb k1.2.len) e2).2
      exact ⟨w2,nb2.trans nb1,k1.2.trans (by have:(toE nt K1).nb=K.nb:=nb1; rw [this] at k2; exact k2)⟩
end
end Go.Proofs.YtekgdmhdkhgpjaaGreatDoor.am

namespace Go.Proofs.YtekgdmhdkhgpjaaGreatDoor.am
open Go Go.RowKit
section
variable {P:Program}
theorem argsK_get:∀ (l:List AV) (n t:Nat),KE.get (argsK n l) t=if n ≤ t ∧ t < n + l.length then l.getD (t - n) .undef else .undef:=by
  intro l
  induction l with
  | nil => intro n t; simp [argsK,KE.get]
  | cons v l ih =>
    intro n t
    simp only [argsK,KE.get,ih,List.length_cons]
    by_cases e:n=t
    · subst e
      rw [if_pos rfl,if_pos (by omega)]
      simp
    · rw [if_neg e]
      by_cases h:n + 1 ≤ t ∧ t < n + 1 + l.length
      · rw [if_pos h,if_pos (by omega)]
        have:t - n=(t - (n + 1)) + 1:=by omega
        rw [this]
        simp
      · rw [if_neg h,if_neg (by omega)]
theorem kr_le {n:Nat} {K:KEnv} (wf:WfK n K) {fn:Func} {S:St}:∀ {l:List ResultVar} {kl:List KR},l.mapM (krOf P)=some kl → evRes P fn (toE n K) S l=evKR K S kl:=by
  intro l
  induction l with
  | nil => intro kl h; simp at h; subst h; rfl
  | cons r l ih =>
    intro kl h
    obtain ⟨kr,kl',h1,h2,rfl⟩:=mapM_cons h
    cases r with
    | tmp t =>
      simp only [krOf] at h1
      cases h1
      simp only [evRes,evKR,ih h2,toE_get wf]
    | cell a t =>
      simp only [krOf,Option.map_eq_some_iff] at h1
      obtain ⟨sh,h3,rfl⟩:=h1
      simp only [evRes,evKR,ih h2,toE_get wf,loadK_eq h3]
      cases loadK S sh (KE.get K.sl a) <;> cases evKR K S kl' <;> rfl
theorem resK_cases {f:FuncId} {tips:List (Option Nat)} {vs:List AV} {S S1 S':St} {r:AV} (h:resK f tips vs S S1=some (r,S')):vs.all notTup=true ∧
    ((plainRes (retOf (giveResL tips (vs.map normr)))=true ∧ r=retOf (giveResL tips (vs.map normr)) ∧ S'=S1.take S.length) ∨
     (fineRes S1.length (fun k => decide (S.length ≤ k)) r=true ∧ boxesFine S.length S1=true ∧ r=retOf (giveResL tips (vs.map normr)) ∧ S'=S1) ∨
     (fineRes S.length (fun _ => false) r=true ∧ r=retOf (giveResL tips (vs.map normr)) ∧ S'=S1.take S.length) ∨
     (frzR S1 S.length (retOf (giveResL tips (vs.map normr)))=some r ∧ plainRes r=true ∧ S'=S1.take S.length)):=by
  unfold resK at h
  split at h
  case isFalse => cases h
  rename_i hn
  refine ⟨hn,?_⟩
  split at h
  · rename_i hp
    simp only [Option.some.injEq,Prod.mk.injEq] at h
    obtain ⟨rfl,rfl⟩:=h
    exact .inl ⟨hp,rfl,rfl⟩
  · unfold resB at h
    split at h
    · split at h
      · rename_i hc
        simp only [Option.some.injEq,Prod.mk.injEq] at h
        obtain ⟨rfl,rfl⟩:=h
        exact .inr (.inl ⟨hc.1,hc.2,rfl,rfl⟩)
      · cases h
    · split at h
      · rename_i hc
        simp only [Option.some.injEq,Prod.mk.injEq] at h
        obtain ⟨rfl,rfl⟩:=h
        exact .inr (.inr (.inl ⟨hc,rfl,rfl⟩))
      split at h
      · rename_i r' hr
        split at h
        · rename_i hp
          simp only [Option.some.injEq,Prod.mk.injEq] at h
          obtain ⟨rfl,rfl⟩:=h
          exact .inr (.inr (.inr ⟨hr,hp,rfl⟩))
        · cases h
      · cases h
theorem fine_mono {m m':Nat} {q q':Nat → Bool} (hm:m ≤ m') (hq:∀ k,k < m → q k=true → q' k=true) {r:AV} (h:fineRes m q r=true):fineRes m' q' r=true:=by
  have one:∀ v,fine1 m q v=true → fine1 m' q' v=true:=by
    intro v hv
    cases v with
    | sl r sz es =>
      cases r with
      | fresh => exact ltEs_mono hm hq es hv
      | fr k => simp [fine1] at hv
      | _ => exact lt_mono hm hq _ hv
    | tup vs => simp [fine1] at hv
    | _ => exact lt_mono hm hq _ hv
  by_cases ht:∃ vs,r=.tup vs
  · obtain ⟨vs,rfl⟩:=ht
    simp only [fineRes,List.all_eq_true] at h ⊢
    exact fun x hx => one x (h x hx)
  · have e:∀ m q,fineRes m q r=fine1 m q r:=by intro m q; cases r <;> first | rfl | exact absurd ⟨_,rfl⟩ ht
    rw [e] at h ⊢
    exact one r h
theorem kcall_old {lib:FuncId → Option KF} {nk:NK} (hpr:PrimOK P nk) (hlib:∀ f k,lib f=some k → ∃ fn,P.funcs[f]?=some fn ∧ KOK P fn k):∀ n,CallOld (evKF lib nk n):=by
  intro n
  induction n with
  | zero => intro f args S r S' h; simp [evKF] at h
  | succ n ih =>
    intro f args S r S' h
    unfold evKF at h
    split at h
    · cases h
    rename_i k hk
    obtain ⟨fn,hf,hnt,hp,hb,hres⟩:=hlib f k hk
    cases hbd:fn.body with
    | none => simp [hbd] at hb
    | some c =>
      simp only [hbd,Option.bind_some] at hb
      split at h
      · cases h
      rename_i hlen
      have wf0:WfK fn.ntmps ⟨argsK 0 args,[],S.length⟩:=by
        intro t ht
        rw [hnt] at ht
        show KE.get (argsK 0 args) t=_
        rw [argsK_get,if_neg (by omega)]
      split at h
      · cases h
      · rename_i o K1 S1 hne h1
        split at h
        · cases h
        rename_i vs0 hvs0
        obtain ⟨_,nb,K⟩:=kcode_keeps (callOld_via hpr ih) _ _ _ _ _ _ _ _ hb wf0 (Nat.le_refl S.length) h1
        have kl:=K.len
        have drop:(∀ m q,S.length ≤ m → fineRes m q r=true) → S'=S1.take S.length → S.length ≤ S'.length ∧ fineRes S'.length (fun k => decide (S.length ≤ k)) r=true ∧ Keeps S.length S S' ∧ NewOK S.length S':=by
          intro hp hS
          subst hS
          refine ⟨by simp; omega,hp _ _ (by simp; omega),⟨by simp; omega,fun D m q hm old i cs bt l hi hd hS => ?_⟩,fun i cs bt l hi hS => ?_⟩
          · have hS':S1[i]?=some (.mem cs bt l):=by
              rw [List.getElem?_take] at hS
              split at hS
              · exact hS
              · cases hS
            exact K.old D m q hm old i cs bt l hi hd hS'
          · rw [List.getElem?_take,if_neg (by omega)] at hS
            cases hS
        obtain ⟨_,⟨hp,rfl,hS⟩ | ⟨hf',hbx,_,rfl⟩ | ⟨hp,_,hS⟩ | ⟨_,hp,hS⟩⟩:=resK_cases h
        · exact drop (fun m q _ => plainRes_fine hp m q) hS
        · refine ⟨kl,hf',K,fun i cs bt l hi hS => ?_⟩
          unfold boxesFine at hbx
          rw [List.all_eq_true] at hbx
          have:=hbx (.mem cs bt l) (by
            refine List.mem_of_getElem? (i:=i - S.length) ?_
            rw [List.getElem?_drop,Nat.add_sub_cancel' hi]
            exact hS)
          simpa using this
        · exact drop (fun m q hm => fine_mono hm (fun k _ h => by simp at h) hp) hS
        · exact drop (fun m q _ => plainRes_fine hp m q) hS
      · cases h
section
variable {base:Nat} {prot:Nat → Prop} {S1:St} {w':World} {mu mu1:Nat → Option Nat} {hw1 hw2:Nat → Nat} {lk1 lk2:Nat → Prop} {n0:Nat}
theorem frz_fresh {d:Nat} {x x':AV} (h:frz S1 n0 d x=some x'):(∀ sz es,x ≠ .sl .fresh sz es) ∧ (∀ vs,x ≠ .tup vs):=by
  cases d with
  | zero => simp [frz] at h
  | succ d =>
    refine ⟨fun sz es e => ?_,fun vs e => ?_⟩ <;> subst e <;> simp [frz,plain] at h
theorem plain_take {u:List (Option Nat)} {x:AV} (h:plain x=true):takeRes u x=(x,u):=by
  cases x with
  | sl r sz es => cases r <;> first | rfl | simp [plain] at h
  | _ => rfl
theorem fresh_take {u:List (Option Nat)} {x:AV} (h:∀ sz es,x ≠ .sl .fresh sz es):takeRes u x=(x,u):=by
  cases x with
  | sl r sz es => cases r <;> first | rfl | exact absurd rfl (h _ _)
  | _ => rfl
theorem plain_flag1 {lv:Live} {ti:Id → TI} {x:AV} {v:Value} (h:plain x=true):Flag1 lv ti x v:=by
  cases x with
  | sl r sz es => cases r <;> first | trivial | simp [plain] at h
  | tup vs => simp [plain] at h
  | _ => trivial
theorem frz1_take (hpl:∀ r v,lt n0 (fun _ => true) r=true → RV w' mu1 hw1 lk1 r v → RV w' mu hw2 lk2 r v) (hfz:∀ v v' x,RV w' mu1 hw1 lk1 v x → frz S1 n0 12 v=some v' → RV w' mu hw2 lk2 v' x) {u:List (Option Nat)} {x x':AV} (h:frz1 S1 n0 x=some x') :
    (takeRes u x').2=(takeRes u x).2 ∧ (∀ v,RV w' mu1 hw1 lk1 (takeRes u x).1 v → RV w' mu hw2 lk2 (takeRes u x').1 v) ∧ (∀ lv ti v,Flag1 lv ti (takeRes u x).1 v → Flag1 lv ti (takeRes u x').1 v) ∧ notTup x'=true:=by
  unfold frz1 at h
  split at h
  · rename_i hp
    simp at h; subst h
    have hl:lt n0 (fun _ => true) (takeRes u x).1=true:=by
      unfold pfr at hp
      split at hp
      · rename_i sz es
        simp [takeRes,lt,rlt,plainEs_lt n0 _ es hp]
      · rw [plain_take hp]; exact plain_lt n0 _ x hp
    refine ⟨rfl,fun v => hpl _ v hl,fun _ _ _ h => h,?_⟩
    unfold pfr at hp
    split at hp
    · rfl
    · cases x <;> first | rfl | simp [plain] at hp
  · obtain ⟨hp,_⟩:=frz_plain _ _ _ h
    obtain ⟨g1,g2⟩:=frz_fresh h
    rw [plain_take hp,fresh_take g1]
    refine ⟨rfl,fun v hv => hfz _ _ _ hv h,fun _ _ _ _ => plain_flag1 hp,?_⟩
    cases x' <;> first | rfl | simp [plain] at hp
theorem frzL_take (hpl:∀ r v,lt n0 (fun _ => true) r=true → RV w' mu1 hw1 lk1 r v → RV w' mu hw2 lk2 r v) (hfz:∀ v v' x,RV w' mu1 hw1 lk1 v x → frz S1 n0 12 v=some v' → RV w' mu hw2 lk2 v' x) :
    ∀ (l l':List AV) (u:List (Option Nat)),l.mapM (frz1 S1 n0)=some l' → (takeResL u l').2=(takeResL u l).2 ∧ (takeResL u l').1.length=(takeResL u l).1.length ∧
      ∀ (j:Nat) (a':AV),(takeResL u l').1[j]?=some a' → ∃ a,(takeResL u l).1[j]?=some a ∧ (∀ v,RV w' mu1 hw1 lk1 a v → RV w' mu hw2 lk2 a' v) ∧ ∀ lv ti v,Flag1 lv ti a v → Flag1 lv ti a' v:=by
  intro l
  induction l with
  | nil => intro l' u h; simp at h; subst h; exact ⟨rfl,rfl,fun j a h => by simp [takeResL] at h⟩
  | cons x l ih =>
    intro l' u h
    obtain ⟨x',r,h1,h2,rfl⟩:=mapM_cons h
    obtain ⟨a1,a2,a3,_⟩:=frz1_take hpl hfz (u:=u) h1
    obtain ⟨b1,b2,b3⟩:=ih r (takeRes u x).2 h2
    simp only [takeResL,a1]
    refine ⟨b1,by simp [b2],fun j a' hj => ?_⟩
    cases j with
    | zero => simp at hj; subst hj; exact ⟨_,rfl,a2,a3⟩
    | succ j => simpa using b3 j a' (by simpa using hj)
theorem frzR_take (hpl:∀ r v,lt n0 (fun _ => true) r=true → RV w' mu1 hw1 lk1 r v → RV w' mu hw2 lk2 r v) (hfz:∀ v v' x,RV w' mu1 hw1 lk1 v x → frz S1 n0 12 v=some v' → RV w' mu hw2 lk2 v' x) {x x':AV} (h:frzR S1 n0 x=some x') :
    (takeRet [] x').2=(takeRet [] x).2 ∧ (∀ v,RV w' mu1 hw1 lk1 (takeRet [] x).1 v → RV w' mu hw2 lk2 (takeRet [] x').1 v) ∧ (∀ lv ti v,Flag lv ti (takeRet [] x).1 v → Flag lv ti (takeRet [] x').1 v):=by
  by_cases ht:∃ vs,x=.tup vs
  · obtain ⟨vs,rfl⟩:=ht
    simp only [frzR,Option.map_eq_some_iff] at h
    obtain ⟨l',hl,rfl⟩:=h
    obtain ⟨b1,b2,b3⟩:=frzL_take hpl hfz vs l' [] hl
    simp only [takeRet]
    refine ⟨b1,fun v hv => ?_,fun lv ti v hf arr e j a y ha hy => ?_⟩
    · cases hv with
      | tup _ f g =>
        rw [← b2]
        refine .tup _ f fun j a ha => ?_
        obtain ⟨a0,h0,h1,_⟩:=b3 j a ha
        exact h1 _ (g j a0 h0)
    · obtain ⟨a0,h0,_,h1⟩:=b3 j a ha
      exact h1 _ _ _ (hf arr e j a0 y h0 hy)
  · have hx:frzR S1 n0 x=frz1 S1 n0 x:=by cases x <;> first | rfl | exact absurd ⟨_,rfl⟩ ht
    rw [hx] at h
    obtain ⟨a1,a2,a3,a4⟩:=frz1_take hpl hfz (u:=[]) h
    have e1:takeRet [] x=takeRes [] x:=by cases x <;> first | rfl | exact absurd ⟨_,rfl⟩ ht
    have e2:takeRet [] x'=takeRes [] x':=by cases x' <;> first | rfl | simp [notTup] at a4
    have hn:notTup x=true:=by cases x <;> first | rfl | exact absurd ⟨_,rfl⟩ ht
    rw [e1,e2]
    exact ⟨a1,a2,fun lv ti v hf => Flag.of1 (a3 lv ti v (hf.to1 (takeRes_notTup [] x hn)))⟩
end
theorem kfun_sound {lib:FuncId → Option KF} {nk:NK} {n:Nat} (hm:P.follows .mixedOrders=true) (hN:Named P) (hpr:PrimOK P nk) (hlib:∀ f k,lib f=some k → ∃ fn,P.funcs[f]?=some fn ∧ KOK P fn k)
    (IH:CallSim P (evKF lib nk n)):CallSim P (evKF lib nk (n + 1)):=by
  intro f args S r S' h base prot w mu hw ti vargs I hlen hargs
  have hold:=callOld_via hpr (kcall_old hpr hlib n)
  have hsim:=callSim_via hpr IH
  unfold evKF at h
  split at h
  · cases h
  rename_i k hk
  obtain ⟨fn,hf,hnt,hp,hb0,hres⟩:=hlib f k hk
  obtain ⟨c,hb⟩:∃ c,fn.body=some c:=by
    cases hbd:fn.body with
    | none => simp [hbd] at hb0
    | some c => exact ⟨c,rfl⟩
  simp only [hb,Option.bind_some] at hb0
  split at h
  · cases h
  rename_i hal
  have wf0:WfK fn.ntmps ⟨argsK 0 args,[],S.length⟩:=by
    intro t ht
    rw [hnt] at ht
    show KE.get (argsK 0 args) t=_
    rw [argsK_get,if_neg (by omega)]
  split at h
  · cases h
  · rename_i o K1 S1 hne h1
    split at h
    · cases h
    rename_i vs0 hvs0
    obtain ⟨hnt,hcases⟩:=resK_cases h
    clear h
    generalize hvv:vs0.map normr=vs at hcases
    refine ⟨⟨fn,c,hf,hb⟩,calls_of_wp hf hb ?_⟩
    obtain ⟨wf1,_,K⟩:=kcode_keeps hold _ _ _ _ _ _ _ _ hb0 wf0 (Nat.le_refl S.length) h1
    have hvs:evRes P fn (toE fn.ntmps K1) S1 fn.results.toList=some vs0:=by rw [kr_le wf1 hres]; exact hvs0
    refine (kcode_sound (base:=base) (prot:=prot) (S0:=S) (w0:=w) (mu0:=mu) (hw0:=hw) (ti0:=ti) hm hsim hold hN n).1 _ c _ S o K1 S1 _ w _ hb0 wf0 h1 ?_ ?_
    · refine ⟨mu,hw,ti,I,⟨?_,fun t => ?_⟩,Ext.refl _ _ _ _ _ _,LvExt.refl _ _,rfl,fun i h _ => ⟨rfl,h⟩⟩
      · simp [toE]; omega
      rw [toE_get wf0]
      show RV _ _ _ _ (KE.get (argsK 0 args) t) _ ∧ Flag _ _ (KE.get (argsK 0 args) t) _
      rw [argsK_get]
      by_cases hlt:t < args.length
      · rw [if_pos (by omega)]
        obtain ⟨v,hv,hr,hfl⟩:=hargs t args[t] (by simp [hlt])
        have e1:args.getD (t - 0) .undef=args[t]:=by
          simp [List.getD_eq_getElem?_getD,hlt]
        have e2:(vargs ++ Array.replicate (fn.ntmps - vargs.size) undef).getD t undef=v:=by
          rw [Array.getD_eq_getD_getElem?,Array.getElem?_append_left (by omega),hv]; rfl
        rw [e1,e2]
        exact ⟨hr,hfl⟩
      · rw [if_neg (by omega)]
        exact ⟨.undef _,trivial⟩
    · intro a' w' wf' R
      obtain ⟨mu1,hw1,ti1,I1,SL,e,lv,hd,hole⟩:=R
      have key:a'.defers=[] ∧ ∃ v,(results fn a'.tmps).run P w'=.ok v w' ∧ After P base prot S w mu hw ti r S' (.returned v) w':=by
        refine ⟨hd,?_⟩
        obtain ⟨ys,r1,r2',r3'⟩:=res_run (fn:=fn) I1 SL _ _ hvs
        have r2:vs.length=ys.length:=by rw [← hvv]; simpa using r2'
        have r3:∀ (j:Nat) (x:AV) (v:Value),vs[j]?=some x → ys[j]?=some v → RV w' mu1 hw1 (lkS S1 mu1) x v ∧ Flag (live K1.tips S1 mu1) ti1 x v:=by
          intro j x v hx hv
          rw [← hvv] at hx
          simp only [List.getElem?_map,Option.map_eq_some_iff] at hx
          obtain ⟨y,hy,rfl⟩:=hx
          obtain ⟨p,q⟩:=r3' j y v hy hv
          exact ⟨p.normr,q.normr⟩
        have hntv:∀ x ∈ vs,notTup x=true:=by
          intro x hx
          rw [← hvv] at hx
          simp only [List.mem_map] at hx
          obtain ⟨y,hy,rfl⟩:=hx
          rw [List.all_eq_true] at hnt
          have:=hnt y hy
          cases y <;> first | exact this | rfl
        have T0:Taken K1.tips K1.tips [] []:=⟨rfl,fun m L h => by simp at h,fun m m' k h => by simp at h,fun k L h => h,fun m k h => by simp at h⟩
        obtain ⟨ks,tp,T,_,l2,a2⟩:=give_take (S:=S1) (w:=w') (mu:=mu1) (hw:=hw1) (ti:=ti1) vs ys K1.tips [] [] T0 r2 (fun j x v hx hv => by
          obtain ⟨p,q⟩:=r3 j x v hx hv
          exact ⟨p,q.to1 (hntv x (List.mem_of_getElem? hx))⟩)
        rw [List.nil_append] at T a2
        -- the result as one value
        have hm:(fn.results.mapM (fun r => match r with
            | .tmp t => pure (a'.tmps.getD t undef)
            | .cell a0 t => do loadVar t (← asAddr (a'.tmps.getD a0 undef)):ResultVar → Sem Value)).run P w'=.ok ys.toArray w':=by
          rw [Array.mapM_eq_mapM_toList,Sem.run_map]
          exact (congrArg (fun z => Result.andThen z _) r1).trans rfl
        have hres:(results fn a'.tmps).run P w'=.ok (if h:ys.toArray.size=1 then ys.toArray[0] else .tuple ys.toArray) w':=by
          unfold results
          rw [Sem.run_bind]
          exact (congrArg (fun z => Result.andThen z _) hm).trans rfl
        have fin:(takeRet [] (retOf (giveResL K1.tips vs))).2=(takeResL [] (giveResL K1.tips vs)).2 ∧
            RV w' mu1 hw1 (lkS S1 mu1) (takeRet [] (retOf (giveResL K1.tips vs))).1 (if h:ys.toArray.size=1 then ys.toArray[0] else .tuple ys.toArray) ∧
            Flag (live (takeResL [] (giveResL K1.tips vs)).2 S1 mu1) (tiOf ti1 ks) (takeRet [] (retOf (giveResL K1.tips vs))).1 (if h:ys.toArray.size=1 then ys.toArray[0] else .tuple ys.toArray):=by
          have tupCase:ys.length ≠ 1 → retOf (giveResL K1.tips vs)=.tup (giveResL K1.tips vs) → (takeRet [] (retOf (giveResL K1.tips vs))).2=(takeResL [] (giveResL K1.tips vs)).2 ∧
            RV w' mu1 hw1 (lkS S1 mu1) (takeRet [] (retOf (giveResL K1.tips vs))).1 (if h:ys.toArray.size=1 then ys.toArray[0] else .tuple ys.toArray) ∧
            Flag (live (takeResL [] (giveResL K1.tips vs)).2 S1 mu1) (tiOf ti1 ks) (takeRet [] (retOf (giveResL K1.tips vs))).1 (if h:ys.toArray.size=1 then ys.toArray[0] else .tuple ys.toArray):=by
            intro hl1 hret
            have hnl:¬ ys.toArray.size=1:=by simpa using hl1
            rw [hret,dif_neg hnl]
            simp only [takeRet]
            refine ⟨trivial,?_,?_⟩
            · have hR:=RV.tup (w:=w') (mu:=mu1) (hw:=hw1) (lk:=lkS S1 mu1) (takeResL [] (giveResL K1.tips vs)).1 (fun j => ys.getD j undef) (fun j x hj => by
                have hjl:j < ys.length:=by have:=lt_of_get hj; omega
                obtain ⟨p,_⟩:=a2 j x ys[j] hj (List.getElem?_eq_getElem hjl)
                simpa [List.getD_eq_getElem?_getD,hjl] using p)
              have e0:((List.range (takeResL [] (giveResL K1.tips vs)).1.length).map fun j => ys.getD j undef).toArray=ys.toArray:=by
                apply Array.ext'
                simp only
                apply List.ext_getElem?
                intro j
                rw [l2,r2]
                simp only [List.getElem?_map,List.getD_eq_getElem?_getD]
                by_cases hjl:j < ys.length
                · simp [hjl]
                · rw [List.getElem?_eq_none (by simpa using hjl),List.getElem?_eq_none (by omega)]; rfl
              rw [e0] at hR
              exact hR
            · intro arr earr j x y hx hy
              cases earr
              exact (a2 j x y hx (by simpa using hy)).2
          cases hvs0:vs with
          | nil =>
            rw [hvs0] at tupCase r2
            exact tupCase (by simp at r2; simp [← r2]) rfl
          | cons x l =>
            cases hl0:l with
            | cons x' l' =>
              rw [hvs0,hl0] at tupCase r2
              exact tupCase (by simp at r2; omega) rfl
            | nil =>
              rw [hvs0,hl0] at a2 r2 l2
              have hnx:notTup x=true:=hntv x (by rw [hvs0]; simp)
              obtain ⟨y,rfl⟩:∃ y,ys=[y]:=by
                cases ys with
                | nil => simp at r2
                | cons y ys => cases ys with
                  | nil => exact ⟨y,rfl⟩
                  | cons => simp at r2
              have hg:=giveRes_notTup K1.tips x hnx
              have ht:takeRet [] (giveRes K1.tips x).1=takeRes [] (giveRes K1.tips x).1:=by
                cases hx:(giveRes K1.tips x).1 with
                | tup l => rw [hx] at hg; simp [notTup] at hg
                | _ => rfl
              have hret:retOf (giveResL K1.tips [x])=(giveRes K1.tips x).1:=rfl
              obtain ⟨p,q⟩:=a2 0 (takeRes [] (giveRes K1.tips x).1).1 y rfl rfl
              rw [hret,ht]
              exact ⟨rfl,p,Flag.of1 q⟩
        obtain ⟨g1,g2,g3⟩:=fin
        rw [← g1] at T g3
        obtain ⟨I2,lv2⟩:=leave_tips I1 lv T
        obtain ⟨q1,q2,q3,q4,q5,q6⟩:=inv_drop I I2 e lv2 hole K
        have one:∀ (x:AV) (y:Value),lt S.length (fun _ => true) x=true → Flag1 (live (takeRet [] (retOf (giveResL K1.tips vs))).2 S1 mu1) (tiOf ti1 ks) x y →
            Flag1 (live (takeRet [] (retOf (giveResL K1.tips vs))).2 (S1.take S.length) mu) (tiOf ti1 ks) x y:=by
          intro x y hx hf1
          cases x with
          | sl rr sz es =>
            cases rr with
            | fr k =>
              obtain ⟨o',c1,c2⟩:=hf1
              exact ⟨o',c1,c2⟩
            | bx i j =>
              obtain ⟨o',c1,c2⟩:=hf1
              have hi:i < S.length:=by simp only [lt,rlt,Bool.and_eq_true,decide_eq_true_eq] at hx; exact hx.1
              exact ⟨o',by rw [q5 _ fun i' j' e0 => by cases e0; exact hi]; exact c1,c2⟩
            | _ => exact hf1
          | _ => exact hf1
        have oneF:∀ (X:AV) (y:Value),lt S.length (fun _ => true) X=true → Flag (live (takeRet [] (retOf (giveResL K1.tips vs))).2 S1 mu1) (tiOf ti1 ks) X y →
            Flag (live (takeRet [] (retOf (giveResL K1.tips vs))).2 (S1.take S.length) mu) (tiOf ti1 ks) X y:=by
          intro X y hb0 g3
          cases X with
          | tup l =>
            intro arr earr j x y hx hy
            exact one x y (ltL_get (by simpa [lt] using hb0) hx) (g3 arr earr j x y hx hy)
          | sl rr sz es => exact one (.sl rr sz es) _ hb0 g3
          | _ => trivial
        rcases hcases with ⟨hp,rfl,rfl⟩ | ⟨_,_,rfl,rfl⟩ | ⟨hp,rfl,rfl⟩ | ⟨hfz,hp,rfl⟩
        · have hb0:=fine_lt (plainRes_fine hp S.length (fun _ => true))
          exact ⟨_,hres,_,rfl,mu,_,tiOf ti1 ks,q1,q2,q3,q4 _ _ hb0 g2,oneF _ _ hb0 g3,fun i a b => ⟨q6 i a b,a⟩⟩
        · exact ⟨_,hres,_,rfl,mu1,hw1,tiOf ti1 ks,I2,e,lv2,g2,g3,hole⟩
        · have hb0:=fine_lt (fine_mono (Nat.le_refl _) (fun k _ h => by simp at h) hp (q':=fun _ => true))
          exact ⟨_,hres,_,rfl,mu,_,tiOf ti1 ks,q1,q2,q3,q4 _ _ hb0 g2,oneF _ _ hb0 g3,fun i a b => ⟨q6 i a b,a⟩⟩
        · have hb0:=fine_lt (plainRes_fine hp S.length (fun _ => true))
          obtain ⟨t1,t2,t3⟩:=frzR_take (n0:=S.length) (mu:=mu) (lk2:=lkS (S1.take S.length) mu) q4 (fun v v' x hv hf => frz_rv I2 _ _ _ _ hv hf) hfz
          refine ⟨_,hres,_,rfl,mu,_,tiOf ti1 ks,?_,q2,?_,t2 _ g2,?_,fun i a b => ⟨q6 i a b,a⟩⟩
          · rw [t1]; exact q1
          · rw [t1]; exact q3
          · rw [t1]; exact oneF _ _ hb0 (t3 _ _ _ g3)
      cases o with
      | normal => exact key
      | ret => exact key
      | exit id => exact (hne _ rfl).elim
  · cases h
theorem all_kcalls {lib:FuncId → Option KF} {nk:NK} (hm:P.follows .mixedOrders=true) (hN:Named P) (hpr:PrimOK P nk) (hlib:∀ f k,lib f=some k → ∃ fn,P.funcs[f]?=some fn ∧ KOK P fn k):∀ n,CallSim P (evKF lib nk n):=by
  intro n
  induction n with
  | zero => intro f args S r S' h; simp [evKF] at h
  | succ n ih => exact kfun_sound hm hN hpr hlib ih
end
end Go.Proofs.YtekgdmhdkhgpjaaGreatDoor.am
