/- Several texts, one behind the other: Rz1 Rz2 -/
import Derived.Test.YtekgdmhdkhgpjaaGreatDoorSS
set_option linter.unusedSimpArgs false
set_option linter.unusedVariables false
set_option linter.unusedSimpArgs false
set_option linter.unusedVariables false
namespace Go.Proofs.YtekgdmhdkhgpjaaGreatDoor.am
open Go
def isOf (a b c:UInt8) (x:UInt8):Bool:=decide (x=a) || (decide (x=b) || decide (x=c))
theorem u8_eq (x y:UInt8):((x.toNat:Int) == (y.toNat:Int))=decide (x=y):=by
  by_cases h:x=y
  · subst h; simp
  · have:¬ (x.toNat:Int)=y.toNat:=fun e => h (UInt8.toNat_inj.1 (by omega))
    simp [h,this]
theorem upto_at {p:UInt8 → Bool} {s:Str} {i:Nat} {c:UInt8} (h:∀ x ∈ s.take i,p x=false) (hc:s[i]?=some c) (hp:p c=true):upto p s=s.take i ∧ from' p s=s.drop i:=by
  have h1:=drop_get hc
  have h2:=upto_eq (p:=p) (a:=s.take i) (r:=s.drop i) h (by rw [h1]; intro x hx; simp at hx; rw [← hx]; exact hp)
  rwa [List.take_append_drop] at h2
theorem upto_none {p:UInt8 → Bool} {s:Str} (h:∀ x ∈ s,p x=false):upto p s=s ∧ from' p s=[]:=by
  have h2:=upto_eq (p:=p) (a:=s) (r:=[]) h (by intro x hx; cases hx)
  simpa using h2
theorem L_dioptreref11_cut (s:Str) (hs:s.length < 9223372036854775808) (a b c:UInt8) (nb:Nat) (S:St):∀ d i,i + d=s.length → (∀ x ∈ s.take i,isOf a b c x=false) →
    DC lib nk (.loop l_dioptreref11_cut_0) ⟨[(0,.str s),(1,.int .u8 a.toNat),(2,.int .u8 b.toNat),(3,.int .u8 c.toNat),(10,.int .i64 (i:Nat))],[],nb⟩ S =
      (if from' (isOf a b c) s=[] then some (.exit 0,⟨[(0,.str s)],[],nb⟩,S) else some (.ret,⟨[(8,.str (upto (isOf a b c) s)),(9,.str (from' (isOf a b c) s))],[],nb⟩,S)):=by
  intro d
  induction d with
  | zero =>
    intro i hi h
    have h6:s.take i=s:=List.take_of_length_le (by omega)
    rw [h6] at h
    rw [(upto_none h).2,if_pos rfl]
    rw [DC_loop',DC_of l_dioptreref11_cut_0.eq_1]
    have h5:¬ i < s.length:=by omega
    simp [h5]
  | succ d ih =>
    intro i hi h
    have h3:i < s.length:=by omega
    obtain ⟨x,hx,hx'⟩:=get_of_lt' (l:=s) (i:=i) h3
    have hw:=wrap_succ (i:=i) (by omega)
    simp at hw
    cases hp:isOf a b c x
    · have hn:=ih (i + 1) (by omega) (by
        rw [List.take_add_one,hx]
        intro y hy
        rcases List.mem_append.1 hy with h1 | h1
        · exact h y h1
        · simp at h1; rw [h1]; exact hp)
      simp at hn
      simp only [isOf,Bool.or_eq_false_iff] at hp
      rw [DC_loop',DC_of l_dioptreref11_cut_0.eq_1]
      have e1:¬ x.toNat=a.toNat:=by have:=u8_eq x a; rw [hp.1] at this; simp at this; omega
      have e2:¬ x.toNat=b.toNat:=by have:=u8_eq x b; rw [hp.2.1] at this; simp at this; omega
      have e3:¬ x.toNat=c.toNat:=by have:=u8_eq x c; rw [hp.2.2] at this; simp at this; omega
      simp [h3,hx,hx',r_dioptreref11_cut_0,e1,e2,e3]
      rw [DC_keep_of l_dioptreref11_cut_0.eq_1]
      simp [hw,hn]
    · obtain ⟨u1,u2⟩:=upto_at h hx hp
      have hne:s.drop i ≠ []:=by rw [drop_get hx]; simp
      rw [u2,if_neg hne,u1]
      have s1:=slS_to (s:=s) (n:=i) (by omega)
      have s2:=slS_from (s:=s) (n:=i) (by omega)
      rw [DC_loop',DC_of l_dioptreref11_cut_0.eq_1]
      have k1:=u8_eq x a
      have k2:=u8_eq x b
      have k3:=u8_eq x c
      by_cases c1:x=a
      · have c1':(x.toNat:Int)=a.toNat:=by rw [c1]
        simp [h3,hx,hx',r_dioptreref11_cut_0,c1',s1,s2]
      · have c1':¬ (x.toNat:Int)=a.toNat:=by rw [decide_eq_false c1] at k1; simpa using k1
        by_cases c2:x=b
        · have c2':(x.toNat:Int)=b.toNat:=by rw [c2]
          rw [c2'] at c1'
          simp [h3,hx,hx',r_dioptreref11_cut_0,c1',c2',s1,s2]
        · have c2':¬ (x.toNat:Int)=b.toNat:=by rw [decide_eq_false c2] at k2; simpa using k2
          have c3:x=c:=by simpa [isOf,c1,c2] using hp
          have c3':(x.toNat:Int)=c.toNat:=by rw [c3]
          rw [c3'] at c1' c2'
          simp [h3,hx,hx',r_dioptreref11_cut_0,c1',c2',c3',s1,s2]
theorem F_dioptreref11_cut (s:Str) (hs:s.length < 9223372036854775808) (a b c:UInt8) (S:St):DF lib nk 65 [.str s,.int .u8 a.toNat,.int .u8 b.toNat,.int .u8 c.toNat] S=some (.tup [.str (upto (isOf a b c) s),.str (from' (isOf a b c) s)],S):=by
  rw [run_dioptreref11_cut,DC_of c_dioptreref11_cut.eq_1]
  have h:=L_dioptreref11_cut s hs a b c S.length S s.length 0 (by omega) (by simp)
  have pr:∀ u v:Str,plainRes (.tup [.str u,.str v])=true:=fun _ _ => rfl
  by_cases e:from' (isOf a b c) s=[]
  · have e1:=upto_app (isOf a b c) s
    rw [e] at e1
    simp at e1
    rw [if_pos e] at h
    simp at h
    simp
    rw [DC_keep_of l_dioptreref11_cut_0.eq_1]
    simp [h,e,e1,pr]
  · rw [if_neg e] at h
    simp at h
    simp
    rw [DC_keep_of l_dioptreref11_cut_0.eq_1]
    simp [h,pr]
def hxL:List UInt8 → UInt8 → Nat → Nat
  | [],_,i => i
  | b :: r,c,i => if b=c then i else hxL r c (i + 1)
def digL:List UInt8:=[48,49,50,51,52,53,54,55,56,57,97,98,99,100,101,102]
def hxN (c:UInt8):Nat:=hxL digL c 0
theorem hxL_le:∀ (l:List UInt8) (c:UInt8) (i:Nat),i ≤ hxL l c i ∧ hxL l c i ≤ i + l.length
  | [],c,i => by simp [hxL]
  | b :: r,c,i => by
    have:=hxL_le r c (i + 1)
    unfold hxL
    split
    · simp
    · simp; omega
theorem hxN_le (c:UInt8):hxN c ≤ 16:=by have:=(hxL_le digL c 0).2; simpa [hxN,digL] using this
theorem hxN_hexd:∀ n:Nat,n < 16 → hxN (hexd n)=n:=by decide +kernel
theorem L_dioptreref11_hex (c:UInt8) (nb:Nat) (S:St):∀ d i,i + d=16 →
    DC lib nk (.loop l_dioptreref11_hex_0) ⟨[(0,.int .u8 c.toNat),(3,.str digL),(4,.int .i64 (i:Nat))],[],nb⟩ S =
      (if hxL (digL.drop i) c i < 16 then some (.ret,⟨[(2,.int .i64 (hxL (digL.drop i) c i:Nat))],[],nb⟩,S) else some (.exit 0,⟨[],[],nb⟩,S)):=by
  intro d
  induction d with
  | zero =>
    intro i hi
    have h6:digL.drop i=[]:=List.drop_eq_nil_of_le (by simp [digL]; omega)
    rw [h6,if_neg (by simp [hxL]; omega)]
    rw [DC_loop',DC_of l_dioptreref11_hex_0.eq_1]
    have h5:¬ (i:Int) < 16:=by omega
    simp [h5]
  | succ d ih =>
    intro i hi
    have h3:(i:Int) < 16:=by omega
    obtain ⟨x,hx,hx'⟩:=get_of_lt' (l:=digL) (i:=i) (by simp [digL]; omega)
    have hw:=wrap_succ (i:=i) (by omega)
    simp at hw
    rw [drop_get hx]
    by_cases e:x=c
    · have e':(x.toNat:Int)=c.toNat:=by rw [e]
      have e1:hxL (x :: digL.drop (i + 1)) c i=i:=by rw [hxL,if_pos e]
      rw [e1,if_pos (by omega)]
      rw [DC_loop',DC_of l_dioptreref11_hex_0.eq_1]
      simp [h3,hx,hx',e']
    · have e':¬ (x.toNat:Int)=c.toNat:=by have:=u8_eq x c; rw [decide_eq_false e] at this; simpa using this
      have e1:hxL (x :: digL.drop (i + 1)) c i=hxL (digL.drop (i + 1)) c (i + 1):=by rw [hxL,if_neg e]
      rw [e1]
      have hn:=ih (i + 1) (by omega)
      simp at hn
      rw [DC_loop',DC_of l_dioptreref11_hex_0.eq_1]
      simp [h3,hx,hx',e']
      rw [DC_keep_of l_dioptreref11_hex_0.eq_1]
      simp [hw,hn]
theorem F_dioptreref11_hex (c:UInt8) (S:St):DF lib nk 63 [.int .u8 c.toNat] S=some (.int .i64 (hxN c:Nat),S):=by
  rw [run_dioptreref11_hex,DC_of c_dioptreref11_hex.eq_1]
  have h:=L_dioptreref11_hex c S.length S 16 0 (by omega)
  have hl:=hxN_le c
  have e:hxL (digL.drop 0) c 0=hxN c:=rfl
  rw [e] at h
  by_cases g:hxN c < 16
  · rw [if_pos g] at h
    simp [digL] at h
    simp
    rw [DC_keep_of l_dioptreref11_hex_0.eq_1]
    simp [h]
  · rw [if_neg g] at h
    have g':hxN c=16:=by omega
    simp [digL] at h
    simp
    rw [DC_keep_of l_dioptreref11_hex_0.eq_1]
    simp [h,g']
theorem L_dioptreref11_number (s:Str) (hs:s.length < 9223372036854775808) (nb:Nat) (S:St):∀ d i,i + d=s.length → ∀ n:Nat,n < 18446744073709551616 →
    DC lib nk (.loop l_dioptreref11_number_0) ⟨[(0,.str s),(4,.int .u64 (n:Nat)),(5,.int .i64 (i:Nat))],[],nb⟩ S =
      (match pu (s.drop i) n with | some v => some (.exit 0,⟨[(4,.int .u64 (v:Nat))],[],nb⟩,S) | none => some (.ret,⟨[(2,.int .u64 0),(3,.bool false)],[],nb⟩,S)):=by
  intro d
  induction d with
  | zero =>
    intro i hi n hn
    have h6:s.drop i=[]:=List.drop_eq_nil_of_le (by omega)
    rw [h6]
    rw [DC_loop',DC_of l_dioptreref11_number_0.eq_1]
    have h5:¬ i < s.length:=by omega
    simp [h5,pu]
  | succ d ih =>
    intro i hi n hn
    have h3:i < s.length:=by omega
    obtain ⟨c,hc,hc'⟩:=get_of_lt' (l:=s) (i:=i) h3
    have hw:=wrap_succ (i:=i) (by omega)
    simp at hw
    rw [drop_get hc,pu]
    by_cases hd:48 ≤ c.toNat ∧ c.toNat ≤ 57
    · rw [if_pos hd]
      have c2:¬ (c.toNat:Int) < 48:=by omega
      have c3:¬ (57:Int) < c.toNat:=by omega
      have w1:IntKind.wrap .u8 ((c.toNat:Int) - 48)=((c.toNat - 48:Nat):Int):=by rw [wrap_u8 _ (by omega) (by omega)]; omega
      have hq:c.toNat - 48 ≤ 9:=by omega
      generalize c.toNat - 48=q at w1 hq
      have w3:IntKind.wrap .u64 (q:Int)=q:=wrap_u64 _ (by omega) (by omega)
      have w4:IntKind.wrap .u64 (18446744073709551615 - (q:Int))=((18446744073709551615 - q:Nat):Int):=by rw [wrap_u64 _ (by omega) (by omega)]; omega
      have w5:IntKind.wrap .u64 ((18446744073709551615 - q:Nat) / 10:Int)=(((18446744073709551615 - q) / 10:Nat):Int):=by
        rw [wrap_u64 _ (by omega) (by omega)]; omega
      have tdd:((18446744073709551615 - q:Nat):Int).tdiv 10=((18446744073709551615 - q:Nat):Int) / 10:=td _ _
      by_cases a:n * 10 + q < 18446744073709551616
      · rw [if_pos a]
        have hn':=ih (i + 1) (by omega) (n * 10 + q) a
        have a':¬ ((((18446744073709551615 - q) / 10:Nat):Int) < (n:Int)):=by omega
        have w6:IntKind.wrap .u64 (10 * (n:Int))=((n * 10:Nat):Int):=by rw [wrap_u64 _ (by omega) (by omega)]; omega
        have w7:IntKind.wrap .u64 (((n * 10:Nat):Int) + q)=((n * 10 + q:Nat):Int):=by rw [wrap_u64 _ (by omega) (by omega)]; omega
        generalize hA:(18446744073709551615 - q) / 10=A at *
        generalize hB:18446744073709551615 - q=B at *
        generalize n * 10 + q=N2 at *
        generalize n * 10=N1 at *
        rw [DC_loop',DC_of l_dioptreref11_number_0.eq_1]
        simp at hn' w5 w6 w7
        simp [h3,hc,hc',c2,c3,w1,w3,w4,tdd,w5,a',w6,w7]
        rw [DC_keep_of l_dioptreref11_number_0.eq_1]
        simp [hw,hn']
      · rw [if_neg a]
        have a':((((18446744073709551615 - q) / 10:Nat):Int) < (n:Int)):=by omega
        generalize hA:(18446744073709551615 - q) / 10=A at *
        generalize hB:18446744073709551615 - q=B at *
        rw [DC_loop',DC_of l_dioptreref11_number_0.eq_1]
        try simp at w5
        have a'':A < n:=by omega
        simp [h3,hc,hc',c2,c3,w1,w3,w4,tdd,w5,a',a'']
    · rw [if_neg hd]
      by_cases c2:(c.toNat:Int) < 48
      · rw [DC_loop',DC_of l_dioptreref11_number_0.eq_1]
        simp [h3,hc,hc',c2]
      · have c3:(57:Int) < c.toNat:=by omega
        rw [DC_loop',DC_of l_dioptreref11_number_0.eq_1]
        simp [h3,hc,hc',c2,c3]
theorem F_dioptreref11_number (s:Str) (hs:s.length < 9223372036854775808) (S:St):∃ (v:Nat) (ok:Bool),v < 18446744073709551616 ∧ (ok=true → s ≠ []) ∧ (∀ m:Nat,m < 18446744073709551616 → s=dec m → v=m ∧ ok=true) ∧
    DF lib nk 66 [.str s] S=some (.tup [.int .u64 (v:Nat),.bool ok],S):=by
  rw [run_dioptreref11_number,DC_of c_dioptreref11_number.eq_1]
  have pr:∀ (n:Int) (b:Bool),plainRes (.tup [.int .u64 n,.bool b])=true:=fun _ _ => rfl
  have h:=L_dioptreref11_number s hs S.length S s.length 0 (by omega) 0 (by decide)
  rw [List.drop_zero] at h
  by_cases h1:s.length < 1
  · have e:s=[]:=List.eq_nil_of_length_eq_zero (by omega)
    subst e
    refine ⟨0,false,by decide,by simp,fun m hm e => ?_,by simp [pr]⟩
    obtain ⟨b,t,e2,_⟩:=dec_cons m
    rw [e2] at e; cases e
  · have h1':¬ (s.length:Int) < 1:=by omega
    by_cases h2:20 < s.length
    · have h2':(20:Int) < s.length:=by omega
      refine ⟨0,false,by decide,by simp,fun m hm e => ?_,by simp [pr,h1',h2']⟩
      have:=dec_len20 hm
      rw [← e] at this
      omega
    · have h2':¬ (20:Int) < s.length:=by omega
      cases e:pu s 0 with
      | none =>
        rw [e] at h
        refine ⟨0,false,by decide,by simp,fun m hm e1 => ?_,?_⟩
        · rw [e1,pu_dec hm] at e; cases e
        · simp at h
          simp [h1',h2']
          rw [DC_keep_of l_dioptreref11_number_0.eq_1]
          simp [h,pr]
      | some v =>
        rw [e] at h
        refine ⟨v,true,pu_lt s 0 v (by decide) e,fun _ e1 => by rw [e1] at h1; simp at h1,fun m hm e1 => ?_,?_⟩
        · rw [e1,pu_dec hm] at e; cases e; exact ⟨rfl,rfl⟩
        · simp at h
          simp [h1',h2']
          rw [DC_keep_of l_dioptreref11_number_0.eq_1]
          simp [h,pr]
end Go.Proofs.YtekgdmhdkhgpjaaGreatDoor.am

set_option linter.unusedSimpArgs false
set_option linter.unusedVariables false
namespace Go.Proofs.YtekgdmhdkhgpjaaGreatDoor.am
open Go
def zb:Box:=.mem [.int .i64 0,.int .i64 0,.str [],.nils,.nils,.nils] [] false
theorem L_ReadText (s:Str) (hs:s.length ≤ 1000000000) (S:St):∀ (n i:Nat) (acc:Str) (out:AV) (tips:List (Option Nat)),s.length - i ≤ n → i ≤ s.length → OutB out tips acc → acc.length ≤ i →
    ∃ (txt:Str) (i':Nat) (out':AV) (tips':List (Option Nat)) (bad:Bool),i' ≤ s.length ∧ OutB out' tips' (acc ++ txt) ∧ (acc ++ txt).length ≤ i' ∧
      (∀ u r,s.drop i=quoteB u ++ 34 :: r → bad=false ∧ txt=u ∧ s.drop i'=34 :: r) ∧
      ∀ nb,DC lib nk (.loop l_dioptreref11_Read_0) ⟨[(0,.str s),(4,.ptr S.length 0),(7,.ptr (S.length + 1) 0),(8,out),(9,.int .i64 (i:Nat))],tips,nb⟩ (S ++ [zb,zb]) =
        if bad then some (.ret,⟨[(4,.ptr S.length 0),(5,.str s),(6,.bool false)],tips',nb⟩,S ++ [zb,zb]) else some (.exit 1,⟨[(0,.str s),(4,.ptr S.length 0),(7,.ptr (S.length + 1) 0),(8,out'),(9,.int .i64 (i':Nat))],tips',nb⟩,S ++ [zb,zb]):=by
  have s0:=fun l k off tips nb n => stTa (S:=S) (T:=S) rfl plain_zv l k off tips nb n
  have s00:=fun l off tips nb n => stTa0 (S:=S) (T:=S) rfl plain_zv l off tips nb n
  intro n
  induction n with
  | zero =>
    intro i acc out tips hn hi ho ha
    have e:i=s.length:=by omega
    refine ⟨[],i,out,tips,false,hi,by simpa using ho,by simpa using ha,fun u r h => ?_,fun nb => ?_⟩
    · rw [e,List.drop_length] at h; simp at h
    · have h5:¬ i < s.length:=by omega
      rw [DC_loop',DC_of l_dioptreref11_Read_0.eq_1]
      simp [h5]
  | succ n ih =>
    intro i acc out tips hn hi ho ha
    by_cases h3:i < s.length
    rotate_left
    · have e:i=s.length:=by omega
      refine ⟨[],i,out,tips,false,hi,by simpa using ho,by simpa using ha,fun u r h => ?_,fun nb => ?_⟩
      · rw [e,List.drop_length] at h; simp at h
      · rw [DC_loop',DC_of l_dioptreref11_Read_0.eq_1]
        simp [h3]
    obtain ⟨c,hc,hc'⟩:=get_of_lt' (l:=s) (i:=i) h3
    have hd:=drop_get hc
    by_cases c34:c=34
    · subst c34
      refine ⟨[],i,out,tips,false,hi,by simpa using ho,by simpa using ha,fun u r h => ?_,fun nb => ?_⟩
      · rw [hd,quote_step] at h
        cases u with
        | nil => simp at h; rw [hd,h]; exact ⟨rfl,rfl,rfl⟩
        | cons x u' =>
          simp only at h
          split at h
          · simp at h
          · rename_i e; simp at h; rw [← h.1] at e; exact absurd (by decide) e
      · rw [DC_loop',DC_of l_dioptreref11_Read_0.eq_1]
        simp [h3,hc,hc']
    have n34:¬ c.toNat=34:=fun h => c34 (UInt8.toNat_inj.1 (by rw [h]; rfl))
    have hw:=wrap_succ (i:=i) (by omega)
    simp at hw
    by_cases c92:c=92
    rotate_left
    · have n92:¬ c.toNat=92:=fun h => c92 (UInt8.toNat_inj.1 (by rw [h]; rfl))
      have happ:=appB_ok ho c (by omega) (S ++ [zb,zb])
      obtain ⟨txt,i',out',tips',bad,o1,o2,o3,o4,o5⟩:=ih (i + 1) (acc ++ [c]) _ _ (by omega) (by omega) (.inr ⟨rfl,rfl⟩) (by simp; omega)
      refine ⟨c :: txt,i',out',tips',bad,o1,by simpa using o2,by simpa using o3,fun u r h => ?_,fun nb => ?_⟩
      · rw [hd,quote_step] at h
        cases u with
        | nil => simp at h; exact absurd h.1 c34
        | cons x u' =>
          simp only at h
          split at h
          · simp at h; exact absurd h.1 c92
          · simp at h
            obtain ⟨a1,a2,a3⟩:=o4 u' r h.2
            exact ⟨a1,by rw [a2,h.1],a3⟩
      · rw [DC_loop',DC_of l_dioptreref11_Read_0.eq_1]
        have o5':=o5 nb
        simp at o5' happ
        have n34':¬ (c.toNat:Int)=34:=by omega
        have n92':¬ (c.toNat:Int)=92:=by omega
        simp [h3,hc,hc',c34,c92,n34',n92',happ]
        rw [DC_keep_of l_dioptreref11_Read_0.eq_1]
        simp [hw,o5']
    subst c92
    by_cases h2:i + 2 < s.length
    rotate_left
    · have h2':((s.length:Int) ≤ (i:Int) + 2):=by omega
      have w2:IntKind.wrap .i64 ((i:Int) + 2)=(i:Int) + 2:=wrap_i64 _ (by omega) (by omega)
      refine ⟨[],i,out,tips,true,hi,by simpa using ho,by simpa using ha,fun u r h => ?_,fun nb => ?_⟩
      · exfalso
        have hl:=congrArg List.length h
        rw [List.length_drop] at hl
        rw [hd,quote_step] at h
        cases u with
        | nil => simp at h
        | cons x u' =>
          simp only at h
          split at h
          · rename_i e
            have hq:=quote_step (x :: u') r
            simp only at hq
            rw [if_pos e] at hq
            rw [hq] at hl
            simp at hl
            omega
          · rename_i e; simp at h; rw [← h.1] at e; exact absurd (by decide) e
      · rw [DC_loop',DC_of l_dioptreref11_Read_0.eq_1]
        simp [h3,hc,hc',r_dioptreref11_Read_0,w2,h2',zb,s0,s00,partK_zv,splice]
    obtain ⟨a,ea,ea'⟩:=get_of_lt' (l:=s) (i:=i + 1) (by omega)
    obtain ⟨b,eb,eb'⟩:=get_of_lt' (l:=s) (i:=i + 2) (by omega)
    have hd1:=drop_get ea
    have hd2:=drop_get eb
    have w1:IntKind.wrap .i64 ((i:Int) + 1)=((i + 1:Nat):Int):=by rw [wrap_i64 _ (by omega) (by omega)]; omega
    have w2:IntKind.wrap .i64 ((i:Int) + 2)=((i + 2:Nat):Int):=by rw [wrap_i64 _ (by omega) (by omega)]; omega
    have w3:IntKind.wrap .i64 ((i:Int) + 3)=((i + 3:Nat):Int):=by rw [wrap_i64 _ (by omega) (by omega)]; omega
    have h2':¬ s.length ≤ i + 2:=by omega
    have hA:=hxN_le a
    have hB:=hxN_le b
    have fA:=F_dioptreref11_hex a (S ++ [zb,zb])
    have fB:=F_dioptreref11_hex b (S ++ [zb,zb])
    by_cases gA:hxN a < 16 ∧ hxN b < 16
    · have gA1:¬ (15:Int) < (hxN a:Nat):=by omega
      have gB1:¬ (15:Int) < (hxN b:Nat):=by omega
      have hx:((16 * hxN a + hxN b:Nat):Int)=((UInt8.ofNat (16 * hxN a + hxN b)).toNat:Int):=by rw [UInt8.toNat_ofNat']; omega
      have m1:IntKind.wrap .i64 (16 * (hxN a:Int))=((16 * hxN a:Nat):Int):=by rw [wrap_i64 _ (by omega) (by omega)]; omega
      have m2:IntKind.wrap .i64 (((16 * hxN a:Nat):Int) + (hxN b:Int))=((16 * hxN a + hxN b:Nat):Int):=by rw [wrap_i64 _ (by omega) (by omega)]; omega
      have m3:IntKind.wrap .u8 ((16 * hxN a + hxN b:Nat):Int)=((16 * hxN a + hxN b:Nat):Int):=by rw [wrap_u8 _ (by omega) (by omega)]
      have hy:∀ x:UInt8,a=hexd (x.toNat / 16) → b=hexd (x.toNat % 16) → UInt8.ofNat (16 * hxN a + hxN b)=x:=by
        intro x e1 e2
        have hxl:=x.toNat_lt
        have p1:=hxN_hexd (x.toNat / 16) (by omega)
        have p2:=hxN_hexd (x.toNat % 16) (by omega)
        rw [← e1] at p1
        rw [← e2] at p2
        rw [p1,p2]
        apply UInt8.toNat_inj.1
        rw [UInt8.toNat_ofNat']
        omega
      rw [hx] at m2 m3
      generalize UInt8.ofNat (16 * hxN a + hxN b)=y at *
      have happ:=appB_ok ho y (by omega) (S ++ [zb,zb])
      obtain ⟨txt,i',out',tips',bad,o1,o2,o3,o4,o5⟩:=ih (i + 3) (acc ++ [y]) _ _ (by omega) (by omega) (.inr ⟨rfl,rfl⟩) (by simp; omega)
      refine ⟨y :: txt,i',out',tips',bad,o1,by simpa using o2,by simpa using o3,fun u r h => ?_,fun nb => ?_⟩
      · rw [hd,hd1,hd2,quote_step] at h
        cases u with
        | nil => simp at h
        | cons x u' =>
          simp only at h
          split at h
          · simp at h
            obtain ⟨a1,a2,a3⟩:=o4 u' r h.2.2
            exact ⟨a1,by rw [a2,hy x h.1 h.2.1],a3⟩
          · rename_i e; simp at h; rw [← h.1] at e; exact absurd (by decide) e
      · rw [DC_loop',DC_of l_dioptreref11_Read_0.eq_1]
        have o5':=o5 nb
        generalize 16 * hxN a=N1 at *
        generalize hxN a=NA at *
        generalize hxN b=NB at *
        generalize i + 1=I1 at *
        generalize i + 2=I2 at *
        generalize i + 3=I3 at *
        simp at o5' happ m1 m2 m3
        simp [h3,hc,hc',r_dioptreref11_Read_0,w1,w2,w3,h2',ea,ea',eb,eb',fA,fB,gA1,gB1,m1,m2,m3,happ]
        rw [DC_keep_of l_dioptreref11_Read_0.eq_1]
        simp [o5']
    · refine ⟨[],i,out,tips,true,hi,by simpa using ho,by simpa using ha,fun u r h => ?_,fun nb => ?_⟩
      · exfalso
        rw [hd,hd1,hd2,quote_step] at h
        cases u with
        | nil => simp at h
        | cons x u' =>
          simp only at h
          split at h
          · simp at h
            have hxl:=x.toNat_lt
            have p1:=hxN_hexd (x.toNat / 16) (by omega)
            have p2:=hxN_hexd (x.toNat % 16) (by omega)
            rw [← h.1] at p1
            rw [← h.2.1] at p2
            exact gA ⟨by omega,by omega⟩
          · rename_i e; simp at h; rw [← h.1] at e; exact absurd (by decide) e
      · rw [DC_loop',DC_of l_dioptreref11_Read_0.eq_1]
        simp only [zb] at fA fB
        by_cases gA1:(15:Int) < (hxN a:Nat)
        · generalize hxN a=NA at *
          generalize i + 1=I1 at *
          generalize i + 2=I2 at *
          simp [h3,hc,hc',r_dioptreref11_Read_0,w1,w2,h2',ea,ea',fA,gA1,zb,s0,s00,partK_zv,splice]
        · have gB1:(15:Int) < (hxN b:Nat):=by omega
          generalize hxN a=NA at *
          generalize hxN b=NB at *
          generalize i + 1=I1 at *
          generalize i + 2=I2 at *
          simp [h3,hc,hc',r_dioptreref11_Read_0,w1,w2,h2',ea,ea',eb,eb',fA,fB,gA1,gB1,zb,s0,s00,partK_zv,splice]
end Go.Proofs.YtekgdmhdkhgpjaaGreatDoor.am
