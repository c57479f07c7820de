/- Several texts, one behind the other: Pz1 Pz2 Pz3 Pz4 Pz5 -/
import Derived.Test.YtekgdmhdkhgpjaaGreatDoorSO
import Derived.KernelRfl
import Derived.Test.YtekgdmhdkhgpjaaGreatDoorSM
set_option linter.unusedSimpArgs false
set_option linter.unusedVariables false
set_option linter.unusedSimpArgs false
set_option linter.unusedVariables false
namespace Go.Proofs.YtekgdmhdkhgpjaaGreatDoor.am
open Go
theorem wrap_i32 (n:Int) (h0:-2147483648 ≤ n) (h1:n < 2147483648):IntKind.wrap .i32 n=n:=by
  simp only [IntKind.wrap,IntKind.bits,IntKind.signed]
  simp
  omega
def upto (p:UInt8 → Bool):Str → Str
  | [] => []
  | b :: r => if p b then [] else b :: upto p r
def from' (p:UInt8 → Bool):Str → Str
  | [] => []
  | b :: r => if p b then b :: r else from' p r
def ixW (p:UInt8 → Bool):Str → Nat → Int
  | [],_ => -1
  | b :: r,k => if p b then k else ixW p r (k + 1)
theorem upto_app (p:UInt8 → Bool):∀ s:Str,upto p s ++ from' p s=s
  | [] => rfl
  | b :: r => by unfold upto from'; split <;> simp [upto_app p r]
theorem upto_not (p:UInt8 → Bool):∀ (s:Str),∀ x ∈ upto p s,p x=false
  | [],x,h => by simp [upto] at h
  | b :: r,x,h => by
    unfold upto at h
    split at h
    · cases h
    · rcases List.mem_cons.1 h with e | e
      · subst e; simpa using ‹¬ p x=true›
      · exact upto_not p r x e
theorem from_head (p:UInt8 → Bool):∀ (s:Str),∀ x,(from' p s).head?=some x → p x=true
  | [],x,h => by simp [from'] at h
  | b :: r,x,h => by
    unfold from' at h
    split at h
    · simp at h; subst h; assumption
    · exact from_head p r x h
theorem upto_eq {p:UInt8 → Bool} {a r:Str} (ha:∀ x ∈ a,p x=false) (hr:∀ x,r.head?=some x → p x=true):upto p (a ++ r)=a ∧ from' p (a ++ r)=r :=
  span_inj (upto_not p _) ha (from_head p _) hr (upto_app p _)
theorem upto_len (p:UInt8 → Bool) (s:Str):(upto p s).length + (from' p s).length=s.length:=by
  have:=congrArg List.length (upto_app p s); simpa using this
theorem ixW_spec (p:UInt8 → Bool):∀ (s:Str) (k:Nat),(from' p s=[] → ixW p s k=-1) ∧ (from' p s ≠ [] → ixW p s k=((k + (upto p s).length:Nat):Int))
  | [],k => ⟨fun _ => rfl,fun h => absurd rfl h⟩
  | b :: r,k => by
    unfold ixW from' upto
    split
    · exact ⟨fun h => (by cases h),fun _ => (by simp)⟩
    · obtain ⟨h1,h2⟩:=ixW_spec p r (k + 1)
      exact ⟨h1,fun h => (by rw [h2 h]; simp; omega)⟩
theorem ixW_idxL (c:UInt8):∀ (s:Str) (k:Nat),idxL s (c.toNat:Int) k=ixW (fun b => decide (b=c)) s k
  | [],k => rfl
  | b :: r,k => by
    unfold idxL ixW
    have e:((b.toNat:Int)=(c.toNat:Int))=(b=c):=by
      rw [eq_iff_iff]
      exact ⟨fun h => UInt8.toNat_inj.1 (by omega),fun h => by rw [h]⟩
    rw [ixW_idxL c r (k + 1)]
    by_cases h:b=c <;> simp [e,h]
theorem F_strings_IndexByte (s:Str) (c:UInt8) (S:St):DF lib nk 110 [.str s,.int .u8 (c.toNat:Int)] S=some (.int .i64 (ixW (fun b => decide (b=c)) s 0),S):=by
  rw [run_strings_IndexByte,DC_of c_strings_IndexByte.eq_1]
  have h0:=c.toNat_lt
  have h1:(c.toNat:Int) < 256:=by omega
  simp [idxByteP,ixW_idxL,h1]
theorem F_strings_IndexRune1 (s:Str) (c:UInt8) (hc:c.toNat < 128) (S:St):DF lib nk 106 [.str s,.int .i32 (c.toNat:Int)] S=some (.int .i64 (ixW (fun b => decide (b=c)) s 0),S):=by
  rw [run_strings_IndexRune,DC_of c_strings_IndexRune.eq_1]
  have h:=F_strings_IndexByte s c S
  have h0:(c.toNat:Int) < 128:=by omega
  have h1:IntKind.wrap .u8 (c.toNat:Int)=c.toNat:=wrap_u8 _ (by omega) (by omega)
  simp [h0,h1,h]
theorem F_strings_IndexAny1 (s:Str) (c:UInt8) (hc:c.toNat < 128) (S:St):DF lib nk 84 [.str s,.str [c]] S=some (.int .i64 (ixW (fun b => decide (b=c)) s 0),S):=by
  rw [run_strings_IndexAny,DC_of c_strings_IndexAny.eq_1]
  have h:=F_strings_IndexRune1 s c hc S
  have h1:IntKind.wrap .i32 (c.toNat:Int)=c.toNat:=wrap_i32 _ (by omega) (by omega)
  have h2:¬ (128:Int) ≤ c.toNat:=by omega
  simp [h1,h2,h]
def setL:List AV:=(List.range 256).map fun b => .bool (isStop (UInt8.ofNat b))
def setK:List AV:=splice (splice (splice kz_3da69734 44 [.bool true]) 125 [.bool true]) 93 [.bool true]
theorem setK_eq:setK=setL:=by kernel_rfl
theorem setL_len:setL.length=256:=by simp [setL]
theorem spliceL:splice setL 0 setL=setL:=by simp [splice]
theorem partL:partK (.agg 256) setL 0=some (.agg setL):=by kernel_rfl
theorem spliceK:splice kz_3da69734 0 setL=setL:=by kernel_rfl
theorem kz_len:kz_3da69734.length=256:=by decide +kernel
theorem regSet (i:Nat):regBox [] i [] (.agg setL)=(.agg setL,[],[]):=congrFun (show (fun i => regBox [] i [] (.agg setL))=fun i => (.agg setL,[],[]) by kernel_rfl) i
theorem giveL:(giveRes [] (normr (.agg setL))).1=.agg setL:=by kernel_rfl
theorem plainSetL:plain (.agg setL)=true:=by kernel_rfl
theorem notTupL:notTup (.agg setL)=true:=rfl
theorem isValL:isVal (.agg setL)=true:=by kernel_rfl
theorem storeL (S:St) (cs:List AV) (hc:cs=kz_3da69734 ∨ cs=setL):storeK [] S.length (S ++ [.mem cs [] false]) 256 (.ptr S.length 0) (.agg setL)=some ([],S ++ [.mem setL [] false]):=by
  have h1:cs.length=256:=hc.elim (fun e => e ▸ kz_len) (fun e => e ▸ setL_len)
  have h2:splice cs 0 setL=setL:=hc.elim (fun e => e ▸ spliceK) (fun e => e ▸ spliceL)
  have h3:(AV.agg setL).cells=setL:=rfl
  unfold storeK
  simp only [List.getElem?_concat_length]
  rw [if_pos ⟨isValL,by rw [h3]; exact setL_len,by omega,.inl (Nat.le_refl _)⟩,regSet]
  simp [h3,h2]
theorem F_strings_makeASCIISet (S:St):DF lib nk 108 [.str [44,125,93]] S=some (.tup [.agg setL,.bool true],S):=by
  rw [run_strings_makeASCIISet,DC_of c_strings_makeASCIISet.eq_1]
  have hl:kz_3da69734.length=256:=by decide +kernel
  have hl2:(splice kz_3da69734 44 [.bool true]).length=256:=by decide +kernel
  have hl3:(splice (splice kz_3da69734 44 [.bool true]) 125 [.bool true]).length=256:=by decide +kernel
  have hl4:(splice (splice (splice kz_3da69734 44 [.bool true]) 125 [.bool true]) 93 [.bool true])=setL:=setK_eq
  simp [boxOf]
  rw [DC_keep_of l_strings_makeASCIISet_0.eq_1]
  simp
  rw [DC_loop',DC_of l_strings_makeASCIISet_0.eq_1]
  simp [hl,hl2,hl3,hl4]
  rw [DC_keep_of l_strings_makeASCIISet_0.eq_1]
  simp
  rw [DC_loop',DC_of l_strings_makeASCIISet_0.eq_1]
  simp [hl,hl2,hl3,hl4]
  rw [DC_keep_of l_strings_makeASCIISet_0.eq_1]
  simp
  rw [DC_loop',DC_of l_strings_makeASCIISet_0.eq_1]
  simp [hl,hl2,hl3,hl4]
  rw [DC_keep_of l_strings_makeASCIISet_0.eq_1]
  simp
  rw [DC_loop',DC_of l_strings_makeASCIISet_0.eq_1]
  have hp:partK (.agg 256) setL 0=some (.agg setL):=partL
  have hq:splice setL 0 setL=setL:=spliceL
  have hn:setL.length=256:=setL_len
  simp [hl,hl2,hl3,hl4,hp,hq,hn,plainRes,storeL _ setL (.inr rfl),giveL,plainSetL,notTupL]
theorem setL_at (b:UInt8):setL[b.toNat]?=some (.bool (isStop b)):=by
  have h:=b.toNat_lt
  simp [setL,List.getElem?_map,List.getElem?_range h]
theorem F_strings_asciiSet_contains (b:UInt8) (j:Nat) (S:St) (hj:S[j]?=some (.mem setL [] false)):DF lib nk 109 [.ptr j 0,.int .u8 (b.toNat:Int)] S=some (.bool (isStop b),S):=by
  rw [run_strings_asciiSet_contains,DC_of c_strings_asciiSet_contains.eq_1]
  have h:=b.toNat_lt
  have h1:(b.toNat:Int) < 256:=by omega
  have h2:=setL_at b
  have h3:∀ n:Nat,loadK S .cell (.ptr j n)=setL[n]?:=fun n => by rw [loadK_ptr hj]; rfl
  have h4:b.toNat < 256:=by omega
  simp [h1,h2,h3,h4]
theorem F_strings_shouldUseASCIISet (n:Int) (S:St):DF lib nk 107 [.int .i64 n] S=some (.bool (decide (n > 8)),S):=by
  rw [run_strings_shouldUseASCIISet,DC_of c_strings_shouldUseASCIISet.eq_1]
  simp
theorem L_strings_IndexAny_0 (s:Str) (hs:s.length < 9223372036854775808) (nb:Nat) (S:St):∀ d i,i + d=s.length →
    DC lib nk (.loop l_strings_IndexAny_0) ⟨[(0,.str s),(6,.ptr S.length 0),(8,.int .i64 (i:Nat))],[],nb⟩ (S ++ [.mem setL [] false])=if ixW isStop (s.drop i) i=-1 then some (.exit 0,⟨[],[],nb⟩,S ++ [.mem setL [] false]) else some (.ret,⟨[(4,.int .i64 (ixW isStop (s.drop i) i))],[],nb⟩,S ++ [.mem setL [] false]):=by
  intro d
  induction d with
  | zero =>
    intro i hi
    rw [DC_loop',DC_of l_strings_IndexAny_0.eq_1]
    have h5:¬ i < s.length:=by omega
    have h6:s.drop i=[]:=List.drop_eq_nil_of_le (by omega)
    simp [h5,h6,ixW]
  | succ d ih =>
    intro i hi
    have h3:i < s.length:=by omega
    rw [DC_loop',DC_of l_strings_IndexAny_0.eq_1]
    obtain ⟨x,hx,hx'⟩:=get_of_lt' (l:=s) (i:=i) h3
    rw [drop_get hx]
    have hn:=ih (i + 1) (by omega)
    have hw:=wrap_succ (i:=i) (by omega)
    have hc:=F_strings_asciiSet_contains x S.length (S ++ [.mem setL [] false]) (by simp)
    simp at hn hw
    cases hp:isStop x
    · rw [hp] at hc
      simp [h3,hx,hx',hc,ixW,hp]
      rw [DC_keep_of l_strings_IndexAny_0.eq_1]
      simp [hw,hn]
    · rw [hp] at hc
      have:¬ (i:Int)=-1:=by omega
      simp [h3,hx,hx',hc,ixW,hp,this]
end Go.Proofs.YtekgdmhdkhgpjaaGreatDoor.am

set_option linter.unusedSimpArgs false
set_option linter.unusedVariables false
namespace Go.Proofs.YtekgdmhdkhgpjaaGreatDoor.am
open Go
theorem F_unicode_utf8_ValidRune (n:Int) (S:St):∃ b,DF lib nk 128 [.int .i32 n] S=some (.bool b,S):=by
  rw [run_unicode_utf8_ValidRune,DC_of c_unicode_utf8_ValidRune.eq_1]
  by_cases a:0 ≤ n <;> by_cases b:n < 55296 <;> by_cases c:57343 < n <;> by_cases d:n ≤ 1114111 <;> exact ⟨_,by simp [a,b,c,d]; rfl⟩
theorem enc_high (n:Nat) (h:128 ≤ n):∃ (pre:Str) (x:UInt8),(Utf8.encode (n:Int)).data.toList=pre ++ [x] ∧ 128 ≤ x.toNat ∧ (pre.length=1 ∨ pre.length=2 ∨ pre.length=3):=by
  have key:∀ c:Nat,128 ≤ (UInt8.ofNat (0x80 + c % 64)).toNat:=by
    intro c
    rw [UInt8.toNat_ofNat']
    omega
  unfold Utf8.encode
  have hc:∀ c:Nat,128 ≤ c → ∃ (pre:Str) (x:UInt8),(if c < 0x80 then (⟨#[UInt8.ofNat c]⟩:ByteArray) else if c < 0x800 then ⟨#[UInt8.ofNat (0xC0 + c / 64),UInt8.ofNat (0x80 + c % 64)]⟩
      else if c < 0x10000 then ⟨#[UInt8.ofNat (0xE0 + c / 4096),UInt8.ofNat (0x80 + c / 64 % 64),UInt8.ofNat (0x80 + c % 64)]⟩
      else ⟨#[UInt8.ofNat (0xF0 + c / 262144),UInt8.ofNat (0x80 + c / 4096 % 64),UInt8.ofNat (0x80 + c / 64 % 64),UInt8.ofNat (0x80 + c % 64)]⟩).data.toList=pre ++ [x] ∧ 128 ≤ x.toNat ∧ (pre.length=1 ∨ pre.length=2 ∨ pre.length=3):=by
    intro c hc
    rw [if_neg (by omega)]
    split
    · exact ⟨[_],_,rfl,key c,.inl rfl⟩
    · split
      · exact ⟨[_,_],_,rfl,key c,.inr (.inl rfl)⟩
      · exact ⟨[_,_,_],_,rfl,key c,.inr (.inr rfl)⟩
  have h2:=hc (if Utf8.valid (n:Int) then (n:Int).toNat else Utf8.runeError) (by split; exact (by omega); exact (by decide))
  simp only []
  generalize (if Utf8.valid (n:Int) then (n:Int).toNat else Utf8.runeError)=c at h2
  exact h2
theorem F_strings_IndexRune_low (c:UInt8) (hc:c.toNat < 128) (S:St):DF lib nk 106 [.str [44,125,93],.int .i32 (c.toNat:Int)] S=some (.int .i64 (ixW (fun b => decide (b=c)) [44,125,93] 0),S):=F_strings_IndexRune1 _ c hc S
theorem F_strings_IndexRune_high (n:Nat) (h:128 ≤ n) (h1:n ≤ 1114111) (S:St):DF lib nk 106 [.str [44,125,93],.int .i32 (n:Int)] S=some (.int .i64 (-1),S):=by
  rw [run_strings_IndexRune,DC_of c_strings_IndexRune.eq_1]
  have a1:¬ (n:Int) < 128:=by omega
  by_cases a2:(n:Int)=65533
  · have d0:=dec_ascii (s:=[44,125,93]) (i:=0) (b:=44) rfl (by decide)
    have d1:=dec_ascii (s:=[44,125,93]) (i:=1) (b:=125) rfl (by decide)
    have d2:=dec_ascii (s:=[44,125,93]) (i:=2) (b:=93) rfl (by decide)
    simp at d0 d1 d2
    simp [a1,a2,rangeK]
    rw [DC_keep_of l_strings_IndexRune_0.eq_1]
    simp
    rw [DC_loop',DC_of l_strings_IndexRune_0.eq_1]
    simp [evNext,d0]
    rw [DC_keep_of l_strings_IndexRune_0.eq_1]
    simp
    rw [DC_loop',DC_of l_strings_IndexRune_0.eq_1]
    simp [evNext,d1]
    rw [DC_keep_of l_strings_IndexRune_0.eq_1]
    simp
    rw [DC_loop',DC_of l_strings_IndexRune_0.eq_1]
    simp [evNext,d2]
    rw [DC_keep_of l_strings_IndexRune_0.eq_1]
    simp
    rw [DC_loop',DC_of l_strings_IndexRune_0.eq_1]
    simp [evNext]
  · obtain ⟨b,hb⟩:=F_unicode_utf8_ValidRune n S
    cases b
    · simp [a1,a2,hb,evUn]
    · obtain ⟨pre,x,e,hx,hp⟩:=enc_high n h
      have hi:=F_strings_IndexByte [] x S
      have hi1:=F_strings_IndexByte [93] x S
      have n1:¬ (125:Int)=(x.toNat:Int):=by omega
      have n2:¬ (93:Int)=(x.toNat:Int):=by omega
      have n3:¬ (93:UInt8)=x:=fun h => by subst h; revert hx; decide
      have s1:slSK (.str [44,125,93]) (some (.int .i64 2)) none=some (.str [93]):=rfl
      have s2:slSK (.str [44,125,93]) (some (.int .i64 3)) none=some (.str []):=rfl
      simp [ixW] at hi
      simp [ixW,n3] at hi1
      rcases pre with _ | ⟨p0,_ | ⟨p1,_ | ⟨p2,_ | ⟨p3,pre⟩⟩⟩⟩
      · simp at hp
      · simp [a1,a2,hb,cvRK,e,evUn]
        rw [DC_keep_of l_strings_IndexRune_2.eq_1]
        simp
        rw [DC_loop',DC_of l_strings_IndexRune_2.eq_1]
        simp [n1,hi1,s1]
      · simp [a1,a2,hb,cvRK,e,evUn]
        rw [DC_keep_of l_strings_IndexRune_2.eq_1]
        simp
        rw [DC_loop',DC_of l_strings_IndexRune_2.eq_1]
        simp [n2,hi,s2]
      · simp [a1,a2,hb,cvRK,e,evUn]
        rw [DC_keep_of l_strings_IndexRune_2.eq_1]
        simp
        rw [DC_loop',DC_of l_strings_IndexRune_2.eq_1]
        simp
      · simp at hp
theorem ixW_low (c:UInt8):(0 ≤ ixW (fun b => decide (b=c)) [44,125,93] 0)=(isStop c=true):=by
  rw [eq_iff_iff]
  simp only [ixW,isStop]
  by_cases a:c=44
  · subst a; decide
  by_cases b:c=125
  · subst b; decide
  by_cases d:c=93
  · subst d; decide
  have a':¬ (44:UInt8)=c:=fun h => a h.symm
  have b':¬ (125:UInt8)=c:=fun h => b h.symm
  have d':¬ (93:UInt8)=c:=fun h => d h.symm
  simp [a,b,d,a',b',d']
theorem stop_high {c:UInt8} (h:128 ≤ c.toNat):isStop c=false:=by
  refine stop_not ⟨?_,?_,?_⟩ <;> (intro e; subst e; revert h; decide)
theorem ixW_skip (s:Str):∀ (n pos:Nat),pos + n ≤ s.length → (∀ k,k < n → ∀ c,s[pos + k]?=some c → isStop c=false) → ixW isStop (s.drop pos) pos=ixW isStop (s.drop (pos + n)) (pos + n)
  | 0,pos,_,_ => rfl
  | n + 1,pos,h,hk => by
    obtain ⟨x,hx,_⟩:=get_of_lt' (l:=s) (i:=pos) (by omega)
    have h0:=hk 0 (by omega) x hx
    have hu:ixW isStop (x :: s.drop (pos + 1)) pos=ixW isStop (s.drop (pos + 1)) (pos + 1):=by simp [ixW,h0]
    rw [drop_get hx,hu]
    have e:pos + (n + 1)=(pos + 1) + n:=by omega
    rw [e]
    exact ixW_skip s n (pos + 1) (by omega) fun k hk' c hc => hk (k + 1) (by omega) c (by rw [← hc]; congr 1; omega)
theorem L_strings_IndexAny_1 (s:Str) (hs:s.length < 9223372036854775808) (nb:Nat) (S:St):∀ d pos,s.length - pos ≤ d → pos ≤ s.length → ∃ s1,
    DC lib nk (.loop l_strings_IndexAny_1) ⟨[(1,.str [44,125,93]),(45,.ptr S.length 0)],[],nb⟩ (S ++ [.iter s pos])=if ixW isStop (s.drop pos) pos=-1 then some (.exit 2,⟨[],[],nb⟩,S ++ [.iter s s1]) else some (.ret,⟨[(4,.int .i64 (ixW isStop (s.drop pos) pos))],[],nb⟩,S ++ [.iter s s1]):=by
  intro d
  induction d with
  | zero =>
    intro pos hd hp
    have h:¬ pos < s.length:=by omega
    have h6:s.drop pos=[]:=List.drop_eq_nil_of_le (by omega)
    refine ⟨pos,?_⟩
    rw [DC_loop',DC_of l_strings_IndexAny_1.eq_1]
    simp [evNext,h,h6,ixW]
  | succ d ih =>
    intro pos hd hp
    rcases Nat.lt_or_ge pos s.length with h3 | h3
    rotate_left
    · have h:¬ pos < s.length:=by omega
      have h6:s.drop pos=[]:=List.drop_eq_nil_of_le (by omega)
      refine ⟨pos,?_⟩
      rw [DC_loop',DC_of l_strings_IndexAny_1.eq_1]
      simp [evNext,h,h6,ixW]
    obtain ⟨x,hx,hx'⟩:=get_of_lt' (l:=s) (i:=pos) h3
    by_cases hb:x.toNat < 128
    · have hdec:=dec_ascii hx hb
      have hcall:=F_strings_IndexRune_low x hb (S ++ [.iter s (pos + 1)])
      have hlow:=ixW_low x
      generalize ixW (fun b => decide (b=x)) [44,125,93] 0=I at hcall hlow
      cases hr:isStop x
      · have hlt:¬ 0 ≤ I:=by rw [hlow,hr]; simp
        obtain ⟨s1,hn⟩:=ih (pos + 1) (by omega) (by omega)
        refine ⟨s1,?_⟩
        rw [drop_get hx]
        rw [DC_loop',DC_of l_strings_IndexAny_1.eq_1]
        simp [evNext,h3,hdec,hcall,hlt]
        rw [DC_keep_of l_strings_IndexAny_1.eq_1]
        simp [hn,ixW,hr]
      · have hle:0 ≤ I:=by rw [hlow]; exact hr
        have h0:¬ (pos:Int)=-1:=by omega
        refine ⟨pos + 1,?_⟩
        rw [drop_get hx]
        rw [DC_loop',DC_of l_strings_IndexAny_1.eq_1]
        simp [evNext,h3,hdec,hcall,hle,ixW,hr,h0]
    · obtain ⟨k1,k2,k3,k4,k5⟩:=dec_high hx (by omega)
      have hcall:=F_strings_IndexRune_high (Utf8.decode ⟨s.toArray⟩ pos).1 k1 k2 (S ++ [.iter s (pos + (Utf8.decode ⟨s.toArray⟩ pos).2)])
      obtain ⟨s1,hn⟩:=ih (pos + (Utf8.decode ⟨s.toArray⟩ pos).2) (by omega) k4
      refine ⟨s1,?_⟩
      rw [ixW_skip s (Utf8.decode ⟨s.toArray⟩ pos).2 pos k4 fun k hk c hc => ?_]
      · rw [DC_loop',DC_of l_strings_IndexAny_1.eq_1]
        simp [evNext,h3,hcall]
        rw [DC_keep_of l_strings_IndexAny_1.eq_1]
        simp [hn]
      · rcases Nat.eq_zero_or_pos k with e | e
        · subst e
          rw [Nat.add_zero,hx] at hc
          cases hc
          exact stop_high (by omega)
        · exact stop_high (k5 k e hk c hc)
theorem F_strings_IndexAny3 (s:Str) (hs:s.length < 9223372036854775808) (S:St):DF lib nk 84 [.str s,.str [44,125,93]] S=some (.int .i64 (ixW isStop s 0),S):=by
  rw [run_strings_IndexAny,DC_of c_strings_IndexAny.eq_1]
  have h1:=F_strings_shouldUseASCIISet (s.length:Int) S
  by_cases h8:8 < s.length
  · have h8':(8:Int) < s.length:=by omega
    have h2:=F_strings_makeASCIISet S
    have h3:=L_strings_IndexAny_0 s hs S.length S s.length 0 (by omega)
    simp [h8'] at h1
    simp at h3
    have h4:=storeL S kz_3da69734 (.inl rfl)
    have h5:takeRet [] (.tup [.agg setL,.bool true])=(.tup [.agg setL,.bool true],[]):=by kernel_rfl
    simp [h1,h2,boxOf,h4,h5]
    rw [DC_keep_of l_strings_IndexAny_0.eq_1]
    by_cases e:ixW isStop s 0=-1
    · simp [e] at h3
      simp [h3,e]
    · simp [e] at h3
      simp [h3]
  · have h8':¬ (8:Int) < s.length:=by omega
    obtain ⟨s1,h3⟩:=L_strings_IndexAny_1 s hs S.length S s.length 0 (by omega) (by omega)
    simp [h8'] at h1
    simp at h3
    simp [h1,rangeK]
    rw [DC_keep_of l_strings_IndexAny_1.eq_1]
    by_cases e:ixW isStop s 0=-1
    · simp [e] at h3
      simp [h3,e]
    · simp [e] at h3
      simp [h3]
end Go.Proofs.YtekgdmhdkhgpjaaGreatDoor.am

set_option linter.unusedSimpArgs false
set_option linter.unusedVariables false
namespace Go.Proofs.YtekgdmhdkhgpjaaGreatDoor.am
open Go
def hasP (t s:Str):Bool:=decide (s.take t.length=t)
def cutP (t s:Str):Str:=if hasP t s then s.drop t.length else s
theorem hasP_app (t r:Str):hasP t (t ++ r)=true:=by simp [hasP]
theorem cutP_app (t r:Str):cutP t (t ++ r)=r:=by simp [cutP,hasP_app]
theorem cutP_len (t s:Str):(cutP t s).length ≤ s.length:=by unfold cutP; split <;> simp
theorem slS_to {s:Str} {n:Nat} (h:n ≤ s.length):slSK (.str s) none (some (.int .i64 (n:Int)))=some (.str (s.take n)):=by
  have h1:¬ s.length < n:=by omega
  simp [slSK,h]
theorem slS_from {s:Str} {n:Nat} (h:n ≤ s.length):slSK (.str s) (some (.int .i64 (n:Int))) none=some (.str (s.drop n)):=by
  have h1:¬ s.length < n:=by omega
  simp [slSK,h]
theorem F_internal_stringslite_HasPrefix (s t:Str) (hs:s.length < 9223372036854775808) (ht:t.length < 9223372036854775808) (S:St):DF lib nk 127 [.str s,.str t] S=some (.bool (hasP t s),S):=by
  rw [run_internal_stringslite_HasPrefix,DC_of c_internal_stringslite_HasPrefix.eq_1]
  by_cases h:t.length ≤ s.length
  · have h':(t.length:Int) ≤ s.length:=by omega
    have h3:slSK (.str s) none (some (.int .i64 (t.length:Int)))=some (.str (s.take t.length)):=slS_to (by omega)
    simp [r_internal_stringslite_HasPrefix_0,h,h',hasP,h3]
  · have h':¬ (t.length:Int) ≤ s.length:=by omega
    have h2:hasP t s=false:=by
      simp only [hasP,decide_eq_false_iff_not]
      intro e
      have:=congrArg List.length e
      simp at this
      omega
    simp [r_internal_stringslite_HasPrefix_0,h,h',h2]
theorem F_strings_CutPrefix (s t:Str) (hs:s.length < 9223372036854775808) (ht:t.length < 9223372036854775808) (S:St):DF lib nk 83 [.str s,.str t] S=some (.tup [.str (cutP t s),.bool (hasP t s)],S):=by
  have h1:DF lib nk 105 [.str s,.str t] S=some (.tup [.str (cutP t s),.bool (hasP t s)],S):=by
    rw [run_internal_stringslite_CutPrefix,DC_of c_internal_stringslite_CutPrefix.eq_1]
    have h:=F_internal_stringslite_HasPrefix s t hs ht S
    cases e:hasP t s
    · rw [e] at h
      simp [h,cutP,e,evUn,plainRes]
    · rw [e] at h
      have hl:t.length ≤ s.length:=by
        have:=congrArg List.length (of_decide_eq_true e)
        simp at this
        omega
      have h3:slSK (.str s) (some (.int .i64 (t.length:Int))) none=some (.str (s.drop t.length)):=slS_from (by omega)
      simp [h,cutP,e,evUn,plainRes,hl,h3]
  rw [run_strings_CutPrefix,DC_of c_strings_CutPrefix.eq_1]
  have h2:takeRet [] (.tup [.str (cutP t s),.bool (hasP t s)])=(.tup [.str (cutP t s),.bool (hasP t s)],[]):=rfl
  simp [h1,h2,plainRes]
def psr (s:Str) (bad:Bool):Box:=.mem [.str s,.bool bad] [] false
theorem set_same {S:St} {j:Nat} {b:Box} (h:S[j]?=some b):S.set j b=S:=by
  obtain ⟨h1,h2⟩:=List.getElem?_eq_some_iff.1 h
  rw [← h2]; exact List.set_getElem_self h1
theorem load_psr0 {S:St} {j:Nat} {s:Str} {bad:Bool} (h:S[j]?=some (psr s bad)):loadK S .cell (.ptr j 0)=some (.str s):=by rw [loadK_ptr h]; rfl
theorem load_psr1 {S:St} {j:Nat} {s:Str} {bad:Bool} (h:S[j]?=some (psr s bad)):loadK S .cell (.ptr j 1)=some (.bool bad):=by rw [loadK_ptr h]; rfl
theorem store_psr0 {S:St} {j nb:Nat} {s t:Str} {bad:Bool} (tips:List (Option Nat)) (h:S[j]?=some (psr s bad)):storeK tips nb S 1 (.ptr j 0) (.str t)=some (tips,S.set j (psr t bad)):=by
  unfold storeK
  simp only [h,psr]
  simp [isVal,regBox,plain,strip,AV.cells,splice]
theorem store_psr1 {S:St} {j nb:Nat} {s:Str} {bad b:Bool} (tips:List (Option Nat)) (h:S[j]?=some (psr s bad)):storeK tips nb S 1 (.ptr j 1) (.bool b)=some (tips,S.set j (psr s b)):=by
  unfold storeK
  simp only [h,psr]
  simp [isVal,regBox,plain,strip,AV.cells,splice]
@[simp] theorem take_set (S:St) (j:Nat) (b:Box):(S.set j b).take S.length=S.set j b:=List.take_of_length_le (by simp)
theorem get_set {S:St} {j:Nat} {a b:Box} (h:S[j]?=some a):(S.set j b)[j]?=some b:=by
  obtain ⟨h1,_⟩:=List.getElem?_eq_some_iff.1 h
  simp [h1]
@[simp] theorem takeRet_sb (s:Str) (b:Bool):takeRet [] (.tup [.str s,.bool b])=(.tup [.str s,.bool b],[]):=rfl
theorem F_note_parser_skip {S:St} {j:Nat} {s:Str} {bad:Bool} (hj:S[j]?=some (psr s bad)) (hs:s.length < 9223372036854775808) (t:Str) (ht:t.length < 9223372036854775808) :
    DF lib nk 54 [.ptr j 0,.str t] S=some (.bool (hasP t s),S.set j (psr (cutP t s) bad)):=by
  rw [run_note_parser_skip,DC_of c_note_parser_skip.eq_1]
  have h1:=F_strings_CutPrefix s t hs ht S
  have h2:=load_psr0 hj
  have h3:=fun nb u => store_psr0 (nb:=nb) (t:=u) [] hj
  cases e:hasP t s
  · rw [e] at h1
    have h4:cutP t s=s:=by simp [cutP,e]
    simp [h1,h2,h4,set_same hj]
  · rw [e] at h1
    simp [h1,h2,h3]
theorem F_note_parser_want {S:St} {j:Nat} {s:Str} {bad:Bool} (hj:S[j]?=some (psr s bad)) (hs:s.length < 9223372036854775808) (t:Str) (ht:t.length < 9223372036854775808) :
    DF lib nk 59 [.ptr j 0,.str t] S=some (.tup [],S.set j (psr (cutP t s) (!hasP t s || bad))):=by
  rw [run_note_parser_want,DC_of c_note_parser_want.eq_1]
  have h1:=F_note_parser_skip hj hs t ht
  have h0:=get_set (b:=psr (cutP t s) bad) hj
  have h2:=load_psr1 h0
  have h3:=fun nb u => store_psr1 (nb:=nb) (b:=u) [] h0
  cases e:hasP t s
  · rw [e] at h1
    simp [h1,h2,h3,evUn,e]
  · rw [e] at h1
    simp [h1,h2,h3,evUn,e]
theorem split_app {s a b:Str} (h:a ++ b=s):s.take a.length=a ∧ s.drop a.length=b:=by subst h; simp
theorem until_core {S:St} {j:Nat} {s:Str} {bad:Bool} (hj:S[j]?=some (psr s bad)) (p:UInt8 → Bool) (ends:Str) (h1:DF lib nk 84 [.str s,.str ends] S=some (.int .i64 (ixW p s 0),S)) :
    DF lib nk 55 [.ptr j 0,.str ends] S=some (.str (upto p s),S.set j (psr (from' p s) bad)):=by
  rw [run_note_parser_until,DC_of c_note_parser_until.eq_1]
  have h2:=load_psr0 hj
  have h3:=fun nb u => store_psr0 (nb:=nb) (t:=u) [] hj
  obtain ⟨k1,k2⟩:=ixW_spec p s 0
  have hl:=upto_len p s
  have ha:=upto_app p s
  by_cases e:from' p s=[]
  · have h4:=k1 e
    have h5:upto p s=s:=by rw [e] at ha; simpa using ha
    have h6:=slS_to (s:=s) (n:=s.length) (Nat.le_refl _)
    have h7:=slS_from (s:=s) (n:=s.length) (Nat.le_refl _)
    simp at h6 h7
    rw [h4] at h1
    simp [h1,h2,h3,h5,h6,h7,e]
  · have h4:=k2 e
    simp at h4
    rw [h4] at h1
    have h6:=slS_to (s:=s) (n:=(upto p s).length) (by omega)
    have h7:=slS_from (s:=s) (n:=(upto p s).length) (by omega)
    obtain ⟨h8,h9⟩:=split_app ha
    rw [h8] at h6
    rw [h9] at h7
    simp [h1,h2,h3,h6,h7]
theorem F_note_parser_until3 {S:St} {j:Nat} {s:Str} {bad:Bool} (hj:S[j]?=some (psr s bad)) (hs:s.length < 9223372036854775808) :
    DF lib nk 55 [.ptr j 0,.str [44,125,93]] S=some (.str (upto isStop s),S.set j (psr (from' isStop s) bad)):=until_core hj isStop _ (F_strings_IndexAny3 s hs S)
theorem F_note_parser_until1 {S:St} {j:Nat} {s:Str} {bad:Bool} (hj:S[j]?=some (psr s bad)) (c:UInt8) (hc:c.toNat < 128) :
    DF lib nk 55 [.ptr j 0,.str [c]] S=some (.str (upto (fun b => decide (b=c)) s),S.set j (psr (from' (fun b => decide (b=c)) s) bad)):=until_core hj _ _ (F_strings_IndexAny1 s c hc S)
end Go.Proofs.YtekgdmhdkhgpjaaGreatDoor.am

set_option linter.unusedSimpArgs false
set_option linter.unusedVariables false
namespace Go.Proofs.YtekgdmhdkhgpjaaGreatDoor.am
open Go
def hexI (c:UInt8):Int:=ixW (fun b => decide (b=c)) [48,49,50,51,52,53,54,55,56,57,97,98,99,100,101,102] 0
def hexN (c:UInt8):Nat:=(hexI c).toNat
def hexB (c:UInt8):Bool:=decide (hexI c < 0)
theorem hexI_lt (c:UInt8):hexI c < 16:=by
  have key:∀ n:Fin 256,hexI (UInt8.ofNat n.val) < 16:=by decide +kernel
  have:=key ⟨c.toNat,c.toNat_lt⟩
  simpa using this
theorem hexI_hexd:∀ n:Fin 16,hexI (hexd n.val)=n.val:=by decide +kernel
theorem hexN_hexd (n:Nat) (h:n < 16):hexN (hexd n)=n ∧ hexB (hexd n)=false:=by
  have:=hexI_hexd ⟨n,h⟩
  simp only [hexN,hexB,this]
  exact ⟨by simp,by simp⟩
theorem or16 (x y:Nat) (hx:x < 16) (hy:y < 16):evBinII .or .u8 (16 * x:Nat) .u8 (y:Nat)=some (.int .u8 ((16 * x + y:Nat):Int)):=by
  have key:∀ x y:Fin 16,IntKind.wrap .u8 (BitVec.ofInt IntKind.u8.bits ((16 * x.val:Nat):Int) ||| BitVec.ofInt IntKind.u8.bits ((y.val:Nat):Int)).toNat=((16 * x.val + y.val:Nat):Int):=by decide +kernel
  have:=key ⟨x,hx⟩ ⟨y,hy⟩
  simp only [evBinII]
  simp only at this
  rw [this]
  rfl
theorem F_note_parser_hex {S:St} {j:Nat} {s:Str} {bad:Bool} (hj:S[j]?=some (psr s bad)) (c:UInt8) :
    DF lib nk 85 [.ptr j 0,.int .u8 (c.toNat:Int)] S=some (.int .u8 (hexN c:Nat),S.set j (psr s (bad || hexB c))):=by
  rw [run_note_parser_hex,DC_of c_note_parser_hex.eq_1]
  have h1:=F_strings_IndexByte [48,49,50,51,52,53,54,55,56,57,97,98,99,100,101,102] c S
  have h2:=load_psr1 hj
  have h3:=fun nb u => store_psr1 (nb:=nb) (b:=u) [] hj
  have e:ixW (fun b => decide (b=c)) [48,49,50,51,52,53,54,55,56,57,97,98,99,100,101,102] 0=hexI c:=rfl
  rw [e] at h1
  have hlt:=hexI_lt c
  have h4:foldMax (fun a b => decide (a < b)) .i64 0 [AV.int .i64 (hexI c)]=some (.int .i64 (hexN c:Nat)):=by
    simp [foldMax,hexN]
    split <;> omega
  have h5:IntKind.wrap .u8 (hexN c:Nat)=(hexN c:Nat):=by
    have:hexN c < 256:=by unfold hexN; omega
    exact wrap_u8 _ (by omega) (by omega)
  cases bad
  · simp [h1,h2,h3,hexB,h4,h5]
  · simp [h1,h2,h3,hexB,h4,h5]
def OutB (out:AV) (tips:List (Option Nat)) (l:Str):Prop:=(l=[] ∧ out=.nils ∧ tips=[]) ∨ (out=.sl (.fr 0) 1 (bcl l) ∧ tips=[some l.length])
theorem appB_ok {out:AV} {tips:List (Option Nat)} {l:Str} (h:OutB out tips l) (x:UInt8) (hl:l.length < 1073741824) (S:St) :
    appendK 1 tips S out (.sl .exact 1 [[.int .u8 (x.toNat:Int)]])=some (.sl (.fr 0) 1 (bcl (l ++ [x])),[some (l ++ [x]).length],S):=by
  rcases h with ⟨rfl,rfl,rfl⟩ | ⟨rfl,rfl⟩
  · simp [appendK,elemsOf,bcl,cellB]
  · have:¬ 1073741824 < l.length + 1:=by omega
    simp [appendK,elemsOf,bcl,cellB,this]
end Go.Proofs.YtekgdmhdkhgpjaaGreatDoor.am

set_option linter.unusedSimpArgs false
set_option linter.unusedVariables false
namespace Go.Proofs.YtekgdmhdkhgpjaaGreatDoor.am
open Go
theorem quote_step (u r:Str):quoteB u ++ 34 :: r=match u with | [] => 34 :: r | x :: u' => if isEsc x then 92 :: hexd (x.toNat / 16) :: hexd (x.toNat % 16) :: (quoteB u' ++ 34 :: r) else x :: (quoteB u' ++ 34 :: r):=by
  cases u with
  | nil => rfl
  | cons x u' => simp only [quoteB,List.flatMap_cons,escT]; split <;> simp
@[simp] theorem fill1 (x:Int):fillEs 1 [[AV.int .u8 0]] [(0,.int .u8 x)]=some [[.int .u8 x]]:=rfl
theorem L_text_bad (s:Str) (S:St) (j:Nat) (out:AV) (tips:List (Option Nat)) (nb:Nat) (hj:S[j]?=some (psr s true)) :
    DC lib nk (.loop l_note_parser_text_0) ⟨[(0,.ptr j 0),(3,out)],tips,nb⟩ S=some (.exit 0,⟨[(3,out)],tips,nb⟩,S):=by
  rw [DC_loop',DC_of l_note_parser_text_0.eq_1]
  have h2:=load_psr1 hj
  simp [h2,evUn]
theorem text_nil (bad:Bool) (S:St) (j:Nat) (acc:Str) (out:AV) (tips:List (Option Nat)) (ho:OutB out tips acc) (hj:S[j]?=some (psr [] bad)) :
    ∃ txt s' bad' out' tips',OutB out' tips' (acc ++ txt) ∧ s'.length ≤ ([]:Str).length ∧ txt.length ≤ ([]:Str).length ∧ (bad=false → ∀ u r,[]=quoteB u ++ 34 :: r → txt=u ∧ s'=r ∧ bad'=false) ∧
      ∀ nb,DC lib nk (.loop l_note_parser_text_0) ⟨[(0,.ptr j 0),(3,out)],tips,nb⟩ S=some (.exit 0,⟨[(3,out')],tips',nb⟩,S.set j (psr s' bad')):=by
  refine ⟨[],[],true,out,tips,by simpa using ho,by simp,by simp,fun _ u r h => by simp at h,fun nb => ?_⟩
  cases bad
  · have h0:=load_psr0 hj
    have h2:=load_psr1 hj
    have hsk:=F_note_parser_skip hj (by simp) [34] (by decide)
    have e1:hasP [34] []=false:=by decide
    have e2:cutP [34] []=[]:=by decide
    rw [e1,e2,set_same hj] at hsk
    have st1:=fun nb u => store_psr1 (nb:=nb) (b:=u) tips hj
    have hj':=get_set (b:=psr [] true) hj
    have hb:=L_text_bad [] (S.set j (psr [] true)) j out tips nb hj'
    rw [DC_loop',DC_of l_note_parser_text_0.eq_1]
    simp [h2,hsk,evUn,r_note_parser_text_0,h0,st1]
    rw [DC_keep_of l_note_parser_text_0.eq_1]
    simp [hb]
  · rw [L_text_bad [] S j out tips nb hj,set_same hj]
theorem L_note_parser_text:∀ (n:Nat) (s:Str) (bad:Bool) (S:St) (j:Nat) (acc:Str) (out:AV) (tips:List (Option Nat)),s.length ≤ n → OutB out tips acc → acc.length + s.length ≤ 1000000000 → S[j]?=some (psr s bad) →
    ∃ txt s' bad' out' tips',OutB out' tips' (acc ++ txt) ∧ s'.length ≤ s.length ∧ txt.length ≤ s.length ∧ (bad=false → ∀ u r,s=quoteB u ++ 34 :: r → txt=u ∧ s'=r ∧ bad'=false) ∧
      ∀ nb,DC lib nk (.loop l_note_parser_text_0) ⟨[(0,.ptr j 0),(3,out)],tips,nb⟩ S=some (.exit 0,⟨[(3,out')],tips',nb⟩,S.set j (psr s' bad')):=by
  intro n
  induction n with
  | zero =>
    intro s bad S j acc out tips hn ho hb hj
    have hs:s=[]:=List.eq_nil_of_length_eq_zero (by omega)
    subst hs
    exact text_nil bad S j acc out tips ho hj
  | succ n ih =>
    intro s bad S j acc out tips hn ho hb hj
    cases bad
    rotate_left
    · exact ⟨[],s,true,out,tips,by simpa using ho,Nat.le_refl _,by simp,fun h => (by cases h),fun nb => (by rw [L_text_bad s S j out tips nb hj,set_same hj])⟩
    have h2:=load_psr1 hj
    have hsk:=F_note_parser_skip hj (by omega) [34] (by decide)
    rcases s with _ | ⟨c,r⟩
    · exact text_nil false S j acc out tips ho hj
    by_cases c34:c=34
    · subst c34
      have e1:hasP [34] (34 :: r)=true:=by simp [hasP]
      have e2:cutP [34] (34 :: r)=r:=by simp [cutP,e1]
      rw [e1,e2] at hsk
      refine ⟨[],r,false,out,tips,by simpa using ho,by simp,by simp,fun _ u r' hu => ?_,fun nb => ?_⟩
      · rw [quote_step] at hu
        cases u with
        | nil => simp at hu; exact ⟨rfl,hu,rfl⟩
        | cons x u' =>
          simp only at hu
          split at hu
          · simp at hu
          · rename_i e; simp at hu; rw [← hu.1] at e; exact absurd (by decide) e
      · rw [DC_loop',DC_of l_note_parser_text_0.eq_1]
        simp [h2,hsk,evUn]
    have e1:hasP [34] (c :: r)=false:=by simp [hasP,c34]
    have e2:cutP [34] (c :: r)=c :: r:=by simp [cutP,e1]
    rw [e1,e2,set_same hj] at hsk
    have h0:=load_psr0 hj
    have st0:=fun nb u => store_psr0 (nb:=nb) (t:=u) tips hj
    have st1:=fun nb u => store_psr1 (nb:=nb) (b:=u) tips hj
    by_cases c92:c=92
    · subst c92
      have b3:r.length < 2 → ∃ txt s' bad' out' tips',OutB out' tips' (acc ++ txt) ∧ s'.length ≤ (92 :: r).length ∧ txt.length ≤ (92 :: r).length ∧ (false=false → ∀ u r',92 :: r=quoteB u ++ 34 :: r' → txt=u ∧ s'=r' ∧ bad'=false) ∧
          ∀ nb,DC lib nk (.loop l_note_parser_text_0) ⟨[(0,.ptr j 0),(3,out)],tips,nb⟩ S=some (.exit 0,⟨[(3,out')],tips',nb⟩,S.set j (psr s' bad')):=by
        intro hr
        refine ⟨[],92 :: r,true,out,tips,by simpa using ho,by simp,by simp,fun _ u r' hu => ?_,fun nb => ?_⟩
        · rw [quote_step] at hu
          cases u with
          | nil => simp at hu
          | cons x u' =>
            simp only at hu
            split at hu
            · simp at hu; rw [hu] at hr; simp at hr; omega
            · rename_i e; simp at hu; rw [← hu.1] at e; exact absurd (by decide) e
        · have hj':=get_set (b:=psr (92 :: r) true) hj
          have hbb:=L_text_bad (92 :: r) (S.set j (psr (92 :: r) true)) j out tips nb hj'
          have hl3:(r.length:Int) + 1 < 3:=by omega
          rw [DC_loop',DC_of l_note_parser_text_0.eq_1]
          simp [h2,hsk,evUn,r_note_parser_text_0,h0,st1,hl3]
          rw [DC_keep_of l_note_parser_text_0.eq_1]
          simp [hbb]
      rcases r with _ | ⟨a,_ | ⟨b,r2⟩⟩
      · exact b3 (by simp)
      · exact b3 (by simp)
      clear b3
      have hx1:=F_note_parser_hex hj a
      have hj1:=get_set (b:=psr (92 :: a :: b :: r2) (false || hexB a)) hj
      have hx2:=F_note_parser_hex hj1 b
      have hj2:=get_set (b:=psr (92 :: a :: b :: r2) (hexB a || hexB b)) hj
      have hj3:=get_set (b:=psr r2 (hexB a || hexB b)) hj
      have na:hexN a < 16:=by have:=hexI_lt a; unfold hexN; omega
      have nb':hexN b < 16:=by have:=hexI_lt b; unfold hexN; omega
      have hx:((16 * hexN a + hexN b:Nat):Int)=((UInt8.ofNat (16 * hexN a + hexN b)).toNat:Int):=by rw [UInt8.toNat_ofNat']; omega
      have hor:=or16 (hexN a) (hexN b) na nb'
      rw [hx] at hor
      generalize UInt8.ofNat (16 * hexN a + hexN b)=y at hor hx
      have hshl:evBinII .shl .u8 (hexN a:Nat) .u8 4=some (.int .u8 (16 * hexN a:Nat)):=by
        simp only [evBinII]
        rw [if_neg (by omega)]
        have:IntKind.wrap .u8 (((hexN a:Nat):Int) * 2 ^ (min (4:Int).toNat IntKind.u8.bits))=((16 * hexN a:Nat):Int):=by
          have e:min (4:Int).toNat IntKind.u8.bits=4:=by decide
          rw [e,wrap_u8 _ (by omega) (by omega)]; omega
        rw [this]
      have happ:=appB_ok ho y (by simp at hb; omega) (S.set j (psr (92 :: a :: b :: r2) (hexB a || hexB b)))
      have hsl:slSK (.str (92 :: a :: b :: r2)) (some (.int .i64 3)) none=some (.str r2):=by have:=slS_from (s:=92 :: a :: b :: r2) (n:=3) (by simp); simpa using this
      have l0:=load_psr0 hj1
      have l2:=load_psr0 hj2
      have st0':=fun nb u => store_psr0 (nb:=nb) (t:=u) [some (acc ++ [y]).length] hj2
      have hl3:¬ ((r2.length:Int) + 1 + 1 + 1 < 3):=by omega
      obtain ⟨txt,s',bad',out',tips',o1,o2,o3,o4,o5⟩:=ih r2 (hexB a || hexB b) (S.set j (psr r2 (hexB a || hexB b))) j (acc ++ [y]) _ _ (by simp at hn; omega) (.inr ⟨rfl,rfl⟩) (by simp at hb ⊢; omega) hj3
      refine ⟨y :: txt,s',bad',out',tips',by simpa using o1,by simp; omega,by simp; omega,fun _ u r' hu => ?_,fun nb => ?_⟩
      · rw [quote_step] at hu
        cases u with
        | nil => simp at hu
        | cons x u' =>
          simp only at hu
          split at hu
          · simp at hu
            have hxl:=x.toNat_lt
            obtain ⟨p1,p2⟩:=hexN_hexd (x.toNat / 16) (by omega)
            obtain ⟨p3,p4⟩:=hexN_hexd (x.toNat % 16) (by omega)
            rw [← hu.1] at p1 p2
            rw [← hu.2.1] at p3 p4
            obtain ⟨a1,a2,a3⟩:=o4 (by rw [p2,p4]; rfl) u' r' hu.2.2
            refine ⟨?_,a2,a3⟩
            rw [a1]
            have:y=x:=UInt8.toNat_inj.1 (by omega)
            rw [this]
          · rename_i e; simp at hu; rw [← hu.1] at e; exact absurd (by decide) e
      · rw [DC_loop',DC_of l_note_parser_text_0.eq_1]
        have o5':=o5 nb
        simp at o5' happ st0' hx1 hx2 hor l0 hshl
        simp [h2,hsk,evUn,r_note_parser_text_0,h0,hl3,hx1,hx2,hshl,hor,l0,l2,happ,hsl,st0']
        rw [DC_keep_of l_note_parser_text_0.eq_1]
        simp [o5']
    · have hc92:¬ (c.toNat:Int)=92:=by intro h; exact c92 (UInt8.toNat_inj.1 (by rw [show (92:UInt8).toNat=92 from rfl]; omega))
      have happ:=appB_ok ho c (by simp at hb; omega) S
      have hj':=get_set (b:=psr r false) hj
      have hsl:slSK (.str (c :: r)) (some (.int .i64 1)) none=some (.str r):=by have:=slS_from (s:=c :: r) (n:=1) (by simp); simpa using this
      have st0':=fun nb u => store_psr0 (nb:=nb) (t:=u) [some (acc ++ [c]).length] hj
      obtain ⟨txt,s',bad',out',tips',o1,o2,o3,o4,o5⟩:=ih r false (S.set j (psr r false)) j (acc ++ [c]) _ _ (by simp at hn; omega) (.inr ⟨rfl,rfl⟩) (by simp at hb ⊢; omega) hj'
      refine ⟨c :: txt,s',bad',out',tips',by simpa using o1,by simp; omega,by simp; omega,fun _ u r' hu => ?_,fun nb => ?_⟩
      · rw [quote_step] at hu
        cases u with
        | nil => simp at hu; exact absurd hu.1 c34
        | cons x u' =>
          simp only at hu
          split at hu
          · simp at hu; exact absurd hu.1 c92
          · simp at hu
            obtain ⟨a1,a2,a3⟩:=o4 rfl u' r' hu.2
            exact ⟨by rw [a1,hu.1],a2,a3⟩
      · rw [DC_loop',DC_of l_note_parser_text_0.eq_1]
        have o5':=o5 nb
        simp at o5' happ st0'
        simp [h2,hsk,evUn,r_note_parser_text_0,h0,hc92,happ,hsl,st0']
        rw [DC_keep_of l_note_parser_text_0.eq_1]
        simp [o5']
theorem F_note_parser_text {S:St} {j:Nat} {s:Str} {bad:Bool} (hj:S[j]?=some (psr s bad)) (hs:s.length ≤ 1000000000):∃ txt s' bad',s'.length ≤ s.length ∧ txt.length ≤ s.length ∧ (bad=false → ∀ u r,s=quoteB u ++ 34 :: r → txt=u ∧ s'=r ∧ bad'=false) ∧
    DF lib nk 56 [.ptr j 0] S=some (.str txt,S.set j (psr s' bad')):=by
  obtain ⟨txt,s',bad',out',tips',o1,o2,o3,o4,o5⟩:=L_note_parser_text s.length s bad S j [] .nils [] (Nat.le_refl _) (.inl ⟨rfl,rfl,rfl⟩) (by simpa using hs) hj
  refine ⟨txt,s',bad',o2,o3,o4,?_⟩
  rw [run_note_parser_text,DC_of c_note_parser_text.eq_1]
  have o5':=o5 S.length
  simp
  rw [DC_keep_of l_note_parser_text_0.eq_1]
  simp [o5']
  rcases o1 with ⟨e,rfl,rfl⟩ | ⟨rfl,rfl⟩
  · simp at e
    subst e
    simp [cvBK]
  · simp [cvBK,bytesTo_bcl]
end Go.Proofs.YtekgdmhdkhgpjaaGreatDoor.am
