/- Several texts, one behind the other: Pz6 Pz7 Pz8 Pz9 Pz10 Pz11 -/
import Derived.Test.YtekgdmhdkhgpjaaGreatDoorSQ
set_option linter.unusedSimpArgs false
set_option linter.unusedVariables false
set_option linter.unusedSimpArgs false
set_option linter.unusedVariables false
namespace Go.Proofs.YtekgdmhdkhgpjaaGreatDoor.am
open Go
def pu:Str → Nat → Option Nat
  | [],n => some n
  | b :: r,n => if 48 ≤ b.toNat ∧ b.toNat ≤ 57 then (if n * 10 + (b.toNat - 48) < 18446744073709551616 then pu r (n * 10 + (b.toNat - 48)) else none) else none
def valF (s:Str) (n:Nat):Nat:=s.foldl (fun n b => 10 * n + (b.toNat - 48)) n
theorem valF_ge:∀ (s:Str) (n:Nat),n ≤ valF s n
  | [],n => Nat.le_refl _
  | b :: r,n => by
    have:=valF_ge r (10 * n + (b.toNat - 48))
    simp only [valF,List.foldl_cons] at this ⊢
    omega
theorem pu_some:∀ (s:Str) (n:Nat),(∀ x ∈ s,48 ≤ x.toNat ∧ x.toNat ≤ 57) → valF s n < 18446744073709551616 → pu s n=some (valF s n)
  | [],n,_,_ => rfl
  | b :: r,n,hd,hv => by
    have h1:=hd b (by simp)
    have h2:=valF_ge r (10 * n + (b.toNat - 48))
    have e:valF (b :: r) n=valF r (10 * n + (b.toNat - 48)):=rfl
    rw [e] at hv ⊢
    unfold pu
    rw [if_pos h1,if_pos (by omega),Nat.mul_comm n 10]
    exact pu_some r _ (fun x hx => hd x (by simp [hx])) hv
theorem pu_dec {m:Nat} (h:m < 18446744073709551616):pu (dec m) 0=some m:=by
  have e:valF (dec m) 0=m:=valD_dec m
  rw [pu_some _ _ (dec_digit m) (by rw [e]; exact h),e]
theorem pu_lt:∀ (s:Str) (n m:Nat),n < 18446744073709551616 → pu s n=some m → m < 18446744073709551616
  | [],n,m,h,e => by cases e; exact h
  | b :: r,n,m,h,e => by
    unfold pu at e
    split at e
    · split at e
      · exact pu_lt r _ m (by assumption) e
      · cases e
    · cases e
theorem F_internal_strconv_lower (c:UInt8) (S:St):∃ r:Nat,r < 256 ∧ DF lib nk 111 [.int .u8 (c.toNat:Int)] S=some (.int .u8 (r:Int),S):=by
  rw [run_internal_strconv_lower,DC_of c_internal_strconv_lower.eq_1]
  have key:∀ n:Fin 256,∃ r:Fin 256,IntKind.wrap .u8 (BitVec.ofInt IntKind.u8.bits (n.val:Int) ||| BitVec.ofInt IntKind.u8.bits 32).toNat=((r.val:Nat):Int):=by
    intro n
    refine ⟨⟨(IntKind.wrap .u8 (BitVec.ofInt IntKind.u8.bits (n.val:Int) ||| BitVec.ofInt IntKind.u8.bits 32).toNat).toNat,?_⟩,?_⟩
    · rw [wrap_u8']; omega
    · simp only []; rw [wrap_u8']; omega
  obtain ⟨r,hr⟩:=key ⟨c.toNat,c.toNat_lt⟩
  refine ⟨r.val,r.isLt,?_⟩
  simp at hr
  simp [hr]
@[simp] theorem w8_10:IntKind.wrap .u8 10=10:=rfl
@[simp] theorem w64_10:IntKind.wrap .u64 10=10:=rfl
theorem L_ParseUint (s0 s:Str) (hs:s.length < 9223372036854775808) (nb:Nat) (S:St):∀ d i,i + d=s.length → ∀ n:Nat,n < 18446744073709551616 →
    (∀ m,pu (s.drop i) n=some m → DC lib nk (.loop l_internal_strconv_ParseUint_0) ⟨[(1,.int .i64 10),(8,.bool false),(9,.str s0),(10,.int .u64 1844674407370955162),(11,.int .u64 18446744073709551615),(12,.bool false),(13,.int .u64 (n:Nat)),(99,.sl .none 1 (bcl s)),(100,.int .i64 (s.length:Nat)),(101,.int .i64 (i:Nat))],[],nb⟩ S=some (.exit 3,⟨[(9,.str s0),(12,.bool false),(13,.int .u64 (m:Nat))],[],nb⟩,S)) ∧
    (pu (s.drop i) n=none → ∃ v x:Nat,v < 18446744073709551616 ∧ (x=1 ∨ x=2) ∧ DC lib nk (.loop l_internal_strconv_ParseUint_0) ⟨[(1,.int .i64 10),(8,.bool false),(9,.str s0),(10,.int .u64 1844674407370955162),(11,.int .u64 18446744073709551615),(12,.bool false),(13,.int .u64 (n:Nat)),(99,.sl .none 1 (bcl s)),(100,.int .i64 (s.length:Nat)),(101,.int .i64 (i:Nat))],[],nb⟩ S=some (.ret,⟨[(6,.int .u64 (v:Nat)),(7,.ifc 156 (.int .i64 (x:Nat)))],[],nb⟩,S)):=by
  intro d
  induction d with
  | zero =>
    intro i hi n hn
    have h5:¬ i < s.length:=by omega
    have h6:s.drop i=[]:=List.drop_eq_nil_of_le (by omega)
    rw [h6]
    refine ⟨fun m hm => ?_,fun h => by cases h⟩
    cases hm
    rw [DC_loop',DC_of l_internal_strconv_ParseUint_0.eq_1]
    simp [h5]
  | succ d ih =>
    intro i hi n hn
    have h3:i < s.length:=by omega
    obtain ⟨c,hc,hc'⟩:=get_of_lt' (l:=s) (i:=i) h3
    have hb:ixLK 1 (.sl .none 1 (bcl s)) (.int .i64 (i:Nat))=some (.rptr .none [.int .u8 (c.toNat:Int)] 0):=by
      simp [ixLK,bcl,hc,lent,cellB]
    rw [drop_get hc]
    have hw:=wrap_succ (i:=i) (by omega)
    simp at hw
    by_cases hd:48 ≤ c.toNat ∧ c.toNat ≤ 57
    · have c1:¬ (c.toNat:Int)=95:=by omega
      have c2:(48:Int) ≤ c.toNat:=by omega
      have c3:(c.toNat:Int) ≤ 57:=by omega
      have w1:IntKind.wrap .u8 ((c.toNat:Int) - 48)=((c.toNat - 48:Nat):Int):=by rw [wrap_u8 _ (by omega) (by omega)]; omega
      have hq:c.toNat - 48 ≤ 9:=by omega
      have hu:∀ r,pu (c :: r) n=if n * 10 + (c.toNat - 48) < 18446744073709551616 then pu r (n * 10 + (c.toNat - 48)) else none:=fun r => by rw [pu,if_pos hd]
      rw [hu]
      generalize c.toNat - 48=q at w1 hq
      have w2:¬ (10:Int) ≤ q:=by omega
      have w3:IntKind.wrap .u64 (q:Int)=q:=wrap_u64 _ (by omega) (by omega)
      by_cases a:1844674407370955162 ≤ n
      · have a':(1844674407370955162:Int) ≤ n:=by omega
        rw [if_neg (by omega)]
        refine ⟨fun m hm => (by cases hm),fun _ => ⟨18446744073709551615,1,by decide,.inl rfl,?_⟩⟩
        rw [DC_loop',DC_of l_internal_strconv_ParseUint_0.eq_1]
        simp [h3,hb,hc,hc',cellB,c1,c2,c3,w1,w2,w3,a']
      · have a':¬ (1844674407370955162:Int) ≤ n:=by omega
        have w4:IntKind.wrap .u64 ((n:Int) * 10)=(n:Int) * 10:=wrap_u64 _ (by omega) (by omega)
        by_cases b:n * 10 + q < 18446744073709551616
        · rw [if_pos b]
          have w5:IntKind.wrap .u64 ((n:Int) * 10 + q)=(n:Int) * 10 + q:=wrap_u64 _ (by omega) (by omega)
          have b1:¬ (n:Int) * 10 + q < (n:Int) * 10:=by omega
          have b2:¬ (18446744073709551615:Int) < (n:Int) * 10 + q:=by omega
          obtain ⟨i1,i2⟩:=ih (i + 1) (by omega) (n * 10 + q) b
          refine ⟨fun m hm => ?_,fun hm => ?_⟩
          · have hn':=i1 m hm
            simp at hn'
            rw [DC_loop',DC_of l_internal_strconv_ParseUint_0.eq_1]
            simp [h3,hb,hc,hc',cellB,c1,c2,c3,w1,w2,w3,a',w4,w5,b1,b2]
            rw [DC_keep_of l_internal_strconv_ParseUint_0.eq_1]
            simp [hw,hn']
          · obtain ⟨v,x,v1,v2,hn'⟩:=i2 hm
            simp at hn'
            refine ⟨v,x,v1,v2,?_⟩
            rw [DC_loop',DC_of l_internal_strconv_ParseUint_0.eq_1]
            simp [h3,hb,hc,hc',cellB,c1,c2,c3,w1,w2,w3,a',w4,w5,b1,b2]
            rw [DC_keep_of l_internal_strconv_ParseUint_0.eq_1]
            simp [hw,hn']
        · rw [if_neg b]
          have b1:IntKind.wrap .u64 ((n:Int) * 10 + q) < (n:Int) * 10:=by rw [wrap_u64']; omega
          refine ⟨fun m hm => (by cases hm),fun _ => ⟨18446744073709551615,1,by decide,.inl rfl,?_⟩⟩
          rw [DC_loop',DC_of l_internal_strconv_ParseUint_0.eq_1]
          simp [h3,hb,hc,hc',cellB,c1,c2,c3,w1,w2,w3,a',w4,b1]
    · have hu:∀ r,pu (c :: r) n=none:=fun r => by rw [pu,if_neg hd]
      rw [hu]
      refine ⟨fun m hm => (by cases hm),fun _ => ⟨0,2,by decide,.inr rfl,?_⟩⟩
      obtain ⟨r,r1,r2⟩:=F_internal_strconv_lower c S
      rw [DC_loop',DC_of l_internal_strconv_ParseUint_0.eq_1]
      have cc:¬ ((48:Int) ≤ c.toNat ∧ (c.toNat:Int) ≤ 57):=by omega
      by_cases c95:(c.toNat:Int)=95
      · rw [c95] at r2 hb
        by_cases q1:(97:Int) ≤ r
        · by_cases q2:(r:Int) ≤ 122
          · have w1:IntKind.wrap .u8 ((r:Int) - 97)=(r:Int) - 97:=wrap_u8 _ (by omega) (by omega)
            have w2:IntKind.wrap .u8 ((r:Int) - 97 + 10)=(r:Int) - 97 + 10:=wrap_u8 _ (by omega) (by omega)
            have w3:(10:Int) ≤ (r:Int) - 97 + 10:=by omega
            simp [h3,hb,r2,q1,q2,w1,w2,w3]
          · simp [h3,hb,r2,q1,q2]
        · simp [h3,hb,r2,q1]
      by_cases c2:(48:Int) ≤ c.toNat
      · have c3:¬ (c.toNat:Int) ≤ 57:=fun h => cc ⟨c2,h⟩
        by_cases q1:(97:Int) ≤ r
        · by_cases q2:(r:Int) ≤ 122
          · have w1:IntKind.wrap .u8 ((r:Int) - 97)=(r:Int) - 97:=wrap_u8 _ (by omega) (by omega)
            have w2:IntKind.wrap .u8 ((r:Int) - 97 + 10)=(r:Int) - 97 + 10:=wrap_u8 _ (by omega) (by omega)
            have w3:(10:Int) ≤ (r:Int) - 97 + 10:=by omega
            simp [h3,hb,hc,hc',cellB,c95,c2,c3,r2,q1,q2,w1,w2,w3]
          · simp [h3,hb,hc,hc',cellB,c95,c2,c3,r2,q1,q2]
        · simp [h3,hb,hc,hc',cellB,c95,c2,c3,r2,q1]
      · by_cases q1:(97:Int) ≤ r
        · by_cases q2:(r:Int) ≤ 122
          · have w1:IntKind.wrap .u8 ((r:Int) - 97)=(r:Int) - 97:=wrap_u8 _ (by omega) (by omega)
            have w2:IntKind.wrap .u8 ((r:Int) - 97 + 10)=(r:Int) - 97 + 10:=wrap_u8 _ (by omega) (by omega)
            have w3:(10:Int) ≤ (r:Int) - 97 + 10:=by omega
            simp [h3,hb,hc,hc',cellB,c95,c2,r2,q1,q2,w1,w2,w3]
          · simp [h3,hb,hc,hc',cellB,c95,c2,r2,q1,q2]
        · simp [h3,hb,hc,hc',cellB,c95,c2,r2,q1]
end Go.Proofs.YtekgdmhdkhgpjaaGreatDoor.am

set_option linter.unusedSimpArgs false
set_option linter.unusedVariables false
namespace Go.Proofs.YtekgdmhdkhgpjaaGreatDoor.am
open Go
theorem bytK_bcl {s:Str} (h:s.length ≤ 1073741824):bytK (.str s)=some (.sl .none 1 (bcl s)):=by
  have:bcl s=s.map fun b => [.int .u8 (b.toNat:Int)]:=rfl
  simp only [bytK,if_pos h,this]
@[simp] theorem w64_64:IntKind.wrap .u64 64=64:=rfl
@[simp] theorem w64_m1:IntKind.wrap .u64 (-1)=18446744073709551615:=rfl
@[simp] theorem sh64:IntKind.wrap .u64 (2 ^ min 64 IntKind.u64.bits)=0:=rfl
theorem F_internal_strconv_ParseUint (s:Str) (hs:s.length ≤ 1073741824) (bs:Int) (hb:bs=0 ∨ bs=64) (S:St):∃ (v:Nat) (e:AV),v < 18446744073709551616 ∧
    ((e=.nili ∧ s ≠ [] ∧ pu s 0=some v) ∨ ((s=[] ∨ pu s 0=none) ∧ ∃ x:Nat,(x=1 ∨ x=2) ∧ e=.ifc 156 (.int .i64 (x:Nat)))) ∧
    DF lib nk 86 [.str s,.int .i64 10,.int .i64 bs] S=some (.tup [.int .u64 (v:Nat),e],S):=by
  rw [run_internal_strconv_ParseUint,DC_of c_internal_strconv_ParseUint.eq_1]
  by_cases h0:s=[]
  · subst h0
    refine ⟨0,.ifc 156 (.int .i64 (2:Nat)),by decide,.inr ⟨.inl rfl,2,.inr rfl,rfl⟩,?_⟩
    simp [plainRes]
  · obtain ⟨l1,l2⟩:=L_ParseUint s s (by omega) S.length S s.length 0 (by omega) 0 (by decide)
    simp only [List.drop_zero] at l1 l2
    have hbt:=bytK_bcl hs
    have hln:lenLK (.sl .none 1 (bcl s))=some (.int .i64 (s.length:Nat)):=by simp [lenLK]
    cases hp:pu s 0 with
    | some m =>
      have hl:=l1 m hp
      refine ⟨m,.nili,pu_lt s 0 m (by decide) hp,.inl ⟨rfl,h0,rfl⟩,?_⟩
      simp at hl
      rcases hb with rfl | rfl
      · simp [h0,hbt,hln]
        rw [DC_keep_of l_internal_strconv_ParseUint_0.eq_1]
        simp [hl,plainRes]
      · simp [h0,hbt,hln]
        rw [DC_keep_of l_internal_strconv_ParseUint_0.eq_1]
        simp [hl,plainRes]
    | none =>
      obtain ⟨v,x,v1,v2,hl⟩:=l2 hp
      refine ⟨v,.ifc 156 (.int .i64 (x:Nat)),v1,.inr ⟨.inr rfl,x,v2,rfl⟩,?_⟩
      simp at hl
      rcases hb with rfl | rfl
      · simp [h0,hbt,hln]
        rw [DC_keep_of l_internal_strconv_ParseUint_0.eq_1]
        simp [hl,plainRes]
      · simp [h0,hbt,hln]
        rw [DC_keep_of l_internal_strconv_ParseUint_0.eq_1]
        simp [hl,plainRes]
@[simp] theorem fillE (f s:Str) (z:AV):fillK [.str [],.str [],.nili] [(0,1,.str f),(1,1,.str s),(2,1,.ifc 178 z)]=some [.str f,.str s,.ifc 178 z]:=rfl
theorem F_strconv_syntaxError (f s:Str) (hs:s.length ≤ 1073741824) (S:St):DF lib nk 113 [.str f,.str s] S=some (.rptr .none [.str f,.str s,.ifc 178 (.rptr .none [.str [105,110,118,97,108,105,100,32,115,121,110,116,97,120]] 0)] 0,S):=by
  rw [run_strconv_syntaxError,DC_of c_strconv_syntaxError.eq_1]
  simp [cloneP,hs,strip,boxOf,ldsOK,ldV]
  refine ⟨rfl,?_⟩
  have h1:(giveRes [] (normr (AV.ptr S.length 0))).1=.ptr S.length 0:=rfl
  have h2:plainRes (.ptr S.length 0)=false:=rfl
  have h4:pfr (.ptr S.length 0)=false:=rfl
  simp [h1,h2,h4,resB,frzR,boxF,fineRes,fine1,frz1,frz,plainRes,plain,plainL,strip]
  simp [lt]
theorem F_strconv_rangeError (f s:Str) (hs:s.length ≤ 1073741824) (S:St):DF lib nk 114 [.str f,.str s] S=some (.rptr .none [.str f,.str s,.ifc 178 (.rptr .none [.str [118,97,108,117,101,32,111,117,116,32,111,102,32,114,97,110,103,101]] 0)] 0,S):=by
  rw [run_strconv_rangeError,DC_of c_strconv_rangeError.eq_1]
  simp [cloneP,hs,strip,boxOf,ldsOK,ldV]
  refine ⟨rfl,?_⟩
  have h1:(giveRes [] (normr (AV.ptr S.length 0))).1=.ptr S.length 0:=rfl
  have h2:plainRes (.ptr S.length 0)=false:=rfl
  have h4:pfr (.ptr S.length 0)=false:=rfl
  simp [h1,h2,h4,resB,frzR,boxF,fineRes,fine1,frz1,frz,plainRes,plain,plainL,strip]
  simp [lt]
@[simp] theorem takeRet_rp (cs:List AV) (n:Nat):takeRet [] (.rptr .none cs n)=(.rptr .none cs n,[]):=rfl
@[simp] theorem strip_rp (cs:List AV) (n:Nat):strip (.rptr .none cs n)=.rptr .none cs n:=rfl
@[simp] theorem takeRet_if (t:TypeId) (cs:List AV) (n:Nat):takeRet [] (.ifc t (.rptr .none cs n))=(.ifc t (.rptr .none cs n),[]):=rfl
def errY (f s z:Str):AV:=.ifc 157 (.rptr .none [.str f,.str s,.ifc 178 (.rptr .none [.str z] 0)] 0)
@[simp] theorem errY_give (f s z:Str):(giveRes [] (normr (errY f s z))).1=errY f s z:=rfl
@[simp] theorem errY_plain (f s z:Str):plain (errY f s z)=true:=by simp [errY,plain,plainL]
@[simp] theorem errY_notTup (f s z:Str):notTup (errY f s z)=true:=rfl
@[simp] theorem errY_take1 (f s z:Str):takeRet [] (errY f s z)=(errY f s z,[]):=rfl
@[simp] theorem errY_take (k:IntKind) (n:Int) (f s z:Str):takeRet [] (.tup [.int k n,errY f s z])=(.tup [.int k n,errY f s z],[]):=rfl
@[simp] theorem nil_take (k:IntKind) (n:Int):takeRet [] (.tup [.int k n,.nili])=(.tup [.int k n,.nili],[]):=rfl
@[simp] theorem err0_take (k:IntKind) (n x:Int) (t:TypeId):takeRet [] (.tup [.int k n,.ifc t (.int .i64 x)])=(.tup [.int k n,.ifc t (.int .i64 x)],[]):=rfl
@[simp] theorem errY_res (k:IntKind) (n:Int) (f s z:Str):plainRes (.tup [.int k n,errY f s z])=true:=by simp [plainRes,errY,plain,plainL]
@[simp] theorem errY_neq (ts:List TypeId) (f s z:Str):evBinE .neq (.ifc ts) true (errY f s z) .nili=some (.bool true):=rfl
@[simp] theorem nil_neq (ts:List TypeId):evBinE .neq (.ifc ts) true .nili .nili=some (.bool false):=rfl
@[simp] theorem err0_neq (ts:List TypeId) (t:TypeId) (x:Int):evBinE .neq (.ifc ts) true (.ifc t (.int .i64 x)) .nili=some (.bool true):=rfl
theorem F_strconv_toError (f s:Str) (hs:s.length ≤ 1073741824) (b c:Int) (x:Nat) (hx:x=1 ∨ x=2) (S:St):∃ z,DF lib nk 87 [.str f,.str s,.int .i64 b,.int .i64 c,.ifc 156 (.int .i64 (x:Nat))] S=some (errY f s z,S):=by
  rw [run_strconv_toError,DC_of c_strconv_toError.eq_1]
  rcases hx with rfl | rfl
  · have hz:=F_strconv_rangeError f s hs S
    refine ⟨[118,97,108,117,101,32,111,117,116,32,111,102,32,114,97,110,103,101],?_⟩
    have e:=errY_give f s [118,97,108,117,101,32,111,117,116,32,111,102,32,114,97,110,103,101]
    have e2:=errY_plain f s [118,97,108,117,101,32,111,117,116,32,111,102,32,114,97,110,103,101]
    have e3:=errY_notTup f s [118,97,108,117,101,32,111,117,116,32,111,102,32,114,97,110,103,101]
    unfold errY at e e2 e3 ⊢
    simp [hz,evBinE,evEqK,e,e2,e3,plainRes]
  · have hz:=F_strconv_syntaxError f s hs S
    refine ⟨[105,110,118,97,108,105,100,32,115,121,110,116,97,120],?_⟩
    have e:=errY_give f s [105,110,118,97,108,105,100,32,115,121,110,116,97,120]
    have e2:=errY_plain f s [105,110,118,97,108,105,100,32,115,121,110,116,97,120]
    have e3:=errY_notTup f s [105,110,118,97,108,105,100,32,115,121,110,116,97,120]
    unfold errY at e e2 e3 ⊢
    simp [hz,evBinE,evEqK,e,e2,e3,plainRes]
theorem F_strconv_ParseUint (s:Str) (hs:s.length ≤ 1073741824) (S:St):∃ (v:Nat) (e:AV),v < 18446744073709551616 ∧
    ((e=.nili ∧ s ≠ [] ∧ pu s 0=some v) ∨ ((s=[] ∨ pu s 0=none) ∧ ∃ f z,e=errY f s z)) ∧
    DF lib nk 61 [.str s,.int .i64 10,.int .i64 64] S=some (.tup [.int .u64 (v:Nat),e],S):=by
  obtain ⟨v,e,h1,h2,h3⟩:=F_internal_strconv_ParseUint s hs 64 (.inr rfl) S
  rw [run_strconv_ParseUint,DC_of c_strconv_ParseUint.eq_1]
  rcases h2 with ⟨rfl,ha,hb⟩ | ⟨ha,x,hx,rfl⟩
  · refine ⟨v,.nili,h1,.inl ⟨rfl,ha,hb⟩,?_⟩
    simp [h3,plainRes]
  · obtain ⟨z,hz⟩:=F_strconv_toError [80,97,114,115,101,85,105,110,116] s hs 10 64 x hx S
    refine ⟨v,errY [80,97,114,115,101,85,105,110,116] s z,h1,.inr ⟨ha,_,_,rfl⟩,?_⟩
    simp [h3,hz]
end Go.Proofs.YtekgdmhdkhgpjaaGreatDoor.am

set_option linter.unusedSimpArgs false
set_option linter.unusedVariables false
namespace Go.Proofs.YtekgdmhdkhgpjaaGreatDoor.am
open Go
theorem pu_pow:∀ (s:Str) (n m i:Nat),n < 10 ^ i → pu s n=some m → m < 10 ^ (i + s.length)
  | [],n,m,i,h,e => by cases e; exact h
  | b :: r,n,m,i,h,e => by
    unfold pu at e
    split at e
    · split at e
      · have h1:n * 10 + (b.toNat - 48) < 10 ^ (i + 1):=by rw [Nat.pow_succ]; omega
        have:=pu_pow r _ m (i + 1) h1 e
        have e2:i + (b :: r).length=i + 1 + r.length:=by simp; omega
        rw [e2]; exact this
      · cases e
    · cases e
theorem pow18 {i:Nat} (h:i ≤ 18):10 ^ i ≤ 1000000000000000000:=by
  have:=Nat.pow_le_pow_right (n:=10) (by decide) h
  simpa using this
theorem L_Atoi (s0 s:Str) (hs:s.length ≤ 18) (nb:Nat) (S:St):∀ d i,i + d=s.length → ∀ n:Nat,n < 10 ^ i →
    (∀ m,pu (s.drop i) n=some m → DC lib nk (.loop l_internal_strconv_Atoi_0) ⟨[(5,.str s0),(6,.int .i64 (n:Nat)),(47,.sl .none 1 (bcl s)),(48,.int .i64 (s.length:Nat)),(49,.int .i64 (i:Nat))],[],nb⟩ S=some (.exit 0,⟨[(5,.str s0),(6,.int .i64 (m:Nat))],[],nb⟩,S)) ∧
    (pu (s.drop i) n=none → DC lib nk (.loop l_internal_strconv_Atoi_0) ⟨[(5,.str s0),(6,.int .i64 (n:Nat)),(47,.sl .none 1 (bcl s)),(48,.int .i64 (s.length:Nat)),(49,.int .i64 (i:Nat))],[],nb⟩ S=some (.ret,⟨[(2,.int .i64 0),(3,.ifc 156 (.int .i64 (2:Nat)))],[],nb⟩,S)):=by
  intro d
  induction d with
  | zero =>
    intro i hi n hn
    have h5:¬ i < s.length:=by omega
    have h6:s.drop i=[]:=List.drop_eq_nil_of_le (by omega)
    rw [h6]
    refine ⟨fun m hm => ?_,fun h => by cases h⟩
    cases hm
    rw [DC_loop',DC_of l_internal_strconv_Atoi_0.eq_1]
    simp [h5]
  | succ d ih =>
    intro i hi n hn
    have h3:i < s.length:=by omega
    obtain ⟨c,hc,hc'⟩:=get_of_lt' (l:=s) (i:=i) h3
    have hb:ixLK 1 (.sl .none 1 (bcl s)) (.int .i64 (i:Nat))=some (.rptr .none [.int .u8 (c.toNat:Int)] 0):=by
      simp [ixLK,bcl,hc,lent,cellB]
    rw [drop_get hc]
    have hw:=wrap_succ (i:=i) (by omega)
    simp at hw
    have hcl:=c.toNat_lt
    by_cases hd:48 ≤ c.toNat ∧ c.toNat ≤ 57
    · have w1:IntKind.wrap .u8 ((c.toNat:Int) - 48)=((c.toNat - 48:Nat):Int):=by rw [wrap_u8 _ (by omega) (by omega)]; omega
      have hq:c.toNat - 48 ≤ 9:=by omega
      have hu:∀ r,pu (c :: r) n=if n * 10 + (c.toNat - 48) < 18446744073709551616 then pu r (n * 10 + (c.toNat - 48)) else none:=fun r => by rw [pu,if_pos hd]
      rw [hu]
      generalize c.toNat - 48=q at w1 hq
      have h18:10 ^ (i + 1) ≤ 1000000000000000000:=pow18 (by omega)
      have hn1:n * 10 + q < 10 ^ (i + 1):=by rw [Nat.pow_succ]; omega
      rw [if_pos (by omega)]
      have w2:¬ (9:Int) < q:=by omega
      have w3:IntKind.wrap .i64 (q:Int)=q:=wrap_i64 _ (by omega) (by omega)
      have w4:IntKind.wrap .i64 ((n:Int) * 10)=(n:Int) * 10:=wrap_i64 _ (by omega) (by omega)
      have w5:IntKind.wrap .i64 ((n:Int) * 10 + q)=(n:Int) * 10 + q:=wrap_i64 _ (by omega) (by omega)
      obtain ⟨i1,i2⟩:=ih (i + 1) (by omega) (n * 10 + q) hn1
      refine ⟨fun m hm => ?_,fun hm => ?_⟩
      · have hn':=i1 m hm
        simp at hn'
        rw [DC_loop',DC_of l_internal_strconv_Atoi_0.eq_1]
        simp [h3,hb,w1,w2,w3,w4,w5]
        rw [DC_keep_of l_internal_strconv_Atoi_0.eq_1]
        simp [hw,hn']
      · have hn':=i2 hm
        simp at hn'
        rw [DC_loop',DC_of l_internal_strconv_Atoi_0.eq_1]
        simp [h3,hb,w1,w2,w3,w4,w5]
        rw [DC_keep_of l_internal_strconv_Atoi_0.eq_1]
        simp [hw,hn']
    · have hu:∀ r,pu (c :: r) n=none:=fun r => by rw [pu,if_neg hd]
      rw [hu]
      refine ⟨fun m hm => (by cases hm),fun _ => ?_⟩
      have w1:(9:Int) < IntKind.wrap .u8 ((c.toNat:Int) - 48):=by rw [wrap_u8']; omega
      rw [DC_loop',DC_of l_internal_strconv_Atoi_0.eq_1]
      simp [h3,hb,w1]
theorem wrap_rng (x:Int):-9223372036854775808 ≤ IntKind.wrap .i64 x ∧ IntKind.wrap .i64 x < 9223372036854775808:=by
  have:IntKind.wrap .i64 x=if x % 18446744073709551616 ≥ 9223372036854775808 then x % 18446744073709551616 - 18446744073709551616 else x % 18446744073709551616:=by
    simp [IntKind.wrap,IntKind.bits,IntKind.signed]
  rw [this]
  split <;> omega
@[simp] theorem wi_63:IntKind.wrap .i64 63=63:=rfl
@[simp] theorem w64_63:IntKind.wrap .u64 63=63:=rfl
@[simp] theorem sh63:IntKind.wrap .u64 (2 ^ min 63 IntKind.u64.bits)=9223372036854775808:=rfl
@[simp] theorem w64_c1:IntKind.wrap .u64 9223372036854775807=9223372036854775807:=rfl
@[simp] theorem wi_c1:IntKind.wrap .i64 9223372036854775807=9223372036854775807:=rfl
@[simp] theorem wi_c:IntKind.wrap .i64 9223372036854775808=-9223372036854775808:=rfl
theorem negw (v:Nat) (h:v ≤ 9223372036854775808):IntKind.wrap .i64 (-(IntKind.wrap .i64 (v:Int)))=-(v:Int):=by
  by_cases e:v=9223372036854775808
  · subst e; rfl
  · rw [wrap_i64 (v:Int) (by omega) (by omega),wrap_i64 _ (by omega) (by omega)]
def unsg:Str → Bool × Str
  | [] => (false,[])
  | c :: r => if c=43 then (false,r) else if c=45 then (true,r) else (false,c :: r)
theorem unsg_dec (m:Int) (hm:-9223372036854775808 ≤ m) (hm':m < 9223372036854775808):unsg (decI m)=(decide (m < 0),dec m.natAbs) ∧ pu (dec m.natAbs) 0=some m.natAbs ∧ dec m.natAbs ≠ []:=by
  obtain ⟨b,t,hb,h1,h2⟩:=dec_cons m.natAbs
  refine ⟨?_,pu_dec (by omega),by rw [hb]; simp⟩
  unfold decI
  split
  · rename_i h
    simp [unsg,h]
  · rename_i h
    have e:m.toNat=m.natAbs:=by omega
    have b1:b ≠ 43:=by intro e'; subst e'; revert h1; decide
    have b2:b ≠ 45:=by intro e'; subst e'; revert h1; decide
    rw [e,hb]
    simp [unsg,b1,b2]
    omega
def piN (neg:Bool) (v:Nat) (e:AV):Int × AV :=
  match e with
  | .ifc _ (.int _ x) => if x=1 then (if neg then (if 9223372036854775808 < v then (-9223372036854775808,.ifc 156 (.int .i64 1)) else (IntKind.wrap .i64 (-(IntKind.wrap .i64 (v:Int))),.nili)) else (if 9223372036854775808 ≤ v then (9223372036854775807,.ifc 156 (.int .i64 1)) else (IntKind.wrap .i64 (v:Int),.nili))) else (0,e)
  | _ => if neg then (if 9223372036854775808 < v then (-9223372036854775808,.ifc 156 (.int .i64 1)) else (IntKind.wrap .i64 (-(IntKind.wrap .i64 (v:Int))),.nili)) else (if 9223372036854775808 ≤ v then (9223372036854775807,.ifc 156 (.int .i64 1)) else (IntKind.wrap .i64 (v:Int),.nili))
set_option maxHeartbeats 1000000 in
theorem R_ParseInt (s:Str) (h0:s ≠ []) (S:St) (v:Nat) (e:AV) (he:e=.nili ∨ ∃ x:Nat,(x=1 ∨ x=2) ∧ e=.ifc 156 (.int .i64 (x:Nat)))
    (hu:DF lib nk 86 [.str (unsg s).2,.int .i64 10,.int .i64 0] S=some (.tup [.int .u64 (v:Nat),e],S)) :
    DF lib nk 117 [.str s,.int .i64 10,.int .i64 0] S=some (.tup [.int .i64 (piN (unsg s).1 v e).1,(piN (unsg s).1 v e).2],S):=by
  rw [run_internal_strconv_ParseInt,DC_of c_internal_strconv_ParseInt.eq_1]
  rcases s with _ | ⟨c,r⟩
  · exact absurd rfl h0
  have hsl:slSK (.str (c :: r)) (some (.int .i64 1)) none=some (.str r):=by have:=slS_from (s:=c :: r) (n:=1) (by simp); simpa using this
  have p1:∀ x:Int,plainRes (.tup [.int .i64 x,.nili])=true:=fun _ => rfl
  have p2:∀ x y:Int,plainRes (.tup [.int .i64 x,.ifc 156 (.int .i64 y)])=true:=fun _ _ => rfl
  by_cases c43:c=43
  · subst c43
    simp [unsg] at hu
    by_cases v1:9223372036854775808 ≤ v
    · have v1':(9223372036854775808:Int) ≤ v:=by omega
      rcases he with rfl | ⟨x,rfl | rfl,rfl⟩ <;> simp [unsg,piN,hsl,hu,v1,v1',evUn,evBinE,evEqK,p1,p2]
    · have v1':¬ (9223372036854775808:Int) ≤ v:=by omega
      rcases he with rfl | ⟨x,rfl | rfl,rfl⟩ <;> simp [unsg,piN,hsl,hu,v1,v1',evUn,evBinE,evEqK,p1,p2]
  by_cases c45:c=45
  · subst c45
    simp [unsg] at hu
    by_cases v1:9223372036854775808 < v
    · have v1':(9223372036854775808:Int) < v:=by omega
      rcases he with rfl | ⟨x,rfl | rfl,rfl⟩ <;> simp [unsg,piN,hsl,hu,v1,v1',evUn,evBinE,evEqK,p1,p2]
    · have v1':¬ (9223372036854775808:Int) < v:=by omega
      rcases he with rfl | ⟨x,rfl | rfl,rfl⟩ <;> simp [unsg,piN,hsl,hu,v1,v1',evUn,evBinE,evEqK,p1,p2]
  have n1:¬ (c.toNat:Int)=43:=by intro h; exact c43 (UInt8.toNat_inj.1 (by rw [show (43:UInt8).toNat=43 from rfl]; omega))
  have n2:¬ (c.toNat:Int)=45:=by intro h; exact c45 (UInt8.toNat_inj.1 (by rw [show (45:UInt8).toNat=45 from rfl]; omega))
  simp [unsg,c43,c45] at hu
  by_cases v1:9223372036854775808 ≤ v
  · have v1':(9223372036854775808:Int) ≤ v:=by omega
    rcases he with rfl | ⟨x,rfl | rfl,rfl⟩ <;> simp [unsg,piN,hsl,hu,v1,v1',evUn,evBinE,evEqK,p1,p2,n1,n2,c43,c45]
  · have v1':¬ (9223372036854775808:Int) ≤ v:=by omega
    rcases he with rfl | ⟨x,rfl | rfl,rfl⟩ <;> simp [unsg,piN,hsl,hu,v1,v1',evUn,evBinE,evEqK,p1,p2,n1,n2,c43,c45]
end Go.Proofs.YtekgdmhdkhgpjaaGreatDoor.am

set_option linter.unusedSimpArgs false
set_option linter.unusedVariables false
namespace Go.Proofs.YtekgdmhdkhgpjaaGreatDoor.am
open Go
theorem piN_ok (neg:Bool) (v:Nat) (e:AV) (he:e=.nili ∨ ∃ x:Nat,(x=1 ∨ x=2) ∧ e=.ifc 156 (.int .i64 (x:Nat))):-9223372036854775808 ≤ (piN neg v e).1 ∧ (piN neg v e).1 < 9223372036854775808 ∧
    ((piN neg v e).2=.nili ∨ ∃ x:Nat,(x=1 ∨ x=2) ∧ (piN neg v e).2=.ifc 156 (.int .i64 (x:Nat))):=by
  have w1:=wrap_rng (v:Int)
  have w2:=wrap_rng (-(IntKind.wrap .i64 (v:Int)))
  have fin:∀ p:Int × AV,(p=(-9223372036854775808,.ifc 156 (.int .i64 1)) ∨ p=(9223372036854775807,.ifc 156 (.int .i64 1)) ∨ p=(IntKind.wrap .i64 (-(IntKind.wrap .i64 (v:Int))),.nili) ∨ p=(IntKind.wrap .i64 (v:Int),.nili) ∨ p=(0,.ifc 156 (.int .i64 2))) →
      -9223372036854775808 ≤ p.1 ∧ p.1 < 9223372036854775808 ∧ (p.2=.nili ∨ ∃ x:Nat,(x=1 ∨ x=2) ∧ p.2=.ifc 156 (.int .i64 (x:Nat))):=by
    intro p hp
    rcases hp with rfl | rfl | rfl | rfl | rfl
    · exact ⟨by decide,by decide,.inr ⟨1,.inl rfl,rfl⟩⟩
    · exact ⟨by decide,by decide,.inr ⟨1,.inl rfl,rfl⟩⟩
    · exact ⟨w2.1,w2.2,.inl rfl⟩
    · exact ⟨w1.1,w1.2,.inl rfl⟩
    · exact ⟨by decide,by decide,.inr ⟨2,.inr rfl,rfl⟩⟩
  apply fin
  rcases he with rfl | ⟨x,rfl | rfl,rfl⟩ <;> cases neg
  · by_cases h:9223372036854775808 ≤ v <;> simp [piN,h]
  · by_cases h:9223372036854775808 < v <;> simp [piN,h]
  · by_cases h:9223372036854775808 ≤ v <;> simp [piN,h]
  · by_cases h:9223372036854775808 < v <;> simp [piN,h]
  · simp [piN]
  · simp [piN]
theorem F_internal_strconv_ParseInt (s:Str) (hs:s.length ≤ 1073741824) (S:St):∃ (n:Int) (e:AV),-9223372036854775808 ≤ n ∧ n < 9223372036854775808 ∧ (e=.nili ∨ ∃ x:Nat,(x=1 ∨ x=2) ∧ e=.ifc 156 (.int .i64 (x:Nat))) ∧
    (∀ m:Int,-9223372036854775808 ≤ m → m < 9223372036854775808 → s=decI m → n=m ∧ e=.nili) ∧
    DF lib nk 117 [.str s,.int .i64 10,.int .i64 0] S=some (.tup [.int .i64 n,e],S):=by
  by_cases h0:s=[]
  · subst h0
    refine ⟨0,.ifc 156 (.int .i64 (2:Nat)),by decide,by decide,.inr ⟨2,.inr rfl,rfl⟩,fun m h1 h2 e => ?_,?_⟩
    · have h3:=(unsg_dec m h1 h2).1
      rw [← e] at h3
      have h4:=(unsg_dec m h1 h2).2.2
      simp [unsg] at h3
      exact absurd (by first | exact h3.2 | exact h3.2.symm) h4
    · rw [run_internal_strconv_ParseInt,DC_of c_internal_strconv_ParseInt.eq_1]
      have p2:∀ x y:Int,plainRes (.tup [.int .i64 x,.ifc 156 (.int .i64 y)])=true:=fun _ _ => rfl
      simp [p2]
  · have hl:(unsg s).2.length ≤ 1073741824:=by
      rcases s with _ | ⟨c,r⟩
      · simp [unsg]
      · simp at hs
        by_cases a:c=43
        · simp [unsg,a]; omega
        · by_cases b:c=45
          · simp [unsg,b]; omega
          · simp [unsg,a,b]; omega
    obtain ⟨v,e,v1,h2,h3⟩:=F_internal_strconv_ParseUint (unsg s).2 hl 0 (.inl rfl) S
    have he:e=.nili ∨ ∃ x:Nat,(x=1 ∨ x=2) ∧ e=.ifc 156 (.int .i64 (x:Nat)):=by
      rcases h2 with h | ⟨_,h⟩
      · exact .inl h.1
      · exact .inr h
    obtain ⟨k1,k2,k3⟩:=piN_ok (unsg s).1 v e he
    refine ⟨_,_,k1,k2,k3,fun m m1 m2 hm => ?_,R_ParseInt s h0 S v e he h3⟩
    obtain ⟨u1,u2,u3⟩:=unsg_dec m m1 m2
    rw [← hm] at u1
    rw [u1] at h2 ⊢
    rcases h2 with ⟨rfl,a2,a3⟩ | ⟨a1,_⟩
    · simp only at a3
      rw [u2] at a3
      cases a3
      by_cases hneg:m < 0
      · have c1:¬ 9223372036854775808 < m.natAbs:=by omega
        have c2:=negw m.natAbs (by omega)
        simp only [piN,hneg,decide_true,if_true,if_neg c1,c2]
        exact ⟨by omega,trivial⟩
      · have c1:¬ 9223372036854775808 ≤ m.natAbs:=by omega
        have c2:IntKind.wrap .i64 (m.natAbs:Int)=m.natAbs:=wrap_i64 _ (by omega) (by omega)
        simp only [piN,hneg,decide_false,if_neg c1,c2]
        refine ⟨?_,rfl⟩
        simp
        omega
    · simp only at a1
      rcases a1 with a1 | a1
      · exact absurd a1 u3
      · rw [u2] at a1; cases a1
end Go.Proofs.YtekgdmhdkhgpjaaGreatDoor.am

set_option linter.unusedSimpArgs false
set_option linter.unusedVariables false
namespace Go.Proofs.YtekgdmhdkhgpjaaGreatDoor.am
open Go
set_option maxHeartbeats 1000000 in
theorem F_internal_strconv_Atoi (s:Str) (hs:s.length ≤ 1073741824) (S:St):∃ (n:Int) (e:AV),-9223372036854775808 ≤ n ∧ n < 9223372036854775808 ∧ (e=.nili ∨ ∃ x:Nat,(x=1 ∨ x=2) ∧ e=.ifc 156 (.int .i64 (x:Nat))) ∧
    (∀ m:Int,-9223372036854775808 ≤ m → m < 9223372036854775808 → s=decI m → n=m ∧ e=.nili) ∧
    DF lib nk 88 [.str s] S=some (.tup [.int .i64 n,e],S):=by
  rw [run_internal_strconv_Atoi,DC_of c_internal_strconv_Atoi.eq_1]
  by_cases hf:0 < s.length ∧ s.length < 19
  rotate_left
  · obtain ⟨n,e,n1,n2,n3,n4,n5⟩:=F_internal_strconv_ParseInt s hs S
    refine ⟨n,e,n1,n2,n3,n4,?_⟩
    have p1:∀ x:Int,plainRes (.tup [.int .i64 x,.nili])=true:=fun _ => rfl
    have p2:∀ x y:Int,plainRes (.tup [.int .i64 x,.ifc 156 (.int .i64 y)])=true:=fun _ _ => rfl
    have g2:∀ y:Int,(giveRes [] (normr (.ifc 156 (.int .i64 y)))).1=.ifc 156 (.int .i64 y):=fun _ => rfl
    by_cases a:0 < s.length
    · have b:¬ s.length < 19:=fun h => hf ⟨a,h⟩
      have a':(0:Int) < s.length:=by omega
      have b':¬ (s.length:Int) < 19:=by omega
      rcases n3 with rfl | ⟨x,hx,rfl⟩ <;> simp [r_internal_strconv_Atoi_0,a,a',b,b',n5,p1,p2]
    · have a':¬ (0:Int) < s.length:=by omega
      rcases n3 with rfl | ⟨x,hx,rfl⟩ <;> simp [r_internal_strconv_Atoi_0,a,a',n5,p1,p2]
  obtain ⟨f1,f2⟩:=hf
  rcases s with _ | ⟨c,r⟩
  · simp at f1
  have f1':(0:Int) < (r.length:Int) + 1:=by omega
  have f2':(r.length:Int) + 1 < 19:=by simp at f2; omega
  have hsl:slSK (.str (c :: r)) (some (.int .i64 1)) none=some (.str r):=by have:=slS_from (s:=c :: r) (n:=1) (by simp); simpa using this
  have hbt:∀ t:Str,t.length ≤ 18 → bytK (.str t)=some (.sl .none 1 (bcl t)):=fun t h => bytK_bcl (by omega)
  have hln:∀ t:Str,lenLK (.sl .none 1 (bcl t))=some (.int .i64 (t.length:Nat)):=fun t => by simp [lenLK]
  have p1:∀ x:Int,plainRes (.tup [.int .i64 x,.nili])=true:=fun _ => rfl
  have p2:∀ x y:Int,plainRes (.tup [.int .i64 x,.ifc 156 (.int .i64 y)])=true:=fun _ _ => rfl
  have bnd:∀ (t:Str) (m:Nat),t.length ≤ 18 → pu t 0=some m → m ≤ 1000000000000000000:=by
    intro t m ht hm
    have h1:=pu_pow t 0 m 0 (by decide) hm
    have h2:=pow18 (i:=0 + t.length) (by omega)
    omega
  have hr:r.length ≤ 18:=by simp at f2; omega
  by_cases c45:c=45
  · subst c45
    by_cases r0:r=[]
    · subst r0
      refine ⟨0,.ifc 156 (.int .i64 (2:Nat)),by decide,by decide,.inr ⟨2,.inr rfl,rfl⟩,fun k k1 k2 hk => ?_,?_⟩
      · obtain ⟨u1,u2,u3⟩:=unsg_dec k k1 k2
        rw [← hk] at u1
        simp [unsg] at u1
        exact absurd (by first | exact u1.2 | exact u1.2.symm) u3
      · simp [r_internal_strconv_Atoi_0,hsl,p2]
    have r1:¬ ((r.length:Int) < 1):=by
      have:0 < r.length:=by cases r with | nil => exact absurd rfl r0 | cons => simp
      omega
    obtain ⟨l1,l2⟩:=L_Atoi (45 :: r) r hr S.length S r.length 0 (by omega) 0 (by decide)
    simp only [List.drop_zero] at l1 l2
    have hbt':=hbt _ hr
    cases hp:pu r 0 with
    | some m =>
      have hl:=l1 m hp
      have hb:=bnd _ m hr hp
      refine ⟨-(m:Int),.nili,by omega,by omega,.inl rfl,fun k k1 k2 hk => ?_,?_⟩
      · obtain ⟨u1,u2,u3⟩:=unsg_dec k k1 k2
        rw [← hk] at u1
        simp [unsg] at u1
        rw [← u1.2,hp] at u2
        cases u2
        exact ⟨by omega,rfl⟩
      · simp at hl
        have w:IntKind.wrap .i64 (-(m:Int))=-(m:Int):=wrap_i64 _ (by omega) (by omega)
        simp [r_internal_strconv_Atoi_0,f1',f2',hsl,r1,r0,hbt',hln]
        rw [DC_keep_of l_internal_strconv_Atoi_0.eq_1]
        simp [hl,p1,w,evUn]
    | none =>
      have hl:=l2 hp
      refine ⟨0,.ifc 156 (.int .i64 (2:Nat)),by decide,by decide,.inr ⟨2,.inr rfl,rfl⟩,fun k k1 k2 hk => ?_,?_⟩
      · obtain ⟨u1,u2,u3⟩:=unsg_dec k k1 k2
        rw [← hk] at u1
        simp [unsg] at u1
        rw [← u1.2,hp] at u2
        cases u2
      · simp at hl
        simp [r_internal_strconv_Atoi_0,f1',f2',hsl,r1,r0,hbt',hln]
        rw [DC_keep_of l_internal_strconv_Atoi_0.eq_1]
        simp [hl,p2]
  by_cases c43:c=43
  · subst c43
    by_cases r0:r=[]
    · subst r0
      refine ⟨0,.ifc 156 (.int .i64 (2:Nat)),by decide,by decide,.inr ⟨2,.inr rfl,rfl⟩,fun k k1 k2 hk => ?_,?_⟩
      · obtain ⟨u1,u2,u3⟩:=unsg_dec k k1 k2
        rw [← hk] at u1
        simp [unsg] at u1
        exact absurd (by first | exact u1.2 | exact u1.2.symm) u3
      · simp [r_internal_strconv_Atoi_0,hsl,p2]
    have r1:¬ ((r.length:Int) < 1):=by
      have:0 < r.length:=by cases r with | nil => exact absurd rfl r0 | cons => simp
      omega
    obtain ⟨l1,l2⟩:=L_Atoi (43 :: r) r hr S.length S r.length 0 (by omega) 0 (by decide)
    simp only [List.drop_zero] at l1 l2
    have hbt':=hbt _ hr
    cases hp:pu r 0 with
    | some m =>
      have hl:=l1 m hp
      have hb:=bnd _ m hr hp
      refine ⟨(m:Int),.nili,by omega,by omega,.inl rfl,fun k k1 k2 hk => ?_,?_⟩
      · obtain ⟨u1,u2,u3⟩:=unsg_dec k k1 k2
        rw [← hk] at u1
        simp [unsg] at u1
        rw [← u1.2,hp] at u2
        cases u2
        exact ⟨by omega,rfl⟩
      · simp at hl
        simp [r_internal_strconv_Atoi_0,f1',f2',hsl,r1,r0,hbt',hln]
        rw [DC_keep_of l_internal_strconv_Atoi_0.eq_1]
        simp [hl,p1]
    | none =>
      have hl:=l2 hp
      refine ⟨0,.ifc 156 (.int .i64 (2:Nat)),by decide,by decide,.inr ⟨2,.inr rfl,rfl⟩,fun k k1 k2 hk => ?_,?_⟩
      · obtain ⟨u1,u2,u3⟩:=unsg_dec k k1 k2
        rw [← hk] at u1
        simp [unsg] at u1
        rw [← u1.2,hp] at u2
        cases u2
      · simp at hl
        simp [r_internal_strconv_Atoi_0,f1',f2',hsl,r1,r0,hbt',hln]
        rw [DC_keep_of l_internal_strconv_Atoi_0.eq_1]
        simp [hl,p2]
  · have n1:¬ (c.toNat:Int)=43:=by intro h; exact c43 (UInt8.toNat_inj.1 (by rw [show (43:UInt8).toNat=43 from rfl]; omega))
    have n2:¬ (c.toNat:Int)=45:=by intro h; exact c45 (UInt8.toNat_inj.1 (by rw [show (45:UInt8).toNat=45 from rfl]; omega))
    have hl18:(c :: r).length ≤ 18:=by simp at f2 ⊢; omega
    obtain ⟨l1,l2⟩:=L_Atoi (c :: r) (c :: r) hl18 S.length S (c :: r).length 0 (by omega) 0 (by decide)
    simp only [List.drop_zero] at l1 l2
    cases hp:pu (c :: r) 0 with
    | some m =>
      have hl:=l1 m hp
      have hb:=bnd _ m hl18 hp
      have hbt':=hbt _ hl18
      refine ⟨(m:Int),.nili,by omega,by omega,.inl rfl,fun k k1 k2 hk => ?_,?_⟩
      · obtain ⟨u1,u2,u3⟩:=unsg_dec k k1 k2
        rw [← hk] at u1
        simp [unsg,c43,c45] at u1
        rw [← u1.2,hp] at u2
        cases u2
        exact ⟨by omega,rfl⟩
      · simp at hl
        simp [r_internal_strconv_Atoi_0,f1',f2',n1,n2,hbt',hln]
        rw [DC_keep_of l_internal_strconv_Atoi_0.eq_1]
        simp [hl,p1,n2]
    | none =>
      have hl:=l2 hp
      have hbt':=hbt _ hl18
      refine ⟨0,.ifc 156 (.int .i64 (2:Nat)),by decide,by decide,.inr ⟨2,.inr rfl,rfl⟩,fun k k1 k2 hk => ?_,?_⟩
      · obtain ⟨u1,u2,u3⟩:=unsg_dec k k1 k2
        rw [← hk] at u1
        simp [unsg,c43,c45] at u1
        rw [← u1.2,hp] at u2
        cases u2
      · simp at hl
        simp [r_internal_strconv_Atoi_0,f1',f2',n1,n2,hbt',hln]
        rw [DC_keep_of l_internal_strconv_Atoi_0.eq_1]
        simp [hl,p2]
theorem F_strconv_Atoi (s:Str) (hs:s.length ≤ 1073741824) (S:St):∃ (n:Int) (e:AV),-9223372036854775808 ≤ n ∧ n < 9223372036854775808 ∧ (e=.nili ∨ ∃ f z,e=errY f s z) ∧
    (∀ m:Int,-9223372036854775808 ≤ m → m < 9223372036854775808 → s=decI m → n=m ∧ e=.nili) ∧
    DF lib nk 62 [.str s] S=some (.tup [.int .i64 n,e],S):=by
  obtain ⟨n,e,n1,n2,n3,n4,n5⟩:=F_internal_strconv_Atoi s hs S
  rw [run_strconv_Atoi,DC_of c_strconv_Atoi.eq_1]
  rcases n3 with rfl | ⟨x,hx,rfl⟩
  · have p1:∀ x:Int,plainRes (.tup [.int .i64 x,.nili])=true:=fun _ => rfl
    exact ⟨n,.nili,n1,n2,.inl rfl,n4,by simp [n5,p1]⟩
  · obtain ⟨z,hz⟩:=F_strconv_toError [65,116,111,105] s hs 0 0 x hx S
    refine ⟨n,errY [65,116,111,105] s z,n1,n2,.inr ⟨_,_,rfl⟩,fun m m1 m2 hm => ?_,?_⟩
    · have:=(n4 m m1 m2 hm).2
      cases this
    · simp [n5,hz]
end Go.Proofs.YtekgdmhdkhgpjaaGreatDoor.am

set_option linter.unusedSimpArgs false
set_option linter.unusedVariables false
namespace Go.Proofs.YtekgdmhdkhgpjaaGreatDoor.am
open Go
@[simp] theorem takeRet_t0:takeRet [] (.tup [])=(.tup [],[]):=rfl
section
variable {α:Type} (k:α → Str) (mark e:UInt8) (he:e=125 ∨ e=93) (Ok Good:α → Prop) (GoodV:Val → Prop) (g:FuncId) (hg:nk.prim g=none) (hraw:rawF g=false) (pa pb pc:Nat) (j:Nat)
  (M:Str → Bool → List α → List Val → St) (hM1:∀ s bad xs ps,(M s bad xs ps)[j]?=some (psr s bad)) (hM2:∀ s bad xs ps s' bad',(M s bad xs ps).set j (psr s' bad')=M s' bad' xs ps)
  (hk0:∀ y,Good y → ∃ b t,k y=b :: t ∧ b ≠ e)
  (hE:∀ s bad xs ps,xs.length + s.length ≤ 1000000000 → xs.length=ps.length → ∃ x p s' bad',Ok x ∧ p.Wf ∧ s'.length ≤ s.length ∧ (bad'=false → s'.length < s.length) ∧ (bad=true → bad'=true) ∧
    (bad=false → ∀ y q r,Good y → GoodV q → Term r → s=k y ++ mark :: (q.text ++ r) → x=y ∧ p=q ∧ s'=r ∧ bad'=false) ∧
    DF lib nk g [.ptr pa 0,.ptr pb 0,.ptr pc 0] (M s bad xs ps)=some (.tup [],M s' bad' (xs ++ [x]) (ps ++ [p])))
include hM1 in
theorem list_bad (s:Str) (xs:List α) (ps:List Val) (first:Bool) (nb:Nat) :
    DC lib nk (.loop l_note_parser_list_0) ⟨[(0,.ptr j 0),(1,.str [e]),(2,.fn g [] [.ptr pa 0,.ptr pb 0,.ptr pc 0]),(6,.bool first)],[],nb⟩ (M s true xs ps)=some (.exit 0,⟨[],[],nb⟩,M s true xs ps):=by
  rw [DC_loop',DC_of l_note_parser_list_0.eq_1]
  have h2:=load_psr1 (hM1 s true xs ps)
  simp [h2,evUn]
def bt {α:Type} (k:α → Str) (mark:UInt8) (first:Bool) (ys:List α) (qs:List Val):Str:=if first then bodyT k mark ys qs else tl k mark ys qs
theorem term_tl {α:Type} (k:α → Str) (mark e:UInt8) (he:e=125 ∨ e=93) (zs:List α) (ws:List Val) (u:Str):Term (tl k mark zs ws ++ e :: u):=by
  intro b hb
  rcases zs with _ | ⟨z,zs⟩
  · simp [tl] at hb; subst hb; rcases he with he | he <;> (rw [he]; rfl)
  · rcases ws with _ | ⟨w,ws⟩
    · simp [tl] at hb; subst hb; rcases he with he | he <;> (rw [he]; rfl)
    · simp [tl] at hb; subst hb; rfl
include he hg hraw hM1 hM2 hk0 hE in
theorem L_note_parser_list:∀ (n:Nat) (s:Str) (bad:Bool) (xs:List α) (ps:List Val) (first:Bool),s.length < n → xs.length + s.length ≤ 1000000000 → xs.length=ps.length → (∀ x ∈ xs,Ok x) → (∀ p ∈ ps,p.Wf) →
    ∃ xs' ps' s' bad',(∀ x ∈ xs',Ok x) ∧ (∀ p ∈ ps',p.Wf) ∧ xs'.length=ps'.length ∧ xs'.length ≤ 1000000001 ∧ s'.length ≤ s.length ∧
      (bad=false → ∀ ys qs r,(∀ y ∈ ys,Good y) → (∀ q ∈ qs,GoodV q) → ys.length=qs.length → s=bt k mark first ys qs ++ e :: r → xs'=xs ++ ys ∧ ps'=ps ++ qs ∧ s'=r ∧ bad'=false) ∧
      ∀ nb,DC lib nk (.loop l_note_parser_list_0) ⟨[(0,.ptr j 0),(1,.str [e]),(2,.fn g [] [.ptr pa 0,.ptr pb 0,.ptr pc 0]),(6,.bool first)],[],nb⟩ (M s bad xs ps)=some (.exit 0,⟨[],[],nb⟩,M s' bad' xs' ps'):=by
  intro n
  induction n with
  | zero => intro s bad xs ps first hn; omega
  | succ n ih =>
    intro s bad xs ps first hn hb hl hx hp
    cases bad
    rotate_left
    · exact ⟨xs,ps,s,true,hx,hp,hl,by omega,Nat.le_refl _,fun h => (by cases h),fun nb => list_bad e g pa pb pc j M hM1 s xs ps first nb⟩
    have h2:=load_psr1 (hM1 s false xs ps)
    have hsk:=F_note_parser_skip (hM1 s false xs ps) (by omega) [e] (by simp)
    cases e1:hasP [e] s
    · have e2:cutP [e] s=s:=by simp [cutP,e1]
      rw [e1,e2,hM2] at hsk
      -- the comma,or that there is none
      obtain ⟨s1,bad1,l1,w1,cm⟩:∃ s1 bad1,s1.length ≤ s.length ∧ (first=false → DF lib nk 59 [.ptr j 0,.str [44]] (M s false xs ps)=some (.tup [],M s1 bad1 xs ps)) ∧ ((first=true → s1=s ∧ bad1=false) ∧ (first=false → s1=cutP [44] s ∧ bad1=!hasP [44] s)):=by
        cases first
        · have hw:=F_note_parser_want (hM1 s false xs ps) (by omega) [44] (by decide)
          rw [hM2] at hw
          exact ⟨cutP [44] s,!hasP [44] s || false,cutP_len _ _,fun _ => hw,fun h => (by cases h),fun _ => ⟨rfl,by simp⟩⟩
        · exact ⟨s,false,Nat.le_refl _,fun h => (by cases h),fun _ => ⟨rfl,rfl⟩,fun h => (by cases h)⟩
      obtain ⟨x,p,s2,bad2,x1,x2,x3,x4,x5,x6,x7⟩:=hE s1 bad1 xs ps (by omega) hl
      obtain ⟨xs',ps',s',bad',r1,r2,r3,r4,r5,r6,r7⟩:∃ xs' ps' s' bad',(∀ x ∈ xs',Ok x) ∧ (∀ p ∈ ps',p.Wf) ∧ xs'.length=ps'.length ∧ xs'.length ≤ 1000000001 ∧ s'.length ≤ s2.length ∧
          (bad2=false → ∀ ys qs r,(∀ y ∈ ys,Good y) → (∀ q ∈ qs,GoodV q) → ys.length=qs.length → s2=bt k mark false ys qs ++ e :: r → xs'=(xs ++ [x]) ++ ys ∧ ps'=(ps ++ [p]) ++ qs ∧ s'=r ∧ bad'=false) ∧
          ∀ nb,DC lib nk (.loop l_note_parser_list_0) ⟨[(0,.ptr j 0),(1,.str [e]),(2,.fn g [] [.ptr pa 0,.ptr pb 0,.ptr pc 0]),(6,.bool false)],[],nb⟩ (M s2 bad2 (xs ++ [x]) (ps ++ [p]))=some (.exit 0,⟨[],[],nb⟩,M s' bad' xs' ps'):=by
        have hx':∀ z ∈ xs ++ [x],Ok z:=by
          intro z hz
          rcases List.mem_append.1 hz with h | h
          · exact hx z h
          · simp at h; rw [h]; exact x1
        have hp':∀ z ∈ ps ++ [p],z.Wf:=by
          intro z hz
          rcases List.mem_append.1 hz with h | h
          · exact hp z h
          · simp at h; rw [h]; exact x2
        cases b2:bad2
        · have:=x4 b2
          exact ih s2 false (xs ++ [x]) (ps ++ [p]) false (by omega) (by simp; omega) (by simp [hl]) hx' hp'
        · exact ⟨xs ++ [x],ps ++ [p],s2,true,hx',hp',by simp [hl],by simp; omega,Nat.le_refl _,fun h => (by cases h),fun nb => list_bad e g pa pb pc j M hM1 s2 _ _ false nb⟩
      refine ⟨xs',ps',s',bad',r1,r2,r3,r4,by omega,fun _ ys qs r hy hq hyq hs => ?_,fun nb => ?_⟩
      · rcases ys with _ | ⟨y,ys⟩
        · rcases qs with _ | ⟨q,qs⟩
          · exfalso
            have h3:s=e :: r:=by rw [hs]; cases first <;> simp [bt,bodyT,tl]
            rw [h3] at e1
            simp [hasP] at e1
          · simp at hyq
        · rcases qs with _ | ⟨q,qs⟩
          · simp at hyq
          · have hs1:s1=k y ++ mark :: (q.text ++ (tl k mark ys qs ++ e :: r)) ∧ bad1=false:=by
              cases first
              · obtain ⟨q1,q2⟩:=cm.2 rfl
                have h4:s=[44] ++ (k y ++ mark :: (q.text ++ (tl k mark ys qs ++ e :: r))):=by rw [hs]; simp [bt,tl]
                rw [h4,cutP_app] at q1
                rw [h4,hasP_app] at q2
                exact ⟨q1,q2⟩
              · obtain ⟨q1,q2⟩:=cm.1 rfl
                rw [q1]
                exact ⟨by rw [hs]; simp [bt,bodyT],q2⟩
            obtain ⟨y1,y2,y3,y4⟩:=x6 hs1.2 y q _ (hy y (by simp)) (hq q (by simp)) (term_tl k mark e he ys qs r) hs1.1
            obtain ⟨z1,z2,z3,z4⟩:=r6 y4 ys qs r (fun z hz => hy z (by simp [hz])) (fun z hz => hq z (by simp [hz])) (by simpa using hyq) (by rw [y3]; simp [bt])
            exact ⟨by rw [z1,y1]; simp,by rw [z2,y2]; simp,z3,z4⟩
      · rw [DC_loop',DC_of l_note_parser_list_0.eq_1]
        have r7':=r7 nb
        cases first
        · have w1':=w1 rfl
          simp [h2,evUn,hsk,w1',hg,hraw,x7]
          rw [DC_keep_of l_note_parser_list_0.eq_1]
          simp [r7']
        · obtain ⟨q1,q2⟩:=cm.1 rfl
          subst q1; subst q2
          simp [h2,evUn,hsk,hg,hraw,x7]
          rw [DC_keep_of l_note_parser_list_0.eq_1]
          simp [r7']
    · rw [e1,hM2] at hsk
      have e2:=cutP_len [e] s
      refine ⟨xs,ps,cutP [e] s,false,hx,hp,hl,by omega,e2,fun _ ys qs r hy hq hyq hs => ?_,fun nb => ?_⟩
      · rcases ys with _ | ⟨y,ys⟩
        · rcases qs with _ | ⟨q,qs⟩
          · have h3:s=e :: r:=by rw [hs]; cases first <;> simp [bt,bodyT,tl]
            rw [h3]
            exact ⟨by simp,by simp,cutP_app [e] r,rfl⟩
          · simp at hyq
        · rcases qs with _ | ⟨q,qs⟩
          · simp at hyq
          · exfalso
            obtain ⟨b,t,k1,k2⟩:=hk0 y (hy y (by simp))
            cases first
            · rw [hs] at e1
              simp [bt,tl,hasP] at e1
              rcases he with h | h <;> (rw [h] at e1; exact absurd e1 (by decide))
            · rw [hs] at e1
              simp [bt,bodyT,hasP,k1] at e1
              exact k2 e1
      · rw [DC_loop',DC_of l_note_parser_list_0.eq_1]
        simp [h2,evUn,hsk]
end
end Go.Proofs.YtekgdmhdkhgpjaaGreatDoor.am
