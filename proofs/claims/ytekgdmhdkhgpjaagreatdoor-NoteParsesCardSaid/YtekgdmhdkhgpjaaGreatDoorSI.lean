/- Several texts, one behind the other: Nt5 Nt6 Nt7 Nt8 Nt9 -/
import Derived.Test.YtekgdmhdkhgpjaaGreatDoorSH
set_option linter.unusedSimpArgs false
set_option linter.unusedVariables false
set_option linter.unusedSimpArgs false
namespace Go.Proofs.YtekgdmhdkhgpjaaGreatDoor.am
open Go
theorem wrap_u32 (n:Int) (h0:0 ≤ n) (h1:n < 4294967296):IntKind.wrap .u32 n=n:=by
  have:IntKind.wrap .u32 n=n % 4294967296:=by rfl
  rw [this]; omega
theorem wrap_u8 (n:Int) (h0:0 ≤ n) (h1:n < 256):IntKind.wrap .u8 n=n:=by
  have:IntKind.wrap .u8 n=n % 256:=by rfl
  rw [this]; omega
theorem wrap_u8' (n:Int):IntKind.wrap .u8 n=n % 256:=rfl
theorem tdiv_nn (a b:Int) (h:0 ≤ a):a.tdiv b=a / b:=Int.tdiv_eq_ediv_of_nonneg h
theorem tmod_nn (a b:Int) (h:0 ≤ a):a.tmod b=a % b:=Int.tmod_eq_emod_of_nonneg h
theorem fdiv_nn (a b:Int) (h:0 ≤ b):a.fdiv b=a / b:=Int.fdiv_eq_ediv_of_nonneg a h
@[simp] theorem cast_neg (n:Nat):((n:Int) < 0)=False:=by simp
@[simp] theorem cast_add_neg1 (n:Nat):((n:Int) + 1 < 0)=False:=by simp; omega
@[simp] theorem toNat_add1 (n:Nat):((n:Int) + 1).toNat=n + 1:=by omega
theorem dec_len_eq:∀ (k n:Nat),10 ^ k ≤ n → n < 10 ^ (k + 1) → (dec n).length=k + 1:=by
  intro k
  induction k with
  | zero => intro n _ h; rw [dec,dif_pos (by omega)]; simp
  | succ k ih =>
    intro n h0 h
    rw [dec,dif_neg (by have:0 < 10 ^ k:=Nat.pow_pos (by omega); rw [Nat.pow_succ] at h0; omega)]
    have:=ih (n / 10) (by rw [Nat.pow_succ] at h0; omega) (by rw [Nat.pow_succ] at h; omega)
    simp [this]
def IsLen (u r:Nat):Prop:=(u=0 ∧ r=0) ∨ ∃ k,r=k + 1 ∧ 2 ^ k ≤ u ∧ u < 2 ^ (k + 1)
theorem IsLen.shift {u r:Nat} (k:Nat) (h:IsLen (u / 2 ^ k) r) (hu:2 ^ k ≤ u):IsLen u (r + k):=by
  have hp:0 < 2 ^ k:=Nat.pow_pos (by omega)
  rcases h with ⟨h1,_⟩ | ⟨j,rfl,h1,h2⟩
  · have:=(Nat.le_div_iff_mul_le hp (x:=1) (y:=u)).2 (by omega); omega
  · refine .inr ⟨j + k,by omega,?_,?_⟩
    · have:=(Nat.le_div_iff_mul_le hp).1 h1
      rw [Nat.pow_add]; exact this
    · have:=(Nat.div_lt_iff_lt_mul hp).1 h2
      rw [show j + k + 1=(j + 1) + k by omega,Nat.pow_add]; exact this
theorem len8_ok (x:Nat) (h:x < 256):∃ r:UInt8,kstr_8163acee[x]?=some r ∧ r.toNat ≤ 8 ∧ IsLen x r.toNat:=by
  have key:∀ x:Fin 256,((kstr_8163acee[x.val]?).getD 0).toNat ≤ 8 ∧ x.val < kstr_8163acee.length ∧ (if x.val=0 then ((kstr_8163acee[x.val]?).getD 0).toNat=0 else ∃ k:Fin 9,((kstr_8163acee[x.val]?).getD 0).toNat=k.val + 1 ∧ 2 ^ k.val ≤ x.val ∧ x.val < 2 ^ (k.val + 1)):=by decide +kernel
  obtain ⟨h1,h2,h3⟩:=key ⟨x,h⟩
  simp only at h1 h2 h3
  obtain ⟨r,hr⟩:=get_of_lt h2
  rw [hr] at h1 h3
  refine ⟨r,hr,h1,?_⟩
  split at h3
  · exact .inl ⟨by assumption,h3⟩
  · obtain ⟨k,a,b,c⟩:=h3
    exact .inr ⟨k.val,a,b,c⟩
theorem len8_at {x:Nat} {r:UInt8} {e:Int} (hr:kstr_8163acee[x]?=some r) (hx:IntKind.wrap .u8 e=(x:Int)):ixSK (.str kstr_8163acee) (.int .u8 (IntKind.wrap .u8 e))=some (.int .u8 (r.toNat:Int)):=by
  rw [hx]; simp [hr]
theorem F_math_bits_Len64 (u:Nat) (hu:u < 18446744073709551616) (S:St):∃ r,IsLen u r ∧ r ≤ 64 ∧ DF lib nk 97 [.int .u64 u] S=some (.int .i64 (r:Int),S):=by
  rw [run_math_bits_Len64,DC_of c_math_bits_Len64.eq_1]
  by_cases h1:(4294967296:Int) ≤ (u:Int)
  · by_cases h2:(65536:Int) ≤ (u:Int) / 4294967296
    · by_cases h3:(256:Int) ≤ (u:Int) / 4294967296 / 65536
      · obtain ⟨r,hr,h8,hl⟩:=len8_ok (u / 2 ^ 32 / 2 ^ 16 / 2 ^ 8) (by omega)
        have hx:IntKind.wrap .u8 ((u:Int) / 4294967296 / 65536 / 256)=((u / 2 ^ 32 / 2 ^ 16 / 2 ^ 8:Nat):Int):=by rw [wrap_u8 _ (by omega) (by omega)]; omega
        have hw:IntKind.wrap .i64 (r.toNat:Int)=r.toNat:=wrap_i64 _ (by omega) (by omega)
        have hw2:IntKind.wrap .i64 (56 + (r.toNat:Int))=((r.toNat + 56:Nat):Int):=by rw [wrap_i64 _ (by omega) (by omega)]; omega
        refine ⟨r.toNat + 56,by have:=IsLen.shift 32 (IsLen.shift 16 (IsLen.shift 8 (hl) (by omega)) (by omega)) (by omega); simpa [Nat.add_assoc] using this,by omega,?_⟩
        simp [-ixSK,h1,h2,h3,IntKind.bits,fdiv_nn,len8_at hr hx,hw,hw2] <;> first | done | (simp (disch:=omega) only [wrap_i64]; omega)
      · obtain ⟨r,hr,h8,hl⟩:=len8_ok (u / 2 ^ 32 / 2 ^ 16) (by omega)
        have hx:IntKind.wrap .u8 ((u:Int) / 4294967296 / 65536)=((u / 2 ^ 32 / 2 ^ 16:Nat):Int):=by rw [wrap_u8 _ (by omega) (by omega)]; omega
        have hw:IntKind.wrap .i64 (r.toNat:Int)=r.toNat:=wrap_i64 _ (by omega) (by omega)
        have hw2:IntKind.wrap .i64 (48 + (r.toNat:Int))=((r.toNat + 48:Nat):Int):=by rw [wrap_i64 _ (by omega) (by omega)]; omega
        refine ⟨r.toNat + 48,by have:=IsLen.shift 32 (IsLen.shift 16 (hl) (by omega)) (by omega); simpa [Nat.add_assoc] using this,by omega,?_⟩
        simp [-ixSK,h1,h2,h3,IntKind.bits,fdiv_nn,len8_at hr hx,hw,hw2] <;> first | done | (simp (disch:=omega) only [wrap_i64]; omega)
    · by_cases h3:(256:Int) ≤ (u:Int) / 4294967296
      · obtain ⟨r,hr,h8,hl⟩:=len8_ok (u / 2 ^ 32 / 2 ^ 8) (by omega)
        have hx:IntKind.wrap .u8 ((u:Int) / 4294967296 / 256)=((u / 2 ^ 32 / 2 ^ 8:Nat):Int):=by rw [wrap_u8 _ (by omega) (by omega)]; omega
        have hw:IntKind.wrap .i64 (r.toNat:Int)=r.toNat:=wrap_i64 _ (by omega) (by omega)
        have hw2:IntKind.wrap .i64 (40 + (r.toNat:Int))=((r.toNat + 40:Nat):Int):=by rw [wrap_i64 _ (by omega) (by omega)]; omega
        refine ⟨r.toNat + 40,by have:=IsLen.shift 32 (IsLen.shift 8 (hl) (by omega)) (by omega); simpa [Nat.add_assoc] using this,by omega,?_⟩
        simp [-ixSK,h1,h2,h3,IntKind.bits,fdiv_nn,len8_at hr hx,hw,hw2] <;> first | done | (simp (disch:=omega) only [wrap_i64]; omega)
      · obtain ⟨r,hr,h8,hl⟩:=len8_ok (u / 2 ^ 32) (by omega)
        have hx:IntKind.wrap .u8 ((u:Int) / 4294967296)=((u / 2 ^ 32:Nat):Int):=by rw [wrap_u8 _ (by omega) (by omega)]; omega
        have hw:IntKind.wrap .i64 (r.toNat:Int)=r.toNat:=wrap_i64 _ (by omega) (by omega)
        have hw2:IntKind.wrap .i64 (32 + (r.toNat:Int))=((r.toNat + 32:Nat):Int):=by rw [wrap_i64 _ (by omega) (by omega)]; omega
        refine ⟨r.toNat + 32,by have:=IsLen.shift 32 (hl) (by omega); simpa [Nat.add_assoc] using this,by omega,?_⟩
        simp [-ixSK,h1,h2,h3,IntKind.bits,fdiv_nn,len8_at hr hx,hw,hw2] <;> first | done | (simp (disch:=omega) only [wrap_i64]; omega)
  · by_cases h2:(65536:Int) ≤ (u:Int)
    · by_cases h3:(256:Int) ≤ (u:Int) / 65536
      · obtain ⟨r,hr,h8,hl⟩:=len8_ok (u / 2 ^ 16 / 2 ^ 8) (by omega)
        have hx:IntKind.wrap .u8 ((u:Int) / 65536 / 256)=((u / 2 ^ 16 / 2 ^ 8:Nat):Int):=by rw [wrap_u8 _ (by omega) (by omega)]; omega
        have hw:IntKind.wrap .i64 (r.toNat:Int)=r.toNat:=wrap_i64 _ (by omega) (by omega)
        have hw2:IntKind.wrap .i64 (24 + (r.toNat:Int))=((r.toNat + 24:Nat):Int):=by rw [wrap_i64 _ (by omega) (by omega)]; omega
        refine ⟨r.toNat + 24,by have:=IsLen.shift 16 (IsLen.shift 8 (hl) (by omega)) (by omega); simpa [Nat.add_assoc] using this,by omega,?_⟩
        simp [-ixSK,h1,h2,h3,IntKind.bits,fdiv_nn,len8_at hr hx,hw,hw2] <;> first | done | (simp (disch:=omega) only [wrap_i64]; omega)
      · obtain ⟨r,hr,h8,hl⟩:=len8_ok (u / 2 ^ 16) (by omega)
        have hx:IntKind.wrap .u8 ((u:Int) / 65536)=((u / 2 ^ 16:Nat):Int):=by rw [wrap_u8 _ (by omega) (by omega)]; omega
        have hw:IntKind.wrap .i64 (r.toNat:Int)=r.toNat:=wrap_i64 _ (by omega) (by omega)
        have hw2:IntKind.wrap .i64 (16 + (r.toNat:Int))=((r.toNat + 16:Nat):Int):=by rw [wrap_i64 _ (by omega) (by omega)]; omega
        refine ⟨r.toNat + 16,by have:=IsLen.shift 16 (hl) (by omega); simpa [Nat.add_assoc] using this,by omega,?_⟩
        simp [-ixSK,h1,h2,h3,IntKind.bits,fdiv_nn,len8_at hr hx,hw,hw2] <;> first | done | (simp (disch:=omega) only [wrap_i64]; omega)
    · by_cases h3:(256:Int) ≤ (u:Int)
      · obtain ⟨r,hr,h8,hl⟩:=len8_ok (u / 2 ^ 8) (by omega)
        have hx:IntKind.wrap .u8 ((u:Int) / 256)=((u / 2 ^ 8:Nat):Int):=by rw [wrap_u8 _ (by omega) (by omega)]; omega
        have hw:IntKind.wrap .i64 (r.toNat:Int)=r.toNat:=wrap_i64 _ (by omega) (by omega)
        have hw2:IntKind.wrap .i64 (8 + (r.toNat:Int))=((r.toNat + 8:Nat):Int):=by rw [wrap_i64 _ (by omega) (by omega)]; omega
        refine ⟨r.toNat + 8,by have:=IsLen.shift 8 (hl) (by omega); simpa [Nat.add_assoc] using this,by omega,?_⟩
        simp [-ixSK,h1,h2,h3,IntKind.bits,fdiv_nn,len8_at hr hx,hw,hw2] <;> first | done | (simp (disch:=omega) only [wrap_i64]; omega)
      · obtain ⟨r,hr,h8,hl⟩:=len8_ok (u) (by omega)
        have hx:IntKind.wrap .u8 ((u:Int))=((u:Nat):Int):=wrap_u8 _ (by omega) (by omega)
        have hw:IntKind.wrap .i64 (r.toNat:Int)=r.toNat:=wrap_i64 _ (by omega) (by omega)
        have hw2:IntKind.wrap .i64 (0 + (r.toNat:Int))=((r.toNat + 0:Nat):Int):=by rw [wrap_i64 _ (by omega) (by omega)]; simp
        refine ⟨r.toNat + 0,by have:=hl; simpa [Nat.add_assoc] using this,by omega,?_⟩
        simp [-ixSK,h1,h2,h3,IntKind.bits,fdiv_nn,len8_at hr hx,hw,hw2] <;> first | done | (simp (disch:=omega) only [wrap_i64]; omega)
theorem F_internal_strconv_log10Pow2 (r:Nat) (hr:r ≤ 64) (S:St):DF lib nk 96 [.int .i64 r] S=some (.int .i64 ((r * 78913 / 262144:Nat):Int),S):=by
  rw [run_internal_strconv_log10Pow2,DC_of c_internal_strconv_log10Pow2.eq_1]
  have h1:IntKind.wrap .i64 ((r:Int) * 78913)=r * 78913:=wrap_i64 _ (by omega) (by omega)
  simp [h1,fdiv_nn,IntKind.bits]
theorem F_internal_strconv_bool2_int (b:Bool) (S:St):DF lib nk 98 [.bool b] S=some (.int .i64 (if b then 1 else 0),S):=by
  rw [run_internal_strconv_bool2_int,DC_of c_internal_strconv_bool2_int.eq_1]
  cases b <;> simp
theorem pow10_at (n:Nat) (h:n < 20):kcells_5d7bb67b[n]?=some (.int .u64 ((10 ^ n:Nat):Int)):=by
  have h2:n=0 ∨ n=1 ∨ n=2 ∨ n=3 ∨ n=4 ∨ n=5 ∨ n=6 ∨ n=7 ∨ n=8 ∨ n=9 ∨ n=10 ∨ n=11 ∨ n=12 ∨ n=13 ∨ n=14 ∨ n=15 ∨ n=16 ∨ n=17 ∨ n=18 ∨ n=19:=by omega
  rcases h2 with rfl | rfl | rfl | rfl | rfl | rfl | rfl | rfl | rfl | rfl | rfl | rfl | rfl | rfl | rfl | rfl | rfl | rfl | rfl | rfl <;> rfl
theorem log10_ok (r:Nat) (h:r ≤ 64) (h1:1 ≤ r):r * 78913 / 262144 < 20 ∧ 2 ^ r ≤ 10 ^ (r * 78913 / 262144 + 1) ∧ 10 ^ (r * 78913 / 262144) ≤ 10 * 2 ^ (r - 1):=by
  have key:∀ r:Fin 65,1 ≤ r.val → r.val * 78913 / 262144 < 20 ∧ 2 ^ r.val ≤ 10 ^ (r.val * 78913 / 262144 + 1) ∧ 10 ^ (r.val * 78913 / 262144) ≤ 10 * 2 ^ (r.val - 1):=by decide +kernel
  exact key ⟨r,by omega⟩ h1
theorem F_internal_strconv_numDigits (u:Nat) (h1:1 ≤ u) (hu:u < 18446744073709551616) (S:St):DF lib nk 74 [.int .u64 u] S=some (.int .i64 ((dec u).length:Int),S):=by
  rw [run_internal_strconv_numDigits,DC_of c_internal_strconv_numDigits.eq_1]
  obtain ⟨r,hl,hr,hL⟩:=F_math_bits_Len64 u hu S
  have hl10:=F_internal_strconv_log10Pow2 r hr S
  rcases hl with ⟨h,_⟩ | ⟨k,hk,hk1,hk2⟩
  · omega
  obtain ⟨a,b,c⟩:=log10_ok r hr (by omega)
  have hc:=pow10_at _ a
  generalize r * 78913 / 262144=n at *
  have hrk:r - 1=k:=by omega
  rw [hrk] at c
  rw [← hk] at hk2
  have hb:=F_internal_strconv_bool2_int (decide (((10 ^ n:Nat):Int) ≤ (u:Int))) S
  have hn:¬ ((n:Int) < 0):=by omega
  by_cases hge:10 ^ n ≤ u
  · have hge':(((10 ^ n:Nat):Int) ≤ (u:Int)):=by omega
    have hd:=dec_len_eq n u hge (by omega)
    have hw:IntKind.wrap .i64 ((n:Int) + 1)=((dec u).length:Int):=by rw [hd,wrap_i64 _ (by omega) (by omega)]; omega
    simp only [hge',decide_true] at hb
    simp at hb hge' hc
    simp [hL,hl10,hc,a,hge',hb,hw]
  · have hge':¬ (((10 ^ n:Nat):Int) ≤ (u:Int)):=by omega
    obtain ⟨m,rfl⟩:∃ m,n=m + 1:=⟨n - 1,by cases n with | zero => simp at hge; omega | succ n => omega⟩
    have hd:=dec_len_eq m u (by rw [Nat.pow_succ] at c; omega) (by omega)
    have hw:IntKind.wrap .i64 ((m:Int) + 1 + 0)=((dec u).length:Int):=by rw [hd,wrap_i64 _ (by omega) (by omega)]; omega
    have hw':IntKind.wrap .i64 ((m:Int) + 1)=((dec u).length:Int):=by rw [hd,wrap_i64 _ (by omega) (by omega)]; omega
    simp only [hge',decide_false] at hb
    simp at hb hge' hc
    have hge2:¬ ((10:Int) ^ (m + 1) ≤ u):=by omega
    simp [hL,hl10,hc,a,hge2,hb,hw,hw']
def small2 (n:Nat):List UInt8:=[digB (n / 10),digB (n % 10)]
theorem dec_small {n:Nat} (h:n < 100) (h1:10 ≤ n):dec n=small2 n:=by
  rw [dec,dif_neg (by omega),dec,dif_pos (by omega)]; rfl
theorem smalls_ok (i:Nat) (h:i < 100):(kstr_9eac56d1.take (2 * i + 2)).drop (2 * i)=small2 i ∧ kstr_9eac56d1[2 * i]?=some (digB (i / 10)) ∧ kstr_9eac56d1[2 * i + 1]?=some (digB (i % 10)):=by
  have key:∀ i:Fin 100,(kstr_9eac56d1.take (2 * i.val + 2)).drop (2 * i.val)=small2 i.val ∧ kstr_9eac56d1[2 * i.val]?=some (digB (i.val / 10)) ∧ kstr_9eac56d1[2 * i.val + 1]?=some (digB (i.val % 10)):=by decide +kernel
  exact key ⟨i,h⟩
theorem F_internal_strconv_small (i:Nat) (hi:i < 100) (S:St):DF lib nk 73 [.int .i64 i] S=some (.str (dec i),S):=by
  rw [run_internal_strconv_small,DC_of c_internal_strconv_small.eq_1]
  by_cases h:i < 10
  · have h':(i:Int) < 10:=by omega
    have hw:IntKind.wrap .i64 ((i:Int) + 1)=(i:Int) + 1:=wrap_i64 _ (by omega) (by omega)
    have key:∀ i:Fin 10,(kstr_9c425506.take (i.val + 1)).drop i.val=[digB i.val] ∧ i.val + 1 ≤ kstr_9c425506.length:=by decide +kernel
    obtain ⟨k1,k2⟩:=key ⟨i,h⟩
    simp only at k1 k2
    rw [dec,dif_pos h]
    have k3:slSK (.str kstr_9c425506) (some (.int .i64 i)) (some (.int .i64 ((i:Int) + 1)))=some (.str [digB i]):=by
      have e0:¬ ((i:Int) + 1 < i):=by omega
      have e2:(i:Int) + 1 ≤ kstr_9c425506.length:=by omega
      simp (disch:=omega) [slSK,k1,if_pos,if_neg]
    simp [h',hw,k3]
  · have h':¬ (i:Int) < 10:=by omega
    have hw:IntKind.wrap .i64 ((i:Int) * 2)=(i:Int) * 2:=wrap_i64 _ (by omega) (by omega)
    have hw2:IntKind.wrap .i64 ((i:Int) * 2 + 2)=(i:Int) * 2 + 2:=wrap_i64 _ (by omega) (by omega)
    obtain ⟨k1,k2,_⟩:=smalls_ok i hi
    have hlen:kstr_9eac56d1.length=200:=by decide +kernel
    rw [dec_small hi (by omega)]
    have k3:slSK (.str kstr_9eac56d1) (some (.int .i64 ((i:Int) * 2))) (some (.int .i64 ((i:Int) * 2 + 2)))=some (.str (small2 i)):=by
      have e1:((i:Int) * 2 + 2).toNat=2 * i + 2:=by omega
      have e2:((i:Int) * 2).toNat=2 * i:=by omega
      have e3:¬ ((i:Int) * 2 < 0):=by omega
      have e4:(i:Int) * 2 ≤ 2 * i + 2:=by omega
      have e5:2 * i + 2 ≤ 200:=by omega
      have e6:¬ ((i:Int) * 2 + 2 < 0):=by omega
      have e7:(i:Int) * 2 + 2 ≤ 200:=by omega
      simp (disch:=omega) [slSK,e1,e2,k1,hlen,if_pos,if_neg]
    simp [h',hw,hw2,k3]
end Go.Proofs.YtekgdmhdkhgpjaaGreatDoor.am

set_option linter.unusedSimpArgs false
namespace Go.Proofs.YtekgdmhdkhgpjaaGreatDoor.am
open Go
def digs:Nat → Nat → List UInt8
  | 0,_ => []
  | n + 1,u => digs n (u / 10) ++ [digB (u % 10)]
@[simp] theorem digs_len:∀ (n u:Nat),(digs n u).length=n
  | 0,_ => rfl
  | n + 1,u => by simp [digs,digs_len n]
theorem digs_add:∀ (b a u:Nat),digs (a + b) u=digs a (u / 10 ^ b) ++ digs b u
  | 0,a,u => by simp [digs]
  | b + 1,a,u => by
    rw [← Nat.add_assoc,digs,digs_add b a,digs,Nat.div_div_eq_div_mul,Nat.pow_succ,Nat.mul_comm 10,List.append_assoc]
theorem dec_digs:∀ (n u:Nat),(dec u).length=n → dec u=digs n u
  | 0,u,h => by rw [dec] at h; split at h <;> simp at h
  | n + 1,u,h => by
    rw [dec] at h ⊢
    split at h
    · simp at h; subst h
      rename_i hu
      rw [dif_pos hu]; simp [digs,Nat.mod_eq_of_lt hu]
    · rename_i hu
      simp at h
      rw [dif_neg hu,digs,dec_digs n (u / 10) h]
theorem digs8 (u:Nat):digs 8 u=[digB ((u % 100000000 / 10000 / 100) / 10),digB ((u % 100000000 / 10000 / 100) % 10),digB ((u % 100000000 / 10000 % 100) / 10),digB ((u % 100000000 / 10000 % 100) % 10),digB ((u % 10000 / 100) / 10),digB ((u % 10000 / 100) % 10),digB ((u % 100) / 10),digB ((u % 100) % 10)]:=by
  have h:∀ a b:Nat,a=b → digB a=digB b:=fun a b e => by rw [e]
  simp only [digs,List.nil_append,List.cons_append,List.cons.injEq,and_true]
  refine ⟨h _ _ ?_,h _ _ ?_,h _ _ ?_,h _ _ ?_,h _ _ ?_,h _ _ ?_,h _ _ ?_,h _ _ ?_⟩ <;> omega
@[simp] theorem splice_cons0 (x:AV) (l:List AV) (v:AV):splice (x :: l) 0 [v]=v :: l:=by simp [splice]
@[simp] theorem splice_cons (x:AV) (l:List AV) (n:Nat) (v:AV):splice (x :: l) (n + 1) [v]=x :: splice l n [v]:=by simp [splice]
theorem splice_mid {M:List AV} {p:Nat} (j:Nat) (h:p=M.length + j) (L:List AV) (v:AV):splice (M ++ L) p [v]=M ++ splice L j [v]:=by
  subst h
  simp [splice,List.take_append,List.drop_append]
  rw [List.take_of_length_le (by omega),List.drop_eq_nil_of_le (by omega)]
  simp
  omega
theorem eight {l:List AV} {m:Nat} (h:l.length=m + 8):∃ l' a b c d e f g i,l=l' ++ [a,b,c,d,e,f,g,i] ∧ l'.length=m:=by
  refine ⟨l.take m,?_⟩
  have h8:(l.drop m).length=8:=by simp; omega
  match hd:l.drop m,h8 with
  | [a,b,c,d,e,f,g,i],_ => exact ⟨a,b,c,d,e,f,g,i,by rw [← hd,List.take_append_drop],by simp; omega⟩
theorem sm_facts {z:Int} {k:Nat} (hz:z=k) (hk:k < 100):IntKind.wrap .u32 z=z ∧ IntKind.wrap .u32 (z * 2)=z * 2 ∧ IntKind.wrap .u32 (z * 2 + 1)=z * 2 + 1 ∧ (z * 2 < 0)=False ∧ (z * 2 + 1 < 0)=False ∧ (z * 2).toNat=2 * k ∧ (z * 2 + 1).toNat=2 * k + 1 ∧ kstr_9eac56d1[2 * k]?=some (digB (k / 10)) ∧ kstr_9eac56d1[2 * k + 1]?=some (digB (k % 10)):=by
  subst hz
  obtain ⟨_,a,b⟩:=smalls_ok k hk
  exact ⟨wrap_u32 _ (by omega) (by omega),wrap_u32 _ (by omega) (by omega),wrap_u32 _ (by omega) (by omega),by simp only [eq_iff_iff,iff_false]; omega,by simp only [eq_iff_iff,iff_false]; omega,by omega,by omega,a,b⟩
theorem ix_facts {m off n N:Nat} {M:List AV} (hM:M.length=off + m) (hn:m + N ≤ n) (hc:n < 4294967296) (j:Nat) (hj:j < N):((m:Int) + j).toNat=m + j ∧ (∀ L v,splice (M ++ L) (off + (m + j)) [v]=M ++ splice L j [v]) ∧ m + j < n ∧ ((m:Int) + j < 0)=False ∧ IntKind.wrap .i64 ((m:Int) + N - (N - j:Nat))=m + j :=
  ⟨by omega,splice_mid j (by omega),by omega,by simp only [eq_iff_iff,iff_false]; omega,by rw [wrap_i64 _ (by omega) (by omega)]; omega⟩
set_option maxHeartbeats 4000000 in
theorem u32_a (u:Nat):IntKind.wrap .u32 ((u:Int) % 100000000 / 10000)=u % 100000000 / 10000:=wrap_u32 _ (by omega) (by omega)
theorem u_k0 (u:Nat):(u % 100) < 100:=by omega
theorem u_k1 (u:Nat):(u % 10000 / 100) < 100:=by omega
theorem u_k2 (u:Nat):(u % 100000000 / 10000 % 100) < 100:=by omega
theorem u_k3 (u:Nat):(u % 100000000 / 10000 / 100) < 100:=by omega
set_option maxHeartbeats 4000000 in
theorem R_formatBase10 (T:St) (bt:List (Option Nat)) (nb off n cap u m:Nat) (M Q:List AV) (hM:M.length=off + m) (hn:m + 8 ≤ n) (hcap:n < 4294967296) (hu:u < 18446744073709551616) (x1 x2 x3 x4 x5 x6 x7 x8:AV) :
    DC lib nk (.loop l_internal_strconv_formatBase10_0) ⟨[(0,.aref T.length off n cap 1),(1,.int .u64 u),(4,.int .i64 ((m:Int) + 8))],[],nb⟩ (T ++ [.mem (M ++ (x1 :: x2 :: x3 :: x4 :: x5 :: x6 :: x7 :: x8 :: Q)) bt false]) =
      DC lib nk (.loop l_internal_strconv_formatBase10_0) ⟨[(0,.aref T.length off n cap 1),(1,.int .u64 ((u / 100000000:Nat):Int)),(4,.int .i64 m)],[],nb⟩ (T ++ [.mem (M ++ (encB (digs 8 u) ++ Q)) bt false]):=by
  rw [DC_loop',DC_of l_internal_strconv_formatBase10_0.eq_1]
  have c8:(8:Int) ≤ ((m:Int) + 8):=by omega
  obtain ⟨i0,p0,n0,g0,w0⟩:=ix_facts hM hn hcap 0 (by omega)
  obtain ⟨i1,p1,n1,g1,w1⟩:=ix_facts hM hn hcap 1 (by omega)
  obtain ⟨i2,p2,n2,g2,w2⟩:=ix_facts hM hn hcap 2 (by omega)
  obtain ⟨i3,p3,n3,g3,w3⟩:=ix_facts hM hn hcap 3 (by omega)
  obtain ⟨i4,p4,n4,g4,w4⟩:=ix_facts hM hn hcap 4 (by omega)
  obtain ⟨i5,p5,n5,g5,w5⟩:=ix_facts hM hn hcap 5 (by omega)
  obtain ⟨i6,p6,n6,g6,w6⟩:=ix_facts hM hn hcap 6 (by omega)
  obtain ⟨i7,p7,n7,g7,w7⟩:=ix_facts hM hn hcap 7 (by omega)
  simp at i0 i1 i2 i3 i4 i5 i6 i7 w0 w1 w2 w3 w4 w5 w6 w7 p0 n0
  have g0:((m:Int) < 0)=False:=by simp only [eq_iff_iff,iff_false]; omega
  have g1:((m:Int) + 1 < 0)=False:=g1
  have g2:((m:Int) + 2 < 0)=False:=g2
  have g3:((m:Int) + 3 < 0)=False:=g3
  have g4:((m:Int) + 4 < 0)=False:=g4
  have g5:((m:Int) + 5 < 0)=False:=g5
  have g6:((m:Int) + 6 < 0)=False:=g6
  have g7:((m:Int) + 7 < 0)=False:=g7
  have b0:off + m + 1 ≤ M.length + (Q.length + 1 + 1 + 1 + 1 + 1 + 1 + 1 + 1):=by rw [hM]; omega
  have b1:off + (m + 1) + 1 ≤ M.length + (Q.length + 1 + 1 + 1 + 1 + 1 + 1 + 1 + 1):=by rw [hM]; omega
  have b2:off + (m + 2) + 1 ≤ M.length + (Q.length + 1 + 1 + 1 + 1 + 1 + 1 + 1 + 1):=by rw [hM]; omega
  have b3:off + (m + 3) + 1 ≤ M.length + (Q.length + 1 + 1 + 1 + 1 + 1 + 1 + 1 + 1):=by rw [hM]; omega
  have b4:off + (m + 4) + 1 ≤ M.length + (Q.length + 1 + 1 + 1 + 1 + 1 + 1 + 1 + 1):=by rw [hM]; omega
  have b5:off + (m + 5) + 1 ≤ M.length + (Q.length + 1 + 1 + 1 + 1 + 1 + 1 + 1 + 1):=by rw [hM]; omega
  have b6:off + (m + 6) + 1 ≤ M.length + (Q.length + 1 + 1 + 1 + 1 + 1 + 1 + 1 + 1):=by rw [hM]; omega
  have b7:off + (m + 7) + 1 ≤ M.length + (Q.length + 1 + 1 + 1 + 1 + 1 + 1 + 1 + 1):=by rw [hM]; omega
  have nn:(0:Int) ≤ u:=Int.natCast_nonneg _
  have mm:∀ k:Int,0 < k → (0:Int) ≤ u % k:=fun k hk => Int.emod_nonneg _ (by omega)
  have hA:(u:Int).tmod 100000000=u % 100000000:=tmod_nn _ _ nn
  have hB:IntKind.wrap .u32 ((u:Int) % 100000000)=u % 100000000:=wrap_u32 _ (mm _ (by decide)) (Int.lt_trans (Int.emod_lt_of_pos _ (by decide)) (by decide))
  have hC:(u:Int).tdiv 100000000=u / 100000000:=tdiv_nn _ _ nn
  have hD:IntKind.wrap .u64 ((u:Int) / 100000000)=u / 100000000:=wrap_u64 _ (by clear i0 i1 i2 i3 i4 i5 i6 i7 w0 w1 w2 w3 w4 w5 w6 w7; omega) (by clear i0 i1 i2 i3 i4 i5 i6 i7 w0 w1 w2 w3 w4 w5 w6 w7; omega)
  have hE:((u:Int) % 100000000).tdiv 10000=u % 100000000 / 10000:=tdiv_nn _ _ (mm _ (by decide))
  have hF:IntKind.wrap .u32 ((u:Int) % 100000000 / 10000)=u % 100000000 / 10000:=u32_a u
  have hG:((u:Int) % 100000000).tmod 10000=u % 10000:=by rw [tmod_nn _ _ (mm _ (by decide))]; exact Int.emod_emod_of_dvd _ (by decide)
  have hH:((u:Int) % 10000).tmod 100=u % 100:=by rw [tmod_nn _ _ (mm _ (by decide))]; exact Int.emod_emod_of_dvd _ (by decide)
  have hI:((u:Int) % 10000).tdiv 100=u % 10000 / 100:=tdiv_nn _ _ (Int.emod_nonneg _ (by decide))
  have hJ:((u:Int) % 100000000 / 10000).tmod 100=u % 100000000 / 10000 % 100:=tmod_nn _ _ (Int.ediv_nonneg (mm _ (by decide)) (by decide))
  have hK:((u:Int) % 100000000 / 10000).tdiv 100=u % 100000000 / 10000 / 100:=tdiv_nn _ _ (Int.ediv_nonneg (mm _ (by decide)) (by decide))
  obtain ⟨u0a,u0b,u0c,v0a,v0b,t0a,t0b,s0a,s0b⟩:=sm_facts (z:=((u:Int) % 100)) (k:=(u % 100)) (by simp) (u_k0 u)
  obtain ⟨u1a,u1b,u1c,v1a,v1b,t1a,t1b,s1a,s1b⟩:=sm_facts (z:=((u:Int) % 10000 / 100)) (k:=(u % 10000 / 100)) (by simp) (u_k1 u)
  obtain ⟨u2a,u2b,u2c,v2a,v2b,t2a,t2b,s2a,s2b⟩:=sm_facts (z:=((u:Int) % 100000000 / 10000 % 100)) (k:=(u % 100000000 / 10000 % 100)) (by simp) (u_k2 u)
  obtain ⟨u3a,u3b,u3c,v3a,v3b,t3a,t3b,s3a,s3b⟩:=sm_facts (z:=((u:Int) % 100000000 / 10000 / 100)) (k:=(u % 100000000 / 10000 / 100)) (by simp) (u_k3 u)
  simp [c8,ixLK,hA,hB,hC,hD,hE,hF,hG,hH,hI,hJ,hK,s0a,s0b,t0a,t0b,u0a,u0b,u0c,v0a,v0b,s1a,s1b,t1a,t1b,u1a,u1b,u1c,v1a,v1b,s2a,s2b,t2a,t2b,u2a,u2b,u2c,v2a,v2b,s3a,s3b,t3a,t3b,u3a,u3b,u3c,v3a,v3b,i0,p0,w0,n0,g0,b0,i1,p1,w1,n1,g1,b1,i2,p2,w2,n2,g2,b2,i3,p3,w3,n3,g3,b3,i4,p4,w4,n4,g4,b4,i5,p5,w5,n5,g5,b5,i6,p6,w6,n6,g6,b6,i7,p7,w7,n7,g7,b7]
  rw [DC_keep_of l_internal_strconv_formatBase10_0.eq_1]
  simp [digs8,encB,cellB]
end Go.Proofs.YtekgdmhdkhgpjaaGreatDoor.am

set_option linter.unusedSimpArgs false
namespace Go.Proofs.YtekgdmhdkhgpjaaGreatDoor.am
open Go
theorem L_formatBase10 (T:St) (bt:List (Option Nat)) (nb off n cap r:Nat) (hcap:n < 4294967296) (hr:r < 8) (M:List AV) (hM:M.length=off + r):∀ (m u:Nat) (X Q:List AV),X.length=8 * m → 8 * m + r ≤ n → u < 18446744073709551616 →
    DC lib nk (.loop l_internal_strconv_formatBase10_0) ⟨[(0,.aref T.length off n cap 1),(1,.int .u64 u),(4,.int .i64 ((8 * m + r:Nat):Int))],[],nb⟩ (T ++ [.mem (M ++ (X ++ Q)) bt false]) =
      some (.exit 0,⟨[(0,.aref T.length off n cap 1),(1,.int .u64 ((u / 10 ^ (8 * m):Nat):Int)),(4,.int .i64 r)],[],nb⟩,T ++ [.mem (M ++ (encB (digs (8 * m) u) ++ Q)) bt false]):=by
  intro m
  induction m with
  | zero =>
    intro u X Q hX hn hu
    have hX0:X=[]:=by cases X with | nil => rfl | cons a l => simp at hX
    have c8:¬ (8:Int) ≤ r:=by omega
    rw [DC_loop',DC_of l_internal_strconv_formatBase10_0.eq_1]
    simp [c8,hX0,digs,encB]
  | succ m ih =>
    intro u X Q hX hn hu
    obtain ⟨X',a,b,c,d,e,f,g,i,rfl,hX'⟩:=eight (m:=8 * m) (l:=X) (by omega)
    have h1:=R_formatBase10 T bt nb off n cap u (8 * m + r) (M ++ X') Q (by simp [hM,hX']; omega) (by omega) hcap hu a b c d e f g i
    have h2:=ih (u / 100000000) X' (encB (digs 8 u) ++ Q) hX' (by omega) (by omega)
    have e1:((8 * (m + 1) + r:Nat):Int)=((8 * m + r:Nat):Int) + 8:=by omega
    have e2:u / 10 ^ (8 * (m + 1))=u / 100000000 / 10 ^ (8 * m):=by
      rw [Nat.div_div_eq_div_mul,show 8 * (m + 1)=8 + 8 * m by omega,Nat.pow_add]
    have e3:digs (8 * (m + 1)) u=digs (8 * m) (u / 100000000) ++ digs 8 u:=by
      rw [show 8 * (m + 1)=8 * m + 8 by omega,digs_add]
    rw [e1,e2,e3]
    simp only [List.append_assoc,List.cons_append,List.nil_append] at h1 h2 ⊢
    rw [h1,h2]
    simp [encB]
@[simp] theorem resK_nil (f:FuncId) (tips:List (Option Nat)) (S S':St):resK f tips [] S S'=some (.tup [],S'.take S.length):=by
  have:plainRes (.tup [])=true:=rfl
  simp [resK,giveResL,retOf,this]
@[simp] theorem take_last (T:St) (a b:Box):(T ++ [a]).take (T ++ [b]).length=T ++ [a]:=List.take_of_length_le (by simp)
@[simp] theorem take_last' (T:St) (a:Box):(T ++ [a]).take (T.length + 1)=T ++ [a]:=List.take_of_length_le (by simp)
@[simp] theorem wl0:IntKind.wrap .i64 0=0:=rfl
@[simp] theorem wl1:IntKind.wrap .i64 1=1:=rfl
@[simp] theorem wl2:IntKind.wrap .i64 2=2:=rfl
@[simp] theorem wl3:IntKind.wrap .i64 3=3:=rfl
@[simp] theorem wl4:IntKind.wrap .i64 4=4:=rfl
@[simp] theorem wl5:IntKind.wrap .i64 5=5:=rfl
@[simp] theorem wl6:IntKind.wrap .i64 6=6:=rfl
@[simp] theorem wl7:IntKind.wrap .i64 7=7:=rfl
@[simp] theorem wl8:IntKind.wrap .i64 8=8:=rfl
@[simp] theorem wl9:IntKind.wrap .i64 9=9:=rfl
@[simp] theorem wl10:IntKind.wrap .i64 10=10:=rfl
@[simp] theorem wl11:IntKind.wrap .i64 11=11:=rfl
@[simp] theorem wl12:IntKind.wrap .i64 12=12:=rfl
@[simp] theorem wl13:IntKind.wrap .i64 13=13:=rfl
@[simp] theorem wl14:IntKind.wrap .i64 14=14:=rfl
@[simp] theorem wl15:IntKind.wrap .i64 15=15:=rfl
@[simp] theorem wl16:IntKind.wrap .i64 16=16:=rfl
@[simp] theorem wl17:IntKind.wrap .i64 17=17:=rfl
@[simp] theorem wl18:IntKind.wrap .i64 18=18:=rfl
@[simp] theorem wl19:IntKind.wrap .i64 19=19:=rfl
@[simp] theorem wl20:IntKind.wrap .i64 20=20:=rfl
@[simp] theorem wl21:IntKind.wrap .i64 21=21:=rfl
@[simp] theorem wl22:IntKind.wrap .i64 22=22:=rfl
@[simp] theorem wl23:IntKind.wrap .i64 23=23:=rfl
@[simp] theorem wl24:IntKind.wrap .i64 24=24:=rfl
@[simp] theorem wl25:IntKind.wrap .i64 25=25:=rfl
@[simp] theorem wl26:IntKind.wrap .i64 26=26:=rfl
@[simp] theorem wl27:IntKind.wrap .i64 27=27:=rfl
@[simp] theorem wl28:IntKind.wrap .i64 28=28:=rfl
@[simp] theorem wl29:IntKind.wrap .i64 29=29:=rfl
@[simp] theorem wl30:IntKind.wrap .i64 30=30:=rfl
theorem u32_4 (u:Nat) (h:u < 10000000):IntKind.wrap .u32 ((u:Int) / 10000)=u / 10000:=wrap_u32 _ (by omega) (by omega)
theorem u32_2 (u:Nat) (h:u < 10000000):IntKind.wrap .u32 ((u:Int) / 100)=u / 100:=wrap_u32 _ (by omega) (by omega)
theorem u32_42 (u:Nat) (h:u < 10000000):IntKind.wrap .u32 ((u:Int) / 10000 / 100)=u / 10000 / 100:=wrap_u32 _ (by omega) (by omega)
theorem tm (u:Nat) (a:Int):(u:Int).tmod a=u % a:=tmod_nn _ _ (Int.natCast_nonneg _)
theorem td (u:Nat) (a:Int):(u:Int).tdiv a=u / a:=tdiv_nn _ _ (Int.natCast_nonneg _)
theorem last_digit {z:Int} {k:Nat} (hz:z=k) (hk:k < 10):IntKind.wrap .u8 (IntKind.wrap .u32 (48 + z))=((digB k).toNat:Int):=by
  subst hz
  rw [wrap_u32 _ (by omega) (by omega),wrap_u8 _ (by omega) (by omega)]
  have:(digB k).toNat=48 + k:=by simp [digB]; omega
  rw [this]; omega
theorem dg {a b:Nat} (e:a=b):digB a=digB b:=by rw [e]
set_option maxHeartbeats 1000000 in
theorem digs_t0 (u:Nat) (h:u < 10 ^ 0):digs 0 u=[]:=by
  simp only [digs,List.nil_append,List.cons_append,List.cons.injEq,and_true,true_and,List.append_nil]
set_option maxHeartbeats 4000000 in
theorem T_formatBase10_0 (T:St) (bt:List (Option Nat)) (off cap m u:Nat) (A X Q:List AV) (hA:A.length=off) (hX:X.length=8 * m) (hn:8 * m + 0 < 4294967296) (hu:u < 18446744073709551616) (h10:u / 10 ^ (8 * m) < 10 ^ 0) :
    DF lib nk 75 [.aref T.length off (8 * m + 0) cap 1,.int .u64 u] (T ++ [.mem (A ++ ([] ++ (X ++ Q))) bt false])=some (.tup [],T ++ [.mem (A ++ (encB (digs 0 (u / 10 ^ (8 * m)) ++ digs (8 * m) u) ++ Q)) bt false]):=by
  rw [run_internal_strconv_formatBase10,DC_of c_internal_strconv_formatBase10.eq_1]
  have hL:=L_formatBase10 T bt (T.length + 1) off (8 * m + 0) cap 0 hn (by decide) (A ++ []) (by simp [hA]) m u X Q hX (Nat.le_refl _) hu
  have e1:A ++ ([] ++ (X ++ Q))=(A ++ []) ++ (X ++ Q):=by simp
  rw [e1,digs_t0 _ h10]
  generalize u / 10 ^ (8 * m)=v at *
  simp only [List.length_append,List.length_cons,List.length_nil] at hL ⊢
  simp [lenLK]
  rw [DC_keep_of l_internal_strconv_formatBase10_0.eq_1]
  simp at hL ⊢
  rw [hL]
  have hv:v < 10000000:=Nat.lt_of_lt_of_le h10 (by decide)
  have hw:IntKind.wrap .u32 (v:Int)=v:=wrap_u32 _ (Int.natCast_nonneg _) (by omega)
  simp [hw,tm,td,ixLK,hA,encB,cellB]
  done
set_option maxHeartbeats 1000000 in
theorem digs_t1 (u:Nat) (h:u < 10 ^ 1):digs 1 u=[digB u]:=by
  simp only [digs,List.nil_append,List.cons_append,List.cons.injEq,and_true,true_and,List.append_nil]
  exact dg (by omega)
set_option maxHeartbeats 4000000 in
theorem T_formatBase10_1 (T:St) (bt:List (Option Nat)) (off cap m u:Nat) (A X Q:List AV) (y0:AV) (hA:A.length=off) (hX:X.length=8 * m) (hn:8 * m + 1 < 4294967296) (hu:u < 18446744073709551616) (h10:u / 10 ^ (8 * m) < 10 ^ 1) :
    DF lib nk 75 [.aref T.length off (8 * m + 1) cap 1,.int .u64 u] (T ++ [.mem (A ++ ([y0] ++ (X ++ Q))) bt false])=some (.tup [],T ++ [.mem (A ++ (encB (digs 1 (u / 10 ^ (8 * m)) ++ digs (8 * m) u) ++ Q)) bt false]):=by
  rw [run_internal_strconv_formatBase10,DC_of c_internal_strconv_formatBase10.eq_1]
  have hL:=L_formatBase10 T bt (T.length + 1) off (8 * m + 1) cap 1 hn (by decide) (A ++ [y0]) (by simp [hA]) m u X Q hX (Nat.le_refl _) hu
  have e1:A ++ ([y0] ++ (X ++ Q))=(A ++ [y0]) ++ (X ++ Q):=by simp
  rw [e1,digs_t1 _ h10]
  generalize u / 10 ^ (8 * m)=v at *
  simp only [List.length_append,List.length_cons,List.length_nil] at hL ⊢
  simp [lenLK]
  rw [DC_keep_of l_internal_strconv_formatBase10_0.eq_1]
  simp at hL ⊢
  rw [hL]
  have hv:v < 10000000:=Nat.lt_of_lt_of_le h10 (by decide)
  have hw:IntKind.wrap .u32 (v:Int)=v:=wrap_u32 _ (Int.natCast_nonneg _) (by omega)
  have hlast:=last_digit (z:=(v:Int)) (k:=v) (by simp) (by omega)
  have p0:∀ L v,splice (A ++ L) off [v]=A ++ splice L 0 [v]:=splice_mid 0 (by rw [hA]; rfl)
  have n0:0 < 8 * m + 1:=by omega
  have z0:(0:Int) < 8 * (m:Int) + 1:=by omega
  have b0:off + 1 ≤ off + (8 * m + Q.length + 1):=by omega
  simp [hw,tm,td,ixLK,hA,encB,cellB,hlast,p0,n0,z0,b0]
  done
set_option maxHeartbeats 1000000 in
theorem digs_t2 (u:Nat) (h:u < 10 ^ 2):digs 2 u=[digB ((u % 100) / 10),digB ((u % 100) % 10)]:=by
  simp only [digs,List.nil_append,List.cons_append,List.cons.injEq,and_true,true_and,List.append_nil]
  refine ⟨dg ?_,dg ?_⟩ <;> omega
set_option maxHeartbeats 4000000 in
theorem T_formatBase10_2 (T:St) (bt:List (Option Nat)) (off cap m u:Nat) (A X Q:List AV) (y0 y1:AV) (hA:A.length=off) (hX:X.length=8 * m) (hn:8 * m + 2 < 4294967296) (hu:u < 18446744073709551616) (h10:u / 10 ^ (8 * m) < 10 ^ 2) :
    DF lib nk 75 [.aref T.length off (8 * m + 2) cap 1,.int .u64 u] (T ++ [.mem (A ++ ([y0,y1] ++ (X ++ Q))) bt false])=some (.tup [],T ++ [.mem (A ++ (encB (digs 2 (u / 10 ^ (8 * m)) ++ digs (8 * m) u) ++ Q)) bt false]):=by
  rw [run_internal_strconv_formatBase10,DC_of c_internal_strconv_formatBase10.eq_1]
  have hL:=L_formatBase10 T bt (T.length + 1) off (8 * m + 2) cap 2 hn (by decide) (A ++ [y0,y1]) (by simp [hA]) m u X Q hX (Nat.le_refl _) hu
  have e1:A ++ ([y0,y1] ++ (X ++ Q))=(A ++ [y0,y1]) ++ (X ++ Q):=by simp
  rw [e1,digs_t2 _ h10]
  generalize u / 10 ^ (8 * m)=v at *
  simp only [List.length_append,List.length_cons,List.length_nil] at hL ⊢
  simp [lenLK]
  rw [DC_keep_of l_internal_strconv_formatBase10_0.eq_1]
  simp at hL ⊢
  rw [hL]
  have hv:v < 10000000:=Nat.lt_of_lt_of_le h10 (by decide)
  have hw:IntKind.wrap .u32 (v:Int)=v:=wrap_u32 _ (Int.natCast_nonneg _) (by omega)
  have hE:=u32_2 v hv
  obtain ⟨u0a,u0b,u0c,v0a,v0b,t0a,t0b,s0a,s0b⟩:=sm_facts (z:=((v:Int) % 100)) (k:=(v % 100)) (by simp) (by omega)
  have p0:∀ L v,splice (A ++ L) off [v]=A ++ splice L 0 [v]:=splice_mid 0 (by rw [hA]; rfl)
  have n0:0 < 8 * m + 2:=by omega
  have z0:(0:Int) < 8 * (m:Int) + 2:=by omega
  have b0:off + 1 ≤ off + (8 * m + Q.length + 1 + 1):=by omega
  have p1:∀ L v,splice (A ++ L) (off + 1) [v]=A ++ splice L 1 [v]:=splice_mid 1 (by rw [hA])
  have n1:1 < 8 * m + 2:=by omega
  have z1:(1:Int) < 8 * (m:Int) + 2:=by omega
  have b1:off + 1 + 1 ≤ off + (8 * m + Q.length + 1 + 1):=by omega
  simp [hw,tm,td,ixLK,hA,encB,cellB,hE,u0a,u0b,u0c,v0a,v0b,t0a,t0b,s0a,s0b,p0,n0,z0,b0,p1,n1,z1,b1]
  done
set_option maxHeartbeats 1000000 in
theorem digs_t3 (u:Nat) (h:u < 10 ^ 3):digs 3 u=[digB (u / 100),digB ((u % 100) / 10),digB ((u % 100) % 10)]:=by
  simp only [digs,List.nil_append,List.cons_append,List.cons.injEq,and_true,true_and,List.append_nil]
  refine ⟨dg ?_,dg ?_,dg ?_⟩ <;> omega
set_option maxHeartbeats 4000000 in
theorem T_formatBase10_3 (T:St) (bt:List (Option Nat)) (off cap m u:Nat) (A X Q:List AV) (y0 y1 y2:AV) (hA:A.length=off) (hX:X.length=8 * m) (hn:8 * m + 3 < 4294967296) (hu:u < 18446744073709551616) (h10:u / 10 ^ (8 * m) < 10 ^ 3) :
    DF lib nk 75 [.aref T.length off (8 * m + 3) cap 1,.int .u64 u] (T ++ [.mem (A ++ ([y0,y1,y2] ++ (X ++ Q))) bt false])=some (.tup [],T ++ [.mem (A ++ (encB (digs 3 (u / 10 ^ (8 * m)) ++ digs (8 * m) u) ++ Q)) bt false]):=by
  rw [run_internal_strconv_formatBase10,DC_of c_internal_strconv_formatBase10.eq_1]
  have hL:=L_formatBase10 T bt (T.length + 1) off (8 * m + 3) cap 3 hn (by decide) (A ++ [y0,y1,y2]) (by simp [hA]) m u X Q hX (Nat.le_refl _) hu
  have e1:A ++ ([y0,y1,y2] ++ (X ++ Q))=(A ++ [y0,y1,y2]) ++ (X ++ Q):=by simp
  rw [e1,digs_t3 _ h10]
  generalize u / 10 ^ (8 * m)=v at *
  simp only [List.length_append,List.length_cons,List.length_nil] at hL ⊢
  simp [lenLK]
  rw [DC_keep_of l_internal_strconv_formatBase10_0.eq_1]
  simp at hL ⊢
  rw [hL]
  have hv:v < 10000000:=Nat.lt_of_lt_of_le h10 (by decide)
  have hw:IntKind.wrap .u32 (v:Int)=v:=wrap_u32 _ (Int.natCast_nonneg _) (by omega)
  have hE:=u32_2 v hv
  obtain ⟨u0a,u0b,u0c,v0a,v0b,t0a,t0b,s0a,s0b⟩:=sm_facts (z:=((v:Int) % 100)) (k:=(v % 100)) (by simp) (by omega)
  have hlast:=last_digit (z:=((v:Int) / 100)) (k:=(v / 100)) (by simp) (by omega)
  have p0:∀ L v,splice (A ++ L) off [v]=A ++ splice L 0 [v]:=splice_mid 0 (by rw [hA]; rfl)
  have n0:0 < 8 * m + 3:=by omega
  have z0:(0:Int) < 8 * (m:Int) + 3:=by omega
  have b0:off + 1 ≤ off + (8 * m + Q.length + 1 + 1 + 1):=by omega
  have p1:∀ L v,splice (A ++ L) (off + 1) [v]=A ++ splice L 1 [v]:=splice_mid 1 (by rw [hA])
  have n1:1 < 8 * m + 3:=by omega
  have z1:(1:Int) < 8 * (m:Int) + 3:=by omega
  have b1:off + 1 + 1 ≤ off + (8 * m + Q.length + 1 + 1 + 1):=by omega
  have p2:∀ L v,splice (A ++ L) (off + 2) [v]=A ++ splice L 2 [v]:=splice_mid 2 (by rw [hA])
  have n2:2 < 8 * m + 3:=by omega
  have z2:(2:Int) < 8 * (m:Int) + 3:=by omega
  have b2:off + 2 + 1 ≤ off + (8 * m + Q.length + 1 + 1 + 1):=by omega
  simp [hw,tm,td,ixLK,hA,encB,cellB,hE,u0a,u0b,u0c,v0a,v0b,t0a,t0b,s0a,s0b,hlast,p0,n0,z0,b0,p1,n1,z1,b1,p2,n2,z2,b2]
  done
set_option maxHeartbeats 1000000 in
theorem digs_t4 (u:Nat) (h:u < 10 ^ 4):digs 4 u=[digB ((u % 10000 / 100) / 10),digB ((u % 10000 / 100) % 10),digB ((u % 100) / 10),digB ((u % 100) % 10)]:=by
  simp only [digs,List.nil_append,List.cons_append,List.cons.injEq,and_true,true_and,List.append_nil]
  refine ⟨dg ?_,dg ?_,dg ?_,dg ?_⟩ <;> omega
set_option maxHeartbeats 4000000 in
theorem T_formatBase10_4 (T:St) (bt:List (Option Nat)) (off cap m u:Nat) (A X Q:List AV) (y0 y1 y2 y3:AV) (hA:A.length=off) (hX:X.length=8 * m) (hn:8 * m + 4 < 4294967296) (hu:u < 18446744073709551616) (h10:u / 10 ^ (8 * m) < 10 ^ 4) :
    DF lib nk 75 [.aref T.length off (8 * m + 4) cap 1,.int .u64 u] (T ++ [.mem (A ++ ([y0,y1,y2,y3] ++ (X ++ Q))) bt false])=some (.tup [],T ++ [.mem (A ++ (encB (digs 4 (u / 10 ^ (8 * m)) ++ digs (8 * m) u) ++ Q)) bt false]):=by
  rw [run_internal_strconv_formatBase10,DC_of c_internal_strconv_formatBase10.eq_1]
  have hL:=L_formatBase10 T bt (T.length + 1) off (8 * m + 4) cap 4 hn (by decide) (A ++ [y0,y1,y2,y3]) (by simp [hA]) m u X Q hX (Nat.le_refl _) hu
  have e1:A ++ ([y0,y1,y2,y3] ++ (X ++ Q))=(A ++ [y0,y1,y2,y3]) ++ (X ++ Q):=by simp
  rw [e1,digs_t4 _ h10]
  generalize u / 10 ^ (8 * m)=v at *
  simp only [List.length_append,List.length_cons,List.length_nil] at hL ⊢
  simp [lenLK]
  rw [DC_keep_of l_internal_strconv_formatBase10_0.eq_1]
  simp at hL ⊢
  rw [hL]
  have hv:v < 10000000:=Nat.lt_of_lt_of_le h10 (by decide)
  have hw:IntKind.wrap .u32 (v:Int)=v:=wrap_u32 _ (Int.natCast_nonneg _) (by omega)
  have hG:((v:Int) % 10000).tmod 100=v % 100:=by rw [tmod_nn _ _ (Int.emod_nonneg _ (by decide))]; exact Int.emod_emod_of_dvd _ (by decide)
  have hI:((v:Int) % 10000).tdiv 100=v % 10000 / 100:=tdiv_nn _ _ (Int.emod_nonneg _ (by decide))
  have hE:=u32_4 v hv
  obtain ⟨u0a,u0b,u0c,v0a,v0b,t0a,t0b,s0a,s0b⟩:=sm_facts (z:=((v:Int) % 100)) (k:=(v % 100)) (by simp) (by omega)
  obtain ⟨u1a,u1b,u1c,v1a,v1b,t1a,t1b,s1a,s1b⟩:=sm_facts (z:=((v:Int) % 10000 / 100)) (k:=(v % 10000 / 100)) (by simp) (by omega)
  have p0:∀ L v,splice (A ++ L) off [v]=A ++ splice L 0 [v]:=splice_mid 0 (by rw [hA]; rfl)
  have n0:0 < 8 * m + 4:=by omega
  have z0:(0:Int) < 8 * (m:Int) + 4:=by omega
  have b0:off + 1 ≤ off + (8 * m + Q.length + 1 + 1 + 1 + 1):=by omega
  have p1:∀ L v,splice (A ++ L) (off + 1) [v]=A ++ splice L 1 [v]:=splice_mid 1 (by rw [hA])
  have n1:1 < 8 * m + 4:=by omega
  have z1:(1:Int) < 8 * (m:Int) + 4:=by omega
  have b1:off + 1 + 1 ≤ off + (8 * m + Q.length + 1 + 1 + 1 + 1):=by omega
  have p2:∀ L v,splice (A ++ L) (off + 2) [v]=A ++ splice L 2 [v]:=splice_mid 2 (by rw [hA])
  have n2:2 < 8 * m + 4:=by omega
  have z2:(2:Int) < 8 * (m:Int) + 4:=by omega
  have b2:off + 2 + 1 ≤ off + (8 * m + Q.length + 1 + 1 + 1 + 1):=by omega
  have p3:∀ L v,splice (A ++ L) (off + 3) [v]=A ++ splice L 3 [v]:=splice_mid 3 (by rw [hA])
  have n3:3 < 8 * m + 4:=by omega
  have z3:(3:Int) < 8 * (m:Int) + 4:=by omega
  have b3:off + 3 + 1 ≤ off + (8 * m + Q.length + 1 + 1 + 1 + 1):=by omega
  simp [hw,tm,td,ixLK,hA,encB,cellB,hG,hI,hE,u0a,u0b,u0c,v0a,v0b,t0a,t0b,s0a,s0b,u1a,u1b,u1c,v1a,v1b,t1a,t1b,s1a,s1b,p0,n0,z0,b0,p1,n1,z1,b1,p2,n2,z2,b2,p3,n3,z3,b3]
  done
set_option maxHeartbeats 1000000 in
theorem digs_t5 (u:Nat) (h:u < 10 ^ 5):digs 5 u=[digB (u / 10000),digB ((u % 10000 / 100) / 10),digB ((u % 10000 / 100) % 10),digB ((u % 100) / 10),digB ((u % 100) % 10)]:=by
  simp only [digs,List.nil_append,List.cons_append,List.cons.injEq,and_true,true_and,List.append_nil]
  refine ⟨dg ?_,dg ?_,dg ?_,dg ?_,dg ?_⟩ <;> omega
set_option maxHeartbeats 4000000 in
theorem T_formatBase10_5 (T:St) (bt:List (Option Nat)) (off cap m u:Nat) (A X Q:List AV) (y0 y1 y2 y3 y4:AV) (hA:A.length=off) (hX:X.length=8 * m) (hn:8 * m + 5 < 4294967296) (hu:u < 18446744073709551616) (h10:u / 10 ^ (8 * m) < 10 ^ 5) :
    DF lib nk 75 [.aref T.length off (8 * m + 5) cap 1,.int .u64 u] (T ++ [.mem (A ++ ([y0,y1,y2,y3,y4] ++ (X ++ Q))) bt false])=some (.tup [],T ++ [.mem (A ++ (encB (digs 5 (u / 10 ^ (8 * m)) ++ digs (8 * m) u) ++ Q)) bt false]):=by
  rw [run_internal_strconv_formatBase10,DC_of c_internal_strconv_formatBase10.eq_1]
  have hL:=L_formatBase10 T bt (T.length + 1) off (8 * m + 5) cap 5 hn (by decide) (A ++ [y0,y1,y2,y3,y4]) (by simp [hA]) m u X Q hX (Nat.le_refl _) hu
  have e1:A ++ ([y0,y1,y2,y3,y4] ++ (X ++ Q))=(A ++ [y0,y1,y2,y3,y4]) ++ (X ++ Q):=by simp
  rw [e1,digs_t5 _ h10]
  generalize u / 10 ^ (8 * m)=v at *
  simp only [List.length_append,List.length_cons,List.length_nil] at hL ⊢
  simp [lenLK]
  rw [DC_keep_of l_internal_strconv_formatBase10_0.eq_1]
  simp at hL ⊢
  rw [hL]
  have hv:v < 10000000:=Nat.lt_of_lt_of_le h10 (by decide)
  have hw:IntKind.wrap .u32 (v:Int)=v:=wrap_u32 _ (Int.natCast_nonneg _) (by omega)
  have hG:((v:Int) % 10000).tmod 100=v % 100:=by rw [tmod_nn _ _ (Int.emod_nonneg _ (by decide))]; exact Int.emod_emod_of_dvd _ (by decide)
  have hI:((v:Int) % 10000).tdiv 100=v % 10000 / 100:=tdiv_nn _ _ (Int.emod_nonneg _ (by decide))
  have hE:=u32_4 v hv
  obtain ⟨u0a,u0b,u0c,v0a,v0b,t0a,t0b,s0a,s0b⟩:=sm_facts (z:=((v:Int) % 100)) (k:=(v % 100)) (by simp) (by omega)
  obtain ⟨u1a,u1b,u1c,v1a,v1b,t1a,t1b,s1a,s1b⟩:=sm_facts (z:=((v:Int) % 10000 / 100)) (k:=(v % 10000 / 100)) (by simp) (by omega)
  have hlast:=last_digit (z:=((v:Int) / 10000)) (k:=(v / 10000)) (by simp) (by omega)
  have p0:∀ L v,splice (A ++ L) off [v]=A ++ splice L 0 [v]:=splice_mid 0 (by rw [hA]; rfl)
  have n0:0 < 8 * m + 5:=by omega
  have z0:(0:Int) < 8 * (m:Int) + 5:=by omega
  have b0:off + 1 ≤ off + (8 * m + Q.length + 1 + 1 + 1 + 1 + 1):=by omega
  have p1:∀ L v,splice (A ++ L) (off + 1) [v]=A ++ splice L 1 [v]:=splice_mid 1 (by rw [hA])
  have n1:1 < 8 * m + 5:=by omega
  have z1:(1:Int) < 8 * (m:Int) + 5:=by omega
  have b1:off + 1 + 1 ≤ off + (8 * m + Q.length + 1 + 1 + 1 + 1 + 1):=by omega
  have p2:∀ L v,splice (A ++ L) (off + 2) [v]=A ++ splice L 2 [v]:=splice_mid 2 (by rw [hA])
  have n2:2 < 8 * m + 5:=by omega
  have z2:(2:Int) < 8 * (m:Int) + 5:=by omega
  have b2:off + 2 + 1 ≤ off + (8 * m + Q.length + 1 + 1 + 1 + 1 + 1):=by omega
  have p3:∀ L v,splice (A ++ L) (off + 3) [v]=A ++ splice L 3 [v]:=splice_mid 3 (by rw [hA])
  have n3:3 < 8 * m + 5:=by omega
  have z3:(3:Int) < 8 * (m:Int) + 5:=by omega
  have b3:off + 3 + 1 ≤ off + (8 * m + Q.length + 1 + 1 + 1 + 1 + 1):=by omega
  have p4:∀ L v,splice (A ++ L) (off + 4) [v]=A ++ splice L 4 [v]:=splice_mid 4 (by rw [hA])
  have n4:4 < 8 * m + 5:=by omega
  have z4:(4:Int) < 8 * (m:Int) + 5:=by omega
  have b4:off + 4 + 1 ≤ off + (8 * m + Q.length + 1 + 1 + 1 + 1 + 1):=by omega
  simp [hw,tm,td,ixLK,hA,encB,cellB,hG,hI,hE,u0a,u0b,u0c,v0a,v0b,t0a,t0b,s0a,s0b,u1a,u1b,u1c,v1a,v1b,t1a,t1b,s1a,s1b,hlast,p0,n0,z0,b0,p1,n1,z1,b1,p2,n2,z2,b2,p3,n3,z3,b3,p4,n4,z4,b4]
  done
set_option maxHeartbeats 1000000 in
theorem digs_t6 (u:Nat) (h:u < 10 ^ 6):digs 6 u=[digB (((u / 10000) % 100) / 10),digB (((u / 10000) % 100) % 10),digB ((u % 10000 / 100) / 10),digB ((u % 10000 / 100) % 10),digB ((u % 100) / 10),digB ((u % 100) % 10)]:=by
  simp only [digs,List.nil_append,List.cons_append,List.cons.injEq,and_true,true_and,List.append_nil]
  refine ⟨dg ?_,dg ?_,dg ?_,dg ?_,dg ?_,dg ?_⟩ <;> omega
set_option maxHeartbeats 4000000 in
theorem T_formatBase10_6 (T:St) (bt:List (Option Nat)) (off cap m u:Nat) (A X Q:List AV) (y0 y1 y2 y3 y4 y5:AV) (hA:A.length=off) (hX:X.length=8 * m) (hn:8 * m + 6 < 4294967296) (hu:u < 18446744073709551616) (h10:u / 10 ^ (8 * m) < 10 ^ 6) :
    DF lib nk 75 [.aref T.length off (8 * m + 6) cap 1,.int .u64 u] (T ++ [.mem (A ++ ([y0,y1,y2,y3,y4,y5] ++ (X ++ Q))) bt false])=some (.tup [],T ++ [.mem (A ++ (encB (digs 6 (u / 10 ^ (8 * m)) ++ digs (8 * m) u) ++ Q)) bt false]):=by
  rw [run_internal_strconv_formatBase10,DC_of c_internal_strconv_formatBase10.eq_1]
  have hL:=L_formatBase10 T bt (T.length + 1) off (8 * m + 6) cap 6 hn (by decide) (A ++ [y0,y1,y2,y3,y4,y5]) (by simp [hA]) m u X Q hX (Nat.le_refl _) hu
  have e1:A ++ ([y0,y1,y2,y3,y4,y5] ++ (X ++ Q))=(A ++ [y0,y1,y2,y3,y4,y5]) ++ (X ++ Q):=by simp
  rw [e1,digs_t6 _ h10]
  generalize u / 10 ^ (8 * m)=v at *
  simp only [List.length_append,List.length_cons,List.length_nil] at hL ⊢
  simp [lenLK]
  rw [DC_keep_of l_internal_strconv_formatBase10_0.eq_1]
  simp at hL ⊢
  rw [hL]
  have hv:v < 10000000:=Nat.lt_of_lt_of_le h10 (by decide)
  have hw:IntKind.wrap .u32 (v:Int)=v:=wrap_u32 _ (Int.natCast_nonneg _) (by omega)
  have hG:((v:Int) % 10000).tmod 100=v % 100:=by rw [tmod_nn _ _ (Int.emod_nonneg _ (by decide))]; exact Int.emod_emod_of_dvd _ (by decide)
  have hI:((v:Int) % 10000).tdiv 100=v % 10000 / 100:=tdiv_nn _ _ (Int.emod_nonneg _ (by decide))
  have hE:=u32_4 v hv
  have hJ:((v:Int) / 10000).tmod 100=v / 10000 % 100:=tmod_nn _ _ (Int.ediv_nonneg (Int.natCast_nonneg _) (by decide))
  have hK:((v:Int) / 10000).tdiv 100=v / 10000 / 100:=tdiv_nn _ _ (Int.ediv_nonneg (Int.natCast_nonneg _) (by decide))
  have hM:=u32_42 v hv
  obtain ⟨u0a,u0b,u0c,v0a,v0b,t0a,t0b,s0a,s0b⟩:=sm_facts (z:=((v:Int) % 100)) (k:=(v % 100)) (by simp) (by omega)
  obtain ⟨u1a,u1b,u1c,v1a,v1b,t1a,t1b,s1a,s1b⟩:=sm_facts (z:=((v:Int) % 10000 / 100)) (k:=(v % 10000 / 100)) (by simp) (by omega)
  obtain ⟨u2a,u2b,u2c,v2a,v2b,t2a,t2b,s2a,s2b⟩:=sm_facts (z:=(((v:Int) / 10000) % 100)) (k:=((v / 10000) % 100)) (by simp) (by omega)
  have p0:∀ L v,splice (A ++ L) off [v]=A ++ splice L 0 [v]:=splice_mid 0 (by rw [hA]; rfl)
  have n0:0 < 8 * m + 6:=by omega
  have z0:(0:Int) < 8 * (m:Int) + 6:=by omega
  have b0:off + 1 ≤ off + (8 * m + Q.length + 1 + 1 + 1 + 1 + 1 + 1):=by omega
  have p1:∀ L v,splice (A ++ L) (off + 1) [v]=A ++ splice L 1 [v]:=splice_mid 1 (by rw [hA])
  have n1:1 < 8 * m + 6:=by omega
  have z1:(1:Int) < 8 * (m:Int) + 6:=by omega
  have b1:off + 1 + 1 ≤ off + (8 * m + Q.length + 1 + 1 + 1 + 1 + 1 + 1):=by omega
  have p2:∀ L v,splice (A ++ L) (off + 2) [v]=A ++ splice L 2 [v]:=splice_mid 2 (by rw [hA])
  have n2:2 < 8 * m + 6:=by omega
  have z2:(2:Int) < 8 * (m:Int) + 6:=by omega
  have b2:off + 2 + 1 ≤ off + (8 * m + Q.length + 1 + 1 + 1 + 1 + 1 + 1):=by omega
  have p3:∀ L v,splice (A ++ L) (off + 3) [v]=A ++ splice L 3 [v]:=splice_mid 3 (by rw [hA])
  have n3:3 < 8 * m + 6:=by omega
  have z3:(3:Int) < 8 * (m:Int) + 6:=by omega
  have b3:off + 3 + 1 ≤ off + (8 * m + Q.length + 1 + 1 + 1 + 1 + 1 + 1):=by omega
  have p4:∀ L v,splice (A ++ L) (off + 4) [v]=A ++ splice L 4 [v]:=splice_mid 4 (by rw [hA])
  have n4:4 < 8 * m + 6:=by omega
  have z4:(4:Int) < 8 * (m:Int) + 6:=by omega
  have b4:off + 4 + 1 ≤ off + (8 * m + Q.length + 1 + 1 + 1 + 1 + 1 + 1):=by omega
  have p5:∀ L v,splice (A ++ L) (off + 5) [v]=A ++ splice L 5 [v]:=splice_mid 5 (by rw [hA])
  have n5:5 < 8 * m + 6:=by omega
  have z5:(5:Int) < 8 * (m:Int) + 6:=by omega
  have b5:off + 5 + 1 ≤ off + (8 * m + Q.length + 1 + 1 + 1 + 1 + 1 + 1):=by omega
  simp [hw,tm,td,ixLK,hA,encB,cellB,hG,hI,hE,hJ,hK,hM,u0a,u0b,u0c,v0a,v0b,t0a,t0b,s0a,s0b,u1a,u1b,u1c,v1a,v1b,t1a,t1b,s1a,s1b,u2a,u2b,u2c,v2a,v2b,t2a,t2b,s2a,s2b,p0,n0,z0,b0,p1,n1,z1,b1,p2,n2,z2,b2,p3,n3,z3,b3,p4,n4,z4,b4,p5,n5,z5,b5]
  done
set_option maxHeartbeats 1000000 in
theorem digs_t7 (u:Nat) (h:u < 10 ^ 7):digs 7 u=[digB ((u / 10000) / 100),digB (((u / 10000) % 100) / 10),digB (((u / 10000) % 100) % 10),digB ((u % 10000 / 100) / 10),digB ((u % 10000 / 100) % 10),digB ((u % 100) / 10),digB ((u % 100) % 10)]:=by
  simp only [digs,List.nil_append,List.cons_append,List.cons.injEq,and_true,true_and,List.append_nil]
  refine ⟨dg ?_,dg ?_,dg ?_,dg ?_,dg ?_,dg ?_,dg ?_⟩ <;> omega
set_option maxHeartbeats 4000000 in
theorem T_formatBase10_7 (T:St) (bt:List (Option Nat)) (off cap m u:Nat) (A X Q:List AV) (y0 y1 y2 y3 y4 y5 y6:AV) (hA:A.length=off) (hX:X.length=8 * m) (hn:8 * m + 7 < 4294967296) (hu:u < 18446744073709551616) (h10:u / 10 ^ (8 * m) < 10 ^ 7) :
    DF lib nk 75 [.aref T.length off (8 * m + 7) cap 1,.int .u64 u] (T ++ [.mem (A ++ ([y0,y1,y2,y3,y4,y5,y6] ++ (X ++ Q))) bt false])=some (.tup [],T ++ [.mem (A ++ (encB (digs 7 (u / 10 ^ (8 * m)) ++ digs (8 * m) u) ++ Q)) bt false]):=by
  rw [run_internal_strconv_formatBase10,DC_of c_internal_strconv_formatBase10.eq_1]
  have hL:=L_formatBase10 T bt (T.length + 1) off (8 * m + 7) cap 7 hn (by decide) (A ++ [y0,y1,y2,y3,y4,y5,y6]) (by simp [hA]) m u X Q hX (Nat.le_refl _) hu
  have e1:A ++ ([y0,y1,y2,y3,y4,y5,y6] ++ (X ++ Q))=(A ++ [y0,y1,y2,y3,y4,y5,y6]) ++ (X ++ Q):=by simp
  rw [e1,digs_t7 _ h10]
  generalize u / 10 ^ (8 * m)=v at *
  simp only [List.length_append,List.length_cons,List.length_nil] at hL ⊢
  simp [lenLK]
  rw [DC_keep_of l_internal_strconv_formatBase10_0.eq_1]
  simp at hL ⊢
  rw [hL]
  have hv:v < 10000000:=Nat.lt_of_lt_of_le h10 (by decide)
  have hw:IntKind.wrap .u32 (v:Int)=v:=wrap_u32 _ (Int.natCast_nonneg _) (by omega)
  have hG:((v:Int) % 10000).tmod 100=v % 100:=by rw [tmod_nn _ _ (Int.emod_nonneg _ (by decide))]; exact Int.emod_emod_of_dvd _ (by decide)
  have hI:((v:Int) % 10000).tdiv 100=v % 10000 / 100:=tdiv_nn _ _ (Int.emod_nonneg _ (by decide))
  have hE:=u32_4 v hv
  have hJ:((v:Int) / 10000).tmod 100=v / 10000 % 100:=tmod_nn _ _ (Int.ediv_nonneg (Int.natCast_nonneg _) (by decide))
  have hK:((v:Int) / 10000).tdiv 100=v / 10000 / 100:=tdiv_nn _ _ (Int.ediv_nonneg (Int.natCast_nonneg _) (by decide))
  have hM:=u32_42 v hv
  obtain ⟨u0a,u0b,u0c,v0a,v0b,t0a,t0b,s0a,s0b⟩:=sm_facts (z:=((v:Int) % 100)) (k:=(v % 100)) (by simp) (by omega)
  obtain ⟨u1a,u1b,u1c,v1a,v1b,t1a,t1b,s1a,s1b⟩:=sm_facts (z:=((v:Int) % 10000 / 100)) (k:=(v % 10000 / 100)) (by simp) (by omega)
  obtain ⟨u2a,u2b,u2c,v2a,v2b,t2a,t2b,s2a,s2b⟩:=sm_facts (z:=(((v:Int) / 10000) % 100)) (k:=((v / 10000) % 100)) (by simp) (by omega)
  have hlast:=last_digit (z:=(((v:Int) / 10000) / 100)) (k:=((v / 10000) / 100)) (by simp) (by omega)
  have p0:∀ L v,splice (A ++ L) off [v]=A ++ splice L 0 [v]:=splice_mid 0 (by rw [hA]; rfl)
  have n0:0 < 8 * m + 7:=by omega
  have z0:(0:Int) < 8 * (m:Int) + 7:=by omega
  have b0:off + 1 ≤ off + (8 * m + Q.length + 1 + 1 + 1 + 1 + 1 + 1 + 1):=by omega
  have p1:∀ L v,splice (A ++ L) (off + 1) [v]=A ++ splice L 1 [v]:=splice_mid 1 (by rw [hA])
  have n1:1 < 8 * m + 7:=by omega
  have z1:(1:Int) < 8 * (m:Int) + 7:=by omega
  have b1:off + 1 + 1 ≤ off + (8 * m + Q.length + 1 + 1 + 1 + 1 + 1 + 1 + 1):=by omega
  have p2:∀ L v,splice (A ++ L) (off + 2) [v]=A ++ splice L 2 [v]:=splice_mid 2 (by rw [hA])
  have n2:2 < 8 * m + 7:=by omega
  have z2:(2:Int) < 8 * (m:Int) + 7:=by omega
  have b2:off + 2 + 1 ≤ off + (8 * m + Q.length + 1 + 1 + 1 + 1 + 1 + 1 + 1):=by omega
  have p3:∀ L v,splice (A ++ L) (off + 3) [v]=A ++ splice L 3 [v]:=splice_mid 3 (by rw [hA])
  have n3:3 < 8 * m + 7:=by omega
  have z3:(3:Int) < 8 * (m:Int) + 7:=by omega
  have b3:off + 3 + 1 ≤ off + (8 * m + Q.length + 1 + 1 + 1 + 1 + 1 + 1 + 1):=by omega
  have p4:∀ L v,splice (A ++ L) (off + 4) [v]=A ++ splice L 4 [v]:=splice_mid 4 (by rw [hA])
  have n4:4 < 8 * m + 7:=by omega
  have z4:(4:Int) < 8 * (m:Int) + 7:=by omega
  have b4:off + 4 + 1 ≤ off + (8 * m + Q.length + 1 + 1 + 1 + 1 + 1 + 1 + 1):=by omega
  have p5:∀ L v,splice (A ++ L) (off + 5) [v]=A ++ splice L 5 [v]:=splice_mid 5 (by rw [hA])
  have n5:5 < 8 * m + 7:=by omega
  have z5:(5:Int) < 8 * (m:Int) + 7:=by omega
  have b5:off + 5 + 1 ≤ off + (8 * m + Q.length + 1 + 1 + 1 + 1 + 1 + 1 + 1):=by omega
  have p6:∀ L v,splice (A ++ L) (off + 6) [v]=A ++ splice L 6 [v]:=splice_mid 6 (by rw [hA])
  have n6:6 < 8 * m + 7:=by omega
  have z6:(6:Int) < 8 * (m:Int) + 7:=by omega
  have b6:off + 6 + 1 ≤ off + (8 * m + Q.length + 1 + 1 + 1 + 1 + 1 + 1 + 1):=by omega
  simp [hw,tm,td,ixLK,hA,encB,cellB,hG,hI,hE,hJ,hK,hM,u0a,u0b,u0c,v0a,v0b,t0a,t0b,s0a,s0b,u1a,u1b,u1c,v1a,v1b,t1a,t1b,s1a,s1b,u2a,u2b,u2c,v2a,v2b,t2a,t2b,s2a,s2b,hlast,p0,n0,z0,b0,p1,n1,z1,b1,p2,n2,z2,b2,p3,n3,z3,b3,p4,n4,z4,b4,p5,n5,z5,b5,p6,n6,z6,b6]
  done
end Go.Proofs.YtekgdmhdkhgpjaaGreatDoor.am

set_option linter.unusedSimpArgs false
namespace Go.Proofs.YtekgdmhdkhgpjaaGreatDoor.am
open Go
theorem F_internal_strconv_formatBase10 (T:St) (bt:List (Option Nat)) (off cap u nd:Nat) (A Z Q:List AV) (hA:A.length=off) (hZ:Z.length=nd) (hn:nd < 4294967296) (hu:u < 18446744073709551616) (h10:u < 10 ^ nd) :
    DF lib nk 75 [.aref T.length off nd cap 1,.int .u64 u] (T ++ [.mem (A ++ (Z ++ Q)) bt false])=some (.tup [],T ++ [.mem (A ++ (encB (digs nd u) ++ Q)) bt false]):=by
  have e:nd=8 * (nd / 8) + nd % 8:=by omega
  have hr:nd % 8 < 8:=Nat.mod_lt _ (by decide)
  have hd:digs nd u=digs (nd % 8) (u / 10 ^ (8 * (nd / 8))) ++ digs (8 * (nd / 8)) u:=by
    rw [← digs_add]; congr 1; omega
  have hz:Z=Z.take (nd % 8) ++ Z.drop (nd % 8):=(List.take_append_drop _ _).symm
  have hl1:(Z.take (nd % 8)).length=nd % 8:=by rw [List.length_take]; omega
  have hl2:(Z.drop (nd % 8)).length=8 * (nd / 8):=by rw [List.length_drop]; omega
  have hp:u / 10 ^ (8 * (nd / 8)) < 10 ^ (nd % 8):=by
    refine Nat.div_lt_of_lt_mul ?_
    rw [← Nat.pow_add,← e]; exact h10
  rw [hd,hz]
  generalize Z.take (nd % 8)=Y at *
  generalize Z.drop (nd % 8)=X at *
  have e2:(AV.aref T.length off nd cap 1)=.aref T.length off (8 * (nd / 8) + nd % 8) cap 1:=by rw [← e]
  rw [e2]
  generalize nd / 8=m at *
  generalize nd % 8=r at *
  have h8:r=0 ∨ r=1 ∨ r=2 ∨ r=3 ∨ r=4 ∨ r=5 ∨ r=6 ∨ r=7:=by omega
  rw [List.append_assoc]
  rcases h8 with rfl | rfl | rfl | rfl | rfl | rfl | rfl | rfl
  · match Y,hl1 with
    | [],_ => exact T_formatBase10_0 T bt off cap m u A X Q hA hl2 (by omega) hu hp
  · match Y,hl1 with
    | [a],_ => exact T_formatBase10_1 T bt off cap m u A X Q a hA hl2 (by omega) hu hp
  · match Y,hl1 with
    | [a,b],_ => exact T_formatBase10_2 T bt off cap m u A X Q a b hA hl2 (by omega) hu hp
  · match Y,hl1 with
    | [a,b,c],_ => exact T_formatBase10_3 T bt off cap m u A X Q a b c hA hl2 (by omega) hu hp
  · match Y,hl1 with
    | [a,b,c,d],_ => exact T_formatBase10_4 T bt off cap m u A X Q a b c d hA hl2 (by omega) hu hp
  · match Y,hl1 with
    | [a,b,c,d,e],_ => exact T_formatBase10_5 T bt off cap m u A X Q a b c d e hA hl2 (by omega) hu hp
  · match Y,hl1 with
    | [a,b,c,d,e,f],_ => exact T_formatBase10_6 T bt off cap m u A X Q a b c d e f hA hl2 (by omega) hu hp
  · match Y,hl1 with
    | [a,b,c,d,e,f,g],_ => exact T_formatBase10_7 T bt off cap m u A X Q a b c d e f g hA hl2 (by omega) hu hp
theorem dec_pos (n:Nat):1 ≤ (dec n).length:=by rw [dec]; split <;> simp
theorem dec_bound:∀ (k n:Nat),(dec n).length ≤ k + 1 → n < 10 ^ (k + 1):=by
  intro k
  induction k with
  | zero =>
    intro n h
    rw [dec] at h
    split at h
    · simpa
    · have:=dec_pos (n / 10)
      simp only [List.length_append,List.length_cons,List.length_nil] at h; omega
  | succ k ih =>
    intro n h
    rw [dec] at h
    split at h
    · exact Nat.lt_of_lt_of_le (by assumption) (by rw [Nat.pow_succ]; have:0 < 10 ^ (k + 1):=Nat.pow_pos (by decide); omega)
    · have:=ih (n / 10) (by simpa using h)
      rw [Nat.pow_succ]; omega
theorem dec_lt (n:Nat):n < 10 ^ (dec n).length:=by
  have h:=dec_bound ((dec n).length - 1) n (by omega)
  have:=dec_pos n
  rwa [Nat.sub_add_cancel this] at h
theorem bytesTo_enc (l:List UInt8):bytesTo ((encB l).map fun c => [c])=some l:=by
  have h:∀ l:List UInt8,numsOf ((encB l).map fun c => [c])=some (l.map fun b => (b.toNat:Int)):=by
    intro l
    induction l with
    | nil => rfl
    | cons b l ih =>
      simp only [encB,List.map_cons,cellB,numsOf] at ih ⊢
      simp only [List.map_map] at ih ⊢
      rw [show (fun c => [c]) ∘ cellB=fun b:UInt8 => [AV.int .u8 (b.toNat:Int)] from rfl] at ih ⊢
      rw [ih]; rfl
  rw [bytesTo,h]
  simp only [Option.map_some,List.map_map]
  congr 1
  conv => rhs; rw [← List.map_id l]
  refine List.map_congr_left fun b _ => ?_
  simp
@[simp] theorem strip_aref (i o l c z:Nat):strip (.aref i o l c z)=.aref i o l c z:=rfl
@[simp] theorem norm_aref (i o l c z:Nat):norm (.aref i o l c z)=.aref i o l c z:=rfl
def zeros24:List AV:=List.replicate 24 (.int .u8 0)
theorem F_internal_strconv_FormatUint (u:Nat) (hu:u < 18446744073709551616) (S:St):DF lib nk 48 [.int .u64 u,.int .i64 10] S=some (.str (dec u),S):=by
  rw [run_internal_strconv_FormatUint,DC_of c_internal_strconv_FormatUint.eq_1]
  by_cases h:u < 100
  · have h':(u:Int) < 100:=by omega
    have hw:IntKind.wrap .i64 (u:Int)=u:=wrap_i64 _ (by omega) (by omega)
    have hs:=F_internal_strconv_small u h S
    simp [h',hw,hs]
  · have h':¬ (u:Int) < 100:=by omega
    have hl:=dec_len20 hu
    have hlt:=dec_lt u
    have hN:=F_internal_strconv_numDigits u (by omega) hu (S ++ [.mem zeros24 [] false])
    have hB:=F_internal_strconv_formatBase10 S [] 0 24 u (dec u).length [] (zeros24.take (dec u).length) (zeros24.drop (dec u).length) rfl (by simp [zeros24]; omega) (by omega) hu hlt
    rw [← dec_digs (dec u).length u rfl,List.take_append_drop] at hB
    simp only [zeros24,List.replicate,List.nil_append] at hN hB
    have h24:(dec u).length ≤ 24:=by omega
    have h24':((dec u).length:Int) ≤ 24:=by omega
    have hb:=bytesTo_enc (dec u)
    simp [encB] at hB hb
    simp [h',hN,hB,slAK,rawArg,h24,h24',strM,spotOf,sub,hb]
    done
end Go.Proofs.YtekgdmhdkhgpjaaGreatDoor.am

set_option linter.unusedSimpArgs false
namespace Go.Proofs.YtekgdmhdkhgpjaaGreatDoor.am
open Go
theorem F_strconv_FormatUint (u:Nat) (hu:u < 18446744073709551616) (S:St):DF lib nk 29 [.int .u64 u,.int .i64 10] S=some (.str (dec u),S):=by
  rw [run_strconv_FormatUint,DC_of c_strconv_FormatUint.eq_1]
  simp [F_internal_strconv_FormatUint u hu S]
theorem wrap_u64' (n:Int):IntKind.wrap .u64 n=n % 18446744073709551616:=rfl
theorem F_internal_strconv_FormatInt (n:Int) (h0:-9223372036854775808 ≤ n) (h1:n < 9223372036854775808) (S:St):DF lib nk 92 [.int .i64 n,.int .i64 10] S=some (.str (decI n),S):=by
  rw [run_internal_strconv_FormatInt,DC_of c_internal_strconv_FormatInt.eq_1]
  by_cases h:0 ≤ n
  · have hd:decI n=dec n.toNat:=by unfold decI; rw [if_neg (by omega)]
    rw [hd]
    obtain ⟨u,rfl⟩:∃ u:Nat,n=u:=⟨n.toNat,by omega⟩
    rw [show (u:Int).toNat=u from rfl]
    by_cases h100:u < 100
    · have h':(u:Int) < 100:=by omega
      have hs:=F_internal_strconv_small u h100 S
      simp [h',hs]
    · have h':¬ (u:Int) < 100:=by omega
      have hu:u < 18446744073709551616:=by omega
      have hl:=dec_len20 hu
      have hlt:=dec_lt u
      have hw:IntKind.wrap .u64 (u:Int)=u:=wrap_u64 _ (by omega) (by omega)
      have hw2:IntKind.wrap .i64 (1 + ((dec u).length:Int))=(((dec u).length + 1:Nat):Int):=by rw [wrap_i64 _ (by omega) (by omega)]; omega
      have hN:=F_internal_strconv_numDigits u (by omega) hu (S ++ [.mem zeros24 [] false])
      have hz:zeros24=[.int .u8 0] ++ ((zeros24.drop 1).take (dec u).length ++ (zeros24.drop 1).drop (dec u).length):=by rw [List.take_append_drop]; rfl
      have hB:=F_internal_strconv_formatBase10 S [] 1 23 u (dec u).length [.int .u8 0] ((zeros24.drop 1).take (dec u).length) ((zeros24.drop 1).drop (dec u).length) rfl (by simp [zeros24]; omega) (by omega) hu hlt
      rw [← hz,← dec_digs (dec u).length u rfl] at hB
      have h24:(dec u).length + 1 ≤ 24:=by omega
      have h24':((dec u).length:Int) + 1 ≤ 24:=by omega
      have h25:(0:Int) ≤ (dec u).length + 1:=by omega
      have h26:(1:Int) ≤ (dec u).length + 1:=by omega
      have h27:1 + (dec u).length ≤ (dec u).length + (23 - (dec u).length) + 1:=by omega
      have hb:=bytesTo_enc (dec u)
      simp only [zeros24,List.replicate] at hN hB
      simp [encB] at hB hb
      simp [h',hw,hw2,hN,hB,slAK,rawArg,h24,h24',h25,h26,h27,strM,spotOf,sub,hb]
      done
  · have hn:n < 0:=by omega
    have hd:decI n=45 :: dec n.natAbs:=by unfold decI; rw [if_pos hn]
    rw [hd]
    obtain ⟨u,rfl,hu0⟩:∃ u:Nat,n=-(u:Int) ∧ 1 ≤ u:=⟨n.natAbs,by omega,by omega⟩
    have ha:(-(u:Int)).natAbs=u:=by omega
    rw [ha]
    have hu:u < 18446744073709551616:=by omega
    have hl:=dec_len20 hu
    have hlt:=dec_lt u
    have hw:IntKind.wrap .u64 (-(IntKind.wrap .u64 (-(u:Int))))=u:=by rw [wrap_u64',wrap_u64']; omega
    have hw2:IntKind.wrap .i64 (1 + ((dec u).length:Int))=(((dec u).length + 1:Nat):Int):=by rw [wrap_i64 _ (by omega) (by omega)]; omega
    have hN:=F_internal_strconv_numDigits u hu0 hu (S ++ [.mem zeros24 [] false])
    have hz:zeros24=[.int .u8 0] ++ ((zeros24.drop 1).take (dec u).length ++ (zeros24.drop 1).drop (dec u).length):=by rw [List.take_append_drop]; rfl
    have hB:=F_internal_strconv_formatBase10 S [] 1 23 u (dec u).length [.int .u8 0] ((zeros24.drop 1).take (dec u).length) ((zeros24.drop 1).drop (dec u).length) rfl (by simp [zeros24]; omega) (by omega) hu hlt
    rw [← hz,← dec_digs (dec u).length u rfl] at hB
    have h24:(dec u).length + 1 ≤ 24:=by omega
    have h24':((dec u).length:Int) + 1 ≤ 24:=by omega
    have h25:(0:Int) ≤ (dec u).length + 1:=by omega
    have h26:(1:Int) ≤ (dec u).length + 1:=by omega
    have h27:1 + (dec u).length ≤ (dec u).length + (23 - (dec u).length) + 1:=by omega
    have hb:=bytesTo_enc (45 :: dec u)
    have c1:¬ (u:Int) ≤ 0:=by omega
    have c2:0 < u:=hu0
    have c3:¬ u=0:=by omega
    simp only [zeros24,List.replicate] at hN hB
    simp [encB,cellB] at hB hb
    simp [h,hn,c1,c2,c3,hw,hw2,hN,hB,slAK,rawArg,h24,h24',h25,h26,h27,strM,spotOf,sub,hb,evUn]
    done
theorem F_internal_strconv_Itoa (n:Int) (h0:-9223372036854775808 ≤ n) (h1:n < 9223372036854775808) (S:St):DF lib nk 71 [.int .i64 n] S=some (.str (decI n),S):=by
  rw [run_internal_strconv_Itoa,DC_of c_internal_strconv_Itoa.eq_1]
  simp [F_internal_strconv_FormatInt n h0 h1 S]
theorem F_strconv_Itoa (n:Int) (h0:-9223372036854775808 ≤ n) (h1:n < 9223372036854775808) (S:St):DF lib nk 42 [.int .i64 n] S=some (.str (decI n),S):=by
  rw [run_strconv_Itoa,DC_of c_strconv_Itoa.eq_1]
  simp [F_internal_strconv_Itoa n h0 h1 S]
end Go.Proofs.YtekgdmhdkhgpjaaGreatDoor.am
