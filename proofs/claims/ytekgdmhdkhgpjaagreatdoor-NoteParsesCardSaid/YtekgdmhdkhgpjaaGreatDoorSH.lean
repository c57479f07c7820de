/- Several texts, one behind the other: Nt1 Nt2 Nt3 Nt4 -/
import Derived.Test.YtekgdmhdkhgpjaaGreatDoorSG
import Derived.Test.YtekgdmhdkhgpjaaGreatDoorSD
set_option linter.unusedSimpArgs false
set_option linter.unusedVariables false
set_option linter.unusedSimpArgs false
namespace Go.Proofs.YtekgdmhdkhgpjaaGreatDoor.am
open Go
def digB (n:Nat):UInt8:=UInt8.ofNat (48 + n)
theorem wrap_u64 (n:Int) (h0:0 ≤ n) (h1:n < 18446744073709551616):IntKind.wrap .u64 n=n:=by
  have:IntKind.wrap .u64 n=n % 18446744073709551616:=by rfl
  rw [this]; omega
def dec (n:Nat):List UInt8:=if h:n < 10 then [digB n] else dec (n / 10) ++ [digB (n % 10)]
termination_by n
decreasing_by omega
theorem dec_len:∀ (k n:Nat),n < 10 ^ (k + 1) → (dec n).length ≤ k + 1:=by
  intro k
  induction k with
  | zero => intro n h; rw [dec,dif_pos (by omega)]; simp
  | succ k ih =>
    intro n h
    rw [dec]
    split
    · simp
    · have:=ih (n / 10) (by rw [Nat.pow_succ] at h; omega)
      simp; omega
theorem dec_len20 {n:Nat} (h:n < 18446744073709551616):(dec n).length ≤ 20:=dec_len 19 n (by omega)
theorem slS_dig (n:Nat) (h:n < 10):slSK (.str [48,49,50,51,52,53,54,55,56,57]) (some (.int .u64 n)) (some (.int .u64 ((n:Int) + 1)))=some (.str [digB n]):=by
  have h2:n=0 ∨ n=1 ∨ n=2 ∨ n=3 ∨ n=4 ∨ n=5 ∨ n=6 ∨ n=7 ∨ n=8 ∨ n=9:=by omega
  rcases h2 with rfl | rfl | rfl | rfl | rfl | rfl | rfl | rfl | rfl | rfl <;> rfl
theorem F_dioptreref11_Number:∀ (n:Nat),n < 18446744073709551616 → ∀ S:St,DF lib nk 30 [.int .u64 n] S=some (.str (dec n),S):=by
  intro n
  induction n using Nat.strongRecOn with
  | ind n ih =>
    intro hn S
    rw [run_dioptreref11_Number,DC_of c_dioptreref11_Number.eq_1,dec]
    by_cases h:n < 10
    · have h1:((n:Int) < 10):=by omega
      have h2:IntKind.wrap .u64 ((n:Int) + 1)=(n:Int) + 1:=by rw [wrap_u64 _ (by omega) (by omega)]
      have:=slS_dig n h
      simp [h,h1,h2,this]
    · have h1:¬ ((n:Int) < 10):=by omega
      have hi:=ih (n / 10) (by omega) (by omega)
      have h2:IntKind.wrap .u64 ((n:Int) % 10 + 1)=(n:Int) % 10 + 1:=wrap_u64 _ (by omega) (by omega)
      have h3:IntKind.wrap .u64 ((n:Int) / 10)=(n:Int) / 10:=wrap_u64 _ (by omega) (by omega)
      have h4:IntKind.wrap .u64 ((n:Int) % 10)=(n:Int) % 10:=wrap_u64 _ (by omega) (by omega)
      have h5:Int.tdiv (n:Int) 10=(n:Int) / 10:=Int.tdiv_eq_ediv_of_nonneg (by omega)
      have h6:Int.tmod (n:Int) 10=(n:Int) % 10:=Int.tmod_eq_emod_of_nonneg (by omega)
      have:=slS_dig (n % 10) (by omega)
      simp at hi this
      have hlen:=dec_len20 (n:=n / 10) (by omega)
      have hl2:(dec (n / 10)).length + 1 ≤ 1073741824:=by omega
      simp [h,h1,h2,h3,h4,h5,h6,hi,this,hl2]
end Go.Proofs.YtekgdmhdkhgpjaaGreatDoor.am

set_option linter.unusedSimpArgs false
namespace Go.Proofs.YtekgdmhdkhgpjaaGreatDoor.am
open Go
def decI (n:Int):List UInt8:=if n < 0 then 45 :: dec n.natAbs else dec n.toNat
theorem wrap_i64 (n:Int) (h0:-9223372036854775808 ≤ n) (h1:n < 9223372036854775808):IntKind.wrap .i64 n=n:=by
  have:IntKind.wrap .i64 n=if n % 18446744073709551616 ≥ 9223372036854775808 then n % 18446744073709551616 - 18446744073709551616 else n % 18446744073709551616:=by
    simp [IntKind.wrap,IntKind.bits,IntKind.signed]
  rw [this]
  split <;> omega
theorem F_dioptreref11_Int (n:Int) (h0:-9223372036854775808 ≤ n) (h1:n < 9223372036854775808) (S:St):DF lib nk 34 [.int .i64 n] S=some (.str (decI n),S):=by
  rw [run_dioptreref11_Int,DC_of c_dioptreref11_Int.eq_1]
  by_cases h:n < 0
  · have e:((n.natAbs:Nat):Int)=-n:=by omega
    have hi:=F_dioptreref11_Number n.natAbs (by omega) S
    rw [e] at hi
    have w1:IntKind.wrap .i64 (n + 1)=n + 1:=wrap_i64 _ (by omega) (by omega)
    have w2:IntKind.wrap .i64 (-(n + 1))=-(n + 1):=wrap_i64 _ (by omega) (by omega)
    have w3:IntKind.wrap .u64 (-(n + 1))=-(n + 1):=wrap_u64 _ (by omega) (by omega)
    have w4:IntKind.wrap .u64 (-(n + 1) + 1)=-n:=by rw [wrap_u64 _ (by omega) (by omega)]; omega
    have hlen:=dec_len20 (n:=n.natAbs) (by omega)
    have hl2:1 + (dec n.natAbs).length ≤ 1073741824:=by omega
    have hl3:(dec n.natAbs).length + 1 ≤ 1073741824:=by omega
    simp [h,w1,w2,w3,w4,hi,decI,hl2,hl3,evUn]
  · have e:((n.toNat:Nat):Int)=n:=by omega
    have hi:=F_dioptreref11_Number n.toNat (by omega) S
    rw [e] at hi
    have h2:IntKind.wrap .u64 n=n:=wrap_u64 _ (by omega) (by omega)
    simp [h,h2,hi,decI]
end Go.Proofs.YtekgdmhdkhgpjaaGreatDoor.am

set_option linter.unusedSimpArgs false
namespace Go.Proofs.YtekgdmhdkhgpjaaGreatDoor.am
open Go
end Go.Proofs.YtekgdmhdkhgpjaaGreatDoor.am

set_option linter.unusedSimpArgs false
namespace Go.Proofs.YtekgdmhdkhgpjaaGreatDoor.am
open Go
end Go.Proofs.YtekgdmhdkhgpjaaGreatDoor.am
