/- Several texts, one behind the other: NAw Aw2 Ap1 Ap2 Ap3 -/
import Derived.Test.YtekgdmhdkhgpjaaGreatDoorLG
import Derived.KernelRfl
import Derived.Test.YtekgdmhdkhgpjaaGreatDoorLM
import Derived.Test.YtekgdmhdkhgpjaaGreatDoorLN
set_option linter.unusedSimpArgs false
set_option linter.unusedVariables false
namespace Go.Proofs.YtekgdmhdkhgpjaaGreatDoor.am
open Go
end Go.Proofs.YtekgdmhdkhgpjaaGreatDoor.am

namespace Go.Proofs.YtekgdmhdkhgpjaaGreatDoor.am
open Go
theorem awake_run1 : (fun a => evKF lib nk 1000 9 [] [a]) = fun a => some (.bool true, [a]) := by kernel_rfl
end Go.Proofs.YtekgdmhdkhgpjaaGreatDoor.am

set_option linter.unusedSimpArgs false
set_option linter.unusedVariables false
namespace Go.Proofs.YtekgdmhdkhgpjaaGreatDoor.am
open Go
@[simp] theorem same_str (a b : Str) : same a b = decide (a = b) := same_eq a b
@[simp] theorem same_int (a b : Int) : same a b = decide (a = b) := same_eq a b
theorem bool_ext {a b : Bool} (h : a = true ↔ b = true) : a = b := by cases a <;> cases b <;> simp_all
theorem Val.same_eq (a b : Val) : same a b = (decide (a.kind = b.kind) && (decide (a.n = b.n) && (decide (a.s = b.s) && (same a.names b.names && (same a.ids b.ids && same a.parts b.parts))))) := by
  apply bool_ext
  simp only [Bool.and_eq_true, decide_eq_true_eq, same_iff]
  cases a; cases b
  simp only [Val.mk.injEq]
  exact Iff.rfl
theorem L_dioptrelaw08_room (v : Val) (D : Nat) (deep : Int) (hd : IntKind.i64.wrap (deep - 1) = D) (hF : ∀ x ∈ v.parts, ∀ n S, ∃ r : Int, DF lib nk 23 [.agg x.enc, .int .i64 n, .int .i64 D] S = some (.int .i64 r, S) ∧ (0 ≤ r → x.depth ≤ D)) (S : St) (m : Nat) (hl : v.parts.length = m) (hb : m < 9223372036854775808) : ∀ d i, i + d = m → ∀ n : Int, ∃ r : Int,
    DC lib nk (.loop l_dioptrelaw08_room_0) ⟨[(1, .int .i64 n), (2, .int .i64 deep), (3, .ptr S.length 0), (7, .int .i64 (i : Nat))], [], S.length⟩ (S ++ [.mem v.enc [] false]) = some (.exit 0, ⟨[(1, .int .i64 r)], [], S.length⟩, S ++ [.mem v.enc [] false]) ∧ (0 ≤ r → 0 ≤ n ∧ ∀ x ∈ v.parts.drop i, x.depth ≤ D) := by
  intro d
  induction d with
  | zero =>
    intro i hi n
    rw [DC_loop', DC_of l_dioptrelaw08_room_0.eq_1]
    have h5 : ¬ i < m := by omega
    have h6 : v.parts.drop i = [] := List.drop_eq_nil_of_le (by omega)
    exact ⟨n, by simp [h5, hl], fun h => ⟨h, by rw [h6]; intro x hx; cases hx⟩⟩
  | succ d ih =>
    intro i hi n
    have h3 : i < m := by omega
    rw [DC_loop', DC_of l_dioptrelaw08_room_0.eq_1]
    by_cases hc : 0 ≤ n
    rotate_left
    · exact ⟨n, by simp [h3, hl, hc], fun h => absurd h hc⟩
    obtain ⟨x, hx, hx'⟩ := get_of_lt' (l := v.parts) (i := i) (by omega)
    obtain ⟨r, hr, hrd⟩ := hF x (List.mem_of_getElem? hx) n (S ++ [.mem v.enc [] false])
    obtain ⟨r', hn, hnd⟩ := ih (i + 1) (by omega) r
    have hw := wrap_succ (i := i) (by omega)
    simp at hn hw
    rw [← hd] at hr
    refine ⟨r', ?_, fun h => ⟨hc, ?_⟩⟩
    · simp [h3, hl, hc, hx, hx', hr]
      rw [DC_keep_of l_dioptrelaw08_room_0.eq_1]
      simp [hw, hn]
    · obtain ⟨h1, h2⟩ := hnd h
      rw [drop_get hx]
      intro y hy
      rcases List.mem_cons.1 hy with e | e
      · rw [e]; exact hrd h1
      · exact h2 y e
theorem F_dioptrelaw08_room (v : Val) : v.Wf → ∀ (D : Nat), D < 1000000 → ∀ (n : Int) (S : St), ∃ r : Int, DF lib nk 23 [.agg v.enc, .int .i64 n, .int .i64 (D : Nat)] S = some (.int .i64 r, S) ∧ (0 ≤ r → v.depth ≤ D) := by
  induction v using Val.ind with
  | h v ih =>
    intro hv D hD n S
    rw [run_dioptrelaw08_room, DC_of c_dioptrelaw08_room.eq_1]
    cases D with
    | zero => exact ⟨-1, by simp, fun h => absurd h (by decide)⟩
    | succ D =>
    have c0 : ¬ ((D : Int) + 1 = 0) := by omega
    by_cases c1 : v.s.length > 400
    · have h' : (400 : Int) < v.s.length := by omega
      exact ⟨-1, by simp [c0, h'], fun h => absurd h (by decide)⟩
    have hd : IntKind.i64.wrap (((D + 1 : Nat) : Int) - 1) = (D : Nat) := by rw [wrap_i64 _ (by omega) (by omega)]; omega
    obtain ⟨r, hr, hrd⟩ := L_dioptrelaw08_room v D ((D + 1 : Nat) : Int) hd (fun x hx n S => ih x hx (hv.all x hx) D (by omega) n S) S v.parts.length rfl hv.one.parts v.parts.length 0 (by omega) (IntKind.i64.wrap (IntKind.i64.wrap (IntKind.i64.wrap (n - 1) - v.names.length) - v.ids.length))
    simp at hr
    have h' : ¬ (400 : Int) < v.s.length := by omega
    refine ⟨r, ?_, fun h => ?_⟩
    · simp [c0, h']
      rw [DC_keep_of l_dioptrelaw08_room_0.eq_1]
      simp [hr]
    · rw [Val.depth_eq]
      exact (Val.depths_le v.parts 1 (D + 1)).2 ⟨by omega, fun x hx => by have := (hrd h).2 x (by simpa using hx); omega⟩
theorem F_dioptrelaw08_Great (v : Val) (hv : v.Wf) (S : St) : ∃ r, DF lib nk 8 [.agg v.enc] S = some (.bool r, S) ∧ (r = false → v.depth ≤ 12) := by
  rw [run_dioptrelaw08_Great, DC_of c_dioptrelaw08_Great.eq_1]
  obtain ⟨r, hr, hd⟩ := F_dioptrelaw08_room v hv 12 (by omega) 300 (S ++ [.mem v.enc [] false])
  simp at hr
  exact ⟨decide (r < 0), by simp [hr], fun h => hd (by have := of_decide_eq_false h; omega)⟩
end Go.Proofs.YtekgdmhdkhgpjaaGreatDoor.am

set_option linter.unusedSimpArgs false
set_option linter.unusedVariables false
namespace Go.Proofs.YtekgdmhdkhgpjaaGreatDoor.am
open Go
def isStop (b : UInt8) : Bool := decide (b = 44) || (decide (b = 125) || decide (b = 93))
def Term (r : Str) : Prop := ∀ b, r.head? = some b → isStop b = true
def tl {α : Type} (k : α → Str) (mark : UInt8) : List α → List Val → Str
  | x :: xs, p :: ps => 44 :: (k x ++ mark :: (p.text ++ tl k mark xs ps))
  | _, _ => []
def bodyT {α : Type} (k : α → Str) (mark : UInt8) : List α → List Val → Str
  | x :: xs, p :: ps => k x ++ mark :: (p.text ++ tl k mark xs ps)
  | _, _ => []
end Go.Proofs.YtekgdmhdkhgpjaaGreatDoor.am

set_option linter.unusedSimpArgs false
set_option linter.unusedVariables false
namespace Go.Proofs.YtekgdmhdkhgpjaaGreatDoor.am
open Go
@[simp] theorem takeRet_se (s : Str) : takeRet [] (.tup [.str s, .nili]) = (.tup [.str s, .nili], []) := rfl
theorem F_awake1 (a : Box) : DF lib nk 9 [] [a] = some (.bool true, [a]) := (DF_some _).2 ⟨1000, congrFun awake_run1 a⟩
end Go.Proofs.YtekgdmhdkhgpjaaGreatDoor.am
