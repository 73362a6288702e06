/- Short names for what the printed texts say often. -/
import Derived.Test.YtpikebpjlhccbaaGreatDoorWMore
namespace Go.Proofs.YtpikebpjlhccbaaGreatDoor.PAll
open Go.RowKit Go.Proofs.YtpikebpjlhccbaaGreatDoorW.PrintWords Go.Proofs.YtpikebpjlhccbaaGreatDoorW.PrintLast Go.Proofs.YtpikebpjlhccbaaGreatDoorW.PrintMore
abbrev zA := @below_alloc
abbrev zN := @pw_below_drewN
abbrev z1 := @below_drew1
theorem zM {p : Prop} (h : p) : Aside0 p := Aside0.mk h
theorem zS {α : Type} : (∀ (l : List α) (i : Nat) (a : α), l.toArray.setIfInBounds i a = (l.set i a).toArray) ∧ (∀ (x : α) (xs : List α) (a : α), (x :: xs).set 0 a = a :: xs) ∧ (∀ (x : α) (xs : List α) (i : Nat) (a : α), (x :: xs).set (i + 1) a = x :: xs.set i a) :=
  ⟨List.setIfInBounds_toArray, fun _ _ _ => List.set_cons_zero, fun _ _ _ _ => List.set_cons_succ⟩
theorem zI : (∀ n, IntKind.i64.wrap n = wrap64 n) ∧ (∀ n, IntKind.i32.wrap n = wrap32 n) := ⟨i64_w, i32_w⟩
theorem zL {α β : Type} (f : α → β) : (∀ l : List α, l.toArray.map f = (l.map f).toArray) ∧ (∀ (a : α) (l : List α), (a :: l).map f = f a :: l.map f) ∧ (([] : List α).map f = []) :=
  ⟨fun _ => List.map_toArray .., fun _ _ => rfl, rfl⟩
end Go.Proofs.YtpikebpjlhccbaaGreatDoor.PAll
