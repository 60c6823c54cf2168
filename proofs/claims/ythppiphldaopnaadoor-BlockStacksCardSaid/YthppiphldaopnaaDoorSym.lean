import Derived.Test.YthppiphldaopnaaDoorObj
/-! A region whose guards are letters: each guarded operation yields 'sym g v'. -/
namespace Go.Proofs.YthppiphldaopnaaDoor.Obj
open Go.RowKit Go.Proofs.YthppiphldaopnaaDoorW.PrintWords Go.Proofs.YthppiphldaopnaaDoorW.PrintLast

def sym (b : Bool) (v : Value) : Value := if b = true then v else undef
theorem sym_true (v : Value) : sym true v = v := rfl
theorem sym_false (v : Value) : sym false v = undef := rfl
theorem ysym {P : Program} {ops : Array Oper} {o : Oper} {a : Act} {b : Bool} {v : Value} (h1 : b = true → Region.wanted o (yielded ops a.tmps) = true ∧ ∀ w, (execOp a.eval o).run P w = .ok (.value v) w)
    (h2 : b = false → Region.wanted o (yielded ops a.tmps) = false) : Yields P ops o (sym b v) a := by
  cases b with
  | true => exact .inl (h1 rfl)
  | false => exact .inr ⟨h2 rfl, rfl⟩
theorem ysymIf {P : Program} {ops : Array Oper} {S : World → Prop} {o : Oper} {a : Act} {b : Bool} {v : Value} (h1 : b = true → Region.wanted o (yielded ops a.tmps) = true ∧ ∀ w, S w → (execOp a.eval o).run P w = .ok (.value v) w)
    (h2 : b = false → Region.wanted o (yielded ops a.tmps) = false) : YieldsIf P ops S o (sym b v) a := by
  cases b with
  | true => exact .inl (h1 rfl)
  | false => exact .inr ⟨h2 rfl, rfl⟩
end Go.Proofs.YthppiphldaopnaaDoor.Obj
