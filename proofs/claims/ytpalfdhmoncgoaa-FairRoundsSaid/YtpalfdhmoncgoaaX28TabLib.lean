import Derived.Test.YtpalfdhmoncgoaaX28Tab
set_option linter.unusedSimpArgs false
set_option linter.unusedVariables false
namespace Go.Proofs.Ytpalfdhmoncgoaa
open Go.Vi Go.Shelf
def ren9 : Ren := ⟨fun n => 9, fun n => if n = 3 then 3 else if n = 24 then 30 else if n = 9 then 3 else if n = 4 then 4 else 0, id⟩
set_option maxRecDepth 100000 in
theorem delL9 : DelLay Try.prog ren9 1 [.i .i64 0] where
  mixed := by kernel_rfl
  f24 := ⟨ "slices.Delete[[]int,int]", by kernel_rfl⟩
  t0 := by kernel_rfl
  a0 := fun w => by kernel_rfl
  z0 := fun w => by kernel_rfl
  v0 := fun w => by kernel_rfl
  t3 := by kernel_rfl
  a3 := fun w => by kernel_rfl
  z3 := fun w => by kernel_rfl
  v3 := fun w => by kernel_rfl
  t4 := by kernel_rfl
  a4 := fun w => by kernel_rfl
  z4 := fun w => by kernel_rfl
  v4 := fun w => by kernel_rfl
  t24 := by kernel_rfl
  a24 := fun w => by kernel_rfl
  z24 := fun w => by kernel_rfl
  v24 := fun w => by kernel_rfl
  j9 := by kernel_rfl
  kp := by decide
  z9 := fun w => by kernel_rfl
theorem lib_ok : lib.Ok Try.prog where
  clones := by
    intro f sz bytes h
    cases h
  inss := by
    intro f k bytes h
    cases h
  dels := by
    intro f k h
    rcases List.mem_cons.1 h with h | h
    · cases h; exact ⟨by kernel_rfl, _, _, rfl, delL9⟩
    cases h
end Go.Proofs.Ytpalfdhmoncgoaa
