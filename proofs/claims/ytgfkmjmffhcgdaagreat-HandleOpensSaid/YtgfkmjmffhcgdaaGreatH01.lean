import Derived.Test.YtgfkmjmffhcgdaaGreatVid
import Derived.Test.YtgfkmjmffhcgdaaGreatChecked
import Derived.WalkKit
set_option linter.unusedSimpArgs false
set_option linter.unusedVariables false
namespace Go.Proofs.YtgfkmjmffhcgdaaGreat
set_option maxRecDepth 100000 in
theorem load_any (a : Addr) (v : Int) (w : World) (h0 : w.cell? a = some (.int .u32 v)) :
 Calls Tryz.prog 13 #[.pointer (some a)] w fun e w' => e = .returned (.bool (v != 0)) ∧ w' = w := by
 have hl := run_call_load (P := Tryz.prog) Tryz.func21 (by kernel_rfl) (by kernel_rfl) (by kernel_rfl) .u32 (by kernel_rfl) h0
 go_enter Tryz.func13, Tryz.ntmps13
 go_wp2
 go_ret
 exact ⟨rfl, rfl⟩
set_option maxRecDepth 100000 in
set_option maxHeartbeats 1600000 in
theorem cas_hit (a : Addr) (w : World) (h0 : w.cell? a = some (.int .u32 0)) (f0 : w.frozen? a = false) :
 Calls Tryz.prog 12 #[.pointer (some a), .bool false, .bool true] w fun e w' => e = .returned (.bool true) ∧ w' = w.drew.setCell a (.int .u32 1) := by
 have h0' : w.drew.cell? a = some (.int .u32 0) := by go_simp
 have f0' : w.drew.frozen? a = false := by go_simp
 have hcas := run_call_cas_hit (P := Tryz.prog) Tryz.func19 (by kernel_rfl) (by kernel_rfl) (by kernel_rfl) .u32 (by kernel_rfl) (y := 1) h0' f0'
 go_enter Tryz.func12, Tryz.ntmps12
 go_wp2
 go_region_calls
 all_goals (try go_wp2)
 all_goals go_ret
 all_goals (exact ⟨rfl, rfl⟩)
set_option maxRecDepth 100000 in
set_option maxHeartbeats 1600000 in
theorem cas_miss (a : Addr) (v : Int) (hv : ¬ v = 0) (w : World) (h0 : w.cell? a = some (.int .u32 v)) (f0 : w.frozen? a = false) :
 Calls Tryz.prog 12 #[.pointer (some a), .bool false, .bool true] w fun e w' => e = .returned (.bool false) ∧ w' = w.drew := by
 have h0' : w.drew.cell? a = some (.int .u32 v) := by go_simp
 have f0' : w.drew.frozen? a = false := by go_simp
 have hcas := run_call_cas_miss (P := Tryz.prog) Tryz.func19 (by kernel_rfl) (by kernel_rfl) (by kernel_rfl) .u32 (by kernel_rfl) (o := 0) (y := 1) h0' f0' hv
 go_enter Tryz.func12, Tryz.ntmps12
 go_wp2
 go_region_calls
 all_goals (try go_wp2)
 all_goals go_ret
 all_goals (exact ⟨rfl, rfl⟩)
set_option maxRecDepth 100000 in
set_option maxHeartbeats 1600000 in
theorem do_shut (b off : Nat) (v : Int) (hv : ¬ v = 0) (c0 c1 c2 c3 c4 c5 : Value) (w : World) (h0 : w.cell? ⟨b, off + 42, none⟩ = some (.int .u32 v)) (hb : b < w.heap.size) :
 Calls Tryz.prog 11 #[.pointer (some ⟨b, off, none⟩), .agg #[c0, c1, c2, c3, c4, c5]] w fun e w' => e = .returned (.agg #[.int .i64 10, .int .i64 0, .int .i64 0, .int .i64 0, .string ⟨#[]⟩, .slice none 0 0]) ∧ w' = (w.alloc (.cells #[c0, c1, c2, c3, c4, c5] 65)).alloc (.cells #[.int .i64 10, .int .i64 0, .int .i64 0, .int .i64 0, .string ⟨#[]⟩, .slice none 0 0] 62) := by
 have hv' : (v != 0) = true := by simp [hv]
 go_enter_defers Tryz.func11, Tryz.ntmps11
 go_wp2_with (go_at_call 13; refine (load_any ⟨b, off + 42, none⟩ v _ ?_).mono ?_)
 · rw [World.cell?_alloc_past _ _ _ (by simp; omega), World.cell?_alloc_past _ _ _ hb]; exact h0
 rintro e w' ⟨rfl, rfl⟩
 simp only [hv']
 go_wp2
 simp [bodyPostD, Leaves, settle, results, Tryz.results11, go_sem]
end Go.Proofs.YtgfkmjmffhcgdaaGreat

