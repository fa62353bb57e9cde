import Derived.Test.YtogleebbifpijaaW80
set_option linter.unusedSimpArgs false
set_option linter.unusedVariables false
namespace Go.Proofs.Ytogleebbifpijaa
open Go.Vi
set_option linter.unusedSimpArgs false

def sq (t : RdS) : Nat → RdS
  | 0 => t
  | i + 1 => (num (sq t i)).2
def vq (t : RdS) (i : Nat) : Int := (num (sq t i)).1
def msg0 (t : RdS) : Msg := ⟨vq t 0, vq t 1, vq t 2, vq t 3, vq t 4, vq t 5, vq t 6, 0, 0, 0, 0, 0, 0, [], []⟩
def zmsg : Msg := ⟨0, 0, 0, 0, 0, 0, 0, 0, 0, 0, 0, 0, 0, [], []⟩
def fetchM (m : Msg) (t : RdS) : Msg × RdS := ({ m with win := (num t).1, want := (num (num t).2).1, idx := (num (num (num t).2).2).1 }, (num (num (num t).2).2).2)
def batchM (m : Msg) (t : RdS) : Msg × RdS := ({ m with high := (num t).1, recs := (recsR m.at_ (num t).2).1 }, (recsR m.at_ (num t).2).2)
def chunkM (m : Msg) (t : RdS) : Msg × RdS := ({ m with size := (num t).1, idx := (num (num t).2).1, sum := ((le4 (txt 4 (num (num t).2).2).1 : Nat) : Int), da := (txt 4 (num (num t).2).2).2.1 }, ([], (txt 4 (num (num t).2).2).2.2))
def parseW (t : RdS) : Msg × RdS := if vq t 0 = 1 then fetchM (msg0 t) (sq t 7) else if vq t 0 = 2 then batchM (msg0 t) (sq t 7) else if vq t 0 = 3 then chunkM (msg0 t) (sq t 7) else (msg0 t, sq t 7)
def finM (r : Msg × RdS) : Msg × Int := if r.2.2 = false ∧ r.2.1 = [] ∧ rightM r.1 = true then (r.1, 0) else (zmsg, 3)
def getW (s : List UInt8) : Msg × Int := match nextF s 0 with
  | (b, n, e) => if e = 0 then finM (parseW (b, decide (n ≠ s.length))) else (zmsg, e)
def getV (r : Msg × Int) : V := .tup [(true, msgL r.1), (false, [.d (.i .i64 r.2)])]
theorem sq_len (t : RdS) : ∀ i, (sq t i).1.length ≤ t.1.length
  | 0 => Nat.le_refl _
  | i + 1 => Nat.le_trans (num_len _) (sq_len t i)
theorem vq_nat (t : RdS) (i : Nat) : natI (vq t i) := num_nat _
theorem wrap_ok (n : Int) : i64ok (IntKind.i64.wrap n) := by
  unfold i64ok
  simp [IntKind.wrap, IntKind.bits, IntKind.signed]
  split <;> omega
theorem recsGo_all : ∀ (k : Nat) (a : Int) (t : RdS), t.1.length ≤ 1000000 → (recsGo k a t).1.length ≤ k ∧ ∀ r ∈ (recsGo k a t).1, r.ok
  | 0, _, _, _ => ⟨by simp [recsGo], fun r hr => by simp [recsGo] at hr⟩
  | k + 1, a, t, h => by
    obtain ⟨s, b⟩ := t
    cases b with
    | true => rw [recsGo_bad]; exact ⟨by simp, fun r hr => by simp at hr⟩
    | false =>
      have l1 := num_len (s, false)
      have l2 := num_len (num (s, false)).2
      have l3 := txt_len (num (num (s, false)).2).1 (num (num (s, false)).2).2
      have n1 := num_nat (s, false)
      have ih := recsGo_all k (a + 1) (txt (num (num (s, false)).2).1 (num (num (s, false)).2).2).2 (by omega)
      rw [recsGo_step]
      refine ⟨by simp only [List.length_cons]; omega, fun r hr => ?_⟩
      rcases List.mem_cons.1 hr with rfl | hr
      · have hw := wrap_ok a
        unfold natI at n1
        have hd : (txt (num (num (s, false)).2).1 (num (num (s, false)).2).2).1.length ≤ 1000000 := by
          unfold txt; split
          · simp only [List.length_take]; simp only at l1 l2 h; omega
          · simp
        exact ⟨hw, ⟨by simp only []; omega, by simp only []; omega⟩, by simp only []; omega⟩
      · exact ih.2 r hr
theorem cutB_len (n : Int) (t : RdS) : (cutB n t).1 = t.1 := by unfold cutB; split <;> rfl
theorem recsR_all (a : Int) (t : RdS) (h : t.1.length ≤ 1000000) : (recsR a t).1.length ≤ 64 ∧ ∀ r ∈ (recsR a t).1, r.ok := by
  have hl := num_len t
  have hn := num_nat t
  unfold recsR
  have := recsGo_all (num t).1.toNat a (cutB (num t).1 (num t).2) (by rw [cutB_len]; omega)
  refine ⟨?_, this.2⟩
  by_cases c : 64 < (num t).1
  · have e : cutB (num t).1 (num t).2 = ((num t).2.1, true) := by unfold cutB; rw [if_pos c]
    rw [e, recsGo_bad]; simp
  · unfold natI at hn; omega
theorem numI1 (t : RdS) (hl : t.1.length ≤ 1000000) (B : Box) (T : Hp) : callIso call 26 [.one (.p 1 0)] (B :: .cells [.d (.s t.1), .d (.b t.2)] :: T) = some (vi (num t).1, B :: .cells [.d (.s (num t).2.1), .d (.b (num t).2.2)] :: T) :=
  iso_at (ids := [1]) rfl rfl rfl (number_spec t hl) (by simp [setAll, rdrB, Box.ren, V.ren, L.ren])
theorem fourI1 (t : RdS) (hl : t.1.length ≤ 1000000) (B : Box) (T : Hp) : callIso call 28 [.one (.p 1 0)] (B :: .cells [.d (.s t.1), .d (.b t.2)] :: T) = some (vk .u32 ((le4 (txt 4 t).1 : Nat) : Int), B :: .cells [.d (.s (txt 4 t).2.1), .d (.b (txt 4 t).2.2)] :: T) :=
  iso_at (ids := [1]) rfl rfl rfl (rfour_spec t hl) (by simp [setAll, rdrB, Box.ren, V.ren, L.ren])
theorem recsI1 (t : RdS) (a : Int) (hl : t.1.length ≤ 1000000) (B : Box) (T : Hp) : callIso call 27 [.one (.p 1 0), vi a] (B :: .cells [.d (.s t.1), .d (.b t.2)] :: T) = some (vl ((recsR a t).1.map Rec.enc), B :: .cells [.d (.s (recsR a t).2.1), .d (.b (recsR a t).2.2)] :: T) :=
  iso_at (ids := [1]) rfl rfl rfl (records_spec t a hl) (by simp [setAll, rdrB, Box.ren, V.ren, L.ren])
end Go.Proofs.Ytogleebbifpijaa
