import Derived.Test.YtogleebbifpijaaE42
set_option linter.unusedSimpArgs false
set_option linter.unusedVariables false
namespace Go.Proofs.Ytogleebbifpijaa
open Go.Vi
set_option linter.unusedSimpArgs false
def getR (s : List UInt8) : Rec × Int := match rdF s 0 0 with
  | none => (⟨0, 0, []⟩, 3)
  | some (n, k) => match rdF (s.drop k) 0 0 with
    | none => (⟨0, 0, []⟩, 3)
    | some (m, j) => if whyF ⟨n, m, s.drop (k + j)⟩ = 0 then (⟨n, m, s.drop (k + j)⟩, 0) else (⟨0, 0, []⟩, whyF ⟨n, m, s.drop (k + j)⟩)
def recV (r : Rec × Int) : V := .tup [(true, r.1.enc.map .d), (false, [.d (.i .i64 r.2)])]
theorem callIso_at {φ : Phi} {f : FuncId} {args args' : List V} {H H' H1 H2 : Hp} {ids : List Nat} {r r' : V} (hi : idsOf H (args.flatMap V.refs) = ids) (ha : args.map (V.ren (place ids)) = args') (hH : canonH H ids = H')
    (hr : φ f args' H' = some (r, H1)) (he : (r.ren (fun j => if j < ids.length then ids[j]? else some (H.length + (j - ids.length))), setAll H ids ((H1.take ids.length).map (Box.ren (fun j => if j < ids.length then ids[j]? else some (H.length + (j - ids.length))))) ++ (H1.drop ids.length).map (Box.ren (fun j => if j < ids.length then ids[j]? else some (H.length + (j - ids.length))))) = (r', H2)) :
    callIso φ f args H = some (r', H2) := by
  subst hi; subst ha; subst hH
  simp only [callIso, hr]
  rw [he]
theorem rd_lt {l : List UInt8} {n k : Nat} (h : rdF l 0 0 = some (n, k)) : n < 9223372036854775808 := by
  obtain ⟨h1, h2, h3, h4⟩ := rdF_enc0 h
  have e : nd n = k := by unfold nd; rw [← h4, List.length_take]; omega
  obtain ⟨m, hm⟩ : ∃ m, nd n = m + 1 := ⟨nd n - 1, by have := nd_pos n; omega⟩
  have := ((nd_range m n).1 hm).1
  have h9 : (128 : Nat) ^ (m + 1) ≤ 128 ^ 9 := Nat.pow_le_pow_right (by decide) (by omega)
  have e9 : (128 : Nat) ^ 9 = 9223372036854775808 := by decide
  omega
end Go.Proofs.Ytogleebbifpijaa
