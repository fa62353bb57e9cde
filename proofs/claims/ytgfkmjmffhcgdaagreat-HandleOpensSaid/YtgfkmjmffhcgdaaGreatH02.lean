import Derived.Test.YtgfkmjmffhcgdaaGreatH01
set_option linter.unusedSimpArgs false
set_option linter.unusedVariables false
namespace Go.Proofs.YtgfkmjmffhcgdaaGreat
open Go.Vi
abbrev ansD : List L := [.d (.i .i64 10), .d (.i .i64 0), .d (.i .i64 0), .d (.i .i64 0), .d (.s []), .ns]
def extF : Phi := fun f args H =>
  if f = 12 then (match args with
    | [.one (.p i o), .one (.d (.b false)), .one (.d (.b true))] => match H[i]? with
      | some (.cells xs) => match xs[o]? with
        | some (.d (.i .u32 v)) => if v = 0 then some (.one (.d (.b true)), H.set i (.cells (xs.set o (.d (.i .u32 1))))) else some (.one (.d (.b false)), H)
        | _ => none
      | _ => none
    | _ => none)
  else if f = 11 then (match args with
    | [.one (.p i o), .agg [a0, a1, a2, a3, a4, a5]] => match H[i]? with
      | some (.cells xs) => match xs[o + 42]? with
        | some (.d (.i .u32 v)) => if v = 0 then none else some (.agg ansD, H ++ [.cells [a0, a1, a2, a3, a4, a5]] ++ [.cells ansD])
        | _ => none
      | _ => none
    | _ => none)
  else none
theorem ext_ok : ∀ f args H r H', extF f args H = some (r, H') → CallOK Tryz.prog f args H r H' ∧ callable Tryz.prog f = true := by
  intro f args H r H' h
  unfold extF at h
  split at h
  · rename_i hf
    subst hf
    refine ⟨?_, by kernel_rfl⟩
    split at h
    · rename_i i o
      split at h
      · rename_i xs hb
        split at h
        · rename_i v hx
          intro mu S TB w vs hi ⟨hl, hr⟩
          obtain ⟨p, hp, rp⟩ := hr 0 _ rfl
          obtain ⟨q, hq, rq⟩ := hr 1 _ rfl
          obtain ⟨t, ht, rt⟩ := hr 2 _ rfl
          match vs, hl, hp, hq, ht with
          | [p, q, t], _, hp, hq, ht =>
            simp at hp hq ht
            subst hp hq ht
            have eq := RelV.b_inv rq
            have et := RelV.b_inv rt
            subst eq et
            have rp : RelL mu S w (.p i o) p := rp
            have hi' := hi.drew
            have e1 := ext_drew mu S TB w
            obtain ⟨b, a, u, rfl, hc, hu, hfz, hput⟩ := put_cell hi' (rp.ext e1) hb hx
            have hu' : u = .int .u32 v := by cases hu; rfl
            subst hu'
            split at h
            · rename_i hv
              subst hv
              cases h
              refine (cas_hit ⟨b, a, none⟩ w hc hfz).mono fun e w' he => ?_
              obtain ⟨rfl, rfl⟩ := he
              obtain ⟨e2, i2⟩ := hput (.d (.i .u32 1)) (.int .u32 1) (.i _ _)
              exact ⟨_, mu, S, rfl, e1.trans e2, i2, .b _⟩
            · rename_i hv
              cases h
              refine (cas_miss ⟨b, a, none⟩ v hv w hc hfz).mono fun e w' he => ?_
              obtain ⟨rfl, rfl⟩ := he
              exact ⟨_, mu, S, rfl, e1, hi', .b _⟩
        · cases h
      · cases h
    · cases h
  · split at h
    · rename_i hf
      subst hf
      refine ⟨?_, by kernel_rfl⟩
      split at h
      · rename_i i o a0 a1 a2 a3 a4 a5
        split at h
        · rename_i xs hb
          split at h
          · rename_i v hx
            split at h
            · cases h
            · rename_i hv
              cases h
              intro mu S TB w vs hi ⟨hl, hr⟩
              obtain ⟨p, hp, rp⟩ := hr 0 _ rfl
              obtain ⟨q, hq, rq⟩ := hr 1 _ rfl
              match vs, hl, hp, hq with
              | [p, q], _, hp, hq =>
                simp at hp hq
                subst hp hq
                have rp : RelL mu S w (.p i o) p := rp
                obtain ⟨l, B, cur, e, hml, hB, rfl, hblk, hrel, hT, hS⟩ := cells_at hi hb rp
                obtain ⟨u, hu, ru⟩ := hrel.2 _ _ hx
                have hu' : u = .int .u32 v := by cases ru; rfl
                subst hu'
                obtain ⟨cs, rfl, hcs⟩ := rq
                obtain ⟨cs⟩ := cs
                match cs, hcs with
                | [c0, c1, c2, c3, c4, c5], hcs =>
                  have hc : w.cell? ⟨B, o + 42, none⟩ = some (.int .u32 v) := by
                    have := hu
                    simp [World.cell?, hblk]
                    simpa using this
                  have hBs : B < w.heap.size := (Array.getElem?_eq_some_iff.1 hblk).1
                  refine (do_shut B o v hv c0 c1 c2 c3 c4 c5 w hc hBs).mono fun e w' he => ?_
                  obtain ⟨rfl, rfl⟩ := he
                  obtain ⟨mu1, x1, i1, _⟩ := hi.new_cells _ #[c0, c1, c2, c3, c4, c5] 65 hcs
                  have ha : ∀ mu S w, RelLs mu S w ansD [.int .i64 10, .int .i64 0, .int .i64 0, .int .i64 0, .string ⟨#[]⟩, .slice none 0 0] := by
                    intro mu S w
                    refine ⟨rfl, fun j x hj => ?_⟩
                    match j, hj with
                    | 0, hj | 1, hj | 2, hj | 3, hj => cases hj; exact ⟨_, rfl, .i _ _⟩
                    | 4, hj => cases hj; exact ⟨_, rfl, .s _⟩
                    | 5, hj => cases hj; exact ⟨_, rfl, rfl⟩
                  obtain ⟨mu2, x2, i2, _⟩ := i1.new_cells _ #[.int .i64 10, .int .i64 0, .int .i64 0, .int .i64 0, .string ⟨#[]⟩, .slice none 0 0] 62 (ha _ _ _)
                  exact ⟨_, mu2, S, rfl, x1.trans x2, i2, ⟨_, rfl, ha _ _ _⟩⟩
                | [], hcs | [_], hcs | [_, _], hcs | [_, _, _], hcs | [_, _, _, _], hcs | [_, _, _, _, _], hcs => cases hcs.1
                | _ :: _ :: _ :: _ :: _ :: _ :: _ :: _, hcs => simp [RelLs] at hcs
          · cases h
        · cases h
      · cases h
    · cases h
end Go.Proofs.YtgfkmjmffhcgdaaGreat

