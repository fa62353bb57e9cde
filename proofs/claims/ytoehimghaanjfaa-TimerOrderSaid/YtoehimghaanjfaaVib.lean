import Derived.Test.YtoehimghaanjfaaVia
set_option linter.unusedSimpArgs false
set_option linter.unusedVariables false
/- An interpreter of values: what it answers the program answers. -/
namespace Go.Vi
set_option linter.unusedSimpArgs false
set_option linter.unusedVariables false
section
variable {P : Program} {mu mu' : Mu} {S : St} {TB : Nat → Prop} {w : World} {H : Hp} {fr : Fr} {a : Act}
variable {φ : FuncId → List V → Hp → Option (V × Hp)} {o : Oper} {v : V} {H' : Hp}

theorem map_some {α β : Type} {f : α → β} {x : Option α} {y : β} (h : x.map f = some y) : ∃ z, x = some z ∧ f z = y := Option.map_eq_some_iff.1 h

theorem ok_eq (neg : Bool) {t yt : TypeId} {x y : Operand} {ao : A} (hop : o.op = .binOp (bif neg then .neq else .eql) t x y yt) (hc : compEq P neg t x y = some ao) (hi : Inv mu S TB w H) (hf : RelFr mu S w fr a)
    (hr : ao.run φ fr H = some (v, H')) : OpOK P o a mu S TB w v H' := by
  unfold compEq at hc
  split at hc
  · rename_i hu
    split at hc
    · rename_i x' y' hx hy; cases hc; exact ok_eqb hop hu hx hy hi hf hr
    · cases hc
  · rename_i fs hu
    split at hc
    · cases hc
    · rename_i hcond
      simp only [Bool.or_eq_true, not_or, Bool.not_eq_true] at hcond
      split at hc
      · rename_i k ks x' y' hk hx hy; cases hc; exact ok_eqa hop hu hcond.1 hcond.2 hk hx hy hi hf hr
      · cases hc
  · split at hc
    · rename_i x' y' hx hy; cases hc; exact ok_bin hop hx hy hi hf hr
    · cases hc
  · split at hc
    · rename_i x' y' hx hy; cases hc; exact ok_bin hop hx hy hi hf hr
    · cases hc
  · split at hc
    · rename_i k hk
      obtain ⟨x', hx, rfl⟩ := map_some hc
      exact ok_nilc hop hk hx hi hf hr
    · cases hc

theorem op_ok (hg : Good P φ) {fl : Nat} {ao : A} (hc : compOp P fl o.op = some ao) (hi : Inv mu S TB w H) (hf : RelFr mu S w fr a)
    (hr : ao.run φ fr H = some (v, H')) : OpOK P o a mu S TB w v H' := by
  have mvc : ∀ x, (o.op = .move x ∨ o.op = .assign x) → (if 100 ≤ fl then (match x with | .const (.slice none 0 0) => some (.own (fl - 100)) | _ => none) else (compX x).map .mv : Option A) = some ao → OpOK P o a mu S TB w v H' := by
    intro x hop hc
    split at hc
    · split at hc
      · cases hc; exact ok_own hop rfl hi hr
      · cases hc
    · obtain ⟨y, hy, rfl⟩ := map_some hc
      exact ok_mv hop hy hi hf hr
  cases hop : o.op with
  | move x => rw [hop] at hc; exact mvc x (.inl hop) hc
  | assign x => rw [hop] at hc; exact mvc x (.inr hop) hc
  | pick c x y =>
    rw [hop] at hc; simp only [compOp] at hc
    split at hc
    · rename_i c' x' y' h1 h2 h3; cases hc; exact ok_pick hop h1 h2 h3 hi hf hr
    · cases hc
  | alloc e =>
    rw [hop] at hc; simp only [compOp] at hc
    split at hc
    · rename_i i h1
      split at hc
      · rename_i z h2
        obtain ⟨zs, h3, rfl⟩ := map_some hc
        exact ok_alloc hop h1 h2 h3 hi hr
      · cases hc
    · cases hc
  | box e x =>
    rw [hop] at hc; simp only [compOp] at hc
    obtain ⟨y, hy, rfl⟩ := map_some hc
    exact ok_box hop hy hi hf hr
  | build t ps =>
    rw [hop] at hc; simp only [compOp] at hc
    split at hc
    · rename_i i fs h1 h2
      split at hc
      · rename_i z h3
        split at hc
        · rename_i zs pl h4 h5
          split at hc
          · rename_i qs h6; cases hc; exact ok_buildS hop h1 h2 h3 h4 h5 h6 hi hf hr
          · cases hc
        · cases hc
      · cases hc
    · rename_i i n e h1 h2
      split at hc
      · rename_i z ei h3 h4
        split at hc
        · rename_i zs qs h5 h6; cases hc; exact ok_buildA hop h1 h2 h3 h4 h5 h6 hi hf hr
        · cases hc
      · cases hc
    · cases hc
  | buildSlice t n ps =>
    rw [hop] at hc; simp only [compOp] at hc
    split at hc
    · rename_i e h1
      split at hc
      · rename_i i h2
        split at hc
        · rename_i z h3
          split at hc
          · rename_i zr qs h4 h5
            split at hc
            · rename_i hcond
              cases hc
              exact ok_bsl hop h1 h2 h3 h4 h5 hcond.1 hcond.2.1 hcond.2.2 hi hf hr
            · cases hc
          · cases hc
        · cases hc
      · cases hc
    · cases hc
  | load t x =>
    rw [hop] at hc; simp only [compOp] at hc
    split at hc
    · rename_i g y h1 h2; cases hc; exact ok_ld hop h1 h2 hi hf hr
    · cases hc
  | store t x y =>
    rw [hop] at hc; simp only [compOp] at hc
    split at hc
    · rename_i i x' y' h0 h1 h2; cases hc; exact ok_st hop h0 h1 h2 hi hf hr
    · cases hc
  | nilCheck x =>
    rw [hop] at hc; simp only [compOp] at hc
    obtain ⟨y, hy, rfl⟩ := map_some hc
    exact ok_nck hop hy hi hf hr
  | binOp op t x y yt =>
    rw [hop] at hc
    have gen : ((match compX x, compX y with | some x, some y => some (.bin op x y) | _, _ => none) : Option A) = some ao → OpOK P o a mu S TB w v H' := by
      intro hc
      split at hc
      · rename_i x' y' hx hy; cases hc; exact ok_bin hop hx hy hi hf hr
      · cases hc
    cases op with
    | eql => exact ok_eq false hop hc hi hf hr
    | neq => exact ok_eq true hop hc hi hf hr
    | _ => exact gen hc
  | unOp op t x =>
    rw [hop] at hc; simp only [compOp] at hc
    obtain ⟨y, hy, rfl⟩ := map_some hc
    exact ok_un hop hy hi hf hr
  | convert s d x =>
    rw [hop] at hc; simp only [compOp] at hc
    split at hc
    · rename_i u k h1 h2
      obtain ⟨y, hy, rfl⟩ := map_some hc
      exact ok_cvi hop (by rw [h1]; rfl) h2 hy hi hf hr
    · rename_i h1 h2
      obtain ⟨y, hy, rfl⟩ := map_some hc
      exact ok_cvs hop h1 h2 hy hi hf hr
    · rename_i e h1 h2
      split at hc
      · rename_i h3
        obtain ⟨y, hy, rfl⟩ := map_some hc
        exact ok_b2s hop h1 h2 h3 hy hi hf hr
      · cases hc
    · rename_i e h1 h2
      split at hc
      · rename_i h3
        obtain ⟨y, hy, rfl⟩ := map_some hc
        exact ok_s2b hop h1 h2 h3 hy hi hf hr
      · cases hc
    · cases hc
  | makeFunc fn first caps =>
    rw [hop] at hc
    cases fn <;> simp only [compOp] at hc <;> try (cases hc; done)
    split at hc
    · rename_i h0
      obtain ⟨ys, hy, rfl⟩ := map_some hc
      exact ok_mkf hop h0 hy hi hf hr
    · cases hc
  | makeSlice t l c =>
    rw [hop] at hc; simp only [compOp] at hc
    split at hc
    · rename_i e h1
      split at hc
      · rename_i i h2
        split at hc
        · rename_i z h3
          split at hc
          · rename_i zr l' c' h4 h5 h6
            split at hc
            · rename_i hcond
              cases hc
              exact ok_mks hop h1 h2 h3 h4 hcond.1 hcond.2 h5 h6 hi hf hr
            · cases hc
          · cases hc
        · cases hc
      · cases hc
    · cases hc
  | slice t x lo hi' mx =>
    rw [hop] at hc; simp only [compOp] at hc
    split at hc
    · rename_i x' l' h' h0 h1 h2 h3 h4
      cases hc
      have hmx : mx = none := by
        cases mx with
        | none => rfl
        | some m => simp only [compO] at h4; split at h4 <;> cases h4
      subst hmx
      exact ok_sls hop h0 h1 h2 h3 hi hf hr
    · rename_i e x' l' h' m' h0 h1 h2 h3 h4
      split at hc
      · rename_i i h5; cases hc; exact ok_slc hop h0 h5 h1 h2 h3 h4 hi hf hr
      · cases hc
    · cases hc
  | fieldAddr s x f =>
    rw [hop] at hc; simp only [compOp] at hc
    split at hc
    · rename_i fs y h1 h2
      split at hc
      · rename_i fd h3
        split at hc
        · rename_i i h4
          split at hc
          · rename_i h5; cases hc; exact ok_fa hop h1 h3 h4 h5 h2 hi hf hr
          · cases hc
        · cases hc
      · cases hc
    · cases hc
  | field t x f =>
    rw [hop] at hc; simp only [compOp] at hc
    split at hc
    · rename_i fs y h1 h2
      split at hc
      · rename_i fd h3
        split at hc
        · rename_i g h4; cases hc; exact ok_fld hop h1 h3 h4 h2 hi hf hr
        · cases hc
      · cases hc
    · cases hc
  | indexAddr t x i =>
    rw [hop] at hc; simp only [compOp] at hc
    split at hc
    · rename_i e x' i' h1 h2 h3
      split at hc
      · rename_i inf h4; cases hc; exact ok_ia hop h1 h4 h2 h3 hi hf hr
      · cases hc
    · rename_i n e x' i' h1 h2 h3
      split at hc
      · rename_i inf h4; cases hc; exact ok_iar hop h1 h4 h2 h3 hi hf hr
      · cases hc
    · cases hc
  | index t x i =>
    rw [hop] at hc; simp only [compOp] at hc
    split at hc
    · rename_i x' i' h1 h2 h3; cases hc; exact ok_ixs hop h1 h2 h3 hi hf hr
    · cases hc
  | extract x i =>
    rw [hop] at hc; simp only [compOp] at hc
    obtain ⟨y, hy, rfl⟩ := map_some hc
    exact ok_ext hop hy hi hf hr
  | call c =>
    rw [hop] at hc; simp only [compOp] at hc
    split at hc
    · rename_i hcal
      split at hc
      · rename_i x t h1 h2
        split at hc
        · rename_i h3
          obtain ⟨y, hy, rfl⟩ := map_some hc
          exact ok_lenS hop hcal h1 h2 h3 hy hi hf hr
        · rename_i e h3
          obtain ⟨y, hy, rfl⟩ := map_some hc
          exact ok_lenL hop hcal h1 h2 h3 hy hi hf hr
        · cases hc
      · cases hc
    · rename_i hcal
      split at hc
      · rename_i s x t t' h1 h2
        split at hc
        · rename_i e e' h3 h4
          split at hc
          · rename_i i s' x' h5 h6 h7
            split at hc
            · rename_i hcond
              cases hc
              obtain ⟨z, hz⟩ := Option.isSome_iff_exists.1 hcond.1
              have hzs : z.cells.size = i.size := by have := hcond.2.2; rw [hz] at this; simpa using this
              exact ok_app (str := false) hop hcal h1 h2 h3 ⟨e', h4⟩ h5 hz hzs hcond.2.1 h6 h7 hi hf hr
            · cases hc
          · cases hc
        · rename_i e h3 h4
          split at hc
          · rename_i i s' x' h5 h6 h7
            split at hc
            · rename_i hcond
              cases hc
              obtain ⟨z, hz⟩ := Option.isSome_iff_exists.1 hcond.1
              have hzs : z.cells.size = i.size := by have := hcond.2.2; rw [hz] at this; simpa using this
              exact ok_app (str := true) hop hcal h1 h2 h3 ⟨h4, hcond.2.1⟩ h5 hz hzs (by have := hcond.2.1; omega) h6 h7 hi hf hr
            · cases hc
          · cases hc
        · cases hc
      · cases hc
    · rename_i hcal
      split at hc
      · rename_i x y h1
        split at hc
        · rename_i x' y' h2 h3; cases hc; exact ok_mm (mx := false) hop hcal h1 h2 h3 hi hf hr
        · cases hc
      · cases hc
    · rename_i hcal
      split at hc
      · rename_i x y h1
        split at hc
        · rename_i x' y' h2 h3; cases hc; exact ok_mm (mx := true) hop hcal h1 h2 h3 hi hf hr
        · cases hc
      · cases hc
    · rename_i f hcal
      split at hc
      · obtain ⟨ys, hy, rfl⟩ := map_some hc
        split at hr
        · exact ok_call hg hop hcal hy hi hf hr
        · split at hr
          · exact ok_callz hg hop hcal hy hi hf hr
          · exact ok_callp hg hop hcal hy hi hf hr
      · cases hc
    · rename_i t hcal
      obtain ⟨ys, hy, rfl⟩ := map_some hc
      exact ok_callv hg hop hcal hy hi hf hr
    · cases hc
  | _ => rw [hop] at hc; simp [compOp] at hc

end
end Go.Vi

namespace Go.Vi
set_option linter.unusedSimpArgs false
set_option linter.unusedVariables false

/-! ### regions, code, functions -/
def annOf : List (Nat × Nat × Nat) → Nat → Nat → Nat
  | [], _, _ => 0
  | (r, k, f) :: l, i, j => if r = i ∧ k = j then f else annOf l i j

def unite : List Nat → List Nat → List Nat
  | [], l => l
  | x :: r, l => if l.contains x then unite r l else unite r (x :: l)

/-- what each operation waits for, through others -/
def preds : List Oper → List (List Nat) → List (List Nat)
  | [], acc => acc
  | o :: r, acc => preds r (acc ++ [o.after.toList.foldl (fun s e => if Region.binds .any e then unite (e.on :: acc.getD e.on []) s else s) []])

def compGuard (ops : Array Oper) (g : Option (Nat × Bool)) : Option (Option (Nat × Bool)) :=
  match g with
  | none => some none
  | some (j, b) => match (ops[j]?).bind (·.dst) with | some t => some (some (t, b)) | none => none

def compOps (P : Program) (an : Nat → Nat) (ops : Array Oper) (ps : List (List Nat)) : Nat → List Oper → Option (List AOp)
  | _, [] => some []
  | i, o :: r => match compOp P (if an i = 2 then 0 else an i) o.op, compGuard ops o.guard, compOps P an ops ps (i + 1) r with
    | some a, some g, some l => some ({ dst := o.dst, a, g, pre := ps.getD i [], fz := an i == 2 } :: l)
    | _, _, _ => none

def compC (P : Program) (an : Nat → Nat → Nat) (lv : Nat → List Nat) : Code → Nat → Option (AC × Nat)
  | .skip, n => some (.skip, n)
  | .label _, n => some (.skip, n)
  | .region id ops dr, n => match compOps P (an id) ops (bif dr then preds ops.toList [] else []) 0 ops.toList with
    | some l => some (.reg l dr, n)
    | none => none
  | .seq a b, n => match compC P an lv a n with
    | some (x, n1) => match compC P an lv b n1 with | some (y, n2) => some (.seq x y, n2) | none => none
    | none => none
  | .cond c a b, n => match compX c with
    | some c' => match compC P an lv a n with
      | some (x, n1) => match compC P an lv b n1 with | some (y, n2) => some (.cond c' x y, n2) | none => none
      | none => none
    | none => none
  | .block id c, n => match compC P an lv c n with | some (x, n1) => some (.block id x, n1) | none => none
  | .loop c, n => match compC P an lv c (n + 1) with | some (x, n1) => some (.loop (lv n) x, n1) | none => none
  | .exit id, n => some (.exit id, n)
  | .ret, n => some (.ret, n)
  | .scope c, n => compC P an lv c n
  | _, _ => none

def compRes (P : Program) : List ResultVar → Option (List RV)
  | [] => some []
  | .tmp t :: r => match compRes P r with | some l => some (.t t :: l) | none => none
  | .cell a t :: r => match aggN P t, compRes P r with | some g, some l => some (.c g a :: l) | _, _ => none

structure Ann where
  ops : List (Nat × Nat × Nat) := []
  live : List (List Nat) := []
  keep : Bool := false
  out : Bool := false

def compF (P : Program) (f : FuncId) (an : Ann) : Option AF :=
  if callable P f then match P.funcs[f]? with
    | some fn => match fn.body with
      | some c => match compC P (annOf an.ops) (fun n => an.live.getD n []) c 0, compRes P fn.results.toList with
        | some (x, _), some r => some { ntmps := fn.ntmps, body := x, res := r, keep := an.keep }
        | _, _ => none
      | none => none
    | none => none
  else none

section
variable {P : Program} {mu mu' : Mu} {S : St} {TB : Nat → Prop} {w : World} {H : Hp} {fr : Fr} {a : Act}
variable {φ : FuncId → List V → Hp → Option (V × Hp)} {o : Oper} {v : V} {H' : Hp}

theorem put_defers (a : Act) (d : Option Tmp) (x : Value) : (a.put d x).defers = a.defers := by cases d <;> rfl

theorem undef_rel : RelV mu S w (.tup []) undef := ⟨#[], rfl, rfl, fun j c hj => by simp at hj⟩

theorem wanted_ok {ops : Array Oper} {g : Option (Nat × Bool)} {b : Bool} (hg : compGuard ops o.guard = some g) (hf : RelFr mu S w fr a) (hw : wantedV fr g = some b) : Region.wanted o (yielded ops a.tmps) = b := by
  unfold compGuard at hg
  unfold Region.wanted
  cases hgd : o.guard with
  | none => rw [hgd] at hg; cases hg; simp only [wantedV] at hw; cases hw; rfl
  | some p =>
    obtain ⟨j, want⟩ := p
    rw [hgd] at hg
    simp only at hg ⊢
    split at hg
    · rename_i t ht
      cases hg
      simp only [wantedV] at hw
      split at hw
      · rename_i x hx
        cases hw
        obtain ⟨y, hy, hr⟩ := hf.rel _ _ hx
        have := hr.b_inv
        subst this
        simp only [yielded, ht, Option.bind_some, hy]
        cases x <;> cases want <;> rfl
      · rename_i hx
        cases hw
        obtain ⟨y, hy, vs, rfl, hvs, _⟩ := hf.rel _ _ hx
        simp only [yielded, ht, Option.bind_some, hy]
        rfl
      · cases hw
    · cases hg

/-- one operation of a region -/
theorem step_ok (hg : Good P φ) {an : Nat} {ops : Array Oper} {i : Nat} {ao : AOp} {fr' : Fr} (ho : ops[i]? = some o) (h1 : compOp P (if an = 2 then 0 else an) o.op = some ao.a) (h2 : compGuard ops o.guard = some ao.g) (h3 : ao.dst = o.dst)
    (hi : Inv mu S TB w H) (hf : RelFr mu S w fr a) (hs : ao.step φ fr H = some (fr', H')) {K : Act → World → Prop} {Q : Exit → Act → World → Prop}
    (hk : ∀ a' w' mu' S', Ext TB mu S w mu' S' w' → Inv mu' S' TB w' H' → RelFr mu' S' w' fr' a' → a'.defers = a.defers → K a' w') : wpOp P ops Q i K a w := by
  unfold AOp.step at hs
  unfold wpOp
  simp only [ho]
  split at hs
  · cases hs
  · rename_i b hw
    rw [wanted_ok h2 hf hw]
    cases b with
    | true =>
      simp only [cond_true] at hs
      simp only [if_true]
      left
      split at hs
      · rename_i v H1 hrun
        refine op_ok hg h1 hi hf hrun K Q fun x w' mu' S' ex i1 rx => ?_
        split at hs
        · rename_i v2 H2 hfz
          cases hs
          have : ∃ S2, Ext TB mu' S' w' mu' S2 w' ∧ Inv mu' S2 TB w' H' ∧ RelV mu' S2 w' v2 x := by
            cases hfzb : ao.fz with
            | false => rw [hfzb] at hfz; simp only [cond_false] at hfz; cases hfz; exact ⟨S', .refl _ _ _ _, i1, rx⟩
            | true =>
              rw [hfzb] at hfz
              simp only [cond_true] at hfz
              obtain ⟨S2, e2, i2, k2⟩ := fzV_ok hfz i1
              exact ⟨S2, e2, i2, k2 _ rx⟩
          obtain ⟨S2, e2, i2, r2⟩ := this
          rw [h3] at hk
          exact hk _ _ mu' S2 (ex.trans e2) i2 (((hf.ext ex).ext e2).put o.dst r2) (put_defers _ _ _)
        · cases hs
      · cases hs
    | false =>
      simp only [cond_false] at hs
      cases hs
      rw [if_neg (by simp)]
      rw [h3] at hk
      exact hk _ _ mu S (.refl _ _ _ _) hi (hf.put o.dst undef_rel) (put_defers _ _ _)

theorem compOps_get {an : Nat → Nat} {ops : Array Oper} {ps : List (List Nat)} : ∀ {l : List Oper} {i : Nat} {L : List AOp}, compOps P an ops ps i l = some L → L.length = l.length ∧
    ∀ (k : Nat) (o : Oper) (ao : AOp), l[k]? = some o → L[k]? = some ao → compOp P (if an (i + k) = 2 then 0 else an (i + k)) o.op = some ao.a ∧ compGuard ops o.guard = some ao.g ∧ ao.dst = o.dst ∧ ao.pre = ps.getD (i + k) []
  | [], i, L, h => by cases h; exact ⟨rfl, fun k o ao h => by simp at h⟩
  | o :: r, i, L, h => by
    simp only [compOps] at h
    split at h
    · rename_i a g l h1 h2 h3
      cases h
      obtain ⟨ih1, ih2⟩ := compOps_get h3
      refine ⟨by simp [ih1], fun k o' ao hk hk' => ?_⟩
      cases k with
      | zero => simp at hk hk'; subst hk; subst hk'; exact ⟨h1, h2, rfl, rfl⟩
      | succ k =>
        have := ih2 k o' ao (by simpa using hk) (by simpa using hk')
        rwa [show i + 1 + k = i + (k + 1) by omega] at this
    · cases h

theorem runOps_ok (hg : Good P φ) {an : Nat → Nat} {ops : Array Oper} {ps : List (List Nat)} {L : List AOp} (hc : compOps P an ops ps 0 ops.toList = some L) {Q : Exit → Act → World → Prop} {fr' : Fr} :
    ∀ (n k : Nat) (mu : Mu) (S : St) (w : World) (H : Hp) (fr : Fr) (a : Act), n + k = ops.size → runOps φ (L.drop k) fr H = some (fr', H') → Inv mu S TB w H → RelFr mu S w fr a →
      (∀ a' w' mu' S', Ext TB mu S w mu' S' w' → Inv mu' S' TB w' H' → RelFr mu' S' w' fr' a' → a'.defers = a.defers → Q .normal a' w') → wpOps P ops Q (List.range' k n) a w := by
  intro n
  obtain ⟨hl, hget⟩ := compOps_get hc
  induction n with
  | zero =>
    intro k mu S w H fr a hn hr hi hf hk
    rw [List.drop_of_length_le (by rw [hl]; simp; omega)] at hr
    simp only [runOps] at hr
    cases hr
    exact hk a w mu S (.refl _ _ _ _) hi hf rfl
  | succ n ih =>
    intro k mu S w H fr a hn hr hi hf hk
    have hkl : k < L.length := by rw [hl]; simp; omega
    rw [List.drop_eq_getElem_cons hkl] at hr
    simp only [runOps] at hr
    split at hr
    · rename_i fr1 H1 hs
      rw [List.range'_succ, wpOps_cons]
      have hko : k < ops.size := by omega
      obtain ⟨g1, g2, g3, _⟩ := hget k ops[k] L[k] (by simp) (by simp)
      refine step_ok hg (by simp [hko]) g1 g2 g3 hi hf hs fun a' w' mu' S' ex i1 f1 hd => ?_
      exact ih (k + 1) mu' S' w' H1 fr1 a' (by omega) hr i1 f1 fun a2 w2 mu2 S2 e2 i2 f2 hd2 => hk a2 w2 mu2 S2 (ex.trans e2) i2 f2 (hd2.trans hd)
    · cases hr

/-- what is asked of the draws: an operation's order, and the program's mode -/
def DrawOK (P : Program) (φ : FuncId → List V → Hp → Option (V × Hp)) : Prop :=
  ∀ (TB : Nat → Prop) (an : Nat → Nat) (ops : Array Oper) (id : Nat) (L : List AOp), compOps P an ops (preds ops.toList []) 0 ops.toList = some L →
    ∀ (mu : Mu) (S : St) (w : World) (H H' : Hp) (fr fr' : Fr) (a : Act) (Q : Exit → Act → World → Prop), runDraw φ L fr H = some (fr', H') → Inv mu S TB w H → RelFr mu S w fr a →
      (∀ a' w' mu' S', Ext TB mu S w mu' S' w' → Inv mu' S' TB w' H' → RelFr mu' S' w' fr' a' → a'.defers = a.defers → Q .normal a' w') → (Code.region id ops true).wp P Q a w

def exOf : Ex → Exit
  | .normal => .normal
  | .exit i => .exit i
  | .ret => .ret

theorem Inv.weaken {TB' : Nat → Prop} (hi : Inv mu S TB' w H) (h : ∀ b, TB b → TB' b) : Inv mu S TB w H := by
  refine ⟨fun i b l hb hl => ?_, hi.dom, hi.old, hi.sl, fun b hb => hi.tl b (h b hb), hi.one⟩
  have := hi.box i b l hb hl
  cases b with
  | dead => trivial
  | cells xs =>
    obtain ⟨l, B, cur, e, h1, h2, h3, h4, h5, h6⟩ := this
    exact ⟨l, B, cur, e, h1, h2, h3, h4, fun ht => h5 (h _ ht), h6⟩
  | arr sz rows fz =>
    obtain ⟨l, h1, h2, h3, h4, h5, h6⟩ := this
    refine ⟨l, h1, h2, h3, h4, h5, ?_⟩
    cases hbk : l.blk with
    | none => rw [hbk] at h6; exact h6
    | some B =>
      rw [hbk] at h6
      obtain ⟨cur, e, ff, k1, k2, k3, k4, k5, k6, k7, k8⟩ := h6
      exact ⟨cur, e, ff, k1, k2, k3, k4, k5, k6, fun ht => k7 (h _ ht), k8⟩

/-- what stays, where boxes beyond the first m may be numbered anew -/
structure ExtM (m : Nat) (TB : Nat → Prop) (mu : Mu) (S : St) (w : World) (mu' : Mu) (S' : St) (w' : World) : Prop where
  mu : ∀ i l, i < m → mu i = some l → mu' i = some l
  ss : ∀ b o, S b o → S' b o
  avoid : ∀ b o, TB b → S' b o → S b o
  cell : ∀ b o, S b o → w'.cell? ⟨b, o, none⟩ = w.cell? ⟨b, o, none⟩
  blk : ∀ b, TB b → w'.heap[b]? = w.heap[b]?
  size : w.heap.size ≤ w'.heap.size
  os : w'.os = w.os
  tape : w'.tape = w.tape
  output : w'.output = w.output

theorem Ext.m {S' : St} {w' : World} (e : Ext TB mu S w mu' S' w') (m : Nat) : ExtM m TB mu S w mu' S' w' := ⟨fun i l _ h => e.mu i l h, e.ss, e.avoid, e.cell, e.blk, e.size, e.os, e.tape, e.output⟩
theorem ExtM.trans {m : Nat} {mu1 mu2 : Mu} {S1 S2 : St} {w1 w2 : World} (h : ExtM m TB mu S w mu1 S1 w1) (k : ExtM m TB mu1 S1 w1 mu2 S2 w2) : ExtM m TB mu S w mu2 S2 w2 :=
  ⟨fun i l hm x => k.mu i l hm (h.mu i l hm x), fun b o x => k.ss b o (h.ss b o x), fun b o t x => h.avoid b o t (k.avoid b o t x),
    fun b o x => (k.cell b o (h.ss b o x)).trans (h.cell b o x), fun b t => (k.blk b t).trans (h.blk b t), Nat.le_trans h.size k.size,
    k.os.trans h.os, k.tape.trans h.tape, k.output.trans h.output⟩

/-- frames and boxes at a loop's head -/
theorem canon_ok (hi : Inv mu S TB w H) (hf : RelFr mu S w fr a) (m : Nat) (lv : List Nat) : ∃ mu', ExtM m TB mu S w mu' S w ∧ Inv mu' S TB w (canon m lv fr H).2 ∧ RelFr mu' S w (canon m lv fr H).1 a := by
  have hk : RelFr mu S w (killed lv fr) a := by
    refine ⟨by simp [killed, hf.size], fun t v ht => ?_⟩
    simp only [killed, List.getElem?_mapIdx, Option.map_eq_some_iff] at ht
    obtain ⟨u, hu, rfl⟩ := ht
    obtain ⟨x, hx, hr⟩ := hf.rel t u hu
    refine ⟨x, hx, ?_⟩
    split
    · exact hr
    · trivial
  simp only [canon]
  obtain ⟨hn, hal, hm⟩ := idsM_spec m H ((killed lv fr).flatMap V.refs)
  refine ⟨muOf mu (idsM m H ((killed lv fr).flatMap V.refs)), ⟨fun i l him hl => ?_, fun _ _ h => h, fun _ _ _ h => h, fun _ _ _ => rfl, fun _ _ => rfl, Nat.le_refl _, rfl, rfl, rfl⟩, (hi.canon hn hal).weaken fun b h => .inl h, ⟨by simp [hk.size], fun t v ht => ?_⟩⟩
  · simp [muOf, hm i him (hi.dom i l hl), hl]
  · rw [List.getElem?_map, Option.map_eq_some_iff] at ht
    obtain ⟨u, hu, rfl⟩ := ht
    obtain ⟨x, hx, hr⟩ := hk.rel t u hu
    exact ⟨x, hx, hr.ren muOf_place⟩

end
end Go.Vi

namespace Go.Vi
set_option linter.unusedSimpArgs false
set_option linter.unusedVariables false
section
variable {P : Program} {mu mu' : Mu} {S : St} {TB : Nat → Prop} {w : World} {H : Hp} {fr : Fr} {a : Act}
variable {φ : FuncId → List V → Hp → Option (V × Hp)} {o : Oper} {v : V} {H' : Hp}

theorem exec_ok (hg : Good P φ) (hd : DrawOK P φ) {an : Nat → Nat → Nat} {lv : Nat → List Nat} {n m : Nat} {α : Type} {r : α} : ∀ (c : Code) (k k' : Nat) (ac : AC), compC P an lv c k = some (ac, k') →
    ∀ (mu : Mu) (S : St) (w : World) (H : Hp) (fr : Fr) (a : Act) (K : Ex → Fr → Hp → Option α) (Q : Exit → Act → World → Prop), exec φ n m ac fr H K = some r → Inv mu S TB w H → RelFr mu S w fr a →
      (∀ e fr' H' a' w' mu' S', K e fr' H' = some r → ExtM m TB mu S w mu' S' w' → Inv mu' S' TB w' H' → RelFr mu' S' w' fr' a' → a'.defers = a.defers → Q (exOf e) a' w') → c.wp P Q a w := by
  have rf : ∀ (mu : Mu) (S : St) (w : World), ExtM m TB mu S w mu S w := fun mu S w => (Ext.refl TB mu S w).m m
  intro c
  induction c with
  | skip => intro k k' ac hc mu S w H fr a K Q hr hi hf hk; cases hc; exact wp_skip (hk .normal fr H a w mu S hr (rf _ _ _) hi hf rfl)
  | label l => intro k k' ac hc mu S w H fr a K Q hr hi hf hk; cases hc; exact wp_label (hk .normal fr H a w mu S hr (rf _ _ _) hi hf rfl)
  | ret => intro k k' ac hc mu S w H fr a K Q hr hi hf hk; cases hc; exact wp_ret (hk .ret fr H a w mu S hr (rf _ _ _) hi hf rfl)
  | exit id => intro k k' ac hc mu S w H fr a K Q hr hi hf hk; cases hc; exact wp_exit (hk (.exit id) fr H a w mu S hr (rf _ _ _) hi hf rfl)
  | region id ops dr =>
    intro k k' ac hc mu S w H fr a K Q hr hi hf hk
    simp only [compC] at hc
    split at hc
    · rename_i L hL
      cases hc
      simp only [exec] at hr
      split at hr
      · rename_i fr1 H1 hrun
        have hkk : ∀ a' w' mu' S', Ext TB mu S w mu' S' w' → Inv mu' S' TB w' H1 → RelFr mu' S' w' fr1 a' → a'.defers = a.defers → Q .normal a' w' :=
          fun a' w' mu' S' ex i1 f1 d1 => hk .normal fr1 H1 a' w' mu' S' hr (ex.m m) i1 f1 d1
        cases dr with
        | true =>
          simp only [cond_true] at hL hrun
          exact hd TB (an id) ops id L hL mu S w H H1 fr fr1 a Q hrun hi hf hkk
        | false =>
          simp only [cond_false] at hL hrun
          refine wp_region ?_
          rw [List.range_eq_range']
          exact runOps_ok hg hL ops.size 0 mu S w H fr a (by omega) (by simpa using hrun) hi hf hkk
      · cases hr
    · cases hc
  | seq x y ihx ihy =>
    intro k k' ac hc mu S w H fr a K Q hr hi hf hk
    simp only [compC] at hc
    split at hc
    · rename_i x' n1 hx
      split at hc
      · rename_i y' n2 hy
        cases hc
        simp only [exec] at hr
        refine wp_seq (ihx k n1 x' hx mu S w H fr a _ _ hr hi hf fun e fr1 H1 a1 w1 mu1 S1 hK e1 i1 f1 d1 => ?_)
        cases e with
        | normal => exact ihy n1 _ y' hy mu1 S1 w1 H1 fr1 a1 K Q hK i1 f1 fun e fr2 H2 a2 w2 mu2 S2 hK2 e2 i2 f2 d2 => hk e fr2 H2 a2 w2 mu2 S2 hK2 (e1.trans e2) i2 f2 (d2.trans d1)
        | exit id => exact hk (.exit id) fr1 H1 a1 w1 mu1 S1 hK e1 i1 f1 d1
        | ret => exact hk .ret fr1 H1 a1 w1 mu1 S1 hK e1 i1 f1 d1
      · cases hc
    · cases hc
  | cond c x y ihx ihy =>
    intro k k' ac hc mu S w H fr a K Q hr hi hf hk
    simp only [compC] at hc
    split at hc
    · rename_i c' hcx
      split at hc
      · rename_i x' n1 hx
        split at hc
        · rename_i y' n2 hy
          cases hc
          simp only [exec] at hr
          split at hr
          · rename_i t ht
            have hb := (compX_rel hcx hf ht).b_inv
            cases t with
            | true => exact wp_cond_true hb (ihx k n1 x' hx mu S w H fr a K Q hr hi hf hk)
            | false => exact wp_cond_false hb (ihy n1 _ y' hy mu S w H fr a K Q hr hi hf hk)
          · cases hr
        · cases hc
      · cases hc
    · cases hc
  | block id c ih =>
    intro k k' ac hc mu S w H fr a K Q hr hi hf hk
    simp only [compC] at hc
    split at hc
    · rename_i x n1 hx
      cases hc
      simp only [exec] at hr
      refine wp_block (ih k _ x hx mu S w H fr a _ _ hr hi hf fun e fr1 H1 a1 w1 mu1 S1 hK e1 i1 f1 d1 => ?_)
      cases e with
      | normal => exact hk .normal fr1 H1 a1 w1 mu1 S1 hK e1 i1 f1 d1
      | ret => exact hk .ret fr1 H1 a1 w1 mu1 S1 hK e1 i1 f1 d1
      | exit i =>
        simp only [exOf, Exit.inBlock]
        simp only at hK
        split
        · rename_i h; rw [if_pos h] at hK; exact hk .normal fr1 H1 a1 w1 mu1 S1 hK e1 i1 f1 d1
        · rename_i h; rw [if_neg h] at hK; exact hk (.exit i) fr1 H1 a1 w1 mu1 S1 hK e1 i1 f1 d1
    · cases hc
  | loop c ih =>
    intro k k' ac hc mu S w H fr a K Q hr hi hf hk
    simp only [compC] at hc
    split at hc
    · rename_i x n1 hx
      cases hc
      simp only [exec] at hr
      refine wp_loop_rounds n ?_
      have key : ∀ (q : Nat) (mu1 : Mu) (S1 : St) (w1 : World) (H1 : Hp) (fr1 : Fr) (a1 : Act), iter (exec φ n m x) m (lv k) K q fr1 H1 = some r → ExtM m TB mu S w mu1 S1 w1 → Inv mu1 S1 TB w1 H1 → RelFr mu1 S1 w1 fr1 a1 → a1.defers = a.defers → Code.rounds P c Q q a1 w1 := by
        intro q
        induction q with
        | zero => intro mu1 S1 w1 H1 fr1 a1 hr; simp [iter] at hr
        | succ q ihq =>
          intro mu1 S1 w1 H1 fr1 a1 hr e1 i1 f1 d1
          simp only [iter] at hr
          rw [rounds_succ]
          obtain ⟨mu2, e2, i2, f2⟩ := canon_ok i1 f1 m (lv k)
          refine ih (k + 1) _ x hx mu2 S1 w1 _ _ a1 _ _ hr i2 f2 fun e fr3 H3 a3 w3 mu3 S3 hK e3 i3 f3 d3 => ?_
          cases e with
          | normal => exact ihq mu3 S3 w3 H3 fr3 a3 hK ((e1.trans e2).trans e3) i3 f3 (d3.trans d1)
          | exit i => exact hk (.exit i) fr3 H3 a3 w3 mu3 S3 hK ((e1.trans e2).trans e3) i3 f3 (d3.trans d1)
          | ret => exact hk .ret fr3 H3 a3 w3 mu3 S3 hK ((e1.trans e2).trans e3) i3 f3 (d3.trans d1)
      exact key n mu S w H fr a hr (rf _ _ _) hi hf rfl
    · cases hc
  | scope c ih =>
    intro k k' ac hc mu S w H fr a K Q hr hi hf hk
    simp only [compC] at hc
    refine wp_scope_straight (ih k k' ac hc mu S w H fr a K _ hr hi hf fun e fr1 H1 a1 w1 mu1 S1 hK e1 i1 f1 d1 => ?_)
    cases e with
    | normal => exact hk .normal fr1 H1 a1 w1 mu1 S1 hK e1 i1 f1 d1
    | exit i => exact hk (.exit i) fr1 H1 a1 w1 mu1 S1 hK e1 i1 f1 d1
    | ret => exact hk .ret fr1 H1 a1 w1 mu1 S1 hK e1 i1 f1 d1
  | goto l => intro k k' ac hc; cases hc
  | rangeFunc f ps as b _ _ => intro k k' ac hc; cases hc
  | refuse why => intro k k' ac hc; cases hc

/-! ### what a function hands back -/
theorem ren_same_L {m : Nat} {x : L} (h : ∀ i ∈ x.refs, i < m) : x.ren (fun i => if i < m then some i else none) = x := by
  cases x with
  | p i off => have := h i (by simp [L.refs]); simp [L.ren, this]
  | ap i k j => have := h i (by simp [L.refs]); simp [L.ren, this]
  | sl i z off n => have := h i (by simp [L.refs]); simp [L.ren, this]
  | f fn caps =>
    have : ∀ l : List Nat, (∀ i ∈ l, i < m) → renIds (fun i => if i < m then some i else none) l = some l := by
      intro l
      induction l with
      | nil => intro _; rfl
      | cons i l ih =>
        intro hl
        simp only [renIds, if_pos (hl i List.mem_cons_self), ih (fun k hk => hl k (List.mem_cons_of_mem _ hk))]
    simp [L.ren, this caps (by simpa [L.refs] using h)]
  | _ => rfl
theorem ren_same_Ls {m : Nat} {xs : List L} (h : ∀ i ∈ xs.flatMap L.refs, i < m) : xs.map (L.ren (fun i => if i < m then some i else none)) = xs := by
  conv => rhs; rw [← List.map_id xs]
  apply List.map_congr_left
  intro x hx
  exact ren_same_L fun i hi => h i (List.mem_flatMap.2 ⟨x, hx, hi⟩)
theorem ren_same_V {m : Nat} {x : V} (h : ∀ i ∈ x.refs, i < m) : x.ren (fun i => if i < m then some i else none) = x := by
  cases x with
  | one x => simp only [V.ren]; rw [ren_same_L h]
  | agg xs => simp only [V.ren]; rw [ren_same_Ls h]
  | any => rfl
  | tup xs =>
    simp only [V.ren]
    congr 1
    conv => rhs; rw [← List.map_id xs]
    apply List.map_congr_left
    intro c hc
    obtain ⟨t, ys⟩ := c
    simp only [id_eq]
    congr 1
    exact ren_same_Ls fun i hi => h i (List.mem_flatMap.2 ⟨(t, ys), hc, hi⟩)
theorem ren_same_B {m : Nat} {b : Box} (h : ∀ i ∈ b.refs, i < m) : b.ren (fun i => if i < m then some i else none) = b := by
  cases b with
  | cells xs => simp only [Box.ren]; rw [ren_same_Ls h]
  | _ => rfl

theorem trim_ok {S' : St} {w' : World} {m : Nat} {r : V} {x : Value} (hdom : ∀ i l, mu i = some l → i < m) (he : ExtM m TB mu S w mu' S' w') (hi : Inv mu' S' TB w' H) (hr : RelV mu' S' w' r x) :
    ∃ mu2, Ext TB mu S w mu2 S' w' ∧ Inv mu2 S' TB w' (trim m r H).2 ∧ RelV mu2 S' w' (trim m r H).1 x := by
  have e0 : ∀ {mu2 : Mu}, (∀ i l, mu i = some l → mu2 i = some l) → Ext TB mu S w mu2 S' w' := fun h => ⟨h, he.ss, he.avoid, he.cell, he.blk, he.size, he.os, he.tape, he.output⟩
  unfold trim
  split
  · rename_i hall
    rw [List.all_eq_true] at hall
    have hall' : ∀ i ∈ r.refs ++ (H.take m).flatMap Box.refs, i < m := fun i h => by simpa using hall i h
    let mu2 : Mu := fun i => if i < m then mu' i else none
    have hρ : ∀ i j, (fun i => if i < m then some i else none) i = some j → mu2 j = mu' i := by
      intro i j h
      simp only at h
      split at h
      · rename_i hlt; cases h; simp only [mu2, if_pos hlt]
      · cases h
    refine ⟨mu2, e0 fun i l h => ?_, ⟨fun i b l hb hl => ?_, fun i l h => ?_, fun i l B h1 h2 => ?_, hi.sl, hi.tl, ?_⟩, ?_⟩
    · have hlt := hdom i l h
      simp only [mu2, if_pos hlt]
      exact he.mu i l hlt h
    · simp only [mu2] at hl
      split at hl
      · rename_i hlt
        have hb' : H[i]? = some b := by rw [List.getElem?_take, if_pos hlt] at hb; exact hb
        have := RelB.ren (TB' := TB) (mu' := mu2) (j := i) hρ (by simp only [mu2, if_pos hlt]) (fun l B _ _ _ h => h) (hi.box i b l hb' hl)
        rwa [ren_same_B fun k hk => hall' k (List.mem_append_right _ (List.mem_flatMap.2 ⟨b, List.mem_of_getElem? hb, hk⟩))] at this
      · cases hl
    · simp only [mu2] at h
      split at h
      · have := hi.dom i l h; simp; omega
      · cases h
    · simp only [mu2] at h1
      split at h1
      · exact hi.old i l B h1 h2
      · cases h1
    · intro p q bp bq lp lq B hpq hbp hbq hap haq hmp hmq hBp hBq
      simp only [mu2] at hmp hmq
      split at hmp
      · split at hmq
        · rename_i h1 h2
          rw [List.getElem?_take, if_pos h1] at hbp
          rw [List.getElem?_take, if_pos h2] at hbq
          exact hi.one p q bp bq lp lq B hpq hbp hbq hap haq hmp hmq hBp hBq
        · cases hmq
      · cases hmp
    · have := RelV.ren (mu' := mu2) hρ hr
      rwa [ren_same_V fun k hk => hall' k (List.mem_append_left _ hk)] at this
  · exact ⟨mu', e0 fun i l h => he.mu i l (hdom i l h) h, hi, hr⟩

theorem getRV_ok (hi : Inv mu S TB w H) (hf : RelFr mu S w fr a) {rv : ResultVar} {x : RV} {v : V} (hc : compRes P [rv] = some [x]) (hv : x.get fr H = some v) :
    ∃ u, (match rv with | .tmp t => pure (a.tmps.getD t undef) | .cell c t => do loadVar t (← asAddr (a.tmps.getD c undef)) : Sem Value).run P w = .ok u w ∧ RelV mu S w v u := by
  cases rv with
  | tmp t =>
    cases hc
    simp only [RV.get] at hv
    obtain ⟨u, hu, hr⟩ := hf.rel t v hv
    exact ⟨u, by simp only [Sem.run_pure, Array.getD_eq_getD_getElem?, hu, Option.getD_some], hr⟩
  | cell c t =>
    simp only [compRes] at hc
    split at hc
    · rename_i g l hg hl
      cases hl
      cases hc
      simp only [RV.get] at hv
      split at hv
      · rename_i v' H1 hld
        cases hv
        obtain ⟨ad, u, he, hrun, _, hr⟩ := ld_val (x := .tmp c) hg rfl hi hf hld
        refine ⟨u, ?_, hr⟩
        have e0 : a.tmps.getD c undef = .pointer (some ad) := he
        simp only [Instr.loadAt, Instr.sureAddr, Sem.run_bind, Sem.run_pure, Result.andThen] at hrun
        simp only [e0, asAddr, Sem.run_bind, Sem.run_pure, Result.andThen]
        exact hrun
      · cases hv
    · cases hc

theorem compRes_cons {rv : ResultVar} {rs : List ResultVar} {ts : List RV} (h : compRes P (rv :: rs) = some ts) : ∃ x l, ts = x :: l ∧ compRes P [rv] = some [x] ∧ compRes P rs = some l := by
  cases rv with
  | tmp t =>
    simp only [compRes] at h
    split at h
    · rename_i l hl; cases h; exact ⟨_, _, rfl, rfl, hl⟩
    · cases h
  | cell c t =>
    simp only [compRes] at h
    split at h
    · rename_i g l hg hl; cases h; exact ⟨_, _, rfl, by simp only [compRes, hg], hl⟩
    · cases h

theorem resT_ok {v : V} {c : Bool × List L} {u : Value} (h : resT v = some c) (hr : RelV mu S w v u) : RelC mu S w c u := by
  cases v with
  | one x => cases h; exact ⟨x, rfl, hr⟩
  | agg xs => cases h; exact hr
  | tup xs => cases h
  | any => cases h

theorem results_ok {fn : Func} {ts : List RV} {r : V} (hres : compRes P fn.results.toList = some ts) (hi : Inv mu S TB w H) (hf : RelFr mu S w fr a) (h : resV fr H ts = some r) :
    ∃ u, (results fn a.tmps).run P w = .ok u w ∧ RelV mu S w r u := by
  have key : ∀ (rs : List ResultVar) (ts : List RV), compRes P rs = some ts → ∀ l, resL fr H ts = some l →
      ∃ us : List Value, (rs.mapM fun | .tmp t => pure (a.tmps.getD t undef) | .cell c t => do loadVar t (← asAddr (a.tmps.getD c undef)) : Sem (List Value)).run P w = .ok us w ∧ us.length = l.length ∧ rs.length = l.length ∧
        ∀ (j : Nat) (c : Bool × List L), l[j]? = some c → ∃ x, us[j]? = some x ∧ RelC mu S w c x := by
    intro rs
    induction rs with
    | nil => intro ts h l hl; cases h; cases hl; exact ⟨[], rfl, rfl, rfl, fun j c hj => by simp at hj⟩
    | cons rv rs ih =>
      intro ts h l hl
      obtain ⟨x, ts', rfl, h1, h2⟩ := compRes_cons h
      simp only [resL] at hl
      split at hl
      · rename_i v hv
        split at hl
        · rename_i c cs hc hcs
          cases hl
          obtain ⟨u, hu, hr⟩ := getRV_ok hi hf h1 hv
          obtain ⟨us, hus, g1, g2, g3⟩ := ih ts' h2 cs hcs
          refine ⟨u :: us, ?_, by simp [g1], by simp [g2], fun j d hj => ?_⟩
          · simp only [List.mapM_cons, Sem.run_bind, Sem.run_pure, Result.andThen]
            erw [hu]
            simp only [hus]
          · cases j with
            | zero => simp at hj; subst hj; exact ⟨u, rfl, resT_ok hc hr⟩
            | succ j => simpa using g3 j d (by simpa using hj)
        · cases hl
      · cases hl
  have e0 : (results fn a.tmps) = (do let vs ← (fn.results.toList.mapM fun | .tmp t => pure (a.tmps.getD t undef) | .cell c t => do loadVar t (← asAddr (a.tmps.getD c undef)) : Sem (List Value)); pure (if h : vs.toArray.size = 1 then vs.toArray[0] else .tuple vs.toArray)) := by
    unfold results
    rw [Array.mapM_eq_mapM_toList]
    simp only [bind_map_left]
    rfl
  rw [e0]
  generalize fn.results.toList = rs at hres
  match rs, ts, hres, h with
  | [], _, hres, h =>
    cases hres
    cases h
    exact ⟨.tuple #[], rfl, #[], rfl, rfl, fun j c hj => by simp at hj⟩
  | [rv], ts, hres, h =>
    obtain ⟨x, l, rfl, h1, h2⟩ := compRes_cons hres
    cases h2
    simp only [resV] at h
    obtain ⟨u, hu, hr⟩ := getRV_ok hi hf h1 h
    refine ⟨u, ?_, hr⟩
    simp only [List.mapM_cons, List.mapM_nil, Sem.run_bind, Sem.run_pure, Result.andThen]
    erw [hu]
    simp
  | rv1 :: rv2 :: rs, ts, hres, h =>
    obtain ⟨x1, l1, rfl, h1, h2⟩ := compRes_cons hres
    obtain ⟨x2, l2, rfl, h3, h4⟩ := compRes_cons h2
    simp only [resV] at h
    split at h
    · rename_i l hl
      cases h
      obtain ⟨us, hus, g1, g2, g3⟩ := key _ _ hres l hl
      refine ⟨.tuple us.toArray, ?_, us.toArray, rfl, by simpa using g1, fun j c hj => by simpa using g3 j c hj⟩
      simp only [Sem.run_bind, hus, Result.andThen, Sem.run_pure]
      rw [dif_neg (by simp [g1, ← g2])]
    · cases h

theorem func_ok (hg : Good P φ) (hd : DrawOK P φ) {f : FuncId} {an : Ann} {af : AF} (hc : compF P f an = some af) {n : Nat} {args : List V} {r : V}
    (hr : exec φ n H.length af.body (args ++ List.replicate (af.ntmps - args.length) (.tup [])) H (finish af H.length) = some (r, H')) : CallOK P f args H r H' := by
  intro mu S TB w vs hi ha
  unfold compF at hc
  split at hc
  · split at hc
    · rename_i fn hfn
      split at hc
      · rename_i c hbody
        split at hc
        · rename_i x k' ts hcc hres
          cases hc
          simp only at hr
          refine calls_of_wp hfn hbody (exec_ok hg hd c 0 k' x hcc mu S w H _ _ _ _ hr hi ?_ ?_)
          · refine ⟨by simp [ha.1], fun t v ht => ?_⟩
            rw [List.getElem?_append] at ht
            rw [Array.getElem?_append]
            simp only [List.size_toArray, ha.1]
            split at ht
            · rename_i hlt
              rw [if_pos hlt]
              obtain ⟨x, hx, hr⟩ := ha.2 t v ht
              exact ⟨x, by simpa using hx, hr⟩
            · rename_i hlt
              rw [if_neg hlt]
              have hrep := List.mem_replicate.1 (List.mem_of_getElem? ht)
              have hlt2 := (List.getElem?_eq_some_iff.1 ht).1
              simp only [List.length_replicate] at hlt2
              refine ⟨undef, ?_, by rw [hrep.2]; exact undef_rel⟩
              simp [hlt2]
          · intro e fr1 H1 a1 w1 mu1 S1 hK e1 i1 f1 d1
            have fin : ∀ (r0 : V), resV fr1 H1 ts = some r0 → (bif an.keep then some (r0, H1) else fzV r0 H1) = some (r0, H1) ∨ True → ∀ r1 H2, (bif an.keep then some (r0, H1) else fzV r0 H1) = some (r1, H2) → trim H.length r1 H2 = (r, H') →
                a1.defers = [] ∧ ∃ v, (results fn a1.tmps).run P w1 = .ok v w1 ∧ ∃ x mu' S', Ending.returned v = .returned x ∧ Ext TB mu S w mu' S' w1 ∧ Inv mu' S' TB w1 H' ∧ RelV mu' S' w1 r x := by
              intro r0 hr0 _ r1 H2 hfz htr
              obtain ⟨ru, hrun, hrel⟩ := results_ok hres i1 f1 hr0
              refine ⟨d1, _, hrun, ?_⟩
              have : ∃ S2, Ext TB mu1 S1 w1 mu1 S2 w1 ∧ Inv mu1 S2 TB w1 H2 ∧ RelV mu1 S2 w1 r1 ru := by
                cases hkp : an.keep with
                | true => rw [hkp] at hfz; simp only [cond_true] at hfz; cases hfz; exact ⟨S1, .refl _ _ _ _, i1, hrel⟩
                | false =>
                  rw [hkp] at hfz
                  simp only [cond_false] at hfz
                  obtain ⟨S2, e2, i2, k2⟩ := fzV_ok hfz i1
                  exact ⟨S2, e2, i2, k2 _ hrel⟩
              obtain ⟨S2, e2, i2, r2⟩ := this
              obtain ⟨mu2, e3, i3, r3⟩ := trim_ok (m := H.length) (fun i l h => hi.dom i l h) (e1.trans (e2.m _)) i2 r2
              rw [htr] at i3 r3
              exact ⟨_, mu2, S2, rfl, e3, i3, r3⟩
            cases e with
            | exit i => simp [finish] at hK
            | normal =>
              simp only [finish] at hK
              split at hK
              · cases hK
              · rename_i r0 hr0
                split at hK
                · rename_i r1 H2 hfz
                  exact fin r0 hr0 (.inr trivial) r1 H2 hfz (by simpa using hK)
                · cases hK
            | ret =>
              simp only [finish] at hK
              split at hK
              · cases hK
              · rename_i r0 hr0
                split at hK
                · rename_i r1 H2 hfz
                  exact fin r0 hr0 (.inr trivial) r1 H2 hfz (by simpa using hK)
                · cases hK
        · cases hc
      · cases hc
    · cases hc
  · cases hc

/-- a table of functions that was made of the program's own code -/
def Made (P : Program) (prog : FuncId → Option AF) : Prop := ∀ f af, prog f = some af → ∃ an, compF P f an = some af

theorem callN_good (hd : ∀ φ, Good P φ → DrawOK P φ) {prog : FuncId → Option AF} (hp : Made P prog) {pr : FuncId → List V → Hp → Option (V × Hp)} (hpr : Good P pr) : ∀ n, Good P (callN prog pr n)
  | 0 => ⟨fun f args H r H' h => by simp [callN] at h, fun f args H r H' h => by simp [callN] at h⟩
  | n + 1 => by
    have ih := callN_good hd hp hpr n
    refine ⟨fun f args H r H' h => ?_, fun f args H r H' h => ?_⟩
    · simp only [callN] at h
      split at h
      · exact hpr.ok _ _ _ _ _ h
      · rename_i af haf
        obtain ⟨an, han⟩ := hp f af haf
        exact func_ok ih (hd _ ih) han h
    · simp only [callN] at h
      split at h
      · exact hpr.can _ _ _ _ _ h
      · rename_i af haf
        obtain ⟨an, han⟩ := hp f af haf
        unfold compF at han
        split at han
        · assumption
        · cases han

end
end Go.Vi

namespace Go.Vi
set_option linter.unusedSimpArgs false
set_option linter.unusedVariables false

/-! ### without fuel -/
abbrev Phi := FuncId → List V → Hp → Option (V × Hp)

def Lim {α : Type} (F : Nat → Option α) (x : Option α) : Prop := ∀ z, x = some z → ∃ n0, ∀ n, n0 ≤ n → F n = some z

theorem Lim.const {α : Type} (x : Option α) : Lim (fun _ => x) x := fun z h => ⟨0, fun _ _ => h⟩

theorem Lim.seq {α β : Type} {F : Nat → Option α} {x : Option α} {A : Nat → Option β} {b : Option β} (h : Lim F x) (hn : x = none → b = none)
    (hs : ∀ a, x = some a → ∃ G : Nat → Option β, Lim G b ∧ ∀ n, F n = some a → A n = G n) : Lim A b := by
  intro z hz
  cases hx : x with
  | none => rw [hn hx] at hz; cases hz
  | some a =>
    obtain ⟨G, hG, hA⟩ := hs a hx
    obtain ⟨n1, h1⟩ := h a hx
    obtain ⟨n2, h2⟩ := hG z hz
    exact ⟨max n1 n2, fun n hle => by rw [hA n (h1 n (by omega))]; exact h2 n (by omega)⟩

def LimPhi (Φ : Nat → Phi) (φ : Phi) : Prop := ∀ f args H, Lim (fun n => Φ n f args H) (φ f args H)

section
variable {Φ : Nat → Phi} {φ : Phi}

theorem lim_callIso (h : LimPhi Φ φ) (f : FuncId) (args : List V) (H : Hp) : Lim (fun n => callIso (Φ n) f args H) (callIso φ f args H) := by
  intro z hz
  unfold callIso at hz ⊢
  simp only at hz ⊢
  split at hz
  · cases hz
  · rename_i r H1 hr
    obtain ⟨n0, hn⟩ := h _ _ _ _ hr
    exact ⟨n0, fun n hle => by simp only [hn n hle]; exact hz⟩

theorem lim_run (h : LimPhi Φ φ) (fr : Fr) (H : Hp) (a : A) : Lim (fun n => a.run (Φ n) fr H) (a.run φ fr H) := by
  cases a
  case call f xs =>
    simp only [A.run]
    cases evs fr xs with
    | none => exact Lim.const _
    | some vs => exact lim_callIso h _ _ _
  case callp f xs =>
    simp only [A.run]
    cases evs fr xs with
    | none => exact Lim.const _
    | some vs =>
      simp only
      cases dataVs vs with
      | none => exact Lim.const _
      | some ds =>
        simp only
        intro z hz
        split at hz
        · rename_i r hr
          obtain ⟨n0, hn⟩ := h _ _ _ _ hr
          exact ⟨n0, fun n hle => by simp only [hn n hle]; exact hz⟩
        · cases hz
  case callz f xs =>
    simp only [A.run]
    cases evs fr xs with
    | none => exact Lim.const _
    | some vs =>
      simp only
      cases fzVs vs H with
      | none => exact Lim.const _
      | some q =>
        simp only
        cases dataVs q.1 with
        | none => exact Lim.const _
        | some ds =>
          simp only
          intro z hz
          split at hz
          · rename_i r hr
            obtain ⟨n0, hn⟩ := h _ _ _ _ hr
            exact ⟨n0, fun n hle => by simp only [hn n hle]; exact hz⟩
          · cases hz
  case callv x xs =>
    simp only [A.run]
    intro z hz
    split at hz
    · rename_i g caps vs h1 h2
      simp only [h1, h2]
      exact lim_callIso h _ _ _ z hz
    · cases hz
  case nilc k neg x => rcases k with _ | _ | k <;> exact Lim.const _
  case len str x => cases str <;> exact Lim.const _
  all_goals exact Lim.const _

theorem lim_step (h : LimPhi Φ φ) (o : AOp) (fr : Fr) (H : Hp) : Lim (fun n => o.step (Φ n) fr H) (o.step φ fr H) := by
  unfold AOp.step
  cases wantedV fr o.g with
  | none => exact Lim.const _
  | some w =>
    cases w with
    | false => exact Lim.const _
    | true =>
      simp only [cond_true]
      exact Lim.seq (lim_run h fr H o.a) (fun h => by rw [h]) (fun a ha => ⟨_, Lim.const _, fun n hn => by rw [hn, ha]⟩)

theorem lim_runOps (h : LimPhi Φ φ) : ∀ (ops : List AOp) (fr : Fr) (H : Hp), Lim (fun n => runOps (Φ n) ops fr H) (runOps φ ops fr H)
  | [], _, _ => Lim.const _
  | o :: r, fr, H => by
    simp only [runOps]
    exact Lim.seq (lim_step h o fr H) (fun h => by rw [h]) (fun a ha => ⟨_, by rw [ha]; exact lim_runOps h r a.1 a.2, fun n hn => by rw [hn]⟩)

theorem lim_runDrawA (h : LimPhi Φ φ) : ∀ (ops : List AOp) (lg : List Log0) (fr : Fr) (H : Hp), Lim (fun n => runDrawA (Φ n) ops lg fr H) (runDrawA φ ops lg fr H)
  | [], _, _, _ => Lim.const _
  | o :: r, lg, fr, H => by
    simp only [runDrawA]
    cases hw : wantedV fr o.g with
    | none => exact Lim.const _
    | some w =>
      simp only
      split
      · cases w with
        | false => simp only [cond_false]; exact lim_runDrawA h r _ _ _
        | true =>
          simp only [cond_true]
          exact Lim.seq (lim_run h fr H o.a) (fun h => by rw [h]) (fun a ha => ⟨_, by rw [ha]; exact lim_runDrawA h r _ _ a.2, fun n hn => by rw [hn]⟩)
      · exact Lim.const _

theorem lim_iso (h : LimPhi Φ φ) (o : AOp) (fr : Fr) (H : Hp) : Lim (fun n => isoRun (Φ n) o fr H) (isoRun φ o fr H) := by
  simp only [isoRun]
  exact Lim.seq (lim_run h _ _ o.a) (fun h => by rw [h]) (fun a ha => ⟨_, by rw [ha]; exact Lim.const _, fun n hn => by rw [hn]⟩)

theorem lim_drawStep (h : LimPhi Φ φ) (o : AOp) (k : Nat) (w : Bool) (fr : Fr) (H : Hp) : Lim (fun n => drawStep (Φ n) o k w fr H) (drawStep φ o k w fr H) := by
  cases w with
  | false => exact Lim.const _
  | true =>
    match k with
    | 0 => exact lim_run h _ _ _
    | 1 => exact lim_run h _ _ _
    | 2 => exact lim_iso h _ _ _
    | n + 3 => exact lim_run h _ _ _

theorem lim_runDrawB (h : LimPhi Φ φ) : ∀ (ops : List AOp) (lg : List Log) (fr : Fr) (H : Hp), Lim (fun n => runDrawB (Φ n) ops lg fr H) (runDrawB φ ops lg fr H)
  | [], _, _, _ => Lim.const _
  | o :: r, lg, fr, H => by
    simp only [runDrawB]
    cases hw : wantedV fr o.g with
    | none => exact Lim.const _
    | some w =>
      simp only
      refine Lim.seq (lim_drawStep h o (bif w then o.a.kind fr else 0) w fr H) (fun h => by rw [h]) (fun a ha => ⟨fun n => bif (!o.fz && (o.pre.all (fun j => decide (j < lg.length)) && freeAll o.pre ⟨bif w then o.a.kind fr else 0, o.dst, o.slots, touch (bif w then o.a.kind fr else 0) o fr H a.2⟩ 0 lg)) then runDrawB (Φ n) r (lg ++ [⟨bif w then o.a.kind fr else 0, o.dst, o.slots, touch (bif w then o.a.kind fr else 0) o fr H a.2⟩]) (put fr o.dst a.1) a.2 else none, ?_, fun n hn => by rw [hn]⟩)
      rw [ha]
      simp only
      cases (!o.fz && (o.pre.all (fun j => decide (j < lg.length)) && freeAll o.pre ⟨bif w then o.a.kind fr else 0, o.dst, o.slots, touch (bif w then o.a.kind fr else 0) o fr H a.2⟩ 0 lg)) with
      | false => exact Lim.const _
      | true => exact lim_runDrawB h r _ _ _

theorem lim_runDraw (h : LimPhi Φ φ) (ops : List AOp) (fr : Fr) (H : Hp) : Lim (fun n => runDraw (Φ n) ops fr H) (runDraw φ ops fr H) := by
  simp only [runDraw]
  cases statS ops [] with
  | true => exact lim_runDrawA h ops [] fr H
  | false => exact lim_runDrawB h ops [] fr H

open Classical in
noncomputable def iterU {α : Type} (body : Fr → Hp → (Ex → Fr → Hp → Option α) → Option α) (m : Nat) (lv : List Nat) (K : Ex → Fr → Hp → Option α) (fr : Fr) (H : Hp) : Option α :=
  if h : ∃ z k, iter body m lv K k fr H = some z then some h.choose else none

noncomputable def execU {α : Type} (φ : Phi) (m : Nat) : AC → Fr → Hp → (Ex → Fr → Hp → Option α) → Option α
  | .skip, fr, H, K => K .normal fr H
  | .reg ops dr, fr, H, K => match (bif dr then runDraw φ ops fr H else runOps φ ops fr H) with | some (fr, H) => K .normal fr H | none => none
  | .seq a b, fr, H, K => execU φ m a fr H fun e fr H => match e with | .normal => execU φ m b fr H K | e => K e fr H
  | .cond c a b, fr, H, K => match c.ev fr with
    | some (.one (.d (.b x))) => bif x then execU φ m a fr H K else execU φ m b fr H K
    | _ => none
  | .block id c, fr, H, K => execU φ m c fr H fun e fr H => match e with | .exit i => if i = id then K .normal fr H else K (.exit i) fr H | e => K e fr H
  | .loop lv c, fr, H, K => iterU (execU φ m c) m lv K fr H
  | .exit id, fr, H, K => K (.exit id) fr H
  | .ret, fr, H, K => K .ret fr H

def LimK {α : Type} (K : Nat → Ex → Fr → Hp → Option α) (k : Ex → Fr → Hp → Option α) : Prop := ∀ e fr H, Lim (fun n => K n e fr H) (k e fr H)

theorem lim_iter {α : Type} {B : Nat → Fr → Hp → (Ex → Fr → Hp → Option α) → Option α} {b : Fr → Hp → (Ex → Fr → Hp → Option α) → Option α}
    (hb : ∀ fr H K k, LimK K k → Lim (fun n => B n fr H (K n)) (b fr H k)) {m : Nat} {lv : List Nat} {K : Nat → Ex → Fr → Hp → Option α} {k : Ex → Fr → Hp → Option α} (hk : LimK K k) :
    ∀ (j : Nat) (fr : Fr) (H : Hp), Lim (fun n => iter (B n) m lv (K n) n fr H) (iter b m lv k j fr H) := by
  have key : ∀ (j : Nat) (fr : Fr) (H : Hp) (F : Nat → Nat), (∃ N, ∀ n, N ≤ n → j ≤ F n) → Lim (fun n => iter (B n) m lv (K n) (F n) fr H) (iter b m lv k j fr H) := by
    intro j
    induction j with
    | zero => intro fr H F hF z hz; cases hz
    | succ j ih =>
      intro fr H F ⟨N, hN⟩ z hz
      simp only [iter] at hz
      have := hb (canon m lv fr H).1 (canon m lv fr H).2 (fun n e fr' H' => match e with | .normal => iter (B n) m lv (K n) (F n - 1) fr' H' | e => K n e fr' H') _ (fun e fr' H' => ?_) z hz
      · obtain ⟨n0, h0⟩ := this
        refine ⟨max n0 N, fun n hn => ?_⟩
        have hF := hN n (by omega)
        obtain ⟨q, hq⟩ : ∃ q, F n = q + 1 := ⟨F n - 1, by omega⟩
        have h0' := h0 n (by omega)
        simp only [hq] at h0' ⊢
        simp only [iter]
        exact h0'
      · cases e with
        | normal => exact ih fr' H' (fun n => F n - 1) ⟨N, fun n hn => by have := hN n hn; omega⟩
        | exit i => exact hk _ _ _
        | ret => exact hk _ _ _
  intro j fr H
  exact key j fr H (fun n => n) ⟨j, fun n hn => hn⟩

theorem lim_iterU {α : Type} {B : Nat → Fr → Hp → (Ex → Fr → Hp → Option α) → Option α} {b : Fr → Hp → (Ex → Fr → Hp → Option α) → Option α}
    (hb : ∀ fr H K k, LimK K k → Lim (fun n => B n fr H (K n)) (b fr H k)) {m : Nat} {lv : List Nat} {K : Nat → Ex → Fr → Hp → Option α} {k : Ex → Fr → Hp → Option α} (hk : LimK K k) (fr : Fr) (H : Hp) :
    Lim (fun n => iter (B n) m lv (K n) n fr H) (iterU b m lv k fr H) := by
  intro z hz
  unfold iterU at hz
  split at hz
  · rename_i h
    obtain ⟨j, hj⟩ := h.choose_spec
    cases hz
    exact lim_iter hb hk j fr H _ hj
  · cases hz

theorem lim_exec {α : Type} (h : LimPhi Φ φ) (m : Nat) : ∀ (c : AC) (fr : Fr) (H : Hp) (K : Nat → Ex → Fr → Hp → Option α) (k : Ex → Fr → Hp → Option α), LimK K k → Lim (fun n => exec (Φ n) n m c fr H (K n)) (execU φ m c fr H k)
  | .skip, fr, H, K, k, hk => hk _ _ _
  | .reg ops dr, fr, H, K, k, hk => by
    simp only [exec, execU]
    cases dr with
    | false => simp only [cond_false]; exact Lim.seq (lim_runOps h ops fr H) (fun h => by rw [h]) (fun a ha => ⟨_, by rw [ha]; exact hk .normal a.1 a.2, fun n hn => by rw [hn]⟩)
    | true => simp only [cond_true]; exact Lim.seq (lim_runDraw h ops fr H) (fun h => by rw [h]) (fun a ha => ⟨_, by rw [ha]; exact hk .normal a.1 a.2, fun n hn => by rw [hn]⟩)
  | .seq a b, fr, H, K, k, hk => by
    simp only [exec, execU]
    refine lim_exec h m a fr H (fun n e fr H => match e with | .normal => exec (Φ n) n m b fr H (K n) | e => K n e fr H) _ (fun e fr' H' => ?_)
    cases e with
    | normal => exact lim_exec h m b fr' H' K k hk
    | exit i => exact hk _ _ _
    | ret => exact hk _ _ _
  | .cond c a b, fr, H, K, k, hk => by
    simp only [exec, execU]
    intro z hz
    split at hz
    · rename_i x hx
      simp only [hx]
      cases x with
      | true => simp only [cond_true] at hz ⊢; exact lim_exec h m a fr H K k hk z hz
      | false => simp only [cond_false] at hz ⊢; exact lim_exec h m b fr H K k hk z hz
    · cases hz
  | .block id c, fr, H, K, k, hk => by
    simp only [exec, execU]
    refine lim_exec h m c fr H (fun n e fr H => match e with | .exit i => if i = id then K n .normal fr H else K n (.exit i) fr H | e => K n e fr H) _ (fun e fr' H' => ?_)
    cases e with
    | normal => exact hk _ _ _
    | exit i => simp only; split <;> exact hk _ _ _
    | ret => exact hk _ _ _
  | .loop lv c, fr, H, K, k, hk => by
    simp only [exec, execU]
    exact lim_iterU (fun fr H K' k' hk' => lim_exec h m c fr H K' k' hk') hk fr H
  | .exit id, fr, H, K, k, hk => hk _ _ _
  | .ret, fr, H, K, k, hk => hk _ _ _

end

open Classical in
noncomputable def callU (prog : FuncId → Option AF) (pr : Phi) (f : FuncId) (args : List V) (H : Hp) : Option (V × Hp) :=
  if h : ∃ z, ∃ n0, ∀ n, n0 ≤ n → callN prog pr n f args H = some z then some h.choose else none

theorem callU_lim {prog : FuncId → Option AF} {pr : Phi} : LimPhi (fun n => callN prog pr n) (callU prog pr) := by
  intro f args H z hz
  unfold callU at hz
  split at hz
  · rename_i h
    cases hz
    exact h.choose_spec
  · cases hz

theorem callU_of {prog : FuncId → Option AF} {pr : Phi} {f : FuncId} {args : List V} {H : Hp} {z : V × Hp} {n0 : Nat} (h : ∀ n, n0 ≤ n → callN prog pr n f args H = some z) : callU prog pr f args H = some z := by
  have hx : ∃ z, ∃ n0, ∀ n, n0 ≤ n → callN prog pr n f args H = some z := ⟨z, n0, h⟩
  unfold callU
  rw [dif_pos hx]
  obtain ⟨n1, h1⟩ := hx.choose_spec
  have a1 := h1 (max n0 n1) (by omega)
  have a2 := h (max n0 n1) (by omega)
  rw [a1] at a2
  exact a2

/-- the one way to a call's value -/
theorem callU_enter {prog : FuncId → Option AF} {pr : Phi} {f : FuncId} {args : List V} {H : Hp} {z : V × Hp} {af : AF} (hf : prog f = some af)
    (h : execU (callU prog pr) H.length af.body (args ++ List.replicate (af.ntmps - args.length) (.tup [])) H (finish af H.length) = some z) : callU prog pr f args H = some z := by
  obtain ⟨n0, hn⟩ := lim_exec (α := V × Hp) callU_lim H.length af.body _ H (fun _ => finish af H.length) _ (fun e fr H => Lim.const _) z h
  refine callU_of (n0 := n0 + 1) fun n hle => ?_
  obtain ⟨q, rfl⟩ : ∃ q, n = q + 1 := ⟨n - 1, by omega⟩
  simp only [callN, hf]
  exact hn q (by omega)

/-- what is known of a function without a text here -/
theorem callU_pr {prog : FuncId → Option AF} {pr : Phi} {f : FuncId} {args : List V} {H : Hp} {z : V × Hp} (hf : prog f = none) (h : pr f args H = some z) : callU prog pr f args H = some z := by
  refine callU_of (n0 := 1) fun n hle => ?_
  obtain ⟨q, rfl⟩ : ∃ q, n = q + 1 := ⟨n - 1, by omega⟩
  simp only [callN, hf]
  exact h

theorem iterU_enter {α : Type} {body : Fr → Hp → (Ex → Fr → Hp → Option α) → Option α} (hb : ∀ fr H (K : Nat → Ex → Fr → Hp → Option α) k, LimK K k → Lim (fun n => body fr H (K n)) (body fr H k))
    {m : Nat} {lv : List Nat} {K : Ex → Fr → Hp → Option α} {fr : Fr} {H : Hp} {z : α}
    (h : body (canon m lv fr H).1 (canon m lv fr H).2 (fun e fr' H' => match e with | .normal => iterU body m lv K fr' H' | e => K e fr' H') = some z) : iterU body m lv K fr H = some z := by
  obtain ⟨n0, hn⟩ := hb _ _ (fun n e fr' H' => match e with | .normal => iter body m lv K n fr' H' | e => K e fr' H') _ (fun e fr' H' => by
    cases e with
    | normal => exact lim_iterU (B := fun _ => body) (K := fun _ => K) hb (fun e fr H => Lim.const _) fr' H'
    | exit i => exact Lim.const _
    | ret => exact Lim.const _) z h
  have hx : ∃ z k, iter body m lv K k fr H = some z := ⟨z, n0 + 1, by simp only [iter]; exact hn n0 (Nat.le_refl _)⟩
  unfold iterU
  rw [dif_pos hx]
  obtain ⟨k, hk⟩ := hx.choose_spec
  obtain ⟨n1, h1⟩ := lim_iter (B := fun _ => body) (K := fun _ => K) hb (fun e fr H => Lim.const _) k fr H _ hk
  obtain ⟨n2, h2⟩ := lim_iter (B := fun _ => body) (K := fun _ => K) hb (fun e fr H => Lim.const _) (n0 + 1) fr H z (by simp only [iter]; exact hn n0 (Nat.le_refl _))
  have a1 := h1 (max n1 n2) (by omega)
  have a2 := h2 (max n1 n2) (by omega)
  rw [a1] at a2
  exact a2

theorem lim_body {α : Type} (φ : Phi) (m : Nat) (c : AC) : ∀ fr H (K : Nat → Ex → Fr → Hp → Option α) k, LimK K k → Lim (fun n => execU φ m c fr H (K n)) (execU φ m c fr H k) := by
  induction c with
  | skip => intro fr H K k hk; exact hk _ _ _
  | reg ops dr =>
    intro fr H K k hk
    simp only [execU]
    exact Lim.seq (Lim.const (bif dr then runDraw φ ops fr H else runOps φ ops fr H)) (fun h => by rw [h]) (fun a ha => ⟨_, by rw [ha]; exact hk .normal a.1 a.2, fun n hn => by rw [hn]⟩)
  | seq a b iha ihb =>
    intro fr H K k hk
    simp only [execU]
    refine iha fr H (fun n e fr H => match e with | .normal => execU φ m b fr H (K n) | e => K n e fr H) _ (fun e fr' H' => ?_)
    cases e with
    | normal => exact ihb fr' H' K k hk
    | exit i => exact hk _ _ _
    | ret => exact hk _ _ _
  | cond c a b iha ihb =>
    intro fr H K k hk
    simp only [execU]
    intro z hz
    split at hz
    · rename_i x hx
      simp only [hx]
      cases x with
      | true => simp only [cond_true] at hz ⊢; exact iha fr H K k hk z hz
      | false => simp only [cond_false] at hz ⊢; exact ihb fr H K k hk z hz
    · cases hz
  | block id c ih =>
    intro fr H K k hk
    simp only [execU]
    refine ih fr H (fun n e fr H => match e with | .exit i => if i = id then K n .normal fr H else K n (.exit i) fr H | e => K n e fr H) _ (fun e fr' H' => ?_)
    cases e with
    | normal => exact hk _ _ _
    | exit i => simp only; split <;> exact hk _ _ _
    | ret => exact hk _ _ _
  | loop lv c ih =>
    intro fr H K k hk z hz
    simp only [execU] at hz ⊢
    unfold iterU at hz
    split at hz
    · rename_i hx
      cases hz
      obtain ⟨j, hj⟩ := hx.choose_spec
      obtain ⟨n0, hn⟩ := lim_iter (B := fun _ => execU φ m c) (K := K) ih hk j fr H _ hj
      refine ⟨n0, fun n hle => ?_⟩
      have hx2 : ∃ z k, iter (execU φ m c) m lv (K n) k fr H = some z := ⟨_, n, hn n hle⟩
      unfold iterU
      rw [dif_pos hx2]
      obtain ⟨k2, hk2⟩ := hx2.choose_spec
      obtain ⟨n1, h1⟩ := lim_iter (B := fun _ => execU φ m c) (K := fun _ => K n) ih (fun e fr H => Lim.const _) k2 fr H _ hk2
      obtain ⟨n2, h2⟩ := lim_iter (B := fun _ => execU φ m c) (K := fun _ => K n) ih (fun e fr H => Lim.const _) n fr H _ (hn n hle)
      have a1 := h1 (max n1 n2) (by omega)
      have a2 := h2 (max n1 n2) (by omega)
      rw [a1] at a2
      exact a2
    · cases hz
  | exit id => intro fr H K k hk; exact hk _ _ _
  | ret => intro fr H K k hk; exact hk _ _ _

theorem loop_enter {α : Type} {φ : Phi} {c : AC} {m : Nat} {lv : List Nat} {K : Ex → Fr → Hp → Option α} {fr : Fr} {H : Hp} {z : α}
    (h : execU φ m c (canon m lv fr H).1 (canon m lv fr H).2 (fun e fr' H' => match e with | .normal => iterU (execU φ m c) m lv K fr' H' | e => K e fr' H') = some z) : iterU (execU φ m c) m lv K fr H = some z :=
  iterU_enter (lim_body φ m c) h

theorem callU_good {P : Program} (hd : ∀ φ, Good P φ → DrawOK P φ) {prog : FuncId → Option AF} (hp : Made P prog) {pr : Phi} (hpr : Good P pr) : Good P (callU prog pr) := by
  refine ⟨fun f args H r H' h => ?_, fun f args H r H' h => ?_⟩
  · obtain ⟨n0, hn⟩ := callU_lim _ _ _ _ h
    exact (callN_good hd hp hpr n0).ok _ _ _ _ _ (hn n0 (Nat.le_refl _))
  · obtain ⟨n0, hn⟩ := callU_lim _ _ _ _ h
    exact (callN_good hd hp hpr n0).can _ _ _ _ _ (hn n0 (Nat.le_refl _))

end Go.Vi

namespace Go.Vi
set_option linter.unusedSimpArgs false
set_option linter.unusedVariables false

/-! ### frames as functions -/
abbrev Fn := Nat → V
def frameOf (N : Nat) (f : Fn) : Fr := (List.range N).map f
def upd (f : Fn) (d : Nat) (v : V) : Fn := fun i => if i = d then v else f i
def killF (lv : List Nat) (f : Fn) : Fn := fun i => if lv.contains i then f i else .any
def argF (args : List V) : Fn := fun i => args.getD i (.tup [])

theorem upd_apply (f : Fn) (d n : Nat) (v : V) : upd f d v n = if n = d then v else f n := rfl
theorem upd_same (f : Fn) (d : Nat) (v : V) : upd f d v d = v := by simp [upd]
theorem upd_ne (f : Fn) {d n : Nat} (v : V) (h : n ≠ d) : upd f d v n = f n := by simp [upd, h]
theorem killF_apply (lv : List Nat) (f : Fn) (n : Nat) : killF lv f n = if lv.contains n then f n else .any := rfl

theorem ev_t {N n : Nat} {f : Fn} (h : n < N) : X.ev (frameOf N f) (.t n) = some (f n) := by
  simp [X.ev, frameOf, h]
theorem ev_c (fr : Fr) (x : V) : X.ev fr (.c x) = some x := rfl
theorem put_some (N d : Nat) (f : Fn) (v : V) : put (frameOf N f) (some d) v = frameOf N (upd f d v) := by
  simp only [put, frameOf]
  apply List.ext_getElem
  · simp
  · intro i h1 h2
    simp only [List.length_map, List.length_range, List.length_set] at h1 h2
    simp only [List.getElem_set, List.getElem_map, List.getElem_range, upd]
    by_cases h : d = i
    · simp [h]
    · rw [if_neg h, if_neg (fun e => h e.symm)]
theorem put_none (fr : Fr) (v : V) : put fr none v = fr := rfl
theorem wanted_none (fr : Fr) : wantedV fr none = some true := rfl
theorem wanted_some {N n : Nat} {f : Fn} (w : Bool) (h : n < N) : wantedV (frameOf N f) (some (n, w)) = match f n with | .one (.d (.b x)) => some (x == w) | .tup [] => some false | _ => none := by
  have : (frameOf N f)[n]? = some (f n) := by simp [frameOf, h]
  simp only [wantedV, this]
  split <;> simp_all
theorem frame0 {args : List V} {N : Nat} (h : args.length ≤ N) : args ++ List.replicate (N - args.length) (.tup []) = frameOf N (argF args) := by
  apply List.ext_getElem
  · simp [frameOf]; omega
  · intro i h1 h2
    simp only [frameOf, List.getElem_map, List.getElem_range, argF]
    by_cases hi : i < args.length
    · rw [List.getElem_append_left hi]; simp [List.getD, hi]
    · rw [List.getElem_append_right (by omega)]; simp [List.getD, List.getElem?_eq_none (by omega : args.length ≤ i)]
theorem frame_get {N n : Nat} {f : Fn} (h : n < N) : (frameOf N f)[n]? = some (f n) := by simp [frameOf, h]
theorem killed_frame (lv : List Nat) (N : Nat) (f : Fn) : killed lv (frameOf N f) = frameOf N (killF lv f) := by
  apply List.ext_getElem
  · simp [killed, frameOf]
  · intro i h1 h2
    simp [killed, frameOf, killF]

/-! ### values without references -/
def L.pure : L → Bool
  | .p _ _ | .ap _ _ _ | .sl _ _ _ _ => false
  | .f _ caps => caps.isEmpty
  | _ => true
def V.pure : V → Bool
  | .one x => x.pure
  | .agg xs => xs.all L.pure
  | .tup xs => xs.all fun c => c.2.all L.pure
  | .any => true

theorem L.pure_d (x : D) : (L.d x).pure = true := Eq.trans rfl rfl
theorem L.pure_ip (x : List D) : (L.ip x).pure = true := Eq.trans rfl rfl
theorem L.pure_cl (x : List (List D)) : (L.cl x).pure = true := Eq.trans rfl rfl
theorem L.pure_ns : L.ns.pure = true := Eq.trans rfl rfl
theorem L.pure_np : L.np.pure = true := Eq.trans rfl rfl
theorem L.pure_nf : L.nf.pure = true := Eq.trans rfl rfl
theorem L.pure_f (f : FuncId) : (L.f f []).pure = true := Eq.trans rfl rfl
theorem Ls.pure_map (xs : List D) : (xs.map L.d).all L.pure = true := by simp [L.pure_d]
theorem V.pure_one (x : L) : (V.one x).pure = x.pure := Eq.trans rfl rfl
theorem V.pure_agg (xs : List L) : (V.agg xs).pure = xs.all L.pure := Eq.trans rfl rfl
theorem V.pure_tup (xs : List (Bool × List L)) : (V.tup xs).pure = xs.all fun c => c.2.all L.pure := Eq.trans rfl rfl
theorem V.pure_any : V.any.pure = true := Eq.trans rfl rfl
theorem L.pure_ren {x : L} (h : x.pure = true) (ρ : Nat → Option Nat) : x.ren ρ = x := by
  cases x with
  | f fn caps => simp [L.pure] at h; subst h; rfl
  | p => cases h
  | ap => cases h
  | sl => cases h
  | _ => rfl
theorem L.pure_refs {x : L} (h : x.pure = true) : x.refs = [] := by
  cases x with
  | f fn caps => simp [L.pure] at h; subst h; rfl
  | p => cases h
  | ap => cases h
  | sl => cases h
  | _ => rfl
theorem Ls.pure_ren {xs : List L} (h : xs.all L.pure = true) (ρ : Nat → Option Nat) : xs.map (L.ren ρ) = xs := by
  induction xs with
  | nil => rfl
  | cons x r ih => simp only [List.all_cons, Bool.and_eq_true] at h; simp [L.pure_ren h.1, ih h.2]
theorem Ls.pure_refs {xs : List L} (h : xs.all L.pure = true) : xs.flatMap L.refs = [] := by
  induction xs with
  | nil => rfl
  | cons x r ih => simp only [List.all_cons, Bool.and_eq_true] at h; simp [L.pure_refs h.1, ih h.2]
theorem V.pure_ren {v : V} (h : v.pure = true) (ρ : Nat → Option Nat) : v.ren ρ = v := by
  cases v with
  | one x => simp only [V.ren, L.pure_ren h]
  | agg xs => simp only [V.ren, Ls.pure_ren h]
  | tup xs =>
    simp only [V.ren, V.tup.injEq]
    simp only [V.pure] at h
    induction xs with
    | nil => rfl
    | cons c r ih => simp only [List.all_cons, Bool.and_eq_true] at h; simp only [List.map_cons, ih h.2, Ls.pure_ren h.1]
  | any => rfl
theorem V.pure_refs {v : V} (h : v.pure = true) : v.refs = [] := by
  cases v with
  | one x => simp only [V.refs, L.pure_refs h]
  | agg xs => simp only [V.refs, Ls.pure_refs h]
  | tup xs =>
    simp only [V.refs]
    simp only [V.pure] at h
    induction xs with
    | nil => rfl
    | cons c r ih => simp only [List.all_cons, Bool.and_eq_true] at h; simp only [List.flatMap_cons, ih h.2, Ls.pure_refs h.1, List.append_nil]
  | any => rfl

theorem reach_nil (H : Hp) (n : Nat) (seen : List Nat) : reach H n [] seen = seen := by cases n <;> rfl
theorem reach_empty : ∀ (n : Nat) (todo seen : List Nat), reach [] n todo seen = seen
  | 0, _, _ => rfl
  | n + 1, [], _ => rfl
  | n + 1, i :: todo, seen => by simp only [reach, List.getElem?_nil]; exact reach_empty n todo seen

/-- at a loop's head, where there are no boxes -/
theorem canon_data {N : Nat} {lv : List Nat} {f : Fn} (h : lv.all (fun i => (f i).pure) = true) : canon 0 lv (frameOf N f) [] = (frameOf N (killF lv f), []) := by
  have hp : ∀ i, (killF lv f i).pure = true := by
    intro i
    simp only [killF]
    split
    · rename_i hi; exact (List.all_eq_true.1 h) i (by simpa using hi)
    · rfl
  simp only [canon, killed_frame, idsM, List.length_nil, Nat.zero_min, List.range_zero, List.flatMap_nil, List.nil_append, reach_empty, canonH, List.map_nil]
  refine Prod.ext ?_ rfl
  simp only [frameOf, List.map_map]
  apply List.map_congr_left
  intro i _
  exact V.pure_ren (hp i) _

theorem refs_pure {args : List V} (h : args.all V.pure = true) : args.flatMap V.refs = [] := by
  induction args with
  | nil => rfl
  | cons v r ih => simp only [List.all_cons, Bool.and_eq_true] at h; simp [V.pure_refs h.1, ih h.2]
theorem ren_pure {args : List V} (h : args.all V.pure = true) (ρ : Nat → Option Nat) : args.map (V.ren ρ) = args := by
  induction args with
  | nil => rfl
  | cons v r ih => simp only [List.all_cons, Bool.and_eq_true] at h; simp [V.pure_ren h.1, ih h.2]

/-- a call that is handed no references, and that hands none back -/
theorem callIso_pure {φ : Phi} {f : FuncId} {args : List V} {H : Hp} {r : V} (h : args.all V.pure = true) (hr : φ f args [] = some (r, [])) (hp : r.pure = true) : callIso φ f args H = some (r, H) := by
  simp only [callIso, idsOf, refs_pure h, reach_nil, canonH, List.map_nil, ren_pure h, hr, V.pure_ren hp, List.length_nil, List.take_nil, List.drop_nil, setAll, List.append_nil]

theorem trim_pure {r : V} {H : Hp} (hp : r.pure = true) : trim 0 r H = (r, []) := by
  simp [trim, V.pure_refs hp]

/-! ### a walk by rewriting: what is still to do stands in a list -/
inductive KI where
  | s (b : AC) | k (id : Nat)

noncomputable def KS {α : Type} (φ : Phi) (m : Nat) (K : Ex → Fr → Hp → Option α) : List KI → Ex → Fr → Hp → Option α
  | [] => K
  | .s b :: st => fun e fr H => match e with | .normal => execU φ m b fr H (KS φ m K st) | e => KS φ m K st e fr H
  | .k id :: st => fun e fr H => match e with | .exit i => if i = id then KS φ m K st .normal fr H else KS φ m K st (.exit i) fr H | e => KS φ m K st e fr H
noncomputable def popU {α : Type} (φ : Phi) (m : Nat) (K : Ex → Fr → Hp → Option α) (e : Ex) (fr : Fr) (H : Hp) (st : List KI) : Option α := KS φ m K st e fr H
noncomputable def goU {α : Type} (φ : Phi) (m : Nat) (K : Ex → Fr → Hp → Option α) (c : AC) (fr : Fr) (H : Hp) (st : List KI) : Option α := execU φ m c fr H (KS φ m K st)
noncomputable def opsU {α : Type} (φ : Phi) (m : Nat) (K : Ex → Fr → Hp → Option α) (ops : List AOp) (fr : Fr) (H : Hp) (st : List KI) : Option α :=
  match runOps φ ops fr H with | some (fr, H) => popU φ m K .normal fr H st | none => none
/-- ways on, as data: nothing is looked into before it is taken -/
noncomputable def opB {α : Type} (φ : Phi) (m : Nat) (K : Ex → Fr → Hp → Option α) (x : Option (V × Hp)) (d : Option Nat) (r : List AOp) (fr : Fr) (st : List KI) : Option α :=
  match x with | some (v, H) => opsU φ m K r (put fr d v) H st | none => none
noncomputable def opBz {α : Type} (φ : Phi) (m : Nat) (K : Ex → Fr → Hp → Option α) (x : Option (V × Hp)) (d : Option Nat) (r : List AOp) (fr : Fr) (st : List KI) : Option α :=
  match x with | some (v, H) => opB φ m K (fzV v H) d r fr st | none => none
noncomputable def opW {α : Type} (φ : Phi) (m : Nat) (K : Ex → Fr → Hp → Option α) (w : Option Bool) (d : Option Nat) (a : A) (r : List AOp) (fr : Fr) (H : Hp) (st : List KI) : Option α :=
  match w with | none => none | some true => opB φ m K (a.run φ fr H) d r fr st | some false => opsU φ m K r (put fr d (.tup [])) H st
noncomputable def opWz {α : Type} (φ : Phi) (m : Nat) (K : Ex → Fr → Hp → Option α) (w : Option Bool) (d : Option Nat) (a : A) (r : List AOp) (fr : Fr) (H : Hp) (st : List KI) : Option α :=
  match w with | none => none | some true => opBz φ m K (a.run φ fr H) d r fr st | some false => opsU φ m K r (put fr d (.tup [])) H st
noncomputable def cdB {α : Type} (φ : Phi) (m : Nat) (K : Ex → Fr → Hp → Option α) (c : Option V) (a b : AC) (fr : Fr) (H : Hp) (st : List KI) : Option α :=
  match c with | some (.one (.d (.b true))) => goU φ m K a fr H st | some (.one (.d (.b false))) => goU φ m K b fr H st | _ => none
noncomputable def drawU {α : Type} (φ : Phi) (m : Nat) (K : Ex → Fr → Hp → Option α) (ops : List AOp) (lg : List Log) (fr : Fr) (H : Hp) (st : List KI) : Option α :=
  match runDrawB φ ops lg fr H with | some (fr, H) => popU φ m K .normal fr H st | none => none
def chk (o : AOp) (e : Log) (lg : List Log) : Bool := !o.fz && (o.pre.all (fun j => decide (j < lg.length)) && freeAll o.pre e 0 lg)
noncomputable def drC {α : Type} (φ : Phi) (m : Nat) (K : Ex → Fr → Hp → Option α) (c : Bool) (r : List AOp) (lg : List Log) (fr : Fr) (H : Hp) (st : List KI) : Option α :=
  match c with | true => drawU φ m K r lg fr H st | false => none
noncomputable def drB {α : Type} (φ : Phi) (m : Nat) (K : Ex → Fr → Hp → Option α) (k : Nat) (x : Option (V × Hp)) (o : AOp) (r : List AOp) (lg : List Log) (fr : Fr) (H : Hp) (st : List KI) : Option α :=
  match x with | some (v, H1) => drC φ m K (chk o ⟨k, o.dst, o.slots, touch k o fr H H1⟩ lg) r (lg ++ [⟨k, o.dst, o.slots, touch k o fr H H1⟩]) (put fr o.dst v) H1 st | none => none
noncomputable def drS {α : Type} (φ : Phi) (m : Nat) (K : Ex → Fr → Hp → Option α) (k : Nat) (o : AOp) (r : List AOp) (lg : List Log) (fr : Fr) (H : Hp) (st : List KI) : Option α :=
  drB φ m K k (drawStep φ o k true fr H) o r lg fr H st
noncomputable def drW {α : Type} (φ : Phi) (m : Nat) (K : Ex → Fr → Hp → Option α) (w : Option Bool) (o : AOp) (r : List AOp) (lg : List Log) (fr : Fr) (H : Hp) (st : List KI) : Option α :=
  match w with | none => none | some true => drS φ m K (o.a.kind fr) o r lg fr H st | some false => drB φ m K 0 (some (.tup [], H)) o r lg fr H st
def KL {α : Type} (R : Fr → Hp → Option α) (k : Ex → Fr → Hp → Option α) : Ex → Fr → Hp → Option α := fun e fr H => match e with | .normal => R fr H | e => k e fr H

section
variable {α : Type} {φ : Phi} {m : Nat} {K : Ex → Fr → Hp → Option α} {fr : Fr} {H : Hp} {st : List KI}
theorem go_skip : goU φ m K .skip fr H st = popU φ m K .normal fr H st := rfl
theorem go_seq (a b : AC) : goU φ m K (.seq a b) fr H st = goU φ m K a fr H (.s b :: st) := rfl
theorem go_reg (ops : List AOp) : goU φ m K (.reg ops false) fr H st = opsU φ m K ops fr H st := rfl
theorem go_draw (ops : List AOp) (h : statS ops [] = false) : goU φ m K (.reg ops true) fr H st = drawU φ m K ops [] fr H st := by
  simp only [goU, execU, drawU, cond_true, runDraw, h, cond_false]
  rfl
theorem draw_nil (lg : List Log) : drawU φ m K [] lg fr H st = popU φ m K .normal fr H st := rfl
theorem draw_cons (o : AOp) (r : List AOp) (lg : List Log) : drawU φ m K (o :: r) lg fr H st = drW φ m K (wantedV fr o.g) o r lg fr H st := by
  simp only [drawU, runDrawB, drW]
  cases wantedV fr o.g with
  | none => rfl
  | some w =>
    cases w with
    | false =>
      simp only [drB, cond_false, drawStep, chk]
      cases (!o.fz && (o.pre.all (fun j => decide (j < lg.length)) && freeAll o.pre ⟨0, o.dst, o.slots, touch 0 o fr H H⟩ 0 lg)) <;> rfl
    | true =>
      simp only [drS, drB, cond_true]
      cases drawStep φ o (o.a.kind fr) true fr H with
      | none => rfl
      | some q =>
        simp only [chk]
        cases (!o.fz && (o.pre.all (fun j => decide (j < lg.length)) && freeAll o.pre ⟨o.a.kind fr, o.dst, o.slots, touch (o.a.kind fr) o fr H q.2⟩ 0 lg)) <;> rfl
theorem drW_true (o : AOp) (r : List AOp) (lg : List Log) : drW φ m K (some true) o r lg fr H st = drS φ m K (o.a.kind fr) o r lg fr H st := rfl
theorem drW_false (o : AOp) (r : List AOp) (lg : List Log) : drW φ m K (some false) o r lg fr H st = drB φ m K 0 (some (.tup [], H)) o r lg fr H st := rfl
theorem drS_0 (o : AOp) (r : List AOp) (lg : List Log) : drS φ m K 0 o r lg fr H st = drB φ m K 0 (o.a.run φ fr H) o r lg fr H st := rfl
theorem drS_1 (o : AOp) (r : List AOp) (lg : List Log) : drS φ m K 1 o r lg fr H st = drB φ m K 1 (o.a.run φ fr H) o r lg fr H st := rfl
theorem drS_2 (o : AOp) (r : List AOp) (lg : List Log) : drS φ m K 2 o r lg fr H st = drB φ m K 2 (isoRun φ o fr H) o r lg fr H st := rfl
theorem drB_some (k : Nat) (v : V) (H1 : Hp) (o : AOp) (r : List AOp) (lg : List Log) : drB φ m K k (some (v, H1)) o r lg fr H st =
    drC φ m K (chk o ⟨k, o.dst, o.slots, touch k o fr H H1⟩ lg) r (lg ++ [⟨k, o.dst, o.slots, touch k o fr H H1⟩]) (put fr o.dst v) H1 st := rfl
theorem drC_true (r : List AOp) (lg : List Log) : drC φ m K true r lg fr H st = drawU φ m K r lg fr H st := rfl
theorem go_cond (c : X) (a b : AC) : goU φ m K (.cond c a b) fr H st = cdB φ m K (c.ev fr) a b fr H st := by
  simp only [goU, execU, cdB]
  rcases c.ev fr with _ | v
  · rfl
  · cases v with
    | one x => cases x with
      | d x => cases x with
        | b b => cases b <;> rfl
        | _ => rfl
      | _ => rfl
    | _ => rfl
theorem cdB_true (a b : AC) : cdB φ m K (some (.one (.d (.b true)))) a b fr H st = goU φ m K a fr H st := rfl
theorem cdB_false (a b : AC) : cdB φ m K (some (.one (.d (.b false)))) a b fr H st = goU φ m K b fr H st := rfl
theorem opB_some (d : Option Nat) (r : List AOp) (v : V) (H1 : Hp) : opB φ m K (some (v, H1)) d r fr st = opsU φ m K r (put fr d v) H1 st := rfl
theorem opBz_some (d : Option Nat) (r : List AOp) (v : V) (H1 : Hp) : opBz φ m K (some (v, H1)) d r fr st = opB φ m K (fzV v H1) d r fr st := rfl
theorem opW_true (d : Option Nat) (a : A) (r : List AOp) : opW φ m K (some true) d a r fr H st = opB φ m K (a.run φ fr H) d r fr st := rfl
theorem opW_false (d : Option Nat) (a : A) (r : List AOp) : opW φ m K (some false) d a r fr H st = opsU φ m K r (put fr d (.tup [])) H st := rfl
theorem opWz_true (d : Option Nat) (a : A) (r : List AOp) : opWz φ m K (some true) d a r fr H st = opBz φ m K (a.run φ fr H) d r fr st := rfl
theorem opWz_false (d : Option Nat) (a : A) (r : List AOp) : opWz φ m K (some false) d a r fr H st = opsU φ m K r (put fr d (.tup [])) H st := rfl
theorem go_block (id : Nat) (c : AC) : goU φ m K (.block id c) fr H st = goU φ m K c fr H (.k id :: st) := rfl
theorem go_exit (id : Nat) : goU φ m K (.exit id) fr H st = popU φ m K (.exit id) fr H st := rfl
theorem go_ret : goU φ m K .ret fr H st = popU φ m K .ret fr H st := rfl
theorem pop_nil (e : Ex) : popU φ m K e fr H [] = K e fr H := rfl
theorem pop_s (b : AC) : popU φ m K .normal fr H (.s b :: st) = goU φ m K b fr H st := rfl
theorem pop_se (b : AC) (i : Nat) : popU φ m K (.exit i) fr H (.s b :: st) = popU φ m K (.exit i) fr H st := rfl
theorem pop_sr (b : AC) : popU φ m K .ret fr H (.s b :: st) = popU φ m K .ret fr H st := rfl
theorem pop_k (id : Nat) : popU φ m K .normal fr H (.k id :: st) = popU φ m K .normal fr H st := rfl
theorem pop_ke (id i : Nat) : popU φ m K (.exit i) fr H (.k id :: st) = if i = id then popU φ m K .normal fr H st else popU φ m K (.exit i) fr H st := rfl
theorem pop_kr (id : Nat) : popU φ m K .ret fr H (.k id :: st) = popU φ m K .ret fr H st := rfl
theorem ops_nil : opsU φ m K [] fr H st = popU φ m K .normal fr H st := rfl
theorem ops_cons (d : Option Nat) (a : A) (g : Option (Nat × Bool)) (p : List Nat) (r : List AOp) : opsU φ m K (⟨d, a, g, p, false⟩ :: r) fr H st =
    opW φ m K (wantedV fr g) d a r fr H st := by
  simp only [opsU, runOps, AOp.step, opW, opB]
  cases wantedV fr g with
  | none => rfl
  | some w =>
    cases w with
    | false => rfl
    | true =>
      simp only [cond_true, cond_false]
      cases a.run φ fr H with
      | none => rfl
      | some q => rfl
theorem ops_consz (d : Option Nat) (a : A) (g : Option (Nat × Bool)) (p : List Nat) (r : List AOp) : opsU φ m K (⟨d, a, g, p, true⟩ :: r) fr H st =
    opWz φ m K (wantedV fr g) d a r fr H st := by
  simp only [opsU, runOps, AOp.step, opWz, opB, opBz]
  cases wantedV fr g with
  | none => rfl
  | some w =>
    cases w with
    | false => rfl
    | true =>
      simp only [cond_true, cond_false]
      cases a.run φ fr H with
      | none => rfl
      | some q =>
        obtain ⟨v, H1⟩ := q
        simp only
        cases fzV v H1 with
        | none => rfl
        | some q => rfl
theorem KL_normal (R : Fr → Hp → Option α) : KL R (KS φ m K st) .normal fr H = R fr H := rfl
theorem KL_exit (R : Fr → Hp → Option α) (i : Nat) : KL R (KS φ m K st) (.exit i) fr H = popU φ m K (.exit i) fr H st := rfl
theorem KL_ret (R : Fr → Hp → Option α) : KL R (KS φ m K st) .ret fr H = popU φ m K .ret fr H st := rfl
end

/-! ### loops -/
theorem loop_rule {α σ : Type} {φ : Phi} {m N : Nat} {lv : List Nat} {c : AC} {K : Ex → Fr → Hp → Option α} {st : List KI} (μ : σ → Nat) (I : σ → Fn → Hp → Prop) (Z : σ → α)
    (hs : ∀ s f H, I s f H → ∀ R : Fr → Hp → Option α, (∀ s' f' H', μ s' < μ s → I s' f' H' → R (frameOf N f') H' = some (Z s')) →
      goU φ m (KL R (KS φ m K st)) c (canon m lv (frameOf N f) H).1 (canon m lv (frameOf N f) H).2 [] = some (Z s)) :
    ∀ s f H, I s f H → goU φ m K (.loop lv c) (frameOf N f) H st = some (Z s) := by
  have key : ∀ k s f H, μ s < k → I s f H → goU φ m K (.loop lv c) (frameOf N f) H st = some (Z s) := by
    intro k
    induction k with
    | zero => intro s f H h; omega
    | succ k ih =>
      intro s f H hk hi
      simp only [goU, execU]
      apply loop_enter
      exact hs s f H hi _ (fun s' f' H' hlt hi' => by have := ih s' f' H' (by omega) hi'; simpa only [goU, execU] using this)
  exact fun s f H hi => key (μ s + 1) s f H (Nat.lt_succ_self _) hi

/-- what a function ends with -/
def fin (res : List RV) (keep : Bool) (m : Nat) (fr : Fr) (H : Hp) : Option (V × Hp) := match resV fr H res with
    | none => none
    | some r => match (bif keep then some (r, H) else fzV r H) with
      | some (r, H) => some (trim m r H)
      | none => none
def finK (res : List RV) (keep : Bool) (m : Nat) : Ex → Fr → Hp → Option (V × Hp) := fun e fr H => match e with
  | .exit _ => none
  | _ => fin res keep m fr H
theorem finK_normal (res : List RV) (keep : Bool) (m : Nat) (fr : Fr) (H : Hp) : finK res keep m .normal fr H = fin res keep m fr H := rfl
theorem finK_ret (res : List RV) (keep : Bool) (m : Nat) (fr : Fr) (H : Hp) : finK res keep m .ret fr H = fin res keep m fr H := rfl
theorem finish_eq (af : AF) (m : Nat) : finish af m = finK af.res af.keep m := by
  funext e fr H
  cases e <;> rfl

theorem enter {prog : FuncId → Option AF} {pr : Phi} {f : FuncId} {args : List V} {H : Hp} {z : V × Hp} {af : AF} (hf : prog f = some af) (hl : Nat.ble args.length af.ntmps = true)
    (h : goU (callU prog pr) H.length (finK af.res af.keep H.length) af.body (frameOf af.ntmps (argF args)) H [] = some z) : callU prog pr f args H = some z :=
  callU_enter hf (by rw [frame0 (Nat.le_of_ble_eq_true hl), finish_eq]; exact h)

theorem rv_t {N n : Nat} {f : Fn} (H : Hp) (h : n < N) : RV.get (frameOf N f) H (.t n) = some (f n) := by simp only [RV.get, frame_get h]
theorem rv_c (fr : Fr) (H : Hp) (ag : Option Nat) (n : Nat) : RV.get fr H (.c ag n) = match A.run (fun _ _ _ => none) fr H (.ld ag (.t n)) with | some (v, _) => some v | none => none := rfl
theorem fin_eq (res : List RV) (m : Nat) (fr : Fr) (H : Hp) : fin res false m fr H = match resV fr H res with
    | none => none
    | some r => match fzV r H with | some (r, H) => some (trim m r H) | none => none := by
  simp only [fin, cond_false]
theorem fin_keep (res : List RV) (m : Nat) (fr : Fr) (H : Hp) : fin res true m fr H = match resV fr H res with
    | none => none
    | some r => some (trim m r H) := by
  simp only [fin, cond_true]
theorem resV_nil (fr : Fr) (H : Hp) : resV fr H [] = some (.tup []) := rfl
theorem resV_one (fr : Fr) (H : Hp) (t : RV) : resV fr H [t] = t.get fr H := rfl
theorem resV_two (fr : Fr) (H : Hp) (t s : RV) (l : List RV) : resV fr H (t :: s :: l) = match resL fr H (t :: s :: l) with | some l => some (.tup l) | none => none := rfl
theorem resL_nil (fr : Fr) (H : Hp) : resL fr H [] = some [] := rfl
theorem resL_cons (fr : Fr) (H : Hp) (t : RV) (l : List RV) : resL fr H (t :: l) = match t.get fr H with
    | some v => (match resT v with | some x => (match resL fr H l with | some xs => some (x :: xs) | none => none) | none => none)
    | none => none := by
  simp only [resL]
  cases t.get fr H with
  | none => rfl
  | some v => simp only; cases resT v <;> cases resL fr H l <;> rfl

end Go.Vi

namespace Go.Vi

/-! ### tables of functions -/
def tabOf (l : List (Nat × AF)) (f : FuncId) : Option AF := match l with
  | [] => none
  | (k, a) :: r => if f = k then some a else tabOf r f
def MadeL (P : Program) (l : List (Nat × AF)) : Prop := ∀ k a, (k, a) ∈ l → ∃ an, compF P k an = some a
theorem made_nil (P : Program) : MadeL P [] := fun k a h => by cases h
theorem made_cons {P : Program} {k : Nat} {a : AF} {l : List (Nat × AF)} (an : Ann) (h : compF P k an = some a) (hl : MadeL P l) : MadeL P ((k, a) :: l) := by
  intro k' a' hm
  rcases List.mem_cons.1 hm with e | e
  · cases e; exact ⟨an, h⟩
  · exact hl _ _ e
theorem made_tab {P : Program} {l : List (Nat × AF)} (h : MadeL P l) : Made P (tabOf l) := by
  intro f af hf
  induction l with
  | nil => cases hf
  | cons c r ih =>
    obtain ⟨k, a⟩ := c
    simp only [tabOf] at hf
    split at hf
    · rename_i e; cases hf; subst e; exact h _ _ (List.mem_cons_self ..)
    · exact ih (fun k' a' hm => h _ _ (List.mem_cons_of_mem _ hm)) hf

/-! ### short words -/
abbrev vi (n : Int) : V := .one (.d (.i .i64 n))
abbrev vk (k : IntKind) (n : Int) : V := .one (.d (.i k n))
abbrev vb (b : Bool) : V := .one (.d (.b b))
abbrev vs (l : List UInt8) : V := .one (.d (.s l))
abbrev vl (rows : List (List D)) : V := .one (.d (.l rows))
abbrev va (r : List D) : V := .agg (r.map .d)
abbrev vf (f : FuncId) : V := .one (.f f [])
/-! ### short words for the printed tables -/
abbrev kc (n : Int) : X := .c (.one (.d (.i .i64 n)))
abbrev kb (b : Bool) : X := .c (.one (.d (.b b)))
abbrev ks (s : List UInt8) : X := .c (.one (.d (.s s)))
abbrev kx (x : L) : X := .c (.one x)
abbrev o (d : Nat) (a : A) : AOp := ⟨some d, a, none, [], false⟩
abbrev oz (d : Nat) (a : A) : AOp := ⟨some d, a, none, [], true⟩
abbrev on (a : A) : AOp := ⟨none, a, none, [], false⟩
abbrev og (d : Nat) (t : Nat) (w : Bool) (a : A) : AOp := ⟨some d, a, some (t, w), [], false⟩
abbrev od (d : Nat) (p : List Nat) (a : A) : AOp := ⟨some d, a, none, p, false⟩
abbrev ogd (d : Nat) (t : Nat) (w : Bool) (p : List Nat) (a : A) : AOp := ⟨some d, a, some (t, w), p, false⟩
abbrev rg (l : List AOp) : AC := .reg l false
abbrev rd (l : List AOp) : AC := .reg l true


/-! ### numbers and rows -/
theorem wrap64_of {n : Int} (h : -9223372036854775808 ≤ n) (h2 : n < 9223372036854775808) : IntKind.i64.wrap n = n := by
  rw [IntWalk.i64_left, IntWalk.wrap64_in n ⟨h, by omega⟩]
theorem row_at {α β : Type} (g : α → β) (q : List α) (k : Nat) (h : k < q.length) : (q.map g)[((k : Nat) : Int).toNat]? = some (g q[k]) := by simp [h]

theorem bounds_lo {n k : Nat} (h : k ≤ n) : bounds n n (some ((k : Nat) : Int)) none none = some (k, n, n) := by
  have h1 : (0 : Int) ≤ k ∧ (k : Int) ≤ n := by omega
  simp [bounds, h1, h]
theorem bounds_hi {n k : Nat} (h : k ≤ n) : bounds n n none (some ((k : Nat) : Int)) none = some (0, k, n) := by
  have h1 : (0 : Int) ≤ k ∧ (k : Int) ≤ n := by omega
  simp [bounds, h1, h]
theorem bounds_hm {n k : Nat} (h : k ≤ n) : bounds n n none (some ((k : Nat) : Int)) (some ((k : Nat) : Int)) = some (0, k, k) := by
  have h1 : (0 : Int) ≤ k ∧ (k : Int) ≤ n := by omega
  simp [bounds, h1, h]
theorem bounds_lh {n i j : Nat} (h : i ≤ j) (h' : j ≤ n) : bounds n n (some ((i : Nat) : Int)) (some ((j : Nat) : Int)) none = some (i, j, n) := by
  have h1 : (0 : Int) ≤ j ∧ (j : Int) ≤ n := by omega
  have h2 : (0 : Int) ≤ i ∧ (i : Int) ≤ j := by omega
  simp [bounds, h1, h2, h, h']
theorem okRows_map {α : Type} {g : α → List D} {sz : Nat} (h : ∀ x, (g x).length = sz) (q : List α) : okRows sz (q.map g) = true := by
  simp [okRows, h]

theorem resT_one (x : L) : resT (.one x) = some (false, [x]) := rfl
theorem resT_agg (xs : List L) : resT (.agg xs) = some (true, xs) := rfl
end Go.Vi

namespace Go.Vi
set_option linter.unusedSimpArgs false
set_option linter.unusedVariables false

/-! ### what an operation looks at -/
section
variable {φ : FuncId → List V → Hp → Option (V × Hp)} {fr fr2 : Fr} {H H' : Hp} {v : V}

theorem ev_congr {x : X} (h : ∀ t ∈ x.slot, fr[t]? = fr2[t]?) : x.ev fr = x.ev fr2 := by
  cases x with
  | t n => exact h n (by simp [X.slot])
  | c y => rfl
theorem evs_congr : ∀ {xs : List X}, (∀ t ∈ xs.flatMap X.slot, fr[t]? = fr2[t]?) → evs fr xs = evs fr2 xs
  | [], _ => rfl
  | x :: r, h => by
    simp only [evs]
    rw [ev_congr (x := x) (fun t ht => h t (by simp [ht])), evs_congr (xs := r) (fun t ht => h t (by rw [List.flatMap_cons]; exact List.mem_append_right _ ht))]
theorem evI_congr {x : X} (h : ∀ t ∈ x.slot, fr[t]? = fr2[t]?) : evI fr x = evI fr2 x := by simp only [evI, ev_congr h]
theorem evOpt_congr {x : Option X} (h : ∀ t ∈ (optX x).flatMap X.slot, fr[t]? = fr2[t]?) : evOpt fr x = evOpt fr2 x := by
  cases x with
  | none => rfl
  | some x => simp only [evOpt]; rw [ev_congr (x := x) (fun t ht => h t (by simp [optX, ht]))]
theorem evP_congr : ∀ {ps : List (Nat × Nat × X)}, (∀ t ∈ (ps.map fun q => q.2.2).flatMap X.slot, fr[t]? = fr2[t]?) → evP fr ps = evP fr2 ps
  | [], _ => rfl
  | (a, b, x) :: r, h => by
    simp only [evP]
    rw [ev_congr (x := x) (fun t ht => h t (by simp [ht])), evP_congr (ps := r) (fun t ht => h t (by rw [List.map_cons, List.flatMap_cons]; exact List.mem_append_right _ ht))]
theorem fillR_congr {sz : Nat} : ∀ {ps : List (Nat × X)} {rows : List (List D)} {H : Hp}, (∀ t ∈ (ps.map fun q => q.2).flatMap X.slot, fr[t]? = fr2[t]?) → fillR fr sz rows ps H = fillR fr2 sz rows ps H
  | [], _, _, _ => rfl
  | (k, x) :: r, rows, H, h => by
    simp only [fillR]
    rw [ev_congr (x := x) (fun t ht => h t (by simp [ht]))]
    have ih : ∀ rows H, fillR fr sz rows r H = fillR fr2 sz rows r H := fun rows H => fillR_congr (fun t ht => h t (by rw [List.map_cons, List.flatMap_cons]; exact List.mem_append_right _ ht))
    simp only [ih]

theorem run_congr {a : A} (h : ∀ t ∈ a.xs.flatMap X.slot, fr[t]? = fr2[t]?) : a.run φ fr H = a.run φ fr2 H := by
  cases a
  case own => rfl
  case alloc => rfl
  case mkf f xs => simp only [A.run]; rw [evs_congr (xs := xs) h]
  case call f xs => simp only [A.run]; rw [evs_congr (xs := xs) h]
  case callp f xs => simp only [A.run]; rw [evs_congr (xs := xs) h]
  case callz f xs => simp only [A.run]; rw [evs_congr (xs := xs) h]
  case callv x xs =>
    simp only [A.run]
    rw [ev_congr (x := x) (fun t ht => h t (by simp [A.xs, ht])), evs_congr (xs := xs) (fun t ht => h t (by simp only [A.xs, List.flatMap_cons]; exact List.mem_append_right _ ht))]
  case build zs ps => simp only [A.run]; rw [evP_congr (ps := ps) h]
  case bsl sz z ps => simp only [A.run]; rw [fillR_congr (ps := ps) h]
  case sls x lo hi =>
    simp only [A.run]
    rw [ev_congr (x := x) (fun t ht => h t (by simp [A.xs, ht])), evOpt_congr (x := lo) (fun t ht => h t (by simp only [A.xs, List.flatMap_cons, List.flatMap_append, List.mem_append]; exact .inr (.inl ht))),
      evOpt_congr (x := hi) (fun t ht => h t (by simp only [A.xs, List.flatMap_cons, List.flatMap_append, List.mem_append]; exact .inr (.inr ht)))]
  case slc sz x lo hi mx =>
    simp only [A.run]
    rw [ev_congr (x := x) (fun t ht => h t (by simp [A.xs, ht])), evOpt_congr (x := lo) (fun t ht => h t (by simp only [A.xs, List.flatMap_cons, List.flatMap_append, List.mem_append]; exact .inr (.inl (.inl ht)))),
      evOpt_congr (x := hi) (fun t ht => h t (by simp only [A.xs, List.flatMap_cons, List.flatMap_append, List.mem_append]; exact .inr (.inl (.inr ht)))),
      evOpt_congr (x := mx) (fun t ht => h t (by simp only [A.xs, List.flatMap_cons, List.flatMap_append, List.mem_append]; exact .inr (.inr ht)))]
  case pick a b c =>
    simp only [A.run]
    rw [ev_congr (x := a) (fun t ht => h t (by simp [A.xs, ht])), ev_congr (x := b) (fun t ht => h t (by simp [A.xs, ht])), ev_congr (x := c) (fun t ht => h t (by simp [A.xs, ht]))]
  case nilc k n x =>
    rcases k with _ | _ | k <;> simp only [A.run] <;> rw [ev_congr (x := x) (fun t ht => h t (by simp [A.xs, ht]))]
  case len s x =>
    cases s <;> simp only [A.run] <;> rw [ev_congr (x := x) (fun t ht => h t (by simp [A.xs, ht]))]
  case ixs x i => simp only [A.run]; rw [ev_congr (x := x) (fun t ht => h t (by simp [A.xs, ht])), evI_congr (x := i) (fun t ht => h t (by simp [A.xs, ht]))]
  case ia sz x i => simp only [A.run]; rw [ev_congr (x := x) (fun t ht => h t (by simp [A.xs, ht])), evI_congr (x := i) (fun t ht => h t (by simp [A.xs, ht]))]
  case iar l sz x i => simp only [A.run]; rw [ev_congr (x := x) (fun t ht => h t (by simp [A.xs, ht])), evI_congr (x := i) (fun t ht => h t (by simp [A.xs, ht]))]
  case mks s b z x y => simp only [A.run]; rw [evI_congr (x := x) (fun t ht => h t (by simp [A.xs, ht])), evI_congr (x := y) (fun t ht => h t (by simp [A.xs, ht]))]
  case st n x y => simp only [A.run]; rw [ev_congr (x := x) (fun t ht => h t (by simp [A.xs, ht])), ev_congr (x := y) (fun t ht => h t (by simp [A.xs, ht]))]
  case bin op x y => simp only [A.run]; rw [ev_congr (x := x) (fun t ht => h t (by simp [A.xs, ht])), ev_congr (x := y) (fun t ht => h t (by simp [A.xs, ht]))]
  case eqb n x y => simp only [A.run]; rw [ev_congr (x := x) (fun t ht => h t (by simp [A.xs, ht])), ev_congr (x := y) (fun t ht => h t (by simp [A.xs, ht]))]
  case eqa n k x y => simp only [A.run]; rw [ev_congr (x := x) (fun t ht => h t (by simp [A.xs, ht])), ev_congr (x := y) (fun t ht => h t (by simp [A.xs, ht]))]
  case mm m x y => simp only [A.run]; rw [ev_congr (x := x) (fun t ht => h t (by simp [A.xs, ht])), ev_congr (x := y) (fun t ht => h t (by simp [A.xs, ht]))]
  case app st s b x y => simp only [A.run]; rw [ev_congr (x := x) (fun t ht => h t (by simp [A.xs, ht])), ev_congr (x := y) (fun t ht => h t (by simp [A.xs, ht]))]
  case ext x i => simp only [A.run]; rw [ev_congr (x := x) (fun t ht => h t (by simp [A.xs, ht]))]
  all_goals (rename_i x; simp only [A.run]; rw [ev_congr (x := x) (fun t ht => h t (by simp [A.xs, ht]))])

theorem xk_congr {x : X} (h : ∀ t ∈ x.slot, fr[t]? = fr2[t]?) : xk fr x = xk fr2 x := by
  cases x with
  | t n => simp only [xk, xRefs, ev_congr (x := .t n) h]
  | c y => rfl
theorem kind_congr {a : A} (h : ∀ t ∈ a.xs.flatMap X.slot, fr[t]? = fr2[t]?) : a.kind fr = a.kind fr2 := by
  cases a <;> try rfl
  case ld ag x => exact xk_congr (x := x) fun t ht => h t (by simp [A.xs, ht])
  case b2s x => exact xk_congr (x := x) fun t ht => h t (by simp [A.xs, ht])
  case app st s b x y =>
    simp only [A.kind]
    rw [ev_congr (x := x) (fun t ht => h t (by simp [A.xs, ht])), xk_congr (x := y) (fun t ht => h t (by simp [A.xs, ht]))]
theorem xRefs_of {x : X} (h : x.ev fr = some v) : xRefs fr x = v.refs := by simp only [xRefs, h]
theorem xk_zero {x : X} (hk : xk fr x = 0) (h : x.ev fr = some v) : v.refs = [] := by
  cases x with
  | t n =>
    simp only [xk, xRefs_of h] at hk
    cases hw : v.refs with
    | nil => rfl
    | cons a b => rw [hw] at hk; simp at hk
  | c y =>
    simp only [X.ev, Option.some.injEq] at h
    subst h
    simp only [xk] at hk
    cases hw : y.refs with
    | nil => rfl
    | cons a b => rw [hw] at hk; simp at hk
theorem xk_one {x : X} (hk : xk fr x = 1) (h : x.ev fr = some v) : ∀ b ∈ v.refs, b ∈ slotRefs fr x.slot := by
  cases x with
  | t n =>
    simp only [X.ev] at h
    intro b hb
    simpa [slotRefs, X.slot, h] using hb
  | c y =>
    simp only [xk] at hk
    cases hh : y.refs.isEmpty <;> rw [hh] at hk <;> cases hk

theorem rowsAt_norefs {y : L} (hy : y.refs = []) {H2 : Hp} {sz : Nat} : rowsAt H2 sz y = rowsAt H sz y := by
  cases y with
  | d x => cases x <;> rfl
  | sl => simp [L.refs] at hy
  | _ => rfl

/-- an operation that looks at no box -/
theorem run_kind0 {a : A} (hk : a.kind fr = 0) (hr : a.run φ fr H = some (v, H')) : H' = H ∧ ∀ H2, a.run φ fr H2 = some (v, H2) := by
  cases a
  case own => simp [A.kind] at hk
  case alloc => simp [A.kind] at hk
  case box => simp [A.kind] at hk
  case bsl => simp [A.kind] at hk
  case st => simp [A.kind] at hk
  case mks => simp [A.kind] at hk
  case s2b => simp [A.kind] at hk
  case call => simp [A.kind] at hk
  case callz => simp [A.kind] at hk
  case callv => simp [A.kind] at hk
  case ld ag x =>
    simp only [A.kind] at hk
    simp only [A.run] at hr ⊢
    split at hr
    · rename_i i off hx
      have := xk_zero hk hx
      simp [V.refs, L.refs] at this
    · rename_i i k j hx
      have := xk_zero hk hx
      simp [V.refs, L.refs] at this
    · rename_i cs hx
      try simp only [hx]
      split at hr
      · split at hr
        · cases hr; exact ⟨rfl, fun H2 => by simp [*]⟩
        · cases hr
      · split at hr
        · cases hr; exact ⟨rfl, fun H2 => by simp [*]⟩
        · cases hr
    · cases hr
  case b2s x =>
    simp only [A.kind] at hk
    simp only [A.run] at hr ⊢
    split at hr
    · rename_i y hx
      try simp only [hx]
      have hy : y.refs = [] := by have := xk_zero hk hx; simpa only [V.refs] using this
      have hw : ∀ H2, rowsAt H2 1 y = rowsAt H 1 y := fun H2 => rowsAt_norefs hy
      simp only [hw]
      split at hr
      · split at hr
        · cases hr; exact ⟨rfl, fun H2 => by simp [*]⟩
        · cases hr
      · cases hr
    · cases hr
  case app str sz bytes s x =>
    simp only [A.kind] at hk
    split at hk
    · rename_i rows hs
      simp only [A.run] at hr ⊢
      simp only [hs] at hr ⊢
      cases hx : x.ev fr with
      | none => rw [hx] at hr; simp at hr
      | some w =>
        rw [hx] at hr
        have hy : w.refs = [] := xk_zero hk hx
        cases w with
        | one y =>
          have hw : ∀ H2, rowsAt H2 sz y = rowsAt H sz y := fun H2 => rowsAt_norefs (by simpa only [V.refs] using hy)
          simp only [hw] at hr ⊢
          split at hr
          · cases hr
          · rename_i news hn
            try simp only [hn]
            split at hr
            · cases hr; exact ⟨rfl, fun H2 => by simp [*]⟩
            · cases hr
        | agg xs => simp at hr
        | tup xs => simp at hr
        | any => simp at hr
    · simp at hk
  case callp f xs =>
    simp only [A.run] at hr ⊢
    split at hr
    · rename_i vs hvs
      try simp only [hvs]
      split at hr
      · rename_i ds hds
        try simp only [hds]
        split at hr
        · cases hr; exact ⟨rfl, fun H2 => by simp [*]⟩
        · cases hr
      · cases hr
    · cases hr
  case nilc k n x =>
    rcases k with _ | _ | k <;> simp only [A.run] at hr ⊢ <;> repeat' (split at hr)
    all_goals first | (cases hr; done) | (cases hr; exact ⟨rfl, fun H2 => by simp [*]⟩)
  case len s x =>
    cases s <;> simp only [A.run] at hr ⊢ <;> repeat' (split at hr)
    all_goals first | (cases hr; done) | (cases hr; exact ⟨rfl, fun H2 => by simp [*]⟩)
  all_goals
    simp only [A.run] at hr ⊢
    repeat' (split at hr)
    all_goals first | (cases hr; done) | (cases hr; exact ⟨rfl, fun H2 => by simp [*]⟩)

theorem xk_le (fr : Fr) (x : X) : xk fr x ≤ 2 := by
  cases x with
  | t n => simp only [xk]; cases (xRefs fr (.t n)).isEmpty <;> decide
  | c v => simp only [xk]; cases v.refs.isEmpty <;> decide
theorem kind_le2 (fr : Fr) (a : A) : a.kind fr ≤ 2 := by
  cases a <;> simp only [A.kind] <;> (try omega)
  case ld => exact xk_le _ _
  case b2s => exact xk_le _ _
  case app => split; exact xk_le _ _; omega

theorem run_same {a : A} (hk : a.kind fr ≠ 2) (hr : a.run φ fr H = some (v, H')) : H' = H := by
  by_cases h0 : a.kind fr = 0
  · exact (run_kind0 h0 hr).1
  cases a
  case ld ag x =>
    simp only [A.run] at hr
    repeat' (split at hr)
    all_goals first | (cases hr; done) | (cases hr; rfl)
  case b2s x =>
    simp only [A.run] at hr
    repeat' (split at hr)
    all_goals first | (cases hr; done) | (cases hr; rfl)
  case app str sz bytes s x =>
    simp only [A.kind] at hk
    split at hk
    · rename_i rows hs
      simp only [A.run] at hr
      simp only [hs] at hr
      cases hx : x.ev fr with
      | none => rw [hx] at hr; simp at hr
      | some w =>
        rw [hx] at hr
        cases w with
        | one y =>
          simp only at hr
          split at hr
          · cases hr
          · split at hr
            · cases hr; rfl
            · cases hr
        | agg xs => simp at hr
        | tup xs => simp at hr
        | any => simp at hr
    · exact absurd rfl hk
  all_goals first | exact absurd rfl hk | exact absurd rfl h0

theorem rowsAt_agree {y : L} {Y : Hp} {sz : Nat} {r : List (List D)} (h : rowsAt H sz y = some r) (hY : ∀ b ∈ y.refs, b < H.length → Y[b]? = H[b]?) : rowsAt Y sz y = some r := by
  cases y with
  | sl i z off n =>
    simp only [rowsAt] at h ⊢
    split at h
    · rename_i b hb
      rw [hY i (by simp [L.refs]) (List.getElem?_eq_some_iff.1 hb).1, hb]
      exact h
    · cases h
  | d x => cases x <;> exact h
  | _ => exact h

/-- an operation that reads boxes reads its slots' -/
theorem run_kind1 {a : A} (hk : a.kind fr = 1) (hr : a.run φ fr H = some (v, H')) {Y : Hp} (hY : ∀ b ∈ slotRefs fr (a.xs.flatMap X.slot), b < H.length → Y[b]? = H[b]?) : a.run φ fr Y = some (v, Y) := by
  cases a
  case ld ag x =>
    simp only [A.kind] at hk
    simp only [A.run] at hr ⊢
    have hxs : ∀ u, x.ev fr = some u → ∀ b ∈ u.refs, b < H.length → Y[b]? = H[b]? := fun u hu b hb hl => hY b (by simpa [A.xs] using xk_one hk hu b hb) hl
    split at hr
    · rename_i i off hx
      split at hr
      · rename_i xs hb
        have hYi := hxs _ hx i (by simp [V.refs, L.refs]) (List.getElem?_eq_some_iff.1 hb).1
        simp only [hx, hYi, hb]
        split at hr
        · split at hr
          · cases hr; simp [*]
          · cases hr
        · split at hr
          · cases hr; simp [*]
          · cases hr
      · cases hr
    · rename_i i k j hx
      split at hr
      · rename_i sz rows fz hb
        have hYi := hxs _ hx i (by simp [V.refs, L.refs]) (List.getElem?_eq_some_iff.1 hb).1
        simp only [hx, hYi, hb]
        split at hr
        · split at hr
          · split at hr
            · cases hr; simp [*]
            · cases hr
          · split at hr
            · cases hr; simp [*]
            · cases hr
        · cases hr
      · cases hr
    · rename_i cs hx
      try simp only [hx]
      split at hr
      · split at hr
        · cases hr; simp [*]
        · cases hr
      · split at hr
        · cases hr; simp [*]
        · cases hr
    · cases hr
  case b2s x =>
    simp only [A.kind] at hk
    simp only [A.run] at hr ⊢
    split at hr
    · rename_i y hx
      split at hr
      · rename_i rows hrow
        have := rowsAt_agree hrow (Y := Y) fun b hb hl => hY b (by simpa [A.xs] using xk_one hk hx b (by simpa [V.refs] using hb)) hl
        try simp only [hx, this]
        split at hr
        · cases hr; simp [*]
        · cases hr
      · cases hr
    · cases hr
  case app str sz bytes s x =>
    simp only [A.kind] at hk
    split at hk
    · rename_i rows hs
      simp only [A.run] at hr ⊢
      simp only [hs] at hr ⊢
      cases hx : x.ev fr with
      | none => rw [hx] at hr; simp at hr
      | some w =>
        rw [hx] at hr
        cases w with
        | one y =>
          have hw : ∀ r, rowsAt H sz y = some r → rowsAt Y sz y = some r := fun r h => rowsAt_agree h fun b hb hl => hY b (by
            have := xk_one hk hx b (by simpa [V.refs] using hb)
            simp only [A.xs, List.flatMap_cons, List.flatMap_nil, List.append_nil, slotRefs, List.flatMap_append, List.mem_append] at this ⊢
            exact .inr this) hl
          cases str with
          | true =>
            simp only [cond_true] at hr ⊢
            split at hr
            · cases hr
            · rename_i news hn
              try simp only [hn]
              split at hr
              · cases hr; simp [*]
              · cases hr
          | false =>
            simp only [cond_false] at hr ⊢
            split at hr
            · cases hr
            · rename_i news hn
              simp only [hw _ hn]
              split at hr
              · cases hr; simp [*]
              · cases hr
        | agg xs => simp at hr
        | tup xs => simp at hr
        | any => simp at hr
    · simp at hk
  all_goals simp [A.kind] at hk
end
section
variable {P : Program} {mu mu' mu1 : Mu} {S S1 : St} {TB : Nat → Prop} {w w' : World} {H H1 H2 : Hp} {ids : List Nat} {q : Nat}

def muQ (mu mu1 : Mu) (m q d : Nat) : Mu := fun i => if q ≤ i ∧ i < q + d then mu1 (m + (i - q)) else mu i

/-- what an isolated run leaves, put back into a heap where the places from q on are kept for its new boxes -/
theorem iso_merge (hi : Inv mu S TB w H) (hn : ids.Nodup) (hal : ∀ i ∈ ids, i < H.length) (hmu : ∀ i ∈ ids, (mu i).isSome = true)
    (hq : ∀ i, q ≤ i → i < q + (H1.length - ids.length) → mu i = none) (hqi : ∀ i ∈ ids, i < q ∨ q + (H1.length - ids.length) ≤ i)
    (hm1 : ids.length ≤ H1.length) (hl : H2.length = H.length) (hql : q + (H1.length - ids.length) ≤ H.length)
    (ex : Ext (TBof mu TB H ids) (muOf mu ids) S w mu1 S1 w') (i1 : Inv mu1 S1 (TBof mu TB H ids) w' H1)
    (g1 : ∀ (j i : Nat), ids[j]? = some i → H2[i]? = (H1[j]?).map (Box.ren (betaQ ids q (H1.length - ids.length))))
    (g2 : ∀ t, t < H1.length - ids.length → H2[q + t]? = (H1[ids.length + t]?).map (Box.ren (betaQ ids q (H1.length - ids.length))))
    (g3 : ∀ i, i ∉ ids → (i < q ∨ q + (H1.length - ids.length) ≤ i) → H2[i]? = H[i]?) :
    Ext TB mu S w (muQ mu mu1 ids.length q (H1.length - ids.length)) S1 w' ∧ Inv (muQ mu mu1 ids.length q (H1.length - ids.length)) S1 TB w' H2 ∧
      ∀ j i, betaQ ids q (H1.length - ids.length) j = some i → muQ mu mu1 ids.length q (H1.length - ids.length) i = mu1 j := by
  have hmu0 : ∀ j i, ids[j]? = some i → ∃ l, mu i = some l ∧ muOf mu ids j = some l ∧ mu1 j = some l := by
    intro j i hj
    obtain ⟨l, hl⟩ := Option.isSome_iff_exists.1 (hmu i (List.mem_of_getElem? hj))
    have h0 : muOf mu ids j = some l := by simp [muOf, hj, hl]
    exact ⟨l, hl, h0, ex.mu _ _ h0⟩
  have hβ : ∀ j i, betaQ ids q (H1.length - ids.length) j = some i → muQ mu mu1 ids.length q (H1.length - ids.length) i = mu1 j := by
    intro j i hj
    simp only [betaQ] at hj
    split at hj
    · rename_i hlt
      obtain ⟨l, h1, _, h3⟩ := hmu0 j i hj
      have := hqi i (List.mem_of_getElem? hj)
      simp only [muQ]
      rw [if_neg (by omega), h1, h3]
    · split at hj
      · cases hj
        simp only [muQ]
        rw [if_pos (by omega)]
        congr 1; omega
      · cases hj
  have hmu2 : ∀ i l, mu i = some l → muQ mu mu1 ids.length q (H1.length - ids.length) i = some l := by
    intro i l h
    simp only [muQ]
    rw [if_neg (fun hc => by rw [hq i hc.1 hc.2] at h; cases h), h]
  have e2 : Ext TB mu S w (muQ mu mu1 ids.length q (H1.length - ids.length)) S1 w' := ⟨hmu2, ex.ss, fun b q ht hs => ex.avoid b q (.inl ht) hs, ex.cell, fun b ht => ex.blk b (.inl ht), ex.size, ex.os, ex.tape, ex.output⟩
  refine ⟨e2, ?_, hβ⟩
  have hget : ∀ (i : Nat) (b : Box), H2[i]? = some b →
      (∃ (j : Nat) (b1 : Box), betaQ ids q (H1.length - ids.length) j = some i ∧ H1[j]? = some b1 ∧ b = b1.ren (betaQ ids q (H1.length - ids.length))) ∨ (i ∉ ids ∧ (i < q ∨ q + (H1.length - ids.length) ≤ i) ∧ H[i]? = some b) := by
    intro i b hb
    by_cases hm : i ∈ ids
    · left
      obtain ⟨j, hj, rfl⟩ := List.getElem_of_mem hm
      rw [g1 j ids[j] (by simp [hj]), Option.map_eq_some_iff] at hb
      obtain ⟨b1, hb1, rfl⟩ := hb
      exact ⟨j, b1, by simp [betaQ, hj], hb1, rfl⟩
    · by_cases hr : q ≤ i ∧ i < q + (H1.length - ids.length)
      · left
        have := g2 (i - q) (by omega)
        rw [show q + (i - q) = i by omega, hb] at this
        obtain ⟨b1, hb1, rfl⟩ := Option.map_eq_some_iff.1 this.symm
        exact ⟨ids.length + (i - q), b1, by simp only [betaQ]; rw [if_neg (by omega), if_pos (by omega)]; congr 1; omega, hb1, rfl⟩
      · right
        have hr' : i < q ∨ q + (H1.length - ids.length) ≤ i := by omega
        rw [g3 i hm hr'] at hb
        exact ⟨hm, hr', hb⟩
  have hTB : ∀ {j : Nat} {b1 : Box} {l : Loc} {B : Nat}, H1[j]? = some b1 → alive b1 = true → mu1 j = some l → l.blk = some B → ¬ TBof mu TB H ids B := by
    intro j b1 l B hb1 ha1 hl hB
    have := i1.box j b1 l hb1 hl
    cases b1 with
    | dead => cases ha1
    | cells xs =>
      obtain ⟨l', B', cur, el, g1, g2, g3, g4, g5, g6⟩ := this
      rw [hl] at g1; cases g1
      rw [hB] at g2; cases g2
      exact g5
    | arr sz rows fz =>
      obtain ⟨l', g1, g2, g3, g4, g5, g6⟩ := this
      rw [hl] at g1; cases g1
      rw [hB] at g6
      obtain ⟨cur, el, ff, k1, k2, k3, k4, k5, k6, k7, k8⟩ := g6
      exact k7
  have hold : ∀ i, i ∉ ids → (i < q ∨ q + (H1.length - ids.length) ≤ i) → muQ mu mu1 ids.length q (H1.length - ids.length) i = mu i := by
    intro i _ h
    simp only [muQ]; rw [if_neg (by omega)]
  refine ⟨fun i b l0 hb hl0 => ?_, fun i l hli => ?_, fun i l B h1 h2 => ?_, i1.sl, fun b ht => Nat.lt_of_lt_of_le (hi.tl b ht) ex.size, ?_⟩
  · rcases hget i b hb with ⟨j, b1, hj, hb1, rfl⟩ | ⟨hm, hr, hb1⟩
    · have hbj := hβ j i hj
      exact RelB.ren hβ hbj (fun l B _ _ _ h => fun ht => h (.inl ht)) (i1.box j b1 l0 hb1 (by rw [← hbj]; exact hl0))
    · cases hal1 : alive b with
      | false => cases b <;> first | trivial | cases hal1
      | true =>
        have hT : ∀ l B, mu i = some l → l.blk = some B → TBof mu TB H ids B := fun l B h1 h2 => .inr ⟨i, b, l, hm, hb1, hal1, h1, h2⟩
        have hl0' : mu i = some l0 := by rw [← hold i hm hr]; exact hl0
        exact (hi.box i b l0 hb1 hl0').keep e2 (fun l B h1 h2 => ex.blk B (hT l B h1 h2)) (fun l B q h1 h2 h3 => ex.avoid B q (hT l B h1 h2) h3)
  · simp only [muQ] at hli
    split at hli
    · omega
    · have := hi.dom _ _ hli; omega
  · simp only [muQ] at h1
    split at h1
    · exact i1.old _ l B h1 h2
    · exact Nat.lt_of_lt_of_le (hi.old i l B h1 h2) ex.size
  · have key : ∀ (p : Nat) (b : Box) (l : Loc) (B : Nat), H2[p]? = some b → alive b = true → muQ mu mu1 ids.length q (H1.length - ids.length) p = some l → l.blk = some B →
        (∃ (j : Nat) (b1 : Box), betaQ ids q (H1.length - ids.length) j = some p ∧ H1[j]? = some b1 ∧ alive b1 = true ∧ mu1 j = some l) ∨ (p ∉ ids ∧ H[p]? = some b ∧ mu p = some l) := by
      intro p b l B hb hab hl hB
      rcases hget p b hb with ⟨j, b1, hj, hb1, rfl⟩ | ⟨hm, hr, hb1⟩
      · exact .inl ⟨j, b1, hj, hb1, by rw [alive_ren] at hab; exact hab, by rw [← hβ j p hj]; exact hl⟩
      · exact .inr ⟨hm, hb1, by rw [← hold p hm hr]; exact hl⟩
    intro p r bp br lp lr B hpq hbp hbq hap haq hmp hmq hBp hBq
    rcases key p bp lp B hbp hap hmp hBp with ⟨j, b1, hj, hb1, ha1, hl1⟩ | ⟨hm1', hb1, hl1⟩
    · rcases key r br lr B hbq haq hmq hBq with ⟨k, b2, hk, hb2, ha2, hl2⟩ | ⟨hm2, hb2, hl2⟩
      · have hjk : j ≠ k := by intro e; subst e; rw [hj] at hk; cases hk; exact hpq rfl
        exact i1.one j k b1 b2 lp lr B hjk hb1 hb2 ha1 ha2 hl1 hl2 hBp hBq
      · exact hTB hb1 ha1 hl1 hBp (.inr ⟨r, br, lr, hm2, hb2, haq, hl2, hBq⟩)
    · rcases key r br lr B hbq haq hmq hBq with ⟨k, b2, hk, hb2, ha2, hl2⟩ | ⟨hm2, hb2, hl2⟩
      · exact hTB hb2 ha2 hl2 hBq (.inr ⟨p, bp, lp, hm1', hb1, hap, hl1, hBp⟩)
      · exact hi.one p r bp br lp lr B hpq hb1 hb2 hap haq hl1 hl2 hBp hBq
end
section
variable {P : Program} {φ : FuncId → List V → Hp → Option (V × Hp)} {mu : Mu} {S : St} {TB : Nat → Prop} {w : World} {H H1 H2 : Hp} {fr : Fr} {a : Act} {r : V} {o : Oper} {ids : List Nat} {q : Nat}

theorem RelFr.ren {mu' : Mu} {ρ : Nat → Option Nat} (h : ∀ i j, ρ i = some j → mu' j = mu i) (hf : RelFr mu S w fr a) : RelFr mu' S w (fr.map (V.ren ρ)) a := by
  refine ⟨by simp [hf.size], fun t v ht => ?_⟩
  rw [List.getElem?_map, Option.map_eq_some_iff] at ht
  obtain ⟨u, hu, rfl⟩ := ht
  obtain ⟨x, hx, hr⟩ := hf.rel t u hu
  exact ⟨x, hx, hr.ren h⟩

/-- an isolated operation is sound, wherever its new boxes are put -/
theorem iso_ok (hg : Good P φ) {fl : Nat} {ao : A} (hc : compOp P fl o.op = some ao) (hi : Inv mu S TB w H) (hf : RelFr mu S w fr a)
    (hn : ids.Nodup) (hal : ∀ i ∈ ids, i < H.length) (hmu : ∀ i ∈ ids, (mu i).isSome = true)
    (hr : ao.run φ (fr.map (V.ren (place ids))) (canonH H ids) = some (r, H1))
    (hq : ∀ i, q ≤ i → i < q + (H1.length - ids.length) → mu i = none) (hqi : ∀ i ∈ ids, i < q ∨ q + (H1.length - ids.length) ≤ i)
    (hl : H2.length = H.length) (hql : q + (H1.length - ids.length) ≤ H.length)
    (g1 : ids.length ≤ H1.length → ∀ (j i : Nat), ids[j]? = some i → H2[i]? = (H1[j]?).map (Box.ren (betaQ ids q (H1.length - ids.length))))
    (g2 : ids.length ≤ H1.length → ∀ t, t < H1.length - ids.length → H2[q + t]? = (H1[ids.length + t]?).map (Box.ren (betaQ ids q (H1.length - ids.length))))
    (g3 : ∀ i, i ∉ ids → (i < q ∨ q + (H1.length - ids.length) ≤ i) → H2[i]? = H[i]?) :
    ∀ (next : Act → World → Prop) (Q : Exit → Act → World → Prop),
      (∀ x w' mu1 S', Ext TB mu S w (muQ mu mu1 ids.length q (H1.length - ids.length)) S' w' → Inv (muQ mu mu1 ids.length q (H1.length - ids.length)) S' TB w' H2 →
        RelV (muQ mu mu1 ids.length q (H1.length - ids.length)) S' w' (r.ren (betaQ ids q (H1.length - ids.length))) x → next (a.put o.dst x) w') → o.wp P a w next Q := by
  intro next Q hk
  refine op_ok hg hc (hi.canon hn hal) (hf.ren muOf_place) hr next Q fun x w' mu1 S1 ex i1 rx => ?_
  have hm1 : ids.length ≤ H1.length := by
    rcases Nat.eq_zero_or_pos ids.length with h | h
    · omega
    · obtain ⟨l, hl⟩ := Option.isSome_iff_exists.1 (hmu ids[ids.length - 1] (by simp))
      have := i1.dom (ids.length - 1) l (ex.mu _ _ (by simp only [muOf]; rw [List.getElem?_eq_getElem (by omega)]; exact hl))
      omega
  obtain ⟨e2, i2, hβ⟩ := iso_merge hi hn hal hmu hq hqi hm1 hl hql ex i1 (g1 hm1) (g2 hm1) g3
  exact hk x w' mu1 S1 e2 i2 (rx.ren hβ)

theorem iso_facts {o : AOp} {v : V} {H' : Hp} (h : isoRun φ o fr H = some (v, H')) : ∃ r H1, o.a.run φ ((killed o.slots fr).map (V.ren (place (isoIds o fr H)))) (canonH H (isoIds o fr H)) = some (r, H1) ∧
    v = r.ren (betaQ (isoIds o fr H) H.length (H1.length - (isoIds o fr H).length)) ∧ H'.length = H.length + (H1.length - (isoIds o fr H).length) ∧
    (∀ i, i ∉ isoIds o fr H → i < H.length → H'[i]? = H[i]?) ∧
    ((isoIds o fr H).length ≤ H1.length → ∀ (j i : Nat), (isoIds o fr H)[j]? = some i → H'[i]? = (H1[j]?).map (Box.ren (betaQ (isoIds o fr H) H.length (H1.length - (isoIds o fr H).length)))) ∧
    ((isoIds o fr H).length ≤ H1.length → ∀ t, t < H1.length - (isoIds o fr H).length → H'[H.length + t]? = (H1[(isoIds o fr H).length + t]?).map (Box.ren (betaQ (isoIds o fr H) H.length (H1.length - (isoIds o fr H).length)))) := by
  simp only [isoRun] at h
  obtain ⟨hn, hal⟩ : (isoIds o fr H).Nodup ∧ ∀ i ∈ isoIds o fr H, ∃ b, H[i]? = some b ∧ alive b = true := idsOf_spec H _
  generalize isoIds o fr H = ids at *
  split at h
  · cases h
  · rename_i r H1 hr
    cases h
    refine ⟨r, H1, hr, rfl, ?_, fun i hi hl => ?_, fun hm j i hj => ?_, fun hm t ht => ?_⟩
    · rw [List.length_append, setAll_length]; simp
    · rw [List.getElem?_append_left (by rw [setAll_length]; exact hl), setAll_other _ _ _ _ hi]
    · obtain ⟨b, hb, _⟩ := hal i (List.mem_of_getElem? hj)
      have hlt := (List.getElem?_eq_some_iff.1 hb).1
      have hjl := (List.getElem?_eq_some_iff.1 hj).1
      rw [List.getElem?_append_left (by rw [setAll_length]; exact hlt), setAll_at ids H _ j i hn (by simp; omega) hj hlt, List.getElem?_map, List.getElem?_take, if_pos hjl]
    · rw [List.getElem?_append_right (by rw [setAll_length]; omega), setAll_length, List.getElem?_map, List.getElem?_drop]
      congr 3; omega

/-! ### the dummy of a box that is not made yet -/
def dummy : Loc := ⟨none, 0, 0, 1⟩
def muP (mu : Mu) (n : Nat) : Mu := fun i => match mu i with | some l => some l | none => if i < n then some dummy else none
def deadP (mu : Mu) (H : Hp) : Hp := H.mapIdx fun i b => match mu i with | some _ => b | none => .dead

theorem muP_some {n i : Nat} {l : Loc} (h : mu i = some l) : muP mu n i = some l := by simp [muP, h]
theorem muP_back {n i : Nat} {l : Loc} (h : muP mu n i = some l) : mu i = some l ∨ (mu i = none ∧ l = dummy) := by
  simp only [muP] at h
  split at h
  · rename_i l' hl; cases h; exact .inl hl
  · rename_i hl
    split at h
    · cases h; exact .inr ⟨hl, rfl⟩
    · cases h
theorem deadP_get {i : Nat} (h : (mu i).isSome = true) : (deadP mu H)[i]? = H[i]? := by
  obtain ⟨l, hl⟩ := Option.isSome_iff_exists.1 h
  simp only [deadP, List.getElem?_mapIdx, hl]
  cases H[i]? <;> rfl
theorem deadP_none {i : Nat} {b : Box} (h : mu i = none) (hb : (deadP mu H)[i]? = some b) : b = .dead := by
  simp only [deadP, List.getElem?_mapIdx, h, Option.map_eq_some_iff] at hb
  obtain ⟨_, _, rfl⟩ := hb
  rfl

theorem ptr_back {n i off : Nat} {x : Value} (h : ptrTo (muP mu n) i off x) : ptrTo mu i off x := by
  obtain ⟨l, B, h1, h2, h3⟩ := h
  rcases muP_back h1 with h1 | ⟨_, rfl⟩
  · exact ⟨l, B, h1, h2, h3⟩
  · cases h2
theorem relL_back {n : Nat} {x : L} {v : Value} (h : RelL (muP mu n) S w x v) : RelL mu S w x v := by
  cases x with
  | p i off => exact ptr_back h
  | ap i k j =>
    obtain ⟨l, B, h1, h2, h3⟩ := h
    rcases muP_back h1 with h1 | ⟨_, rfl⟩
    · exact ⟨l, B, h1, h2, h3⟩
    · cases h2
  | sl i z off n =>
    obtain ⟨l, h1, h2, h3, h4⟩ := h
    rcases muP_back h1 with h1 | ⟨_, rfl⟩
    · exact ⟨l, h1, h2, h3, h4⟩
    · obtain ⟨_, _, _, h5⟩ := h4
      have := h5.2.2.2
      cases this
  | f fn caps =>
    obtain ⟨vs, h1, h2, h3⟩ := h
    exact ⟨vs, h1, h2, fun j i hj => let ⟨x, hx, hp⟩ := h3 j i hj; ⟨x, hx, ptr_back hp⟩⟩
  | d x => exact h
  | ip cs => exact h
  | np => exact h
  | nf => exact h
  | ns => exact h
  | cl rows => exact h
  | nn rows => exact h
  | u => exact h
theorem relLs_back {n : Nat} {x : List L} {v : List Value} (h : RelLs (muP mu n) S w x v) : RelLs mu S w x v :=
  ⟨h.1, fun j x hj => let ⟨v, hv, hr⟩ := h.2 j x hj; ⟨v, hv, relL_back hr⟩⟩
theorem relV_back {n : Nat} {x : V} {v : Value} (h : RelV (muP mu n) S w x v) : RelV mu S w x v := by
  cases x with
  | one x => exact relL_back (x := x) h
  | agg xs => obtain ⟨cs, h1, h2⟩ := h; exact ⟨cs, h1, relLs_back h2⟩
  | tup xs =>
    obtain ⟨vs, h1, h2, h3⟩ := h
    refine ⟨vs, h1, h2, fun j c hj => ?_⟩
    obtain ⟨x, hx, hr⟩ := h3 j c hj
    refine ⟨x, hx, ?_⟩
    obtain ⟨t, xs⟩ := c
    cases t with
    | true => obtain ⟨cs, h1, h2⟩ := hr; exact ⟨cs, h1, relLs_back h2⟩
    | false => obtain ⟨x, h1, h2⟩ := hr; exact ⟨x, h1, relL_back h2⟩
  | any => trivial
theorem relB_back {n i : Nat} {b : Box} {l : Loc} (hl : mu i = some l) (h : RelB (muP mu n) S TB w i b) : RelB mu S TB w i b := by
  have hp : muP mu n i = some l := muP_some hl
  cases b with
  | dead => trivial
  | cells xs =>
    obtain ⟨l', B, cur, e, h1, h2, h3, h4, h5⟩ := h
    rw [hp] at h1; cases h1
    exact ⟨l, B, cur, e, hl, h2, h3, relLs_back h4, h5⟩
  | arr sz rows fz =>
    obtain ⟨l', h1, h2⟩ := h
    rw [hp] at h1; cases h1
    exact ⟨l, hl, h2⟩

/-- an operation that changes no box makes none -/
theorem kind01_ok (hg : Good P φ) {fl : Nat} {ao : A} (hc : compOp P fl o.op = some ao) {X : Hp} (hi : Inv mu S TB w X) (hf : RelFr mu S w fr a) {v : V}
    (hk : ao.kind fr ≠ 2) (hr : ao.run φ fr X = some (v, X)) :
    ∀ (next : Act → World → Prop) (Q : Exit → Act → World → Prop),
      (∀ x w' S', Ext TB mu S w mu S' w' → Inv mu S' TB w' X → RelV mu S' w' v x → next (a.put o.dst x) w') → o.wp P a w next Q := by
  intro next Q hn
  have hfr : RelFr (muP mu X.length) S w fr a := ⟨hf.size, fun t v ht => let ⟨x, hx, hr⟩ := hf.rel t v ht; ⟨x, hx, hr.ext (TB := TB) ⟨fun _ _ h => muP_some h, fun _ _ h => h, fun _ _ _ h => h, fun _ _ _ => rfl, fun _ _ => rfl, Nat.le_refl _, rfl, rfl, rfl⟩⟩⟩
  have hll : (deadP mu X).length = X.length := by simp [deadP]
  have hi2 : Inv (muP mu X.length) S TB w (deadP mu X) := by
    have e0 : Ext TB mu S w (muP mu X.length) S w := ⟨fun _ _ h => muP_some h, fun _ _ h => h, fun _ _ _ h => h, fun _ _ _ => rfl, fun _ _ => rfl, Nat.le_refl _, rfl, rfl, rfl⟩
    refine ⟨fun i b l hb hl => ?_, fun i l hl => ?_, fun i l B h1 h2 => ?_, hi.sl, hi.tl, fun i j bi bj li lj B hij hbi hbj hai haj hmi hmj h1 h2 => ?_⟩
    · rcases muP_back hl with h | ⟨h, rfl⟩
      · rw [deadP_get (by rw [h]; rfl)] at hb
        exact (hi.box i b l hb h).keep e0 (fun _ _ _ _ => rfl) (fun _ _ _ _ _ h => h)
      · rw [deadP_none h hb]; trivial
    · rw [hll]
      simp only [muP] at hl
      split at hl
      · rename_i h; exact hi.dom _ _ h
      · split at hl
        · assumption
        · cases hl
    · rcases muP_back h1 with h | ⟨_, rfl⟩
      · exact hi.old i l B h h2
      · cases h2
    · rcases muP_back hmi with h | ⟨_, rfl⟩
      · rcases muP_back hmj with h' | ⟨_, rfl⟩
        · rw [deadP_get (by rw [h]; rfl)] at hbi
          rw [deadP_get (by rw [h']; rfl)] at hbj
          exact hi.one i j bi bj li lj B hij hbi hbj hai haj h h' h1 h2
        · cases h2
      · cases h1
  have hr2 : ao.run φ fr (deadP mu X) = some (v, deadP mu X) := by
    have h01 : ao.kind fr = 0 ∨ ao.kind fr = 1 ∨ 2 < ao.kind fr := by omega
    rcases h01 with h | h | h
    · exact (run_kind0 h hr).2 _
    · refine run_kind1 h hr fun b hb _ => deadP_get ?_
      simp only [slotRefs, List.mem_flatMap] at hb
      obtain ⟨t, _, hb⟩ := hb
      cases ht : fr[t]? with
      | none => rw [ht] at hb; simp at hb
      | some u =>
        rw [ht] at hb
        obtain ⟨x, _, hx⟩ := hf.rel t u ht
        exact hx.refs b hb
    · exact absurd (Nat.lt_of_lt_of_le h (kind_le2 fr ao)) (Nat.lt_irrefl _)
  refine op_ok hg hc hi2 hfr hr2 next Q fun x w' mu' S' ex i1 rx => ?_
  have hmu : mu' = muP mu X.length := by
    funext i
    cases h : muP mu X.length i with
    | some l => exact ex.mu i l h
    | none =>
      cases h2 : mu' i with
      | none => rfl
      | some l =>
        have := i1.dom i l h2
        rw [hll] at this
        simp only [muP] at h
        split at h
        · cases h
        · rw [if_pos this] at h; cases h
  subst hmu
  refine hn x w' S' ⟨fun _ _ h => h, ex.ss, ex.avoid, ex.cell, ex.blk, ex.size, ex.os, ex.tape, ex.output⟩ ⟨fun i b l hb hl => ?_, hi.dom, fun i l B h1 h2 => i1.old i l B (muP_some h1) h2, i1.sl, i1.tl, hi.one⟩ (relV_back rx)
  exact relB_back hl (i1.box i b l (by rw [deadP_get (by rw [hl]; rfl)]; exact hb) (muP_some hl))
end
end Go.Vi

namespace Go.Vi
set_option linter.unusedSimpArgs false
set_option linter.unusedVariables false

section
variable {P : Program} {φ : FuncId → List V → Hp → Option (V × Hp)}

/-! ### the text's own run, step by step -/
structure StepAt (φ : FuncId → List V → Hp → Option (V × Hp)) (F : Nat → Fr) (G : Nat → Hp) (E : Nat → Log) (k : Nat) (o : AOp) : Prop where
  ex : ∃ (b : Bool) (v : V), wantedV (F k) o.g = some b ∧ (E k).kind = (bif b then o.a.kind (F k) else 0) ∧ F (k + 1) = put (F k) o.dst v ∧
    drawStep φ o (E k).kind b (F k) (G k) = some (v, G (k + 1))
  tch : (E k).tch = touch (E k).kind o (F k) (G k) (G (k + 1))
  dst : (E k).dst = o.dst
  rds : (E k).rds = o.slots
  fz : o.fz = false
  pre : ∀ j ∈ o.pre, j < k
  free : ∀ j, j < k → j ∈ o.pre ∨ (E j).free (E k) = true

theorem freeAll_spec {pre : List Nat} {e : Log} : ∀ {l : List Log} {i : Nat}, freeAll pre e i l = true → ∀ (j : Nat) (x : Log), l[j]? = some x → (i + j) ∈ pre ∨ x.free e = true
  | [], i, h, j, x, hx => by simp at hx
  | y :: r, i, h, j, x, hx => by
    simp only [freeAll, Bool.and_eq_true, Bool.or_eq_true] at h
    cases j with
    | zero =>
      simp at hx; subst hx
      rcases h.1 with h1 | h1
      · exact .inl (by simpa using h1)
      · exact .inr h1
    | succ j =>
      have := freeAll_spec h.2 j x (by simpa using hx)
      rwa [show i + 1 + j = i + (j + 1) by omega] at this

theorem trace_of {fr' : Fr} {H' : Hp} : ∀ (r : List AOp) (lg : List Log) (fr : Fr) (H : Hp), runDrawB φ r lg fr H = some (fr', H') →
    ∃ (F : Nat → Fr) (G : Nat → Hp) (E : Nat → Log), F lg.length = fr ∧ G lg.length = H ∧ F (lg.length + r.length) = fr' ∧ G (lg.length + r.length) = H' ∧
      (∀ (j : Nat) (l : Log), lg[j]? = some l → E j = l) ∧ ∀ (k : Nat) (o : AOp), r[k]? = some o → StepAt φ F G E (lg.length + k) o
  | [], lg, fr, H, h => by
    simp only [runDrawB] at h
    cases h
    exact ⟨fun _ => fr', fun _ => H', fun j => lg.getD j ⟨0, none, [], []⟩, rfl, rfl, rfl, rfl, fun j l hj => by simp [List.getD, hj], fun k o hk => by simp at hk⟩
  | o :: r, lg, fr, H, h => by
    simp only [runDrawB] at h
    split at h
    · cases h
    · rename_i b hb
      split at h
      · rename_i v H1 hrun
        cases hchk : (!o.fz && (o.pre.all (fun j => decide (j < lg.length)) && freeAll o.pre ⟨bif b then o.a.kind fr else 0, o.dst, o.slots, touch (bif b then o.a.kind fr else 0) o fr H H1⟩ 0 lg)) with
        | false => rw [hchk] at h; cases h
        | true =>
          rw [hchk] at h
          simp only [cond_true] at h
          simp only [Bool.and_eq_true, Bool.not_eq_true'] at hchk
          obtain ⟨hfz, hpre, hfree⟩ := hchk
          obtain ⟨F, G, E, hF, hG, hF', hG', hE, hS⟩ := trace_of r _ _ _ h
          simp only [List.length_append, List.length_cons, List.length_nil] at hF hG hF' hG' hS
          have hEk : E lg.length = ⟨bif b then o.a.kind fr else 0, o.dst, o.slots, touch (bif b then o.a.kind fr else 0) o fr H H1⟩ := hE lg.length _ (by simp)
          refine ⟨fun j => if j = lg.length then fr else F j, fun j => if j = lg.length then H else G j, E, by simp, by simp, ?_, ?_, fun j l hj => hE j l ?_, ?_⟩
          · show (if lg.length + (o :: r).length = lg.length then fr else F (lg.length + (o :: r).length)) = fr'
            rw [if_neg (by simp only [List.length_cons]; omega), ← hF', show lg.length + (o :: r).length = lg.length + (0 + 1) + r.length by simp only [List.length_cons]; omega]
          · show (if lg.length + (o :: r).length = lg.length then H else G (lg.length + (o :: r).length)) = H'
            rw [if_neg (by simp only [List.length_cons]; omega), ← hG', show lg.length + (o :: r).length = lg.length + (0 + 1) + r.length by simp only [List.length_cons]; omega]
          · have hj' : j < lg.length := by
              rcases Nat.lt_or_ge j lg.length with h | h
              · exact h
              · rw [List.getElem?_eq_none h] at hj; cases hj
            rw [List.getElem?_append_left hj']; exact hj
          · intro k o' hk
            cases k with
            | zero =>
              simp at hk; subst hk
              refine ⟨⟨b, v, by simpa using hb, by simp [hEk], ?_, ?_⟩, ?_, by simp [hEk], by simp [hEk], hfz, ?_, ?_⟩
              · simp [hF]
              · simpa [hEk, hG] using hrun
              · simp [hEk, hG]
              · intro j hj; have := (List.all_eq_true.1 hpre) j hj; simpa using this
              · intro j hj
                have hj' : j < lg.length := by simpa using hj
                have hx := freeAll_spec hfree j lg[j] (by simp [hj'])
                rw [Nat.zero_add] at hx
                have hEj : E j = lg[j] := hE j _ (by rw [List.getElem?_append_left hj']; simp [hj'])
                rw [Nat.add_zero, hEk, hEj]; exact hx
            | succ k =>
              have hs := hS k o' (by simpa using hk)
              rw [show lg.length + 1 + k = lg.length + (k + 1) by omega] at hs
              obtain ⟨⟨b', v', x1, x2, x3, x4⟩, z, y1, y2, y3, y4, y5⟩ := hs
              have e1 : ¬ (lg.length + (k + 1) = lg.length) := by omega
              have e2 : ¬ (lg.length + (k + 1) + 1 = lg.length) := by omega
              exact ⟨⟨b', v', by simpa only [if_neg e1] using x1, by simpa only [if_neg e1] using x2, by simpa only [if_neg e1, if_neg e2] using x3,
                by simpa only [if_neg e1, if_neg e2] using x4⟩, by simpa only [if_neg e1, if_neg e2] using z, y1, y2, y3, y4, y5⟩
      · cases h

/-! ### what a step changes -/
theorem drawStep_run {o : AOp} {k : Nat} {fr : Fr} {H : Hp} (h : k ≠ 2) : drawStep φ o k true fr H = o.a.run φ fr H := by
  match k, h with
  | 0, _ => rfl
  | 1, _ => rfl
  | n + 3, _ => rfl

def wr (E : Nat → Log) (k b : Nat) : Prop := (E k).kind = 2 ∧ b ∈ (E k).tch

section
variable {F : Nat → Fr} {G : Nat → Hp} {E : Nat → Log} {k : Nat} {o : AOp}

theorem step_same (h : StepAt φ F G E k o) (hk : (E k).kind ≠ 2) : G (k + 1) = G k := by
  obtain ⟨b, v, x1, x2, x3, x4⟩ := h.ex
  cases b with
  | false => simp only [drawStep, Option.some.injEq, Prod.mk.injEq] at x4; exact x4.2.symm
  | true =>
    rw [drawStep_run hk] at x4
    exact run_same (by simp only [cond_true] at x2; rw [← x2]; exact hk) x4

theorem step_iso (h : StepAt φ F G E k o) (hk : (E k).kind = 2) : ∃ v, wantedV (F k) o.g = some true ∧ F (k + 1) = put (F k) o.dst v ∧ isoRun φ o (F k) (G k) = some (v, G (k + 1)) := by
  obtain ⟨b, v, x1, x2, x3, x4⟩ := h.ex
  cases b with
  | false => simp only [cond_false] at x2; omega
  | true => rw [hk] at x4; exact ⟨v, x1, x3, x4⟩

theorem step_len (h : StepAt φ F G E k o) : (G k).length ≤ (G (k + 1)).length := by
  by_cases hk : (E k).kind = 2
  · obtain ⟨v, _, _, hi⟩ := step_iso h hk
    obtain ⟨_, _, _, _, h3, _⟩ := iso_facts hi
    omega
  · rw [step_same h hk]; exact Nat.le_refl _

theorem step_get (h : StepAt φ F G E k o) {b : Nat} (hw : ¬ wr E k b) : (G (k + 1))[b]? = (G k)[b]? := by
  by_cases hk : (E k).kind = 2
  · obtain ⟨v, _, _, hi⟩ := step_iso h hk
    obtain ⟨_, _, _, _, h3, h4, _⟩ := iso_facts hi
    have ht := h.tch
    rw [hk] at ht
    have hb : b ∉ (E k).tch := fun hb => hw ⟨hk, hb⟩
    rw [ht] at hb
    simp only [touch, List.mem_append, not_or, List.mem_range'_1] at hb
    rcases Nat.lt_or_ge b (G k).length with hl | hl
    · exact h4 b hb.1 hl
    · rw [List.getElem?_eq_none hl, List.getElem?_eq_none (by omega)]
  · rw [step_same h hk]

theorem wr_lt (h : StepAt φ F G E k o) {b : Nat} (hw : wr E k b) : b < (G (k + 1)).length := by
  obtain ⟨hk, hb⟩ := hw
  have hle := step_len h
  rw [h.tch, hk] at hb
  simp only [touch, List.mem_append, List.mem_range'_1] at hb
  rcases hb with hb | hb
  · obtain ⟨x, hx, _⟩ := (idsOf_spec (G k) (slotRefs (F k) o.slots)).2 b hb
    have := (List.getElem?_eq_some_iff.1 hx).1
    omega
  · omega

theorem new_wr (h : StepAt φ F G E k o) {b : Nat} (h1 : (G k).length ≤ b) (h2 : b < (G (k + 1)).length) : wr E k b := by
  by_cases hk : (E k).kind = 2
  · refine ⟨hk, ?_⟩
    rw [h.tch, hk]
    simp only [touch, List.mem_append, List.mem_range'_1]
    exact .inr ⟨h1, by omega⟩
  · rw [step_same h hk] at h2; omega
end

/-! ### what an operation waits for -/
theorem unite_mem {x : Nat} : ∀ {l s : List Nat}, x ∈ unite l s ↔ x ∈ l ∨ x ∈ s
  | [], s => by simp [unite]
  | y :: r, s => by
    simp only [unite]
    split
    · rename_i h
      have h' : y ∈ s := by simpa using h
      rw [unite_mem, List.mem_cons]
      constructor
      · rintro (h1 | h1)
        · exact .inl (.inr h1)
        · exact .inr h1
      · rintro ((h1 | h1) | h1)
        · subst h1; exact .inr h'
        · exact .inl h1
        · exact .inr h1
    · rw [unite_mem, List.mem_cons, List.mem_cons]
      constructor
      · rintro (h1 | h1 | h1)
        · exact .inl (.inr h1)
        · exact .inl (.inl h1)
        · exact .inr h1
      · rintro ((h1 | h1) | h1)
        · exact .inr (.inl h1)
        · exact .inl h1
        · exact .inr (.inr h1)

def predsF (acc : List (List Nat)) (l : List Edge) (s : List Nat) : List Nat := l.foldl (fun s e => if Region.binds .any e then unite (e.on :: acc.getD e.on []) s else s) s

theorem predsF_mem {acc : List (List Nat)} {x : Nat} : ∀ {l : List Edge} {s : List Nat}, x ∈ predsF acc l s ↔ x ∈ s ∨ ∃ e ∈ l, Region.binds .any e = true ∧ (x = e.on ∨ x ∈ acc.getD e.on [])
  | [], s => by simp [predsF]
  | e :: r, s => by
    have : predsF acc (e :: r) s = predsF acc r (if Region.binds .any e then unite (e.on :: acc.getD e.on []) s else s) := rfl
    rw [this, predsF_mem]
    split
    · rename_i hb
      rw [unite_mem, List.mem_cons]
      constructor
      · rintro ((h | h) | ⟨e', he, hb', h⟩)
        · exact .inr ⟨e, List.mem_cons_self .., hb, h⟩
        · exact .inl h
        · exact .inr ⟨e', List.mem_cons_of_mem _ he, hb', h⟩
      · rintro (h | ⟨e', he, hb', h⟩)
        · exact .inl (.inr h)
        · rcases List.mem_cons.1 he with rfl | he
          · exact .inl (.inl h)
          · exact .inr ⟨e', he, hb', h⟩
    · rename_i hb
      constructor
      · rintro (h | ⟨e', he, hb', h⟩)
        · exact .inl h
        · exact .inr ⟨e', List.mem_cons_of_mem _ he, hb', h⟩
      · rintro (h | ⟨e', he, hb', h⟩)
        · exact .inl h
        · rcases List.mem_cons.1 he with rfl | he
          · exact absurd hb' hb
          · exact .inr ⟨e', he, hb', h⟩

theorem preds_spec : ∀ (l : List Oper) (acc : List (List Nat)), (preds l acc).length = acc.length + l.length ∧ (∀ j, j < acc.length → (preds l acc)[j]? = acc[j]?) ∧
    ∀ (k : Nat) (o : Oper), l[k]? = some o → (preds l acc)[acc.length + k]? = some (predsF ((preds l acc).take (acc.length + k)) o.after.toList [])
  | [], acc => ⟨by simp [preds], fun j hj => by simp [preds], fun k o h => by simp at h⟩
  | o :: r, acc => by
    have e : preds (o :: r) acc = preds r (acc ++ [predsF acc o.after.toList []]) := rfl
    rw [e]
    obtain ⟨h1, h2, h3⟩ := preds_spec r (acc ++ [predsF acc o.after.toList []])
    simp only [List.length_append, List.length_cons, List.length_nil] at h1 h2 h3
    refine ⟨by rw [h1]; simp; omega, fun j hj => ?_, fun k o' hk => ?_⟩
    · rw [h2 j (by omega), List.getElem?_append_left hj]
    · cases k with
      | zero =>
        simp at hk; subst hk
        rw [Nat.add_zero, h2 acc.length (by omega)]
        have : (preds r (acc ++ [predsF acc o.after.toList []])).take acc.length = acc := by
          apply List.ext_getElem?
          intro j
          rw [List.getElem?_take]
          split
          · rename_i hj; rw [h2 j (by omega), List.getElem?_append_left hj]
          · rename_i hj; rw [List.getElem?_eq_none (by omega)]
        rw [this]
        simp
      | succ k =>
        have := h3 k o' (by simpa using hk)
        rw [show acc.length + 1 + k = acc.length + (k + 1) by omega] at this
        exact this

/-- each operation waits for those that its edges name, and for what these wait for -/
theorem preds_edges {ops : List Oper} {k : Nat} {o : Oper} (ho : ops[k]? = some o) {x : Nat} :
    x ∈ (preds ops []).getD k [] ↔ ∃ e ∈ o.after.toList, Region.binds .any e = true ∧ (x = e.on ∨ (e.on < k ∧ x ∈ (preds ops []).getD e.on [])) := by
  obtain ⟨_, _, h3⟩ := preds_spec ops []
  have := h3 k o ho
  simp only [List.length_nil, Nat.zero_add] at this
  have hg : (preds ops []).getD k [] = predsF ((preds ops []).take k) o.after.toList [] := by simp [List.getD, this]
  rw [hg, predsF_mem]
  have ht : ∀ j, x ∈ ((preds ops []).take k).getD j [] ↔ j < k ∧ x ∈ (preds ops []).getD j [] := by
    intro j
    simp only [List.getD, List.getElem?_take]
    by_cases hj : j < k
    · simp [hj]
    · simp [hj]
  simp only [ht, List.not_mem_nil, false_or]
end
end Go.Vi

namespace Go.Vi
set_option linter.unusedSimpArgs false
set_option linter.unusedVariables false

section
variable {P : Program} {φ : FuncId → List V → Hp → Option (V × Hp)}

theorem put_get (fr : Fr) (d : Option Nat) (v : V) (t : Nat) : (put fr d v)[t]? = if d = some t then (if t < fr.length then some v else none) else fr[t]? := by
  cases d with
  | none => simp [put]
  | some d =>
    simp only [put, List.getElem?_set, Option.some.injEq]
    by_cases h : d = t
    · subst h; simp
    · simp [h]
theorem put_length (fr : Fr) (d : Option Nat) (v : V) : (put fr d v).length = fr.length := by cases d <;> simp [put]

theorem act_put_get (a : Act) (d : Option Tmp) (x : Value) (t : Nat) : (a.put d x).tmps[t]? = if d = some t then (if t < a.tmps.size then some x else none) else a.tmps[t]? := by
  cases d with
  | none => simp [Act.put]
  | some d =>
    simp only [Act.put, Array.getElem?_setIfInBounds, Option.some.injEq]
    by_cases h : d = t
    · subst h; simp
    · simp [h]
theorem act_put_size (a : Act) (d : Option Tmp) (x : Value) : (a.put d x).tmps.size = a.tmps.size := by cases d <;> simp [Act.put]

variable {F : Nat → Fr} {G : Nat → Hp} {E : Nat → Log} {L : List AOp}

theorem frame_const (hS : ∀ k o, L[k]? = some o → StepAt φ F G E k o) {t : Nat} : ∀ (b a : Nat), a ≤ b → b ≤ L.length → (∀ k, a ≤ k → k < b → (E k).dst ≠ some t) → (F a)[t]? = (F b)[t]?
  | 0, a, h, _, _ => by rw [show a = 0 by omega]
  | b + 1, a, h, hb, hn => by
    rcases Nat.lt_or_ge a (b + 1) with h1 | h1
    · rw [frame_const hS b a (by omega) (by omega) (fun k h2 h3 => hn k h2 (by omega))]
      have hs := hS b L[b] (by simp)
      obtain ⟨⟨bb, v, x1, x2, x3, x4⟩, _, y1, _⟩ := hs
      have := hn b (by omega) (by omega)
      rw [y1] at this
      rw [x3, put_get, if_neg this]
    · rw [show a = b + 1 by omega]

theorem frame_len (hS : ∀ k o, L[k]? = some o → StepAt φ F G E k o) : ∀ k, k ≤ L.length → (F k).length = (F 0).length
  | 0, _ => rfl
  | k + 1, h => by
    obtain ⟨⟨bb, v, x1, x2, x3, x4⟩, _, y1, _⟩ := hS k L[k] (by simp)
    rw [x3, put_length, frame_len hS k (by omega)]

theorem len_mono (hS : ∀ k o, L[k]? = some o → StepAt φ F G E k o) : ∀ (b a : Nat), a ≤ b → b ≤ L.length → (G a).length ≤ (G b).length
  | 0, a, h, _ => by rw [show a = 0 by omega]; exact Nat.le_refl _
  | b + 1, a, h, hb => by
    rcases Nat.lt_or_ge a (b + 1) with h1 | h1
    · exact Nat.le_trans (len_mono hS b a (by omega) (by omega)) (step_len (hS b L[b] (by simp)))
    · rw [show a = b + 1 by omega]; exact Nat.le_refl _

theorem box_const (hS : ∀ k o, L[k]? = some o → StepAt φ F G E k o) {x : Nat} : ∀ (b a : Nat), a ≤ b → b ≤ L.length → (∀ k, a ≤ k → k < b → ¬ wr E k x) → (G a)[x]? = (G b)[x]?
  | 0, a, h, _, _ => by rw [show a = 0 by omega]
  | b + 1, a, h, hb, hn => by
    rcases Nat.lt_or_ge a (b + 1) with h1 | h1
    · rw [box_const hS b a (by omega) (by omega) (fun k h2 h3 => hn k h2 (by omega))]
      exact (step_get (hS b L[b] (by simp)) (hn b (by omega) (by omega))).symm
    · rw [show a = b + 1 by omega]

/-- a box that is there at the end but not at a, is written between -/
theorem born (hS : ∀ k o, L[k]? = some o → StepAt φ F G E k o) {x : Nat} : ∀ (b a : Nat), a ≤ b → b ≤ L.length → (G a).length ≤ x → x < (G b).length → ∃ k, a ≤ k ∧ k < b ∧ wr E k x
  | 0, a, h, _, h1, h2 => by rw [show a = 0 by omega] at h1; omega
  | b + 1, a, h, hb, h1, h2 => by
    rcases Nat.lt_or_ge a (b + 1) with h3 | h3
    · rcases Nat.lt_or_ge x (G b).length with h4 | h4
      · obtain ⟨k, k1, k2, k3⟩ := born hS b a (by omega) (by omega) h1 h4
        exact ⟨k, k1, by omega, k3⟩
      · exact ⟨b, by omega, by omega, new_wr (hS b L[b] (by simp)) h4 h2⟩
    · rw [show a = b + 1 by omega] at h1; omega

def Dn (listed : Array Bool) (i : Nat) : Prop := listed.getD i false = true

/-- where the operations of a set are done -/
structure Half (n : Nat) (F : Nat → Fr) (G : Nat → Hp) (E : Nat → Log) (TB : Nat → Prop) (listed : Array Bool) (mu : Mu) (S : St) (w : World) (a : Act) : Prop where
  heap : ∃ X : Hp, X.length = (G n).length ∧ Inv mu S TB w X ∧ ∀ b, ∃ m, m ≤ n ∧ (∀ k, k < m → wr E k b → Dn listed k) ∧ (∀ k, m ≤ k → k < n → wr E k b → ¬ Dn listed k) ∧
    (b < (G m).length → X[b]? = (G m)[b]?) ∧ ((G m).length ≤ b → mu b = none)
  size : a.tmps.size = (F 0).length
  slot : ∀ t, ∃ m, m ≤ n ∧ (∀ k, k < m → (E k).dst = some t → Dn listed k) ∧ (∀ k, m ≤ k → k < n → (E k).dst = some t → ¬ Dn listed k) ∧
    ∀ v, (F m)[t]? = some v → ∃ x, a.tmps[t]? = some x ∧ RelV mu S w v x

theorem Dn_set {listed : Array Bool} {i k : Nat} (hi : i < listed.size) : Dn (listed.setIfInBounds i true) k ↔ k = i ∨ Dn listed k := by
  unfold Dn
  by_cases h : i = k
  · subst h; simp [hi]
  · rw [getD_set_ne false h]
    constructor
    · exact .inr
    · rintro (h1 | h1)
      · exact absurd h1.symm h
      · exact h1

theorem wanted_killed {fr : Fr} {lv : List Nat} {g : Option (Nat × Bool)} {b : Bool} (h : wantedV fr g = some b) (hl : ∀ t w, g = some (t, w) → t ∈ lv) : wantedV (killed lv fr) g = some b := by
  cases g with
  | none => exact h
  | some p =>
    obtain ⟨t, w⟩ := p
    have ht := hl t w rfl
    have : (killed lv fr)[t]? = fr[t]? := by
      simp only [killed, List.getElem?_mapIdx]
      cases fr[t]? with
      | none => rfl
      | some v => simp [ht]
    simp only [wantedV, this] at h ⊢
    exact h

theorem killed_get {fr : Fr} {lv : List Nat} {t : Nat} (ht : t ∈ lv) : (killed lv fr)[t]? = fr[t]? := by
  simp only [killed, List.getElem?_mapIdx]
  cases fr[t]? with
  | none => rfl
  | some v => simp [ht]

theorem killed_refs {fr : Fr} {l : List Nat} : slotRefs (killed l fr) l = slotRefs fr l := by
  simp only [slotRefs]
  have : ∀ (r : List Nat), (∀ t ∈ r, t ∈ l) → r.flatMap (fun t => match (killed l fr)[t]? with | some v => v.refs | none => []) = r.flatMap fun t => match fr[t]? with | some v => v.refs | none => [] := by
    intro r
    induction r with
    | nil => intro _; rfl
    | cons t r ih =>
      intro h
      simp only [List.flatMap_cons]
      rw [killed_get (h t List.mem_cons_self), ih fun t ht => h t (List.mem_cons_of_mem _ ht)]
  exact this l fun t ht => ht

theorem idsOf_mu {X H : Hp} {mu : Mu} {S : St} {TB : Nat → Prop} {w : World} (hi : Inv mu S TB w X) : ∀ (n : Nat) (todo seen : List Nat), (∀ i ∈ todo, (mu i).isSome = true) → (∀ i ∈ seen, (mu i).isSome = true) →
    (∀ i ∈ reach H n todo seen, X[i]? = H[i]?) → ∀ i ∈ reach H n todo seen, (mu i).isSome = true
  | 0, todo, seen, h1, h2, _ => by cases todo <;> exact h2
  | n + 1, [], seen, h1, h2, _ => h2
  | n + 1, i :: todo, seen, h1, h2, hX => by
    have h1' : ∀ i ∈ todo, (mu i).isSome = true := fun k hk => h1 k (List.mem_cons_of_mem _ hk)
    have h0 := h1 i List.mem_cons_self
    obtain ⟨l, hl⟩ := Option.isSome_iff_exists.1 h0
    simp only [reach] at hX ⊢
    split at hX
    · exact idsOf_mu hi n todo seen h1' h2 hX
    · exact idsOf_mu hi n todo seen h1' h2 hX
    · rename_i b hne hb
      by_cases hc : seen.contains i = true
      · rw [if_pos hc] at hX ⊢
        exact idsOf_mu hi n todo seen h1' h2 hX
      · rw [if_neg hc] at hX ⊢
        have hin : i ∈ reach H n (b.refs ++ todo) (seen ++ [i]) := by
          have : ∀ (n : Nat) (t s : List Nat), i ∈ s → i ∈ reach H n t s := by
            intro n
            induction n with
            | zero => intro t s h; cases t <;> exact h
            | succ n ih =>
              intro t s h
              cases t with
              | nil => exact h
              | cons j t =>
                simp only [reach]
                split
                · exact ih t s h
                · exact ih t s h
                · split
                  · exact ih t s h
                  · exact ih _ _ (List.mem_append_left _ h)
          exact this _ _ _ (List.mem_append_right _ (List.mem_singleton_self _))
        have hXi := hX i hin
        refine idsOf_mu hi n _ _ (fun k hk => ?_) (fun k hk => ?_) hX
        · rcases List.mem_append.1 hk with h | h
          · exact (hi.box i b l (by rw [hXi, hb]) hl).refs k h
          · exact h1' k h
        · rcases List.mem_append.1 hk with h | h
          · exact h2 k h
          · simp at h; subst h; exact h0

theorem canonH_congr {X H : Hp} {ids : List Nat} (h : ∀ i ∈ ids, X[i]? = H[i]?) : canonH X ids = canonH H ids := by
  simp only [canonH]
  apply List.map_congr_left
  intro i hi
  simp only [List.getD, h i hi]

/-- one more operation -/
theorem half_step (hg : Good P φ) {TB : Nat → Prop} {an : Nat → Nat} {ops : Array Oper} {ps : List (List Nat)} (hc : compOps P an ops ps 0 ops.toList = some L)
    (hS : ∀ k o, L[k]? = some o → StepAt φ F G E k o) {listed : Array Bool} {mu : Mu} {S : St} {w : World} {a : Act} (hsz : listed.size = L.length)
    (hcl : ∀ k, Dn listed k → ∀ o, L[k]? = some o → ∀ j ∈ o.pre, Dn listed j)
    {i : Nat} (hi : i < L.length) (hnd : ¬ Dn listed i) (hpre : ∀ o, L[i]? = some o → ∀ j ∈ o.pre, Dn listed j)
    (hh : Half L.length F G E TB listed mu S w a) {K : Act → World → Prop} {Q : Exit → Act → World → Prop}
    (hk : ∀ a' w' mu' S', Ext TB mu S w mu' S' w' → Half L.length F G E TB (listed.setIfInBounds i true) mu' S' w' a' → a'.defers = a.defers → K a' w') : wpOp P ops Q i K a w := by
  obtain ⟨hl, hget⟩ := compOps_get hc
  have hio : i < ops.size := by rw [hl] at hi; simpa using hi
  obtain ⟨g1, g2, g3, g4⟩ := hget i ops[i] L[i] (by simp [hio]) (by simp [hi])
  have hst := hS i L[i] (by simp [hi])
  obtain ⟨⟨b, v, x1, x2, x3, x4⟩, yt, y1, y2, y3, y4, y5⟩ := hst
  have hp := hpre L[i] (by simp [hi])
  -- no other operation stands against this one
  have before : ∀ k, k < i → ¬ Dn listed k → (E k).free (E i) = true := fun k hki hk => (y5 k hki).resolve_left fun h => hk (hp k h)
  have after : ∀ k, i < k → k < L.length → Dn listed k → (E i).free (E k) = true := fun k hik hkn hk => by
    obtain ⟨_, _, _, _, _, _, z5⟩ := hS k L[k] (by simp [hkn])
    exact (z5 i hik).resolve_left fun h => hnd (hcl k hk L[k] (by simp [hkn]) i h)
  have hfree : ∀ x y : Log, x.free y = true → (∀ d, x.dst = some d → d ∉ y.rds ∧ y.dst ≠ some d) ∧ (∀ d, y.dst = some d → d ∉ x.rds ∧ x.dst ≠ some d) ∧ (x.kind = 0 ∨ y.kind = 0 ∨ (x.kind = 1 ∧ y.kind = 1) ∨ ∀ b, b ∈ x.tch → b ∉ y.tch) := by
    intro x y h
    simp only [Log.free, Bool.and_eq_true, Bool.or_eq_true, beq_iff_eq] at h
    obtain ⟨⟨h1, h2⟩, h3⟩ := h
    have e1 : ∀ d, x.dst = some d → d ∉ y.rds ∧ y.dst ≠ some d := by
      intro d hd
      rw [hd] at h1
      simpa using h1
    refine ⟨e1, fun d hd => ?_, ?_⟩
    · rw [hd] at h2
      refine ⟨by simpa using h2, fun hx => (e1 d hx).2 hd⟩
    · rcases h3 with ((h3 | h3) | h3) | h3
      · exact .inl h3
      · exact .inr (.inl h3)
      · exact .inr (.inr (.inl h3))
      · refine .inr (.inr (.inr fun b hb hb2 => ?_))
        have := (List.all_eq_true.1 h3) b hb
        simp [hb2] at this
  have disB : ∀ k b, k < i → wr E k b → (E i).kind ≠ 0 → b ∈ (E i).tch → Dn listed k := fun k b hki hw hk0 hbt => Classical.byContradiction fun hnk => by
    rcases (hfree _ _ (before k hki hnk)).2.2 with h | h | h | h
    · have := hw.1; omega
    · exact hk0 h
    · have := hw.1; omega
    · exact h b hw.2 hbt
  have disA : ∀ k b, i < k → k < L.length → wr E k b → (E i).kind ≠ 0 → b ∈ (E i).tch → ¬ Dn listed k := fun k b hik hkn hw hk0 hbt hdk => by
    rcases (hfree _ _ (after k hik hkn hdk)).2.2 with h | h | h | h
    · exact hk0 h
    · have := hw.1; omega
    · have := hw.1; omega
    · exact h b hbt hw.2
  -- the slots that it reads
  have hslots : ∀ t ∈ L[i].slots, ∀ v, (F i)[t]? = some v → ∃ x, a.tmps[t]? = some x ∧ RelV mu S w v x := by
    intro t ht v hv
    obtain ⟨m, hm, m1, m2, m3⟩ := hh.slot t
    apply m3
    rw [← hv]
    rcases Nat.le_total m i with hmi | hmi
    · refine frame_const hS i m hmi (by omega) fun k h1 h2 h3 => ?_
      have := (hfree _ _ (before k h2 (m2 k h1 (by omega) h3))).1 t h3
      exact this.1 (y2 ▸ ht)
    · refine (frame_const hS m i hmi hm fun k h1 h2 h3 => ?_).symm
      have hd := m1 k h2 h3
      rcases Nat.lt_or_ge i k with h4 | h4
      · have := (hfree _ _ (after k h4 (by omega) hd)).2.1 t h3
        exact this.1 (y2 ▸ ht)
      · exact hnd (by rwa [show i = k by omega])
  have hfr : RelFr mu S w (killed L[i].slots (F i)) a := by
    refine ⟨by rw [hh.size]; simp [killed, frame_len hS i (by omega)], fun t v ht => ?_⟩
    by_cases hts : t ∈ L[i].slots
    · rw [killed_get hts] at ht
      exact hslots t hts v ht
    · simp only [killed, List.getElem?_mapIdx, Option.map_eq_some_iff] at ht
      obtain ⟨u, hu, rfl⟩ := ht
      have hlt : t < a.tmps.size := by
        rw [hh.size, ← frame_len hS i (by omega)]
        rcases Nat.lt_or_ge t (F i).length with h | h
        · exact h
        · rw [List.getElem?_eq_none h] at hu; cases hu
      refine ⟨a.tmps[t], by simp [hlt], ?_⟩
      rw [if_neg (by simpa using hts)]
      trivial
  -- the boxes
  obtain ⟨X, hXl, hinv, hX⟩ := hh.heap
  have hXi : ∀ x, (E i).kind ≠ 0 → x ∈ (E i).tch → x < (G i).length → X[x]? = (G i)[x]? := by
    intro x hk0 hx hlt
    obtain ⟨m, hm, m1, m2, m3, m4⟩ := hX x
    have he : (G m)[x]? = (G i)[x]? := by
      rcases Nat.le_total m i with hmi | hmi
      · exact box_const hS i m hmi (by omega) fun k h1 h2 h3 => m2 k h1 (by omega) h3 (disB k x h2 h3 hk0 hx)
      · refine (box_const hS m i hmi hm fun k h1 h2 h3 => ?_).symm
        have hd := m1 k h2 h3
        rcases Nat.lt_or_ge i k with h4 | h4
        · exact disA k x h4 (by omega) h3 hk0 hx hd
        · exact hnd (by rwa [show i = k by omega])
    have hlm : x < (G m).length := by
      rw [List.getElem?_eq_getElem hlt] at he
      exact (List.getElem?_eq_some_iff.1 he).1
    rw [m3 hlm, he]
  have hset : ∀ k, Dn (listed.setIfInBounds i true) k ↔ k = i ∨ Dn listed k := fun k => Dn_set (by omega)
  -- the slots behind it
  have fslot : ∀ (x : Value) (w' : World) (mu' : Mu) (S' : St), Ext TB mu S w mu' S' w' → RelV mu' S' w' v x → ∀ t, ∃ m, m ≤ L.length ∧ (∀ k, k < m → (E k).dst = some t → Dn (listed.setIfInBounds i true) k) ∧
      (∀ k, m ≤ k → k < L.length → (E k).dst = some t → ¬ Dn (listed.setIfInBounds i true) k) ∧ ∀ v, (F m)[t]? = some v → ∃ y, (a.put ops[i].dst x).tmps[t]? = some y ∧ RelV mu' S' w' v y := by
    intro x w' mu' S' ex rx t
    by_cases ht : (E i).dst = some t
    · have hdt : ops[i].dst = some t := by rw [← g3, ← y1]; exact ht
      refine ⟨i + 1, by omega, fun k hk1 hk2 => (hset k).2 ?_, fun k hk1 hkn hk2 hd => ?_, fun u hu => ?_⟩
      · rcases Nat.lt_or_ge k i with h | h
        · refine .inr (Classical.byContradiction fun hnk => ?_)
          exact ((hfree _ _ (before k h hnk)).1 t hk2).2 ht
        · exact .inl (by omega)
      · rcases (hset k).1 hd with h | h
        · omega
        · exact ((hfree _ _ (after k (by omega) hkn h)).1 t ht).2 hk2
      · rw [x3, put_get, if_pos (by rw [← y1]; exact ht)] at hu
        split at hu
        · rename_i hlt
          cases hu
          refine ⟨x, ?_, rx⟩
          rw [act_put_get, if_pos hdt, if_pos]
          rw [hh.size, ← frame_len hS i (by omega)]; exact hlt
        · cases hu
    · have hdt : ops[i].dst ≠ some t := by rw [← g3, ← y1]; exact ht
      obtain ⟨q, hq, q1, q2, q3⟩ := hh.slot t
      refine ⟨q, hq, fun k hk1 hk2 => (hset k).2 (.inr (q1 k hk1 hk2)), fun k hk1 hkn hk2 hd => ?_, fun u hu => ?_⟩
      · rcases (hset k).1 hd with h | h
        · subst h; exact ht hk2
        · exact q2 k hk1 hkn hk2 h
      · obtain ⟨y, hy, hr⟩ := q3 u hu
        refine ⟨y, ?_, hr.ext ex⟩
        rw [act_put_get, if_neg hdt]; exact hy
  -- where no box is changed
  have fin01 : ∀ (x : Value) (w' : World) (S' : St), (E i).kind ≠ 2 → Ext TB mu S w mu S' w' → Inv mu S' TB w' X → RelV mu S' w' v x → K (a.put ops[i].dst x) w' := by
    intro x w' S' h2 ex i1 rx
    refine hk _ _ mu S' ex ⟨⟨X, hXl, i1, fun b => ?_⟩, by rw [act_put_size]; exact hh.size, fslot x w' mu S' ex rx⟩ (put_defers _ _ _)
    obtain ⟨m, hm, m1, m2, m3, m4⟩ := hX b
    refine ⟨m, hm, fun k hk1 hk2 => (hset k).2 (.inr (m1 k hk1 hk2)), fun k hk1 hkn hk2 hd => ?_, m3, m4⟩
    rcases (hset k).1 hd with h | h
    · subst h; exact h2 hk2.1
    · exact m2 k hk1 hkn hk2 h
  -- the operation itself
  have hwk : wantedV (killed L[i].slots (F i)) L[i].g = some b := wanted_killed x1 fun t w hgw => by
    simp only [AOp.slots, hgw, List.mem_append]
    exact .inr (List.mem_singleton_self _)
  unfold wpOp
  simp only [show ops[i]? = some ops[i] by simp [hio]]
  rw [wanted_ok g2 hfr hwk]
  cases b with
  | false =>
    rw [if_neg (by simp)]
    simp only [cond_false] at x2
    simp only [drawStep, Option.some.injEq, Prod.mk.injEq] at x4
    obtain ⟨rfl, hG⟩ := x4
    exact fin01 undef w S (by omega) (.refl _ _ _ _) hinv undef_rel
  | true =>
    simp only [if_true]
    left
    simp only [cond_true] at x2
    rw [y3] at *
    have g1' : compOp P (if an (0 + i) = 2 then 0 else an (0 + i)) ops[i].op = some L[i].a := g1
    by_cases h2 : (E i).kind = 2
    · -- over the boxes that it reaches
      rw [h2] at x4
      have hiso : isoRun φ L[i] (F i) (G i) = some (v, G (i + 1)) := x4
      obtain ⟨r, H1, e1, e2, e3, e4, e5, e6⟩ := iso_facts hiso
      obtain ⟨hnd2, hal2⟩ : (isoIds L[i] (F i) (G i)).Nodup ∧ ∀ j ∈ isoIds L[i] (F i) (G i), ∃ b, (G i)[j]? = some b ∧ alive b = true := idsOf_spec (G i) _
      have hk0 : (E i).kind ≠ 0 := by omega
      have ytt : (E i).tch = isoIds L[i] (F i) (G i) ++ List.range' (G i).length ((G (i + 1)).length - (G i).length) := by rw [yt, h2]; rfl
      have hil : ∀ j ∈ isoIds L[i] (F i) (G i), j < (G i).length := fun j hj => by obtain ⟨b, hb, _⟩ := hal2 j hj; exact (List.getElem?_eq_some_iff.1 hb).1
      have hXids : ∀ j ∈ isoIds L[i] (F i) (G i), X[j]? = (G i)[j]? := fun j hj => hXi j hk0 (by rw [ytt]; exact List.mem_append_left _ hj) (hil j hj)
      have hmu : ∀ j ∈ isoIds L[i] (F i) (G i), (mu j).isSome = true := by
        refine idsOf_mu hinv 1000 _ [] (fun k hk => ?_) (by simp) hXids
        simp only [slotRefs, List.mem_flatMap] at hk
        obtain ⟨t, ht, hk⟩ := hk
        cases hv : (F i)[t]? with
        | none => rw [hv] at hk; simp at hk
        | some u =>
          rw [hv] at hk
          obtain ⟨x, _, hx⟩ := hslots t ht u hv
          exact hx.refs k hk
      have hGin : (G i).length ≤ (G L.length).length := len_mono hS _ _ (by omega) (Nat.le_refl _)
      have hGi1 : (G (i + 1)).length ≤ (G L.length).length := len_mono hS _ _ (by omega) (Nat.le_refl _)
      have hnew : ∀ j, (G i).length ≤ j → j < (G i).length + (H1.length - (isoIds L[i] (F i) (G i)).length) → wr E i j := fun j h1 h3 => by
        refine ⟨h2, ?_⟩
        rw [ytt]
        refine List.mem_append_right _ ?_
        rw [List.mem_range'_1]
        omega
      have hq : ∀ j, (G i).length ≤ j → j < (G i).length + (H1.length - (isoIds L[i] (F i) (G i)).length) → mu j = none := by
        intro j h1 h3
        have hwi := hnew j h1 h3
        obtain ⟨m, hm, m1, m2, m3, m4⟩ := hX j
        apply m4
        have hmi : m ≤ i := by
          rcases Nat.lt_or_ge i m with h | h
          · exact absurd (m1 i h hwi) hnd
          · exact h
        exact Nat.le_trans (len_mono hS i m hmi (by omega)) h1
      let X2 : Hp := X.mapIdx fun j x => if (E i).tch.contains j then (G (i + 1)).getD j .dead else x
      have hX2l : X2.length = X.length := by simp [X2]
      have hX2in : ∀ j, j ∈ (E i).tch → X2[j]? = (G (i + 1))[j]? := by
        intro j hj
        have hjl : j < (G (i + 1)).length := wr_lt (hS i L[i] (by simp [hi])) ⟨h2, hj⟩
        have hjx : j < X.length := by omega
        simp only [X2, List.getElem?_mapIdx, List.getElem?_eq_getElem hjx, Option.map_some]
        rw [if_pos (by simpa using hj)]
        simp only [List.getD, List.getElem?_eq_getElem hjl, Option.getD_some]
      have hX2out : ∀ j, j ∉ (E i).tch → X2[j]? = X[j]? := by
        intro j hj
        simp only [X2, List.getElem?_mapIdx]
        cases X[j]? with
        | none => rfl
        | some x => simp only [Option.map_some]; rw [if_neg (by simpa using hj)]
      have hcan : canonH X (isoIds L[i] (F i) (G i)) = canonH (G i) (isoIds L[i] (F i) (G i)) := canonH_congr hXids
      refine iso_ok hg g1' hinv hfr hnd2 (fun j hj => ?_) hmu (by rw [hcan]; exact e1) hq (fun j hj => .inl (hil j hj)) hX2l (by omega) (fun hm j k hjk => ?_) (fun hm t ht => ?_) (fun j hj hr => ?_) K Q fun x w' mu1 S' ex i1 rx => ?_
      · have := hil j hj; omega
      · rw [hX2in k (by rw [ytt]; exact List.mem_append_left _ (List.mem_of_getElem? hjk))]; exact e5 hm j k hjk
      · rw [hX2in _ (by rw [ytt]; exact List.mem_append_right _ (by rw [List.mem_range'_1]; omega))]; exact e6 hm t ht
      · refine hX2out j fun hj2 => ?_
        rw [ytt, List.mem_append, List.mem_range'_1] at hj2
        rcases hj2 with h | h
        · exact hj h
        · omega
      · rw [← e2] at rx
        refine hk _ _ _ S' ex ⟨⟨X2, by rw [hX2l, hXl], i1, fun j => ?_⟩, by rw [act_put_size]; exact hh.size, fslot x w' _ S' ex rx⟩ (put_defers _ _ _)
        by_cases hj : j ∈ (E i).tch
        · refine ⟨i + 1, by omega, fun k hk1 hk2 => (hset k).2 ?_, fun k hk1 hkn hk2 hd => ?_, fun _ => hX2in j hj, fun hge => ?_⟩
          · rcases Nat.lt_or_ge k i with h | h
            · exact .inr (disB k j h hk2 hk0 hj)
            · exact .inl (by omega)
          · rcases (hset k).1 hd with h | h
            · omega
            · exact disA k j (by omega) hkn hk2 hk0 hj h
          · have := wr_lt (hS i L[i] (by simp [hi])) ⟨h2, hj⟩
            omega
        · obtain ⟨m, hm, m1, m2, m3, m4⟩ := hX j
          refine ⟨m, hm, fun k hk1 hk2 => (hset k).2 (.inr (m1 k hk1 hk2)), fun k hk1 hkn hk2 hd => ?_, fun h => by rw [hX2out j hj]; exact m3 h, fun h => ?_⟩
          · rcases (hset k).1 hd with h | h
            · subst h; exact hj hk2.2
            · exact m2 k hk1 hkn hk2 h
          · have h0 := m4 h
            simp only [muQ]
            rw [if_neg (fun hc => hj (hnew j hc.1 hc.2).2)]
            exact h0
    · have hrun : L[i].a.run φ (F i) (G i) = some (v, G (i + 1)) := by rw [drawStep_run h2] at x4; exact x4
      have hkk : L[i].a.kind (F i) ≠ 2 := by rw [← x2]; exact h2
      have hcg : ∀ H, L[i].a.run φ (killed L[i].slots (F i)) H = L[i].a.run φ (F i) H := fun H => run_congr fun t ht => killed_get (by
        simp only [AOp.slots, List.mem_append]; exact .inl ht)
      have hrX : L[i].a.run φ (F i) X = some (v, X) := by
        by_cases h0 : L[i].a.kind (F i) = 0
        · exact (run_kind0 h0 hrun).2 X
        · have h1 : L[i].a.kind (F i) = 1 := by have := kind_le2 (F i) L[i].a; omega
          refine run_kind1 h1 hrun fun b hb hlt => hXi b (by rw [x2]; exact h0) ?_ hlt
          rw [yt, x2, h1]
          simp only [touch, slotRefs, AOp.slots, List.flatMap_append, List.mem_append]
          exact .inl hb
      have hkk2 : L[i].a.kind (killed L[i].slots (F i)) ≠ 2 := by
        rw [kind_congr (fr2 := F i) fun t ht => killed_get (by simp only [AOp.slots, List.mem_append]; exact .inl ht)]
        exact hkk
      exact kind01_ok hg g1' hinv hfr hkk2 (by rw [hcg]; exact hrX) K Q fun x w' S' ex i1 rx => fin01 x w' S' h2 ex i1 rx
end
end Go.Vi

namespace Go.Vi
set_option linter.unusedSimpArgs false
set_option linter.unusedVariables false

section
variable {P : Program} {φ : FuncId → List V → Hp → Option (V × Hp)}
variable {F : Nat → Fr} {G : Nat → Hp} {E : Nat → Log} {L : List AOp}

theorem half_all (hg : Good P φ) {TB : Nat → Prop} {an : Nat → Nat} {ops : Array Oper} (hc : compOps P an ops (preds ops.toList []) 0 ops.toList = some L)
    (hS : ∀ k o, L[k]? = some o → StepAt φ F G E k o) {Q : Exit → Act → World → Prop} {mu : Mu} {S : St} {w : World} {a : Act}
    (hQ : ∀ a' w' mu' S', Ext TB mu S w mu' S' w' → Inv mu' S' TB w' (G L.length) → RelFr mu' S' w' (F L.length) a' → a'.defers = a.defers → Q .normal a' w') :
    ∀ (fuel : Nat) (listed : Array Bool) (mu1 : Mu) (S1 : St) (w1 : World) (a1 : Act), listed.size = L.length → listed.toList.count false ≤ fuel →
      (∀ k, Dn listed k → ∀ o, L[k]? = some o → ∀ j ∈ o.pre, Dn listed j) → Half L.length F G E TB listed mu1 S1 w1 a1 → Ext TB mu S w mu1 S1 w1 → a1.defers = a.defers →
      wpAny P .any ops Q fuel listed a1 w1 := by
  obtain ⟨hl, hget⟩ := compOps_get hc
  have hsz : L.length = ops.size := by simpa using hl
  -- an operation that may go has all that it waits for
  have hready : ∀ (listed : Array Bool) (i : Nat), listed.size = L.length → (∀ k, Dn listed k → ∀ o, L[k]? = some o → ∀ j ∈ o.pre, Dn listed j) → i ∈ Region.ready .any ops listed →
      i < L.length ∧ ¬ Dn listed i ∧ ∀ o, L[i]? = some o → ∀ j ∈ o.pre, Dn listed j := by
    intro listed i hls hcl hi
    rw [mem_ready] at hi
    obtain ⟨h0, o, ho, hall⟩ := hi
    have hio : i < ops.size := by
      rcases Nat.lt_or_ge i ops.size with h | h
      · exact h
      · rw [Array.getElem?_eq_none h] at ho; cases ho
    refine ⟨by omega, ?_, fun ao hao j hj => ?_⟩
    · unfold Dn
      have : i < listed.size := by omega
      simp only [Array.getD, this, dite_true] at h0 ⊢
      rw [h0]; simp
    · obtain ⟨_, _, _, g4⟩ := hget i o ao (by simpa using ho) hao
      rw [g4, Nat.zero_add, preds_edges (o := o) (by simpa using ho)] at hj
      obtain ⟨e, he, hb, hx⟩ := hj
      have hd := hall e (by simpa using he) hb
      rcases hx with rfl | ⟨hlt, hx⟩
      · exact hd
      · have hen : e.on < L.length := by omega
        obtain ⟨_, _, _, g4'⟩ := hget e.on ops[e.on] L[e.on] (by simp <;> omega) (by simp [hen])
        refine hcl e.on hd L[e.on] (by simp [hen]) j ?_
        rw [g4', Nat.zero_add]; exact hx
  -- where none may go, all are done
  have hdone : ∀ listed : Array Bool, listed.size = L.length → Region.ready .any ops listed = [] → ∀ k, k < L.length → Dn listed k := by
    intro listed hls hr k
    induction k using Nat.strongRecOn with
    | ind k ih =>
      intro hk
      apply Classical.byContradiction
      intro hnd
      have : k ∈ Region.ready .any ops listed := by
        rw [mem_ready]
        have hks : k < listed.size := by omega
        refine ⟨?_, ops[k]'(by omega), by simp <;> omega, fun e he hb => ?_⟩
        · unfold Dn at hnd
          simp only [Array.getD, hks, dite_true] at hnd ⊢
          simpa using hnd
        · obtain ⟨_, _, _, g4⟩ := hget k (ops[k]'(by omega)) L[k] (by simp <;> omega) (by simp [hk])
          obtain ⟨_, _, _, _, _, z4, _⟩ := hS k L[k] (by simp [hk])
          have hm : e.on ∈ L[k].pre := by
            rw [g4, Nat.zero_add, preds_edges (o := ops[k]'(by omega)) (by simp <;> omega)]
            exact ⟨e, by simpa using he, hb, .inl rfl⟩
          have := z4 _ hm
          exact ih e.on this (by omega)
      rw [hr] at this
      cases this
  have hend : ∀ (listed : Array Bool) (mu1 : Mu) (S1 : St) (w1 : World) (a1 : Act), listed.size = L.length → Region.ready .any ops listed = [] → Half L.length F G E TB listed mu1 S1 w1 a1 →
      Ext TB mu S w mu1 S1 w1 → a1.defers = a.defers → Q .normal a1 w1 := by
    intro listed mu1 S1 w1 a1 hls hr hh ex hdf
    have hd := hdone listed hls hr
    obtain ⟨X, hXl, hinv, hX⟩ := hh.heap
    have hGm : X = G L.length := by
      apply List.ext_getElem?
      intro x
      obtain ⟨m, hm, m1, m2, m3, m4⟩ := hX x
      have he : (G m)[x]? = (G L.length)[x]? := box_const hS L.length m hm (Nat.le_refl _) fun k h1 h2 h3 => m2 k h1 h2 h3 (hd k h2)
      rcases Nat.lt_or_ge x (G L.length).length with hx | hx
      · have hxm : x < (G m).length := by
          rw [List.getElem?_eq_getElem hx] at he
          exact (List.getElem?_eq_some_iff.1 he).1
        rw [m3 hxm, he]
      · rw [List.getElem?_eq_none hx, List.getElem?_eq_none (by omega)]
    refine hQ a1 w1 mu1 S1 ex (hGm ▸ hinv) ⟨by rw [hh.size, frame_len hS L.length (Nat.le_refl _)], fun t v ht => ?_⟩ hdf
    obtain ⟨q, hq, q1, q2, q3⟩ := hh.slot t
    apply q3
    rw [← ht]
    exact frame_const hS L.length q hq (Nat.le_refl _) fun k h1 h2 h3 => q2 k h1 h2 h3 (hd k h2)
  intro fuel
  induction fuel with
  | zero =>
    intro listed mu1 S1 w1 a1 hls hcnt hcl hh ex hdf
    have hr : Region.ready .any ops listed = [] := by
      apply List.eq_nil_iff_forall_not_mem.2
      intro i hi
      obtain ⟨h1, h2, _⟩ := hready listed i hls hcl hi
      have hz : listed.toList.count false = 0 := by omega
      rw [List.count_eq_zero] at hz
      apply h2
      have his : i < listed.size := by omega
      unfold Dn
      simp only [Array.getD, his, dite_true]
      cases hv : listed[i] with
      | true => exact hv
      | false => exact absurd (by rw [← hv]; simp) hz
    exact ⟨hr, hend listed mu1 S1 w1 a1 hls hr hh ex hdf⟩
  | succ fuel ih =>
    intro listed mu1 S1 w1 a1 hls hcnt hcl hh ex hdf
    refine ⟨fun hr => hend listed mu1 S1 w1 a1 hls hr hh ex hdf, fun i hi => ?_⟩
    obtain ⟨h1, h2, h3⟩ := hready listed i hls hcl hi
    refine half_step hg hc hS hls hcl h1 h2 h3 hh fun a' w' mu' S' ex' hh' hdf' => ?_
    have his : i < listed.size := by omega
    refine ih _ mu' S' w' a' (by simp [hls]) ?_ (fun k hk o ho j hj => ?_) hh' (ex.trans ex') (hdf'.trans hdf)
    · have hv : listed[i] = false := by
        unfold Dn at h2
        simp only [Array.getD, his, dite_true] at h2
        simpa using h2
      rw [Array.toList_setIfInBounds, List.count_set (by simpa using his)]
      have : (listed.toList[i]'(by simpa using his)) = false := by simpa using hv
      rw [this, if_pos (by decide : (false == false) = true), if_neg (by decide : ¬ ((true == false) = true))]
      omega
    · rw [Dn_set his] at hk ⊢
      rcases hk with rfl | hk
      · exact .inr (h3 o ho j hj)
      · exact .inr (hcl k hk o ho j hj)

def DrawB (P : Program) (φ : FuncId → List V → Hp → Option (V × Hp)) : Prop :=
  ∀ (TB : Nat → Prop) (an : Nat → Nat) (ops : Array Oper) (id : Nat) (L : List AOp), compOps P an ops (preds ops.toList []) 0 ops.toList = some L →
    ∀ (mu : Mu) (S : St) (w : World) (H H' : Hp) (fr fr' : Fr) (a : Act) (Q : Exit → Act → World → Prop), runDrawB φ L [] fr H = some (fr', H') → Inv mu S TB w H → RelFr mu S w fr a →
      (∀ a' w' mu' S', Ext TB mu S w mu' S' w' → Inv mu' S' TB w' H' → RelFr mu' S' w' fr' a' → a'.defers = a.defers → Q .normal a' w') → (Code.region id ops true).wp P Q a w
/-- the operations of a region whose order is open -/
theorem draw_okB (hm : P.follows .mixedOrders = true) (hg : Good P φ) : DrawB P φ := by
  intro TB an ops id L hc mu S w H H' fr fr' a Q hrun hi hf hQ
  obtain ⟨F, G, E, hF, hG, hF', hG', _, hS⟩ := trace_of L [] fr H hrun
  simp only [List.length_nil, Nat.zero_add] at hF hG hF' hG' hS
  obtain ⟨hl, hget⟩ := compOps_get hc
  have hsz : L.length = ops.size := by simpa using hl
  apply wp_region_any hm
  have hd0 : ∀ k, ¬ Dn (Array.replicate ops.size false) k := by
    intro k h
    unfold Dn at h
    simp only [Array.getD] at h
    split at h <;> simp at h
  have ex0 : Ext TB mu S w mu S { w with drawn := w.drawn + 1 } := ⟨fun _ _ h => h, fun _ _ h => h, fun _ _ _ h => h, fun _ _ _ => rfl, fun _ _ => rfl, Nat.le_refl _, rfl, rfl, rfl⟩
  have hi0 : Inv mu S TB { w with drawn := w.drawn + 1 } H := by
    refine ⟨fun i b l hb hl => ?_, hi.dom, hi.old, hi.sl, hi.tl, hi.one⟩
    have := hi.box i b l hb hl
    cases b with
    | dead => trivial
    | cells xs =>
      obtain ⟨l, B, cur, e, h1, h2, h3, h4, h5, h6⟩ := this
      exact ⟨l, B, cur, e, h1, h2, h3, h4.ext ex0, h5, h6⟩
    | arr sz rows fz =>
      obtain ⟨l, h1, h2, h3, h4, h5, h6⟩ := this
      refine ⟨l, h1, h2, h3, h4, h5, ?_⟩
      cases hbk : l.blk with
      | none => rw [hbk] at h6; exact h6
      | some B =>
        rw [hbk] at h6
        obtain ⟨cur, e, ff, k1, k2, k3, k4, k5, k6, k7, k8⟩ := h6
        exact ⟨cur, e, ff, k1, k2, k3, k4, k5, fun k j r d hr hd => by obtain ⟨v, hv, hrel⟩ := k6 k j r d hr hd; exact ⟨v, hv, hrel.ext ex0⟩, k7, k8⟩
  refine half_all hg hc hS (mu := mu) (S := S) (w := w) (a := a) (fun a' w' mu' S' ex i1 f1 hdf => hQ a' w' mu' S' ex (hG' ▸ i1) (hF' ▸ f1) hdf) ops.size _ mu S _ a (by simp [hsz]) ?_ (fun k hk => absurd hk (hd0 k)) ?_ ex0 rfl
  · simp [List.count_replicate]
  · have hpad : ∀ x, x < (G 0).length → (G 0 ++ List.replicate ((G L.length).length - (G 0).length) Box.dead)[x]? = (G 0)[x]? := fun x hx => by rw [List.getElem?_append_left hx]
    have hlen : (G 0).length ≤ (G L.length).length := len_mono hS _ _ (Nat.zero_le _) (Nat.le_refl _)
    refine ⟨⟨G 0 ++ List.replicate ((G L.length).length - (G 0).length) .dead, by simp; omega, ?_, fun b => ⟨0, Nat.zero_le _, fun k h => by omega, fun k _ _ _ => hd0 k, fun h => hpad b h, fun h => ?_⟩⟩, by rw [hF]; exact hf.size, fun t => ⟨0, Nat.zero_le _, fun k h => by omega, fun k _ _ _ => hd0 k, fun v hv => ?_⟩⟩
    · rw [hG] at hpad ⊢
      have hb : ∀ {i : Nat} {b : Box} {l : Loc}, (H ++ List.replicate ((G L.length).length - H.length) Box.dead)[i]? = some b → mu i = some l → H[i]? = some b := fun {i b l} h1 h2 => by rw [← hpad i (hi0.dom i l h2)]; exact h1
      exact ⟨fun i b l h1 h2 => hi0.box i b l (hb h1 h2) h2, fun i l h => by have := hi0.dom i l h; simp; omega, hi0.old, hi0.sl, hi0.tl, fun i j bi bj li lj B hij h1 h2 h3 h4 h5 h6 => hi0.one i j bi bj li lj B hij (hb h1 h5) (hb h2 h6) h3 h4 h5 h6⟩
    · rw [hG] at h
      cases hm : mu b with
      | none => rfl
      | some l => have := hi0.dom b l hm; omega
    rw [hF] at hv
    obtain ⟨x, hx, hr⟩ := hf.rel t v hv
    exact ⟨x, hx, hr.ext ex0⟩
end

/-! ### where all is seen ahead of the run -/
section
variable {P : Program} {φ : FuncId → List V → Hp → Option (V × Hp)}
/-! ### the text's own run, step by step -/
structure StepAt0 (φ : FuncId → List V → Hp → Option (V × Hp)) (F : Nat → Fr) (G : Nat → Hp) (E : Nat → Log0) (k : Nat) (o : AOp) : Prop where
  ex : ∃ (b : Bool) (v : V), wantedV (F k) o.g = some b ∧ (E k).kind = (bif b then o.a.kind (F k) else 0) ∧ F (k + 1) = put (F k) o.dst v ∧
    (b = true → o.a.run φ (F k) (G k) = some (v, G (k + 1))) ∧ (b = false → v = .tup [] ∧ G (k + 1) = G k)
  dst : (E k).dst = o.dst
  rds : (E k).rds = o.slots
  fz : o.fz = false
  pre : ∀ j ∈ o.pre, j < k
  free : ∀ j, j < k → j ∈ o.pre ∨ (E j).free (E k) = true

theorem freeAll_spec0 {pre : List Nat} {e : Log0} : ∀ {l : List Log0} {i : Nat}, freeAll0 pre e i l = true → ∀ (j : Nat) (x : Log0), l[j]? = some x → (i + j) ∈ pre ∨ x.free e = true
  | [], i, h, j, x, hx => by simp at hx
  | y :: r, i, h, j, x, hx => by
    simp only [freeAll0, Bool.and_eq_true, Bool.or_eq_true] at h
    cases j with
    | zero =>
      simp at hx; subst hx
      rcases h.1 with h1 | h1
      · exact .inl (by simpa using h1)
      · exact .inr h1
    | succ j =>
      have := freeAll_spec0 h.2 j x (by simpa using hx)
      rwa [show i + 1 + j = i + (j + 1) by omega] at this

theorem trace_of0 {fr' : Fr} {H' : Hp} : ∀ (r : List AOp) (lg : List Log0) (fr : Fr) (H : Hp), runDrawA φ r lg fr H = some (fr', H') →
    ∃ (F : Nat → Fr) (G : Nat → Hp) (E : Nat → Log0), F lg.length = fr ∧ G lg.length = H ∧ F (lg.length + r.length) = fr' ∧ G (lg.length + r.length) = H' ∧
      (∀ (j : Nat) (l : Log0), lg[j]? = some l → E j = l) ∧ ∀ (k : Nat) (o : AOp), r[k]? = some o → StepAt0 φ F G E (lg.length + k) o
  | [], lg, fr, H, h => by
    simp only [runDrawA] at h
    cases h
    exact ⟨fun _ => fr', fun _ => H', fun j => lg.getD j ⟨0, none, []⟩, rfl, rfl, rfl, rfl, fun j l hj => by simp [List.getD, hj], fun k o hk => by simp at hk⟩
  | o :: r, lg, fr, H, h => by
    simp only [runDrawA] at h
    split at h
    · cases h
    · rename_i b hb
      split at h
      · rename_i hchk
        simp only [Bool.and_eq_true, Bool.not_eq_true'] at hchk
        obtain ⟨hfz, hpre, hfree⟩ := hchk
        split at h
        · rename_i v H1 hrun
          obtain ⟨F, G, E, hF, hG, hF', hG', hE, hS⟩ := trace_of0 r _ _ _ h
          simp only [List.length_append, List.length_cons, List.length_nil] at hF hG hF' hG' hS
          have hEk : E lg.length = ⟨bif b then o.a.kind fr else 0, o.dst, o.slots⟩ := hE lg.length _ (by simp)
          refine ⟨fun j => if j = lg.length then fr else F j, fun j => if j = lg.length then H else G j, E, by simp, by simp, ?_, ?_, fun j l hj => hE j l ?_, ?_⟩
          · show (if lg.length + (o :: r).length = lg.length then fr else F (lg.length + (o :: r).length)) = fr'
            rw [if_neg (by simp only [List.length_cons]; omega), ← hF', show lg.length + (o :: r).length = lg.length + (0 + 1) + r.length by simp only [List.length_cons]; omega]
          · show (if lg.length + (o :: r).length = lg.length then H else G (lg.length + (o :: r).length)) = H'
            rw [if_neg (by simp only [List.length_cons]; omega), ← hG', show lg.length + (o :: r).length = lg.length + (0 + 1) + r.length by simp only [List.length_cons]; omega]
          · have hj' : j < lg.length := by
              rcases Nat.lt_or_ge j lg.length with h | h
              · exact h
              · rw [List.getElem?_eq_none h] at hj; cases hj
            rw [List.getElem?_append_left hj']; exact hj
          · intro k o' hk
            cases k with
            | zero =>
              simp at hk; subst hk
              refine ⟨⟨b, v, by simpa using hb, by simp [hEk], ?_, ?_, ?_⟩, by simp [hEk], by simp [hEk], hfz, ?_, ?_⟩
              · simp [hF]
              · intro hbt; subst hbt; simpa [hG] using hrun
              · intro hbf; subst hbf; simp at hrun; simp [hG, hrun]
              · intro j hj; have := (List.all_eq_true.1 hpre) j hj; simpa using this
              · intro j hj
                have hj' : j < lg.length := by simpa using hj
                have hx := freeAll_spec0 hfree j lg[j] (by simp [hj'])
                rw [Nat.zero_add] at hx
                have hEj : E j = lg[j] := hE j _ (by rw [List.getElem?_append_left hj']; simp [hj'])
                rw [Nat.add_zero, hEk, hEj]; exact hx
            | succ k =>
              have hs := hS k o' (by simpa using hk)
              rw [show lg.length + 1 + k = lg.length + (k + 1) by omega] at hs
              obtain ⟨⟨b', v', x1, x2, x3, x4, x5⟩, y1, y2, y3, y4, y5⟩ := hs
              have e1 : ¬ (lg.length + (k + 1) = lg.length) := by omega
              have e2 : ¬ (lg.length + (k + 1) + 1 = lg.length) := by omega
              exact ⟨⟨b', v', by simpa only [if_neg e1] using x1, by simpa only [if_neg e1] using x2, by simpa only [if_neg e1, if_neg e2] using x3,
                by simpa only [if_neg e1, if_neg e2] using x4, by simpa only [if_neg e1, if_neg e2] using x5⟩, y1, y2, y3, y4, y5⟩
        · cases h
      · cases h

variable {F : Nat → Fr} {G : Nat → Hp} {E : Nat → Log0} {L : List AOp}

theorem frame_const0 (hS : ∀ k o, L[k]? = some o → StepAt0 φ F G E k o) {t : Nat} : ∀ (b a : Nat), a ≤ b → b ≤ L.length → (∀ k, a ≤ k → k < b → (E k).dst ≠ some t) → (F a)[t]? = (F b)[t]?
  | 0, a, h, _, _ => by rw [show a = 0 by omega]
  | b + 1, a, h, hb, hn => by
    rcases Nat.lt_or_ge a (b + 1) with h1 | h1
    · rw [frame_const0 hS b a (by omega) (by omega) (fun k h2 h3 => hn k h2 (by omega))]
      have hs := hS b L[b] (by simp)
      obtain ⟨⟨bb, v, x1, x2, x3, x4, x5⟩, y1, _⟩ := hs
      have := hn b (by omega) (by omega)
      rw [y1] at this
      rw [x3, put_get, if_neg this]
    · rw [show a = b + 1 by omega]

theorem frame_len0 (hS : ∀ k o, L[k]? = some o → StepAt0 φ F G E k o) : ∀ k, k ≤ L.length → (F k).length = (F 0).length
  | 0, _ => rfl
  | k + 1, h => by
    obtain ⟨⟨bb, v, x1, x2, x3, x4, x5⟩, y1, _⟩ := hS k L[k] (by simp)
    rw [x3, put_length, frame_len0 hS k (by omega)]

theorem heap_const0 (hS : ∀ k o, L[k]? = some o → StepAt0 φ F G E k o) : ∀ (b a : Nat), a ≤ b → b ≤ L.length → (∀ k, a ≤ k → k < b → (E k).kind ≠ 2) → G a = G b
  | 0, a, h, _, _ => by rw [show a = 0 by omega]
  | b + 1, a, h, hb, hn => by
    rcases Nat.lt_or_ge a (b + 1) with h1 | h1
    · rw [heap_const0 hS b a (by omega) (by omega) (fun k h2 h3 => hn k h2 (by omega))]
      obtain ⟨⟨bb, v, x1, x2, x3, x4, x5⟩, y1, _⟩ := hS b L[b] (by simp)
      have := hn b (by omega) (by omega)
      rw [x2] at this
      cases bb with
      | true => exact (run_same this (x4 rfl)).symm
      | false => exact (x5 rfl).2.symm
    · rw [show a = b + 1 by omega]

/-- where the operations of a set are done -/
structure Half0 (n : Nat) (F : Nat → Fr) (G : Nat → Hp) (E : Nat → Log0) (TB : Nat → Prop) (listed : Array Bool) (mu : Mu) (S : St) (w : World) (a : Act) : Prop where
  heap : ∃ m, m ≤ n ∧ (∀ k, k < m → (E k).kind = 2 → Dn listed k) ∧ (∀ k, m ≤ k → k < n → (E k).kind = 2 → ¬ Dn listed k) ∧ Inv mu S TB w (G m)
  size : a.tmps.size = (F 0).length
  slot : ∀ t, ∃ m, m ≤ n ∧ (∀ k, k < m → (E k).dst = some t → Dn listed k) ∧ (∀ k, m ≤ k → k < n → (E k).dst = some t → ¬ Dn listed k) ∧
    ∀ v, (F m)[t]? = some v → ∃ x, a.tmps[t]? = some x ∧ RelV mu S w v x

/-- one more operation -/
theorem half_step0 (hg : Good P φ) {TB : Nat → Prop} {an : Nat → Nat} {ops : Array Oper} {ps : List (List Nat)} (hc : compOps P an ops ps 0 ops.toList = some L)
    (hS : ∀ k o, L[k]? = some o → StepAt0 φ F G E k o) {listed : Array Bool} {mu : Mu} {S : St} {w : World} {a : Act} (hsz : listed.size = L.length)
    (hcl : ∀ k, Dn listed k → ∀ o, L[k]? = some o → ∀ j ∈ o.pre, Dn listed j)
    {i : Nat} (hi : i < L.length) (hnd : ¬ Dn listed i) (hpre : ∀ o, L[i]? = some o → ∀ j ∈ o.pre, Dn listed j)
    (hh : Half0 L.length F G E TB listed mu S w a) {K : Act → World → Prop} {Q : Exit → Act → World → Prop}
    (hk : ∀ a' w' mu' S', Ext TB mu S w mu' S' w' → Half0 L.length F G E TB (listed.setIfInBounds i true) mu' S' w' a' → a'.defers = a.defers → K a' w') : wpOp P ops Q i K a w := by
  obtain ⟨hl, hget⟩ := compOps_get hc
  have hio : i < ops.size := by rw [hl] at hi; simpa using hi
  obtain ⟨g1, g2, g3, g4⟩ := hget i ops[i] L[i] (by simp [hio]) (by simp [hi])
  obtain ⟨⟨b, v, x1, x2, x3, x4, x5⟩, y1, y2, y3, y4, y5⟩ := hS i L[i] (by simp [hi])
  have hp := hpre L[i] (by simp [hi])
  -- no other operation stands against this one
  have before : ∀ k, k < i → ¬ Dn listed k → (E k).free (E i) = true := fun k hki hk => (y5 k hki).resolve_left fun h => hk (hp k h)
  have after : ∀ k, i < k → k < L.length → Dn listed k → (E i).free (E k) = true := fun k hik hkn hk => by
    obtain ⟨_, _, _, _, _, z5⟩ := hS k L[k] (by simp [hkn])
    exact (z5 i hik).resolve_left fun h => hnd (hcl k hk L[k] (by simp [hkn]) i h)
  have hfree : ∀ x y : Log0, x.free y = true → (∀ d, x.dst = some d → d ∉ y.rds ∧ y.dst ≠ some d) ∧ (∀ d, y.dst = some d → d ∉ x.rds ∧ x.dst ≠ some d) ∧ (x.kind = 0 ∨ y.kind = 0 ∨ (x.kind = 1 ∧ y.kind = 1)) := by
    intro x y h
    simp only [Log0.free, Bool.and_eq_true, Bool.or_eq_true, beq_iff_eq] at h
    obtain ⟨⟨h1, h2⟩, h3⟩ := h
    have e1 : ∀ d, x.dst = some d → d ∉ y.rds ∧ y.dst ≠ some d := by
      intro d hd
      rw [hd] at h1
      simpa using h1
    refine ⟨e1, fun d hd => ?_, ?_⟩
    · rw [hd] at h2
      refine ⟨by simpa using h2, fun hx => (e1 d hx).2 hd⟩
    · rcases h3 with (h3 | h3) | h3
      · exact .inl h3
      · exact .inr (.inl h3)
      · exact .inr (.inr h3)
  -- the slots that it reads
  have hslots : ∀ t ∈ L[i].slots, ∀ v, (F i)[t]? = some v → ∃ x, a.tmps[t]? = some x ∧ RelV mu S w v x := by
    intro t ht v hv
    obtain ⟨m, hm, m1, m2, m3⟩ := hh.slot t
    apply m3
    rw [← hv]
    rcases Nat.le_total m i with hmi | hmi
    · refine frame_const0 hS i m hmi (by omega) fun k h1 h2 h3 => ?_
      have := (hfree _ _ (before k h2 (m2 k h1 (by omega) h3))).1 t h3
      exact this.1 (y2 ▸ ht)
    · refine (frame_const0 hS m i hmi hm fun k h1 h2 h3 => ?_).symm
      have hd := m1 k h2 h3
      rcases Nat.lt_or_ge i k with h4 | h4
      · have := (hfree _ _ (after k h4 (by omega) hd)).2.1 t h3
        exact this.1 (y2 ▸ ht)
      · exact hnd (by rwa [show i = k by omega])
  have hfr : RelFr mu S w (killed L[i].slots (F i)) a := by
    refine ⟨by rw [hh.size]; simp [killed, frame_len0 hS i (by omega)], fun t v ht => ?_⟩
    by_cases hts : t ∈ L[i].slots
    · rw [killed_get hts] at ht
      exact hslots t hts v ht
    · simp only [killed, List.getElem?_mapIdx, Option.map_eq_some_iff] at ht
      obtain ⟨u, hu, rfl⟩ := ht
      have hlt : t < a.tmps.size := by
        rw [hh.size, ← frame_len0 hS i (by omega)]
        rcases Nat.lt_or_ge t (F i).length with h | h
        · exact h
        · rw [List.getElem?_eq_none h] at hu; cases hu
      refine ⟨a.tmps[t], by simp [hlt], ?_⟩
      rw [if_neg (by simpa using hts)]
      trivial
  -- the boxes
  obtain ⟨m, hm, m1, m2, hinv⟩ := hh.heap
  have hheap : (E i).kind ≠ 0 → G i = G m := by
    intro hk0
    have hb1 : ∀ k, k < i → (E k).kind = 2 → Dn listed k := fun k hki hk2 => Classical.byContradiction fun hnk => by
      have := (hfree _ _ (before k hki hnk)).2.2
      rw [hk2] at this
      omega
    have hb2 : ∀ k, i < k → k < L.length → (E k).kind = 2 → ¬ Dn listed k := fun k hik hkn hk2 hdk => by
      have := (hfree _ _ (after k hik hkn hdk)).2.2
      rw [hk2] at this
      omega
    rcases Nat.le_total m i with hmi | hmi
    · exact (heap_const0 hS i m hmi (by omega) fun k h1 h2 h3 => m2 k h1 (by omega) h3 (hb1 k h2 h3)).symm
    · refine heap_const0 hS m i hmi hm fun k h1 h2 h3 => ?_
      have hd := m1 k h2 h3
      rcases Nat.lt_or_ge i k with h4 | h4
      · exact hb2 k h4 (by omega) h3 hd
      · exact hnd (by rwa [show i = k by omega])
  have hset : ∀ k, Dn (listed.setIfInBounds i true) k ↔ k = i ∨ Dn listed k := fun k => Dn_set (by omega)
  -- what it leaves
  have fin : ∀ (x : Value) (w' : World) (mu' : Mu) (S' : St) (H1 : Hp), Ext TB mu S w mu' S' w' → Inv mu' S' TB w' H1 → RelV mu' S' w' v x → ((E i).kind = 2 → H1 = G (i + 1)) → ((E i).kind ≠ 2 → H1 = G m) →
      K (a.put ops[i].dst x) w' := by
    intro x w' mu' S' H1 ex i1 rx hH2 hH0
    refine hk _ _ mu' S' ex ⟨?_, by rw [act_put_size]; exact hh.size, fun t => ?_⟩ (put_defers _ _ _)
    · by_cases h2 : (E i).kind = 2
      · refine ⟨i + 1, by omega, fun k hk1 hk2 => (hset k).2 ?_, fun k hk1 hkn hk2 hd => ?_, hH2 h2 ▸ i1⟩
        · rcases Nat.lt_or_ge k i with h | h
          · refine .inr (Classical.byContradiction fun hnk => ?_)
            have := (hfree _ _ (before k h hnk)).2.2
            omega
          · exact .inl (by omega)
        · rcases (hset k).1 hd with h | h
          · omega
          · have := (hfree _ _ (after k (by omega) hkn h)).2.2
            omega
      · refine ⟨m, hm, fun k hk1 hk2 => (hset k).2 (.inr (m1 k hk1 hk2)), fun k hk1 hkn hk2 hd => ?_, hH0 h2 ▸ i1⟩
        rcases (hset k).1 hd with h | h
        · subst h; exact h2 hk2
        · exact m2 k hk1 hkn hk2 h
    · by_cases ht : (E i).dst = some t
      · have hdt : ops[i].dst = some t := by rw [← g3, ← y1]; exact ht
        refine ⟨i + 1, by omega, fun k hk1 hk2 => (hset k).2 ?_, fun k hk1 hkn hk2 hd => ?_, fun u hu => ?_⟩
        · rcases Nat.lt_or_ge k i with h | h
          · refine .inr (Classical.byContradiction fun hnk => ?_)
            exact ((hfree _ _ (before k h hnk)).1 t hk2).2 ht
          · exact .inl (by omega)
        · rcases (hset k).1 hd with h | h
          · omega
          · exact ((hfree _ _ (after k (by omega) hkn h)).1 t ht).2 hk2
        · rw [x3, put_get, if_pos (by rw [← y1]; exact ht)] at hu
          split at hu
          · rename_i hlt
            cases hu
            refine ⟨x, ?_, rx⟩
            rw [act_put_get, if_pos hdt, if_pos]
            rw [hh.size, ← frame_len0 hS i (by omega)]; exact hlt
          · cases hu
      · have hdt : ops[i].dst ≠ some t := by rw [← g3, ← y1]; exact ht
        obtain ⟨q, hq, q1, q2, q3⟩ := hh.slot t
        refine ⟨q, hq, fun k hk1 hk2 => (hset k).2 (.inr (q1 k hk1 hk2)), fun k hk1 hkn hk2 hd => ?_, fun u hu => ?_⟩
        · rcases (hset k).1 hd with h | h
          · subst h; exact ht hk2
          · exact q2 k hk1 hkn hk2 h
        · obtain ⟨y, hy, hr⟩ := q3 u hu
          refine ⟨y, ?_, hr.ext ex⟩
          rw [act_put_get, if_neg hdt]; exact hy
  -- the operation itself
  have hwk : wantedV (killed L[i].slots (F i)) L[i].g = some b := wanted_killed x1 fun t w hgw => by
    simp only [AOp.slots, hgw, List.mem_append]
    exact .inr (List.mem_singleton_self _)
  unfold wpOp
  simp only [show ops[i]? = some ops[i] by simp [hio]]
  rw [wanted_ok g2 hfr hwk]
  cases b with
  | true =>
    simp only [if_true]
    left
    have hrun : ∃ H1, L[i].a.run φ (killed L[i].slots (F i)) (G m) = some (v, H1) ∧ ((E i).kind = 2 → H1 = G (i + 1)) ∧ ((E i).kind ≠ 2 → H1 = G m) := by
      have hcg : ∀ H, L[i].a.run φ (killed L[i].slots (F i)) H = L[i].a.run φ (F i) H := fun H => run_congr fun t ht => killed_get (by
        simp only [AOp.slots, List.mem_append]; exact .inl ht)
      simp only [hcg]
      simp only [cond_true] at x2
      have hr := x4 rfl
      by_cases h0 : (E i).kind = 0
      · obtain ⟨_, h2⟩ := run_kind0 (by rw [← x2]; exact h0) hr
        exact ⟨G m, h2 _, fun h => by omega, fun _ => rfl⟩
      · rw [← hheap h0]
        refine ⟨G (i + 1), hr, fun _ => rfl, fun h => run_same (by rw [← x2]; exact h) hr⟩
    obtain ⟨H1, hr, hH2, hH0⟩ := hrun
    rw [y3] at *
    have g1' : compOp P (if an (0 + i) = 2 then 0 else an (0 + i)) ops[i].op = some L[i].a := g1
    exact op_ok hg g1' hinv hfr hr K Q fun x w' mu' S' ex i1 rx => fin x w' mu' S' H1 ex i1 rx hH2 hH0
  | false =>
    rw [if_neg (by simp)]
    obtain ⟨rfl, hG⟩ := x5 rfl
    simp only [cond_false] at x2
    exact fin undef w mu S (G m) (.refl _ _ _ _) hinv undef_rel (fun h => by omega) (fun _ => rfl)
theorem half_all0 (hg : Good P φ) {TB : Nat → Prop} {an : Nat → Nat} {ops : Array Oper} (hc : compOps P an ops (preds ops.toList []) 0 ops.toList = some L)
    (hS : ∀ k o, L[k]? = some o → StepAt0 φ F G E k o) {Q : Exit → Act → World → Prop} {mu : Mu} {S : St} {w : World} {a : Act}
    (hQ : ∀ a' w' mu' S', Ext TB mu S w mu' S' w' → Inv mu' S' TB w' (G L.length) → RelFr mu' S' w' (F L.length) a' → a'.defers = a.defers → Q .normal a' w') :
    ∀ (fuel : Nat) (listed : Array Bool) (mu1 : Mu) (S1 : St) (w1 : World) (a1 : Act), listed.size = L.length → listed.toList.count false ≤ fuel →
      (∀ k, Dn listed k → ∀ o, L[k]? = some o → ∀ j ∈ o.pre, Dn listed j) → Half0 L.length F G E TB listed mu1 S1 w1 a1 → Ext TB mu S w mu1 S1 w1 → a1.defers = a.defers →
      wpAny P .any ops Q fuel listed a1 w1 := by
  obtain ⟨hl, hget⟩ := compOps_get hc
  have hsz : L.length = ops.size := by simpa using hl
  -- an operation that may go has all that it waits for
  have hready : ∀ (listed : Array Bool) (i : Nat), listed.size = L.length → (∀ k, Dn listed k → ∀ o, L[k]? = some o → ∀ j ∈ o.pre, Dn listed j) → i ∈ Region.ready .any ops listed →
      i < L.length ∧ ¬ Dn listed i ∧ ∀ o, L[i]? = some o → ∀ j ∈ o.pre, Dn listed j := by
    intro listed i hls hcl hi
    rw [mem_ready] at hi
    obtain ⟨h0, o, ho, hall⟩ := hi
    have hio : i < ops.size := by
      rcases Nat.lt_or_ge i ops.size with h | h
      · exact h
      · rw [Array.getElem?_eq_none h] at ho; cases ho
    refine ⟨by omega, ?_, fun ao hao j hj => ?_⟩
    · unfold Dn
      have : i < listed.size := by omega
      simp only [Array.getD, this, dite_true] at h0 ⊢
      rw [h0]; simp
    · obtain ⟨_, _, _, g4⟩ := hget i o ao (by simpa using ho) hao
      rw [g4, Nat.zero_add, preds_edges (o := o) (by simpa using ho)] at hj
      obtain ⟨e, he, hb, hx⟩ := hj
      have hd := hall e (by simpa using he) hb
      rcases hx with rfl | ⟨hlt, hx⟩
      · exact hd
      · have hen : e.on < L.length := by omega
        obtain ⟨_, _, _, g4'⟩ := hget e.on ops[e.on] L[e.on] (by simp <;> omega) (by simp [hen])
        refine hcl e.on hd L[e.on] (by simp [hen]) j ?_
        rw [g4', Nat.zero_add]; exact hx
  -- where none may go, all are done
  have hdone : ∀ listed : Array Bool, listed.size = L.length → Region.ready .any ops listed = [] → ∀ k, k < L.length → Dn listed k := by
    intro listed hls hr k
    induction k using Nat.strongRecOn with
    | ind k ih =>
      intro hk
      apply Classical.byContradiction
      intro hnd
      have : k ∈ Region.ready .any ops listed := by
        rw [mem_ready]
        have hks : k < listed.size := by omega
        refine ⟨?_, ops[k]'(by omega), by simp <;> omega, fun e he hb => ?_⟩
        · unfold Dn at hnd
          simp only [Array.getD, hks, dite_true] at hnd ⊢
          simpa using hnd
        · obtain ⟨_, _, _, g4⟩ := hget k (ops[k]'(by omega)) L[k] (by simp <;> omega) (by simp [hk])
          obtain ⟨_, _, _, _, z4, _⟩ := hS k L[k] (by simp [hk])
          have hm : e.on ∈ L[k].pre := by
            rw [g4, Nat.zero_add, preds_edges (o := ops[k]'(by omega)) (by simp <;> omega)]
            exact ⟨e, by simpa using he, hb, .inl rfl⟩
          have := z4 _ hm
          exact ih e.on this (by omega)
      rw [hr] at this
      cases this
  have hend : ∀ (listed : Array Bool) (mu1 : Mu) (S1 : St) (w1 : World) (a1 : Act), listed.size = L.length → Region.ready .any ops listed = [] → Half0 L.length F G E TB listed mu1 S1 w1 a1 →
      Ext TB mu S w mu1 S1 w1 → a1.defers = a.defers → Q .normal a1 w1 := by
    intro listed mu1 S1 w1 a1 hls hr hh ex hdf
    have hd := hdone listed hls hr
    obtain ⟨m, hm, m1, m2, hinv⟩ := hh.heap
    have hGm : G m = G L.length := heap_const0 hS L.length m hm (Nat.le_refl _) fun k h1 h2 h3 => m2 k h1 h2 h3 (hd k h2)
    refine hQ a1 w1 mu1 S1 ex (hGm ▸ hinv) ⟨by rw [hh.size, frame_len0 hS L.length (Nat.le_refl _)], fun t v ht => ?_⟩ hdf
    obtain ⟨q, hq, q1, q2, q3⟩ := hh.slot t
    apply q3
    rw [← ht]
    exact frame_const0 hS L.length q hq (Nat.le_refl _) fun k h1 h2 h3 => q2 k h1 h2 h3 (hd k h2)
  intro fuel
  induction fuel with
  | zero =>
    intro listed mu1 S1 w1 a1 hls hcnt hcl hh ex hdf
    have hr : Region.ready .any ops listed = [] := by
      apply List.eq_nil_iff_forall_not_mem.2
      intro i hi
      obtain ⟨h1, h2, _⟩ := hready listed i hls hcl hi
      have hz : listed.toList.count false = 0 := by omega
      rw [List.count_eq_zero] at hz
      apply h2
      have his : i < listed.size := by omega
      unfold Dn
      simp only [Array.getD, his, dite_true]
      cases hv : listed[i] with
      | true => exact hv
      | false => exact absurd (by rw [← hv]; simp) hz
    exact ⟨hr, hend listed mu1 S1 w1 a1 hls hr hh ex hdf⟩
  | succ fuel ih =>
    intro listed mu1 S1 w1 a1 hls hcnt hcl hh ex hdf
    refine ⟨fun hr => hend listed mu1 S1 w1 a1 hls hr hh ex hdf, fun i hi => ?_⟩
    obtain ⟨h1, h2, h3⟩ := hready listed i hls hcl hi
    refine half_step0 hg hc hS hls hcl h1 h2 h3 hh fun a' w' mu' S' ex' hh' hdf' => ?_
    have his : i < listed.size := by omega
    refine ih _ mu' S' w' a' (by simp [hls]) ?_ (fun k hk o ho j hj => ?_) hh' (ex.trans ex') (hdf'.trans hdf)
    · have hv : listed[i] = false := by
        unfold Dn at h2
        simp only [Array.getD, his, dite_true] at h2
        simpa using h2
      rw [Array.toList_setIfInBounds, List.count_set (by simpa using his)]
      have : (listed.toList[i]'(by simpa using his)) = false := by simpa using hv
      rw [this, if_pos (by decide : (false == false) = true), if_neg (by decide : ¬ ((true == false) = true))]
      omega
    · rw [Dn_set his] at hk ⊢
      rcases hk with rfl | hk
      · exact .inr (h3 o ho j hj)
      · exact .inr (hcl k hk o ho j hj)

def DrawA (P : Program) (φ : FuncId → List V → Hp → Option (V × Hp)) : Prop :=
  ∀ (TB : Nat → Prop) (an : Nat → Nat) (ops : Array Oper) (id : Nat) (L : List AOp), compOps P an ops (preds ops.toList []) 0 ops.toList = some L →
    ∀ (mu : Mu) (S : St) (w : World) (H H' : Hp) (fr fr' : Fr) (a : Act) (Q : Exit → Act → World → Prop), runDrawA φ L [] fr H = some (fr', H') → Inv mu S TB w H → RelFr mu S w fr a →
      (∀ a' w' mu' S', Ext TB mu S w mu' S' w' → Inv mu' S' TB w' H' → RelFr mu' S' w' fr' a' → a'.defers = a.defers → Q .normal a' w') → (Code.region id ops true).wp P Q a w

theorem draw_okA (hm : P.follows .mixedOrders = true) (hg : Good P φ) : DrawA P φ := by
  intro TB an ops id L hc mu S w H H' fr fr' a Q hrun hi hf hQ
  obtain ⟨F, G, E, hF, hG, hF', hG', _, hS⟩ := trace_of0 L [] fr H hrun
  simp only [List.length_nil, Nat.zero_add] at hF hG hF' hG' hS
  obtain ⟨hl, hget⟩ := compOps_get hc
  have hsz : L.length = ops.size := by simpa using hl
  apply wp_region_any hm
  have hd0 : ∀ k, ¬ Dn (Array.replicate ops.size false) k := by
    intro k h
    unfold Dn at h
    simp only [Array.getD] at h
    split at h <;> simp at h
  have ex0 : Ext TB mu S w mu S { w with drawn := w.drawn + 1 } := ⟨fun _ _ h => h, fun _ _ h => h, fun _ _ _ h => h, fun _ _ _ => rfl, fun _ _ => rfl, Nat.le_refl _, rfl, rfl, rfl⟩
  have hi0 : Inv mu S TB { w with drawn := w.drawn + 1 } H := by
    refine ⟨fun i b l hb hl => ?_, hi.dom, hi.old, hi.sl, hi.tl, hi.one⟩
    have := hi.box i b l hb hl
    cases b with
    | dead => trivial
    | cells xs =>
      obtain ⟨l, B, cur, e, h1, h2, h3, h4, h5, h6⟩ := this
      exact ⟨l, B, cur, e, h1, h2, h3, h4.ext ex0, h5, h6⟩
    | arr sz rows fz =>
      obtain ⟨l, h1, h2, h3, h4, h5, h6⟩ := this
      refine ⟨l, h1, h2, h3, h4, h5, ?_⟩
      cases hbk : l.blk with
      | none => rw [hbk] at h6; exact h6
      | some B =>
        rw [hbk] at h6
        obtain ⟨cur, e, ff, k1, k2, k3, k4, k5, k6, k7, k8⟩ := h6
        exact ⟨cur, e, ff, k1, k2, k3, k4, k5, fun k j r d hr hd => by obtain ⟨v, hv, hrel⟩ := k6 k j r d hr hd; exact ⟨v, hv, hrel.ext ex0⟩, k7, k8⟩
  refine half_all0 hg hc hS (mu := mu) (S := S) (w := w) (a := a) (fun a' w' mu' S' ex i1 f1 hdf => hQ a' w' mu' S' ex (hG' ▸ i1) (hF' ▸ f1) hdf) ops.size _ mu S _ a (by simp [hsz]) ?_ (fun k hk => absurd hk (hd0 k)) ?_ ex0 rfl
  · simp [List.count_replicate]
  · refine ⟨⟨0, Nat.zero_le _, fun k h => by omega, fun k _ _ _ => hd0 k, by rw [hG]; exact hi0⟩, by rw [hF]; exact hf.size, fun t => ⟨0, Nat.zero_le _, fun k h => by omega, fun k _ _ _ => hd0 k, fun v hv => ?_⟩⟩
    rw [hF] at hv
    obtain ⟨x, hx, hr⟩ := hf.rel t v hv
    exact ⟨x, hx, hr.ext ex0⟩
end

theorem draw_ok {P : Program} {φ : FuncId → List V → Hp → Option (V × Hp)} (hm : P.follows .mixedOrders = true) (hg : Good P φ) : DrawOK P φ := by
  intro TB an ops id L hc mu S w H H' fr fr' a Q hrun hi hf hQ
  simp only [runDraw] at hrun
  cases hs : statS L [] with
  | true => rw [hs] at hrun; exact draw_okA hm hg TB an ops id L hc mu S w H H' fr fr' a Q hrun hi hf hQ
  | false => rw [hs] at hrun; exact draw_okB hm hg TB an ops id L hc mu S w H H' fr fr' a Q hrun hi hf hQ
end Go.Vi

namespace Go.Vi
set_option linter.unusedSimpArgs false
set_option linter.unusedVariables false

/-! ### what comes in, as data -/
def RelQ (S : St) (w : World) (ds : List D) (cs : List Value) : Prop := cs.length = ds.length ∧ ∀ (j : Nat) (d : D), ds[j]? = some d → ∃ v, cs[j]? = some v ∧ RelD S w d v

def wfFields (W : TypeId → List D → Prop) (sz : TypeId → Nat) : List TypeId → List D → Prop
  | [], ds => ds = []
  | f :: fs, ds => ∃ p r, ds = p ++ r ∧ p.length = sz f ∧ W f p ∧ wfFields W sz fs r

def wfD (P : Program) : Nat → TypeId → List D → Prop
  | 0, _, _ => False
  | n + 1, t, ds => match P.underlying t with
    | some .bool => ∃ b, ds = [.b b]
    | some (.int k) => ∃ x, ds = [.i k x] ∧ (Lit.int k x).wf = true
    | some .string => ∃ l : List UInt8, ds = [.s l] ∧ l.length ≤ maxLen
    | some (.slice e) => ∃ rows, ds = [.l rows] ∧ rows.length ≤ maxLen ∧ ∀ r ∈ rows, r.length = P.cellsOf e ∧ wfD P n e r
    | some (.struct fs) => wfFields (wfD P n) P.cellsOf (fs.toList.map (·.type)) ds
    | some (.array m e) => wfFields (wfD P n) P.cellsOf (List.replicate m e) ds
    | _ => False

def seqF (sz : TypeId → Nat) : Nat → List Field → Nat → Bool
  | off, [], total => off == total
  | off, f :: fs, total => f.offset == off && seqF sz (off + sz f.type) fs total

def plainT (P : Program) : Nat → TypeId → Bool
  | 0, _ => false
  | n + 1, t => match P.underlying t with
    | some .bool => true
    | some (.int _) => true
    | some .string => true
    | some (.slice e) => plainT P n e && decide (0 < P.cellsOf e)
    | some (.struct fs) => seqF P.cellsOf 0 fs.toList (P.cellsOf t) && fs.toList.all fun f => plainT P n f.type
    | some (.array m e) => plainT P n e && P.cellsOf t == m * P.cellsOf e
    | _ => false

theorem list_of {β : Type} {p : Nat → β → Prop} : ∀ {n : Nat}, (∀ i, i < n → ∃ r, p i r) → ∃ l : List β, l.length = n ∧ ∀ (i : Nat) (r : β), l[i]? = some r → p i r
  | 0, _ => ⟨[], rfl, fun i r h => by simp at h⟩
  | n + 1, h => by
    obtain ⟨l, hl, hp⟩ := list_of (n := n) (fun i hi => h i (by omega))
    obtain ⟨r, hr⟩ := h n (by omega)
    refine ⟨l ++ [r], by simp [hl], fun i x hx => ?_⟩
    rcases Nat.lt_or_ge i n with hi | hi
    · rw [List.getElem?_append_left (by omega)] at hx; exact hp i x hx
    · rw [List.getElem?_append_right (by omega)] at hx
      have : i = n := by
        have := (List.getElem?_eq_some_iff.1 hx).1
        simp at this; omega
      subst this
      simp [hl] at hx
      subst hx; exact hr

theorem mapM_some {α β : Type} {f : α → Option β} : ∀ {l : List α} {r : List β}, l.mapM f = some r → ∀ x ∈ l, ∃ y, f x = some y
  | [], r, h, x, hx => by cases hx
  | a :: l, r, h, x, hx => by
    rw [List.mapM_cons] at h
    cases ha : f a with
    | none => rw [ha] at h; simp at h
    | some y =>
      rw [ha] at h
      cases hl : l.mapM f with
      | none => rw [hl] at h; simp at h
      | some ys =>
        rcases List.mem_cons.1 hx with rfl | hx
        · exact ⟨y, ha⟩
        · exact mapM_some hl x hx

theorem RelQ.append {S : St} {w : World} {d1 d2 : List D} {c1 c2 : List Value} (h1 : RelQ S w d1 c1) (h2 : RelQ S w d2 c2) : RelQ S w (d1 ++ d2) (c1 ++ c2) := by
  refine ⟨by simp [h1.1, h2.1], fun j d hj => ?_⟩
  rcases Nat.lt_or_ge j d1.length with h | h
  · rw [List.getElem?_append_left h] at hj
    rw [List.getElem?_append_left (by rw [h1.1]; exact h)]
    exact h1.2 j d hj
  · rw [List.getElem?_append_right h] at hj
    rw [List.getElem?_append_right (by rw [h1.1]; exact h), h1.1]
    exact h2.2 _ d hj

theorem RelQ.one {S : St} {w : World} {d : D} {v : Value} (h : RelD S w d v) : RelQ S w [d] [v] := by
  refine ⟨rfl, fun j x hj => ?_⟩
  cases j with
  | zero => simp at hj; subst hj; exact ⟨v, rfl, h⟩
  | succ j => simp at hj

section
variable {H : Type} {enc : TypeId × Value → H} {P : Program} {w : World} {spare : Nat → Bool} {held : Bool}

theorem fields_open {n : Nat} {cs : List Value} {total : Nat} (ht : cs.length = total)
    (ih : ∀ t, plainT P n t = true → ∀ cs' x fuel, DataW.trod enc P w 0 spare held fuel t cs' = some x → ∃ ds, RelQ (fun b _ => b < w.heap.size) w ds cs' ∧ wfD P n t ds) (fuel : Nat) :
    ∀ (fs : List Field) (off : Nat), seqF P.cellsOf off fs total = true → (∀ f ∈ fs, plainT P n f.type = true) → (∀ f ∈ fs, ∃ x, DataW.trod enc P w 0 spare held fuel f.type ((cs.drop f.offset).take (P.cellsOf f.type)) = some x) → off ≤ total →
      ∃ ds, RelQ (fun b _ => b < w.heap.size) w ds (cs.drop off) ∧ wfFields (wfD P n) P.cellsOf (fs.map (·.type)) ds
  | [], off, hs, hp, hx, hle => by
    simp only [seqF, beq_iff_eq] at hs
    refine ⟨[], ⟨by simp; omega, fun j d hj => by simp at hj⟩, rfl⟩
  | f :: fs, off, hs, hp, hx, hle => by
    simp only [seqF, Bool.and_eq_true, beq_iff_eq] at hs
    obtain ⟨hf, hs⟩ := hs
    have hle2 : off + P.cellsOf f.type ≤ total := by
      have key : ∀ (fs : List Field) (a : Nat), seqF P.cellsOf a fs total = true → a ≤ total := by
        intro fs
        induction fs with
        | nil => intro a h; simp only [seqF, beq_iff_eq] at h; omega
        | cons g gs ihg => intro a h; simp only [seqF, Bool.and_eq_true, beq_iff_eq] at h; have := ihg _ h.2; omega
      exact key fs _ hs
    obtain ⟨x, hx1⟩ := hx f (List.mem_cons_self ..)
    rw [hf] at hx1
    obtain ⟨d1, r1, w1⟩ := ih f.type (hp f (List.mem_cons_self ..)) _ _ _ hx1
    obtain ⟨d2, r2, w2⟩ := fields_open ht ih fuel fs _ hs (fun g hg => hp g (List.mem_cons_of_mem _ hg)) (fun g hg => hx g (List.mem_cons_of_mem _ hg)) hle2
    refine ⟨d1 ++ d2, ?_, d1, d2, rfl, ?_, w1, w2⟩
    · have := r1.append r2
      rwa [← List.drop_drop, List.take_append_drop] at this
    · rw [← r1.1]; simp; omega

theorem rep_open {n : Nat} {e : TypeId} {cs : List Value}
    (ih : ∀ cs' x fuel, DataW.trod enc P w 0 spare held fuel e cs' = some x → ∃ ds, RelQ (fun b _ => b < w.heap.size) w ds cs' ∧ wfD P n e ds) (fuel : Nat) :
    ∀ (m k : Nat), cs.length = (k + m) * P.cellsOf e → (∀ i, i < k + m → ∃ x, DataW.trod enc P w 0 spare held fuel e ((cs.drop (i * P.cellsOf e)).take (P.cellsOf e)) = some x) →
      ∃ ds, RelQ (fun b _ => b < w.heap.size) w ds (cs.drop (k * P.cellsOf e)) ∧ wfFields (wfD P n) P.cellsOf (List.replicate m e) ds
  | 0, k, hl, hx => ⟨[], ⟨by simp [hl], fun j d hj => by simp at hj⟩, rfl⟩
  | m + 1, k, hl, hx => by
    obtain ⟨x, hx1⟩ := hx k (by omega)
    obtain ⟨d1, r1, w1⟩ := ih _ _ _ hx1
    obtain ⟨d2, r2, w2⟩ := rep_open ih fuel m (k + 1) (by rw [hl]; congr 1; omega) (fun i hi => hx i (by omega))
    refine ⟨d1 ++ d2, ?_, d1, d2, rfl, ?_, w1, w2⟩
    · have := r1.append r2
      rwa [Nat.add_mul, Nat.one_mul, ← List.drop_drop, List.take_append_drop] at this
    · rw [← r1.1]
      have : (k + 1) * P.cellsOf e ≤ (k + (m + 1)) * P.cellsOf e := Nat.mul_le_mul_right _ (by omega)
      rw [Nat.add_mul] at this
      simp; omega

theorem cells_get {a : Addr} {n : Nat} {ci : List Value} (h : w.cells? 0 a n = some ci) : ci.length = n ∧ ∀ j, j < n → ∃ v, ci[j]? = some v ∧ w.cell? (a.add j) = some v := by
  unfold World.cells? at h
  rw [if_pos (Nat.zero_le _)] at h
  have key : ∀ (l : List Nat) (r : List Value), l.mapM (fun i => w.cell? (a.add i)) = some r → r.length = l.length ∧ ∀ (j i : Nat), l[j]? = some i → ∃ v, r[j]? = some v ∧ w.cell? (a.add i) = some v := by
    intro l
    induction l with
    | nil => intro r hr; simp at hr; subst hr; exact ⟨rfl, fun j i hj => by simp at hj⟩
    | cons b l ih =>
      intro r hr
      rw [List.mapM_cons] at hr
      cases hb : w.cell? (a.add b) with
      | none => rw [hb] at hr; simp at hr
      | some v =>
        rw [hb] at hr
        cases hl : l.mapM (fun i => w.cell? (a.add i)) with
        | none => rw [hl] at hr; simp at hr
        | some vs =>
          rw [hl] at hr
          simp at hr
          subst hr
          obtain ⟨e1, e2⟩ := ih vs hl
          refine ⟨by simp [e1], fun j i hj => ?_⟩
          cases j with
          | zero => simp at hj; subst hj; exact ⟨v, rfl, hb⟩
          | succ j => simpa using e2 j i (by simpa using hj)
  obtain ⟨e1, e2⟩ := key _ _ h
  refine ⟨by simpa using e1, fun j hj => e2 j j (by simp [hj])⟩

theorem open_data : ∀ (n : Nat) (t : TypeId), plainT P n t = true → ∀ (cs : List Value) (x : DataW H × List MemPlace) (fuel : Nat), DataW.trod enc P w 0 spare held fuel t cs = some x → ∃ ds, RelQ (fun b _ => b < w.heap.size) w ds cs ∧ wfD P n t ds
  | 0, t, hp, _, _, _, _ => by simp [plainT] at hp
  | n + 1, t, hp, cs, x, fuel, hx => by
    have ih := fun t hp cs x fuel hx => open_data n t hp cs x fuel hx
    unfold wfD
    unfold plainT at hp
    cases hu : P.underlying t with
    | none => rw [hu] at hp; simp at hp
    | some u =>
      rw [hu] at hp
      cases u
      case bool =>
        obtain ⟨b, rfl, _⟩ := DataW.trod_bool hu hx
        exact ⟨[.b b], .one (.b b), b, rfl⟩
      case int k =>
        obtain ⟨m, rfl, _, hw⟩ := DataW.trod_int hu hx
        exact ⟨[.i k m], .one (.i k m), m, rfl, hw⟩
      case string =>
        obtain ⟨s, rfl, _, hw⟩ := DataW.trod_string hu hx
        refine ⟨[.s s.data.toList], .one ?_, _, rfl, by rw [Array.length_toList]; exact hw⟩
        have e : (⟨s.data.toList.toArray⟩ : ByteArray) = s := by rw [Array.toArray_toList]
        have := RelD.s (S := fun b _ => b < w.heap.size) (w := w) s.data.toList
        rwa [e] at this
      case slice e =>
        simp only [Bool.and_eq_true, decide_eq_true_eq] at hp
        rcases DataW.trod_slice hu hx with ⟨rfl, _⟩ | ⟨a, len, cap, elems, rest, m, rfl, rfl, _, _, hlc, hcm, hel, hget, _⟩
        · exact ⟨[.l []], .one (.nil none 0 (fun _ => rfl)), [], rfl, Nat.zero_le _, fun r hr => by cases hr⟩
        · rcases Nat.eq_zero_or_pos len with h0 | h0
          · subst h0
            exact ⟨[.l []], .one (.nil _ _ (fun he => by cases he)), [], rfl, Nat.zero_le _, fun r hr => by cases hr⟩
          · have hrow : ∀ i, i < len → ∃ r : List D, r.length = P.cellsOf e ∧ wfD P n e r ∧ ∃ ci, w.cells? 0 (a.add (i * P.cellsOf e)) (P.cellsOf e) = some ci ∧ RelQ (fun b _ => b < w.heap.size) w r ci := by
              intro i hi
              have h1 := hget i hi
              rw [List.getElem?_eq_getElem (by omega)] at h1
              simp only [Option.bind_eq_some_iff] at h1
              obtain ⟨ci, hci, htr⟩ := h1
              obtain ⟨ds, hr, hw⟩ := ih e hp.1 ci _ _ htr
              exact ⟨ds, by rw [← hr.1]; exact (cells_get hci).1, hw, ci, hci, hr⟩
            obtain ⟨rows, hrl, hrp⟩ := list_of hrow
            have hsp : a.spot = none := by
              obtain ⟨r, _, _, ci, hci, _⟩ := hrow 0 h0
              obtain ⟨v, _, hv⟩ := (cells_get hci).2 0 hp.2
              rw [Nat.zero_mul] at hv
              simp only [Addr.add, if_true, World.cell?] at hv
              split at hv
              · split at hv
                · cases hv
                · rename_i h; simpa using h
              · cases hv
            obtain ⟨B, off, sp⟩ := a
            simp only at hsp
            subst hsp
            have hadd : ∀ i j : Nat, ((⟨B, off, none⟩ : Addr).add (i * P.cellsOf e)).add j = ⟨B, off + i * P.cellsOf e + j, none⟩ := by
              intro i j
              simp only [add_off]
            have hcell : ∀ i j, i < len → j < P.cellsOf e → ∃ v, w.cell? ⟨B, off + i * P.cellsOf e + j, none⟩ = some v := by
              intro i j hi hj
              obtain ⟨r, _, _, ci, hci, _⟩ := hrow i hi
              obtain ⟨v, _, hv⟩ := (cells_get hci).2 j hj
              rw [hadd] at hv
              exact ⟨v, hv⟩
            have hblk : B < w.heap.size := by
              obtain ⟨v, hv⟩ := hcell 0 0 h0 hp.2
              simp only [World.cell?] at hv
              split at hv
              · rename_i hb; exact (Array.getElem?_eq_some_iff.1 hb).1
              · cases hv
            refine ⟨[.l rows], .one ?_, rows, rfl, by omega, fun r hr => ?_⟩
            · rw [← hrl]
              refine .l rows (P.cellsOf e) B off cap (fun i j => (w.cell? ⟨B, off + i * P.cellsOf e + j, none⟩).getD (.bool false)) (by omega) (fun r hr => ?_) (fun i j _ _ => hblk) (fun i j hi hj => ?_) (fun i j r d hr hd => ?_)
              · obtain ⟨i, hi, rfl⟩ := List.getElem_of_mem hr
                exact (hrp i _ (List.getElem?_eq_getElem hi)).1
              · obtain ⟨v, hv⟩ := hcell i j (by omega) hj
                rw [hv]; rfl
              · obtain ⟨hl, _, ci, hci, hq⟩ := hrp i r hr
                have hj : j < P.cellsOf e := by rw [← hl]; exact (List.getElem?_eq_some_iff.1 hd).1
                obtain ⟨v, hv, hv2⟩ := (cells_get hci).2 j hj
                obtain ⟨v', hv', hrel⟩ := hq.2 j d hd
                rw [hv] at hv'
                cases hv'
                rw [hadd] at hv2
                simp only [hv2, Option.getD_some]
                exact hrel
            · obtain ⟨i, hi, rfl⟩ := List.getElem_of_mem hr
              obtain ⟨h1, h2, _⟩ := hrp i _ (List.getElem?_eq_getElem hi)
              exact ⟨h1, h2⟩
      case struct fs =>
        simp only [Bool.and_eq_true, List.all_eq_true] at hp
        obtain ⟨xs, m, rfl, _, hl, hxl, hf⟩ := DataW.trod_struct hu hx
        have := fields_open (n := n) hl (fun t hp cs x fuel hx => ih t hp cs x fuel hx) m fs.toList 0 hp.1 (fun f hf => hp.2 f hf) (fun f hfm => by
          obtain ⟨i, hi, rfl⟩ := List.getElem_of_mem hfm
          have h1 := hf i (fs.toList[i]) (by simp)
          have hi' : i < fs.size := by simpa using hi
          rw [List.getElem?_eq_getElem (by omega)] at h1
          exact ⟨_, h1⟩) (Nat.zero_le _)
        rwa [List.drop_zero] at this
      case array k e =>
        simp only [Bool.and_eq_true, beq_iff_eq] at hp
        obtain ⟨xs, m, rfl, _, hl, hxl, hf⟩ := DataW.trod_array hu hx
        have := rep_open (n := n) (fun cs x fuel hx => ih e hp.1 cs x fuel hx) m k 0 (by rw [hl, hp.2]; simp) (fun i hi => by
          have h1 := hf i (by omega)
          rw [List.getElem?_eq_getElem (by omega)] at h1
          exact ⟨_, h1⟩)
        rwa [Nat.zero_mul, List.drop_zero] at this
      all_goals simp at hp
end
end Go.Vi

namespace Go.Vi
open Go.ChangeShapes Go.WideShapes Go.ChangeAt Go.RowKit
set_option linter.unusedSimpArgs false
set_option linter.unusedVariables false

/-! ### from a value to a row -/
def wfArg (P : Program) (n : Nat) (t : TypeId) (v : V) : Prop := match P.underlying t with
  | some (.struct _) => ∃ ds : List D, v = .agg (ds.map .d) ∧ wfD P n t ds
  | some (.array _ _) => ∃ ds : List D, v = .agg (ds.map .d) ∧ wfD P n t ds
  | _ => ∃ d, v = .one (.d d) ∧ wfD P n t [d]
def wfArgs (P : Program) (n : Nat) : List TypeId → List V → Prop
  | [], [] => True
  | t :: ts, v :: vs => wfArg P n t v ∧ wfArgs P n ts vs
  | _, _ => False

section
variable {H : Type} {enc : TypeId × Value → H} {P : Program} {w : World} {spare : Nat → Bool} {held : Bool}

theorem RelQ.agg {mu : Mu} {S : St} {ds : List D} {cs : Array Value} (h : RelQ S w ds cs.toList) : RelV mu S w (.agg (ds.map .d)) (.agg cs) := by
  refine ⟨cs, rfl, by simp [← h.1], fun j x hj => ?_⟩
  rw [List.getElem?_map, Option.map_eq_some_iff] at hj
  obtain ⟨d, hd, rfl⟩ := hj
  exact h.2 j d hd

theorem RelQ.single {S : St} {ds : List D} {v : Value} (h : RelQ S w ds [v]) : ∃ d, ds = [d] ∧ RelD S w d v := by
  obtain ⟨h1, h2⟩ := h
  match ds, h1 with
  | [d], _ =>
    obtain ⟨x, hx, hr⟩ := h2 0 d rfl
    simp at hx; subst hx
    exact ⟨d, rfl, hr⟩

theorem open_arg {n : Nat} {t : TypeId} (hp : plainT P n t = true) {base : Nat} {v : Value} {d : DataW H} {ps : List MemPlace} (hval : Value.okWide P w .any base t v) (hd : DataW.Trod enc P w 0 spare held t v d ps) :
    ∃ x : V, wfArg P n t x ∧ RelV (fun _ => none) (fun b _ => b < w.heap.size) w x v := by
  cases n with
  | zero => simp [plainT] at hp
  | succ n =>
  obtain ⟨fuel, hf⟩ := hd
  obtain ⟨ds, hq, hw⟩ := open_data (n + 1) t hp _ _ _ hf
  unfold wfArg
  have hp' := hp
  unfold plainT at hp'
  cases hu : P.underlying t with
  | none => rw [hu] at hp'; simp at hp'
  | some u =>
    rw [hu] at hp'
    have flat1 : v.cells = #[v] → ∃ x : V, (∃ d, x = .one (.d d) ∧ wfD P (n + 1) t [d]) ∧ RelV (fun _ => none) (fun b _ => b < w.heap.size) w x v := by
      intro hc
      rw [hc] at hq
      obtain ⟨d, rfl, hr⟩ := hq.single
      exact ⟨_, ⟨d, rfl, hw⟩, hr⟩
    cases u
    case bool => obtain ⟨b, rfl⟩ := okWide_bool hu hval; exact flat1 rfl
    case int k => obtain ⟨b, rfl⟩ := okWide_int hu hval; exact flat1 rfl
    case string => obtain ⟨b, rfl⟩ := okWide_string hu hval; exact flat1 rfl
    case slice e => obtain ⟨a, l, c, rfl⟩ := okWide_slice hu hval; exact flat1 rfl
    case struct fs =>
      simp only [Value.okWide, hu] at hval
      obtain ⟨cs, rfl, _, _⟩ := hval
      exact ⟨_, ⟨ds, rfl, hw⟩, RelQ.agg hq⟩
    case array k e =>
      simp only [Value.okWide, hu] at hval
      obtain ⟨cs, rfl, _, _⟩ := hval
      exact ⟨_, ⟨ds, rfl, hw⟩, RelQ.agg hq⟩
    all_goals simp at hp'

theorem open_args {n : Nat} {base : Nat} : ∀ (ts : List TypeId) (vs : List Value) (ds : List (DataW H)) (ps : List MemPlace), ts.all (plainT P n) = true →
    (∀ (j : Nat) t v, ts[j]? = some t → vs[j]? = some v → Value.okWide P w .any base t v) → DataW.TrodAll enc P w 0 spare held ts vs ds ps →
    ∃ xs : List V, wfArgs P n ts xs ∧ ArgsRel (fun _ => none) (fun b _ => b < w.heap.size) w xs vs
  | [], [], ds, ps, _, _, h => ⟨[], trivial, rfl, fun j v hj => by simp at hj⟩
  | t :: ts, v :: vs, [], ps, _, _, h => by cases h
  | t :: ts, v :: vs, d :: ds, ps, hp, hv, h => by
    obtain ⟨p, q, h1, h2, _⟩ := h
    simp only [List.all_cons, Bool.and_eq_true] at hp
    obtain ⟨x, wx, rx⟩ := open_arg hp.1 (hv 0 t v rfl rfl) h1
    obtain ⟨xs, wxs, rl, rxs⟩ := open_args ts vs ds q hp.2 (fun j t' v' ht hv' => hv (j + 1) t' v' (by simpa using ht) (by simpa using hv')) h2
    refine ⟨x :: xs, ⟨wx, wxs⟩, by simp [rl], fun j y hj => ?_⟩
    cases j with
    | zero => simp at hj; subst hj; exact ⟨v, rfl, rx⟩
    | succ j => simpa using rxs j y (by simpa using hj)
  | [], v :: vs, ds, ps, _, _, h => by cases ds <;> cases h
  | t :: ts, [], ds, ps, _, _, h => by cases ds <;> cases h

theorem args_again {W W' : World} (hl : laidOutB P = true) (hb : Below W.heap.size W W') : ∀ (ts : List TypeId) (vs : List Value) (ds : List (DataW H)) (ps : List MemPlace),
    (∀ t ∈ ts, P.readableRec t = true ∧ t < P.types.size) → (∀ p ∈ ps, p.block < W.heap.size) → DataW.TrodAll enc P W 0 (fun _ => true) true ts vs ds ps →
    DataW.TrodAll enc P W' 0 (fun b => decide (b < W.heap.size)) true ts vs ds ps
  | [], [], [], ps, _, _, h => h
  | [], [], _ :: _, ps, _, _, h => by cases h
  | [], _ :: _, ds, ps, _, _, h => by cases ds <;> cases h
  | t :: ts, [], ds, ps, _, _, h => by cases ds <;> cases h
  | t :: ts, v :: vs, [], ps, _, _, h => by cases h
  | t :: ts, v :: vs, d :: ds, ps, hr, hlt, h => by
    obtain ⟨p, q, h1, h2, rfl⟩ := h
    refine ⟨p, q, ?_, args_again hl hb ts vs ds q (fun u hu => hr u (List.mem_cons_of_mem _ hu)) (fun x hx => hlt x (List.mem_append_right _ hx)) h2, rfl⟩
    obtain ⟨r1, r2⟩ := hr t (List.mem_cons_self ..)
    exact Below.trod hl r1 r2 h1 hb (fun x hx => hlt x (List.mem_append_left _ hx))

theorem keptBut_below {W W' : World} (hb : Below W.heap.size W W') (may : MemPlace → Prop) : W.keptBut W' may := by
  refine ⟨hb.os, hb.output, fun i hi => ?_⟩
  rw [hb.block i hi]
  cases W.heap[i]? with
  | none => trivial
  | some o => cases o <;> first | exact ⟨rfl, rfl, rfl, fun _ _ => rfl⟩ | exact .inr ⟨rfl, rfl⟩ | rfl

/-- a law that answers true, over whatever comes in -/
theorem law_true {φ : Phi} (hg : Good P φ) (hl : laidOutB P = true) {f : FuncId} {fn : Func} {s : ChangeSpec} {n tb : Nat} {W : World} {base : Nat} {args : Array Value} {ds gs : List (DataW H)} {before : List MemPlace}
    (hpl : fn.params.toList.all (plainT P n) = true) (hrd : fn.params.toList.all (fun t => P.readableRec t && decide (t < P.types.size)) = true)
    (hres : fn.resultTypes = #[tb]) (hb : P.underlying tb = some .bool) (hsv : s.vars = [])
    (hfn : ∀ ds : List (DataW H), ds.length = fn.params.size → s.fn H ds = { results := [.lit (.bool true)], args := ds })
    (hlaw : ∀ xs, wfArgs P n fn.params.toList xs → φ f xs [] = some (.one (.d (.b true)), []))
    (hval : ∀ (j : Nat) t v, fn.params[j]? = some t → args[j]? = some v → Value.okWide P W .any base t v)
    (hW : DataW.Whole enc P fn.params.toList s.vars false W args.toList ds gs before) :
    Calls P f args W fun e W' => ∃ v, e = .returned v ∧ s.post enc P fn false true false false W args v W' := by
  have hlt := hW.lt
  have hW' := hW
  obtain ⟨p, q, hA, hV, rfl, hz, hap⟩ := hW
  rw [hsv] at hV
  obtain ⟨xs, wx, rx⟩ := open_args (base := base) _ _ _ _ hpl (fun j t v ht hv => hval j t v (by simpa using ht) (by simpa using hv)) hA
  have hgs : gs = [] ∧ q = [] := by
    cases gs with
    | nil => exact ⟨rfl, hV⟩
    | cons a b => cases hV
  obtain ⟨rfl, rfl⟩ := hgs
  have hi : Inv (fun _ => none) (fun b _ => b < W.heap.size) (fun b => b < W.heap.size) W [] :=
    { box := fun i b l h => by simp at h, dom := fun i l h => (by cases h), old := fun i l B h => (by cases h), sl := fun b o h => h, tl := fun b h => h, one := fun i j bi bj li lj B _ h => by simp at h }
  have hc := hg.ok _ _ _ _ _ (hlaw xs wx) _ _ _ W args.toList hi rx
  rw [Array.toArray_toList] at hc
  refine hc.mono fun e W' he => ?_
  obtain ⟨v, mu', S', rfl, ex, _, hr⟩ := he
  have hv : v = .bool true := by cases hr; rfl
  subst hv
  have hbl : Below W.heap.size W W' := ⟨ex.os, ex.tape, ex.output, ex.size, fun k hk => ex.blk k hk⟩
  have hdl : ds.length = fn.params.size := by
    have key : ∀ (ts : List TypeId) (vs : List Value) (ds : List (DataW H)) (ps : List MemPlace), DataW.TrodAll enc P W 0 (fun _ => true) true ts vs ds ps → ds.length = ts.length := by
      intro ts
      induction ts with
      | nil => intro vs ds ps h; cases vs <;> cases ds <;> first | rfl | cases h
      | cons t ts ih =>
        intro vs ds ps h
        cases vs with
        | nil => cases ds <;> cases h
        | cons v vs =>
          cases ds with
          | nil => cases h
          | cons d ds => obtain ⟨_, _, _, h2, _⟩ := h; simp [ih vs ds _ h2]
    simpa using key _ _ _ _ hA
  have hf := hfn (ds ++ []) (by simpa using hdl)
  refine ⟨_, rfl, ds, [], p ++ [], [], p, [], hW', ?_, ?_, ?_, keptBut_below hbl _, fun h => by cases h⟩
  · rw [hf, hres]
    exact trodAll_mk1 (shut_bool hb true)
  · rw [hf]
    simp only [List.append_nil]
    have := args_again hl hbl _ _ _ _ (fun t ht => by have := (List.all_eq_true.1 hrd) t ht; simpa using this) (fun x hx => hlt x (by simpa using hx)) hA
    exact this
  · rw [hf, hsv]; rfl
end
end Go.Vi

namespace Go.Vi
set_option linter.unusedSimpArgs false
set_option linter.unusedVariables false

/-! ### regions whose order is seen to be free ahead of any run -/
theorem xk_le' (fr : Fr) (x : X) : xk fr x ≤ xkS x := by
  cases x with
  | t n => simp only [xk, xkS]; cases (xRefs fr (.t n)).isEmpty <;> decide
  | c v => exact Nat.le_refl _
theorem kind_le (fr : Fr) (a : A) : a.kind fr ≤ a.kindS := by
  cases a <;> simp only [A.kind, A.kindS] <;> (try omega)
  case ld ag x => exact xk_le' _ _
  case b2s x => exact xk_le' _ _
  case app st s b x y =>
    split
    · have := xk_le' fr y; cases y <;> simp only [xkS] at this <;> (try omega); rename_i v; revert this; cases v.refs.isEmpty <;> simp only [cond_true, cond_false] <;> omega
    · omega
def Log0.le (x y : Log0) : Prop := x.kind ≤ y.kind ∧ x.dst = y.dst ∧ x.rds = y.rds
theorem free_of_freeS {x y x' y' : Log0} (hx : x.le x') (hy : y.le y') (h : x'.freeS y' = true) : x.free y = true := by
  obtain ⟨hx1, hx2, hx3⟩ := hx
  obtain ⟨hy1, hy2, hy3⟩ := hy
  simp only [Log0.freeS, Log0.free, Bool.and_eq_true, Bool.or_eq_true, beq_iff_eq, decide_eq_true_eq] at h ⊢
  rw [hx2, hx3, hy2, hy3]
  refine ⟨h.1, ?_⟩
  rcases h.2 with (h2 | h2) | h2 <;> omega

theorem freeAll_of_S {pre : List Nat} {e e' : Log0} (he : e.le e') : ∀ {l l' : List Log0} {i : Nat}, l.length = l'.length → (∀ (j : Nat) (x x' : Log0), l[j]? = some x → l'[j]? = some x' → x.le x') → freeAllS pre e' i l' = true → freeAll0 pre e i l = true
  | [], [], i, _, _, _ => rfl
  | [], y :: r, i, h, _, _ => by cases h
  | x :: r, [], i, h, _, _ => by cases h
  | x :: r, x' :: r', i, hl, hr, h => by
    simp only [freeAllS, freeAll0, Bool.and_eq_true, Bool.or_eq_true] at h ⊢
    refine ⟨?_, freeAll_of_S he (by simpa using hl) (fun j y y' h1 h2 => hr (j + 1) y y' (by simpa using h1) (by simpa using h2)) h.2⟩
    rcases h.1 with h1 | h1
    · exact .inl h1
    · exact .inr (free_of_freeS (hr 0 x x' rfl rfl) he h1)

def AOp.bare (o : AOp) : AOp := { o with pre := [] }
def AC.bare : AC → AC
  | .reg ops dr => bif !dr || statS ops [] then .reg (ops.map AOp.bare) false else .reg ops true
  | .seq a b => .seq a.bare b.bare
  | .cond c a b => .cond c a.bare b.bare
  | .block id c => .block id c.bare
  | .loop lv c => .loop lv c.bare
  | .skip => .skip
  | .exit i => .exit i
  | .ret => .ret

section
variable {φ : Phi}
theorem runOps_bare : ∀ (ops : List AOp) (fr : Fr) (H : Hp), runOps φ (ops.map AOp.bare) fr H = runOps φ ops fr H
  | [], _, _ => rfl
  | o :: r, fr, H => by
    simp only [List.map_cons, runOps]
    have : o.bare.step φ fr H = o.step φ fr H := rfl
    rw [this]
    cases o.step φ fr H with
    | none => rfl
    | some q => exact runOps_bare r _ _

theorem runDraw_stat : ∀ (ops : List AOp) (lg lgS : List Log0) (fr0 : Fr) (H : Hp), lg.length = lgS.length → (∀ (j : Nat) (x x' : Log0), lg[j]? = some x → lgS[j]? = some x' → x.le x') → statS ops lgS = true →
    runDrawA φ ops lg fr0 H = runOps φ ops fr0 H
  | [], _, _, _, _, _, _, _ => rfl
  | o :: r, lg, lgS, fr0, H, hl, hr, h => by
    simp only [statS, Bool.and_eq_true, Bool.not_eq_true'] at h
    obtain ⟨⟨hfz, hpre, hfree⟩, hrest⟩ := h
    simp only [runDrawA, runOps, AOp.step]
    cases hw : wantedV fr0 o.g with
    | none => rfl
    | some w =>
      simp only
      have hle : Log0.le ⟨bif w then o.a.kind fr0 else 0, o.dst, o.slots⟩ o.logS := by
        refine ⟨?_, rfl, rfl⟩
        cases w with
        | true => exact kind_le fr0 o.a
        | false => exact Nat.zero_le _
      have hchk : (!o.fz && (o.pre.all (fun j => decide (j < lg.length)) && freeAll0 o.pre ⟨bif w then o.a.kind fr0 else 0, o.dst, o.slots⟩ 0 lg)) = true := by
        rw [hfz, hl, hpre, freeAll_of_S hle hl hr hfree]; rfl
      rw [if_pos hchk]
      have ih : ∀ fr H, runDrawA φ r (lg ++ [⟨bif w then o.a.kind fr0 else 0, o.dst, o.slots⟩]) fr H = runOps φ r fr H := fun fr' H' =>
        runDraw_stat r _ (lgS ++ [o.logS]) fr' H' (by simp [hl]) (fun j x x' h1 h2 => by
          rcases Nat.lt_or_ge j lg.length with hj | hj
          · rw [List.getElem?_append_left hj] at h1
            rw [List.getElem?_append_left (by omega)] at h2
            exact hr j x x' h1 h2
          · rw [List.getElem?_append_right hj] at h1
            rw [List.getElem?_append_right (by omega)] at h2
            have h0 : j - lg.length = 0 := by
              have := (List.getElem?_eq_some_iff.1 h1).1
              simpa using this
            have h0' : j - lgS.length = 0 := by omega
            rw [h0] at h1
            rw [h0'] at h2
            simp at h1 h2
            subst h1; subst h2
            exact hle) hrest
      cases w with
      | true =>
        simp only [cond_true, hfz, cond_false] at ih ⊢
        cases o.a.run φ fr0 H with
        | none => rfl
        | some q => exact ih _ _
      | false =>
        simp only [cond_false] at ih ⊢
        exact ih _ _

theorem exec_bare {α : Type} (m : Nat) : ∀ (c : AC) (fr : Fr) (H : Hp) (K : Ex → Fr → Hp → Option α), execU φ m c.bare fr H K = execU φ m c fr H K
  | .skip, _, _, _ => rfl
  | .reg ops dr, fr, H, K => by
    simp only [AC.bare]
    cases dr with
    | false => simp only [Bool.not_false, Bool.true_or, cond_true, execU, cond_false, runOps_bare]
    | true =>
      simp only [Bool.not_true, Bool.false_or]
      cases h : statS ops [] with
      | false => rfl
      | true => simp only [cond_true, execU, cond_false, runOps_bare, runDraw, h, runDraw_stat ops [] [] fr H rfl (fun j x x' hj => by simp at hj) h]
  | .seq a b, fr, H, K => by
    simp only [AC.bare, execU]
    rw [exec_bare m a]
    congr 1
    funext e fr' H'
    cases e with
    | normal => exact exec_bare m b _ _ _
    | exit i => rfl
    | ret => rfl
  | .cond c a b, fr, H, K => by
    simp only [AC.bare, execU]
    simp only [exec_bare m a, exec_bare m b]
  | .block id c, fr, H, K => by
    simp only [AC.bare, execU]
    rw [exec_bare m c]
  | .loop lv c, fr, H, K => by
    simp only [AC.bare, execU]
    have : (execU (α := α) φ m c.bare) = execU φ m c := by
      funext fr' H' K'
      exact exec_bare m c _ _ _
    rw [this]
  | .exit id, _, _, _ => rfl
  | .ret, _, _, _ => rfl
end

/-! ### the table of a program's functions, as the text prints them -/
def compS (P : Program) (f : FuncId) (an : Ann) : Option AF := bif an.out then none else match compF P f an with
  | some af => some { af with body := af.body.bare }
  | none => none
/-- every function of a program, with its notes -/
def progOf (P : Program) (an : FuncId → Ann) (f : FuncId) : Option AF := bif (an f).out then none else compF P f (an f)
theorem progOf_made (P : Program) (an : FuncId → Ann) : Made P (progOf P an) := fun f af h => by
  unfold progOf at h
  cases ho : (an f).out with
  | true => rw [ho] at h; cases h
  | false => rw [ho] at h; exact ⟨an f, h⟩
theorem progOf_out {P : Program} {an : FuncId → Ann} {f : FuncId} (h : (an f).out = true) : progOf P an f = none := by simp only [progOf, h, cond_true]
def anOf : List (Nat × Ann) → FuncId → Ann
  | [], _ => {}
  | (k, a) :: r, f => if f = k then a else anOf r f

theorem enterS {P : Program} {an : FuncId → Ann} {pr : Phi} {f : FuncId} {args : List V} {H : Hp} {z : V × Hp} {af : AF} (hf : compS P f (an f) = some af) (hl : Nat.ble args.length af.ntmps = true)
    (h : goU (callU (progOf P an) pr) H.length (finK af.res af.keep H.length) af.body (frameOf af.ntmps (argF args)) H [] = some z) : callU (progOf P an) pr f args H = some z := by
  unfold compS at hf
  cases ho : (an f).out with
  | true => rw [ho] at hf; cases hf
  | false =>
    rw [ho] at hf
    simp only [cond_false] at hf
    split at hf
    · rename_i af0 h0
      cases hf
      refine enter (af := af0) (by simp only [progOf, ho, cond_false]; exact h0) hl ?_
      simp only [goU] at h ⊢
      rwa [exec_bare H.length af0.body] at h
    · cases hf

end Go.Vi

namespace Go.Vi
set_option linter.unusedSimpArgs false
set_option linter.unusedVariables false

/-! ### loops over data, by what stands at the live places -/
def fnAt : List Nat → List V → Fn
  | i :: is, v :: vs => fun n => if n = i then v else fnAt is vs n
  | _, _ => fun _ => .any
def agree : List Nat → List V → Fn → Prop
  | i :: is, v :: vs, f => f i = v ∧ agree is vs f
  | [], [], _ => True
  | _, _, _ => False
theorem fnAt_same (i : Nat) (is : List Nat) (v : V) (vs : List V) : fnAt (i :: is) (v :: vs) i = v := by simp [fnAt]
theorem fnAt_ne (i : Nat) (is : List Nat) (v : V) (vs : List V) {n : Nat} (h : n ≠ i) : fnAt (i :: is) (v :: vs) n = fnAt is vs n := by simp [fnAt, h]
theorem agree_nil (f : Fn) : agree [] [] f = True := Eq.trans rfl rfl
theorem agree_cons (i : Nat) (is : List Nat) (v : V) (vs : List V) (f : Fn) : agree (i :: is) (v :: vs) f = (f i = v ∧ agree is vs f) := Eq.trans rfl rfl

theorem agree_pure {lv : List Nat} {vals : List V} {f : Fn} (h : agree lv vals f) (hp : vals.all V.pure = true) : lv.all (fun i => (f i).pure) = true := by
  induction lv generalizing vals with
  | nil => rfl
  | cons i is ih =>
    cases vals with
    | nil => exact h.elim
    | cons v vs =>
      obtain ⟨h1, h2⟩ := h
      simp only [List.all_cons, Bool.and_eq_true] at hp ⊢
      exact ⟨by rw [h1]; exact hp.1, ih h2 hp.2⟩
theorem agree_kill {lv : List Nat} {vals : List V} {f : Fn} (h : agree lv vals f) : killF lv f = fnAt lv vals := by
  induction lv generalizing vals with
  | nil =>
    cases vals with
    | nil => funext n; simp [killF, fnAt]
    | cons v vs => exact h.elim
  | cons i is ih =>
    cases vals with
    | nil => exact h.elim
    | cons v vs =>
      obtain ⟨h1, h2⟩ := h
      have e := ih h2
      funext n
      have en := congrFun e n
      simp only [killF, fnAt, List.contains_cons, Bool.or_eq_true, beq_iff_eq] at en ⊢
      by_cases c : n = i
      · subst c; simp [h1]
      · simp only [c, false_or, if_false]; exact en

theorem loop_data {α σ : Type} {φ : Phi} {N : Nat} {lv : List Nat} {c : AC} {K : Ex → Fr → Hp → Option α} {st : List KI} (μ : σ → Nat) (P : σ → Prop) (vals : σ → List V) (Z : σ → α)
    (hp : ∀ s, (vals s).all V.pure = true)
    (hs : ∀ s, P s → ∀ R : Fr → Hp → Option α, (∀ s', μ s' < μ s → P s' → ∀ f', agree lv (vals s') f' → R (frameOf N f') [] = some (Z s')) →
      goU φ 0 (KL R (KS φ 0 K st)) c (frameOf N (fnAt lv (vals s))) [] [] = some (Z s)) :
    ∀ s, P s → ∀ f, agree lv (vals s) f → goU φ 0 K (.loop lv c) (frameOf N f) [] st = some (Z s) := by
  intro s hP f hf
  refine loop_rule (m := 0) (N := N) μ (fun s f H => H = [] ∧ P s ∧ agree lv (vals s) f) Z ?_ s f [] ⟨rfl, hP, hf⟩
  rintro s f H ⟨rfl, hP, hf⟩ R hR
  rw [canon_data (agree_pure hf (hp s)), agree_kill hf]
  exact hs s hP R (fun s' hlt hP' f' hf' => hR s' f' [] hlt ⟨rfl, hP', hf'⟩)

/-! ### kinds of data, by the kernel -/
inductive Ty where
  | b | i (k : IntKind) | s | l (row : List Ty)
  deriving Inhabited

mutual
def wfT : Ty → D → Prop
  | .b, d => ∃ x, d = .b x
  | .i k, d => ∃ n, d = .i k n ∧ k.min ≤ n ∧ n ≤ k.max
  | .s, d => ∃ l : List UInt8, d = .s l ∧ l.length ≤ 9223372036854775807
  | .l row, d => ∃ rows : List (List D), d = .l rows ∧ rows.length ≤ 9223372036854775807 ∧ ∀ r ∈ rows, wfRow row r
def wfRow : List Ty → List D → Prop
  | [], ds => ds = []
  | t :: ts, ds => ∃ d r, ds = d :: r ∧ wfT t d ∧ wfRow ts r
end

def catO : List (Option (List Ty)) → Option (List Ty)
  | [] => some []
  | some x :: r => match catO r with | some y => some (x ++ y) | none => none
  | none :: _ => none
def tyOf (P : Program) : Nat → TypeId → Option (List Ty)
  | 0, _ => none
  | n + 1, t => match P.underlying t with
    | some .bool => some [.b]
    | some (.int k) => some [.i k]
    | some .string => some [.s]
    | some (.slice e) => match tyOf P n e with | some row => some [.l row] | none => none
    | some (.struct fs) => catO (fs.toList.map fun f => tyOf P n f.type)
    | some (.array m e) => catO ((List.replicate m e).map (tyOf P n))
    | _ => none

theorem wfRow_append {a b : List Ty} {x y : List D} (h : wfRow a x) (k : wfRow b y) : wfRow (a ++ b) (x ++ y) := by
  induction a generalizing x with
  | nil => simp only [wfRow] at h; subst h; exact k
  | cons t ts ih =>
    simp only [wfRow] at h
    obtain ⟨d, r, rfl, h1, h2⟩ := h
    simp only [List.cons_append, wfRow]
    exact ⟨d, _, rfl, h1, ih h2⟩

theorem wf_cat {W : TypeId → List D → Prop} {sz : TypeId → Nat} {g : TypeId → Option (List Ty)} (hW : ∀ t ts ds, g t = some ts → W t ds → wfRow ts ds) :
    ∀ (l : List TypeId) (ts : List Ty) (ds : List D), catO (l.map g) = some ts → wfFields W sz l ds → wfRow ts ds
  | [], ts, ds, h, hd => by cases h; simpa [wfFields, wfRow] using hd
  | t :: l, ts, ds, h, hd => by
    simp only [List.map_cons] at h
    cases hg : g t with
    | none => rw [hg] at h; cases h
    | some x =>
      rw [hg] at h
      simp only [catO] at h
      cases hc : catO (l.map g) with
      | none => rw [hc] at h; cases h
      | some y =>
        rw [hc] at h
        cases h
        obtain ⟨p, r, rfl, _, h1, h2⟩ := hd
        exact wfRow_append (hW t x p hg h1) (wf_cat hW l y r hc h2)

theorem ty_ok {P : Program} : ∀ (n : Nat) (t : TypeId) (ts : List Ty) (ds : List D), tyOf P n t = some ts → wfD P n t ds → wfRow ts ds := by
  intro n
  induction n with
  | zero => intro t ts ds h; cases h
  | succ n ih =>
    intro t ts ds h hd
    unfold tyOf at h
    unfold wfD at hd
    cases hu : P.underlying t with
    | none => rw [hu] at h; cases h
    | some u =>
      rw [hu] at h hd
      cases u
      case bool => cases h; obtain ⟨b, rfl⟩ := hd; simp [wfRow, wfT]
      case int k =>
        cases h; obtain ⟨x, rfl, hx⟩ := hd
        simp only [Lit.wf, Bool.and_eq_true, decide_eq_true_eq] at hx
        simp [wfRow, wfT, hx]
      case string => cases h; obtain ⟨l, rfl, hl⟩ := hd; simp only [wfRow, wfT]; exact ⟨_, _, rfl, ⟨l, rfl, hl⟩, rfl⟩
      case slice e =>
        simp only at h hd
        cases hr : tyOf P n e with
        | none => rw [hr] at h; cases h
        | some row =>
          rw [hr] at h; cases h
          obtain ⟨rows, rfl, hl, hall⟩ := hd
          simp only [wfRow, wfT]
          exact ⟨_, _, rfl, ⟨rows, rfl, hl, fun r hr' => ih e row r hr (hall r hr').2⟩, rfl⟩
      case struct fs =>
        simp only at h hd
        have : catO ((fs.toList.map (·.type)).map (tyOf P n)) = some ts := by rw [List.map_map]; exact h
        exact wf_cat (fun t ts ds => ih t ts ds) _ _ _ this hd
      case array m e =>
        simp only at h hd
        exact wf_cat (fun t ts ds => ih t ts ds) _ _ _ h hd
      all_goals cases h

/-- one argument: a struct or an array comes as cells, all else alone -/
def tyA (P : Program) (n : Nat) (t : TypeId) : Option (Bool × List Ty) := match P.underlying t with
  | some (.struct _) => (tyOf P n t).map (true, ·)
  | some (.array _ _) => (tyOf P n t).map (true, ·)
  | _ => (tyOf P n t).map (false, ·)
def wfA : Bool × List Ty → V → Prop
  | (true, ts), v => ∃ ds : List D, v = .agg (ds.map .d) ∧ wfRow ts ds
  | (false, ts), v => ∃ d, v = .one (.d d) ∧ wfRow ts [d]
def wfAs : List (Bool × List Ty) → List V → Prop
  | [], vs => vs = []
  | t :: ts, vs => ∃ v r, vs = v :: r ∧ wfA t v ∧ wfAs ts r
def tyAs (P : Program) (n : Nat) : List TypeId → Option (List (Bool × List Ty))
  | [] => some []
  | t :: ts => match tyA P n t, tyAs P n ts with | some x, some xs => some (x :: xs) | _, _ => none

theorem tyA_ok {P : Program} {n : Nat} {t : TypeId} {a : Bool × List Ty} {v : V} (h : tyA P n t = some a) (hv : wfArg P n t v) : wfA a v := by
  unfold tyA at h
  unfold wfArg at hv
  have one : (tyOf P n t).map (false, ·) = some a → (∃ d, v = .one (.d d) ∧ wfD P n t [d]) → wfA a v := by
    intro h ⟨d, hd, hw⟩
    obtain ⟨ts, hts, rfl⟩ := Option.map_eq_some_iff.1 h
    exact ⟨d, hd, ty_ok n t ts _ hts hw⟩
  have agg : (tyOf P n t).map (true, ·) = some a → (∃ ds : List D, v = .agg (ds.map .d) ∧ wfD P n t ds) → wfA a v := by
    intro h ⟨d, hd, hw⟩
    obtain ⟨ts, hts, rfl⟩ := Option.map_eq_some_iff.1 h
    exact ⟨d, hd, ty_ok n t ts _ hts hw⟩
  cases hu : P.underlying t with
  | none => rw [hu] at h hv; exact one h hv
  | some u =>
    rw [hu] at h hv
    cases u
    case struct fs => exact agg h hv
    case array m e => exact agg h hv
    all_goals exact one h hv
theorem tyAs_ok {P : Program} {n : Nat} : ∀ {ts : List TypeId} {al : List (Bool × List Ty)} {vs : List V}, tyAs P n ts = some al → wfArgs P n ts vs → wfAs al vs
  | [], al, [], h, hv => by cases h; rfl
  | [], al, _ :: _, h, hv => hv.elim
  | t :: ts, al, [], h, hv => hv.elim
  | t :: ts, al, v :: vs, h, hv => by
    simp only [tyAs] at h
    cases h1 : tyA P n t with
    | none => rw [h1] at h; cases h
    | some x =>
      cases h2 : tyAs P n ts with
      | none => rw [h1, h2] at h; cases h
      | some xs =>
        rw [h1, h2] at h
        cases h
        exact ⟨v, vs, rfl, tyA_ok h1 hv.1, tyAs_ok h2 hv.2⟩

theorem rows_map {α : Type} {enc : α → List D} {ok : α → Prop} {row : List Ty} (h : ∀ r, wfRow row r → ∃ x, r = enc x ∧ ok x) : ∀ rows : List (List D), (∀ r ∈ rows, wfRow row r) → ∃ q : List α, rows = q.map enc ∧ ∀ x ∈ q, ok x
  | [], _ => ⟨[], rfl, fun x hx => by cases hx⟩
  | r :: rows, hr => by
    obtain ⟨x, rfl, hx⟩ := h r (hr r (List.mem_cons_self ..))
    obtain ⟨q, rfl, hq⟩ := rows_map h rows (fun r hr' => hr r (List.mem_cons_of_mem _ hr'))
    exact ⟨x :: q, rfl, fun y hy => by rcases List.mem_cons.1 hy with rfl | hy; exact hx; exact hq y hy⟩

/-! ### comparisons, found true or false -/
theorem dlt_t {a b : Int} (h : a < b) : decide (a < b) = true := by simp [h]
theorem dlt_f {a b : Int} (h : b ≤ a) : decide (a < b) = false := by simp; omega
theorem dle_t {a b : Int} (h : a ≤ b) : decide (a ≤ b) = true := by simp [h]
theorem dle_f {a b : Int} (h : b < a) : decide (a ≤ b) = false := by simp; omega
theorem beq_t {a b : Int} (h : a = b) : (a == b) = true := by simp [h]
theorem beq_f {a b : Int} (h : a ≠ b) : (a == b) = false := by simp [h]
theorem bne_t {a b : Int} (h : a ≠ b) : (a != b) = true := by simp [h]
theorem bne_f {a b : Int} (h : a = b) : (a != b) = false := by simp [h]
theorem ite_t {α : Type} {p : Prop} [Decidable p] {x y : α} (h : p) : (if p then x else y) = x := if_pos h
theorem wrap_i {n : Int} (h : -9223372036854775808 ≤ n ∧ n < 9223372036854775808) : IntKind.i64.wrap n = n := wrap64_of h.1 h.2
theorem nat_succ (k : Nat) : ((k : Int) + 1) = ((k + 1 : Nat) : Int) := rfl
theorem row_get {α β : Type} (g : α → β) (q : List α) (n : Int) (h : n.toNat < q.length) : (q.map g)[n.toNat]? = some (g (q[n.toNat]'h)) := by simp [h]
theorem row_getN {α β : Type} (g : α → β) (q : List α) (k : Nat) (h : k < q.length) : (q.map g)[k]? = some (g (q[k]'h)) := by simp [h]
end Go.Vi

namespace Go.Vi
set_option linter.defProp false
/-! ### the lemmas of the walk in one word -/
theorem trim_one_d (m : Nat) (x : D) (H : Hp) (h : m = 0) : trim m (.one (.d x)) H = (.one (.d x), []) := by subst h; exact trim_pure rfl
def vis := And.intro @opB_some (And.intro @opBz_some (And.intro @opW_true (And.intro @opW_false (And.intro @opWz_true (And.intro @opWz_false (And.intro @cdB_true (And.intro @cdB_false (And.intro @fnAt_same (And.intro @fnAt_ne (And.intro @agree_nil (And.intro @agree_cons (And.intro @wanted_some (And.intro @go_skip (And.intro @go_seq (And.intro @go_reg (And.intro @go_cond (And.intro @go_block (And.intro @go_exit (And.intro @go_ret
 (And.intro @pop_nil (And.intro @pop_s (And.intro @pop_se (And.intro @pop_sr (And.intro @pop_k (And.intro @pop_ke (And.intro @pop_kr (And.intro @ops_nil (And.intro @KL_normal (And.intro @KL_exit (And.intro @KL_ret (And.intro @finK_ret (And.intro @finK_normal
 (And.intro @fin_eq (And.intro @fin_keep (And.intro @rv_t (And.intro @rv_c (And.intro @resV_nil (And.intro @resV_one (And.intro @resV_two (And.intro @resL_nil (And.intro @resL_cons (And.intro @resT_one (And.intro @resT_agg (And.intro @wanted_none (And.intro @ev_t (And.intro @ev_c (And.intro @put_some (And.intro @put_none (And.intro @upd_same (And.intro @upd_ne (And.intro @killF_apply
 (And.intro @frame_get (And.intro @trim_pure (And.intro @V.pure_one (And.intro @V.pure_agg (And.intro @V.pure_tup (And.intro @V.pure_any (And.intro @L.pure_d (And.intro @L.pure_ip (And.intro @L.pure_cl (And.intro @L.pure_ns (And.intro @L.pure_np (And.intro @L.pure_nf (And.intro @L.pure_f @Ls.pure_map))))))))))))))))))))))))))))))))))))))))))))))))))))))))))))))))
def visL := And.intro @List.length_nil.{0} (And.intro @cond_false.{1} (And.intro @cond_true.{1} (And.intro @List.contains_cons.{0} (And.intro @List.contains_nil.{0} (And.intro Bool.or_true (And.intro Bool.true_or (And.intro Bool.or_false (And.intro not_false_eq_true
 (And.intro @List.getD_cons_zero.{0} (And.intro @List.getD_cons_succ.{0} (And.intro @List.map_cons.{0, 0} (And.intro @List.map_nil.{0, 0} (And.intro @List.nil_append.{0} (And.intro @List.append_nil.{0} (And.intro @List.length_cons.{0} (And.intro @List.length_map.{0, 0}
 (And.intro @List.getElem?_cons_zero.{0} (And.intro @List.getElem?_cons_succ.{0} (And.intro not_true_eq_false (And.intro @List.all_cons.{0} (And.intro @List.all_nil.{0} (And.intro Bool.and_true (And.intro Bool.and_self (And.intro @beq_self_eq_true.{0}
 (And.intro Bool.true_eq_false (And.intro Bool.false_eq_true (And.intro @beq_true (And.intro @beq_false (And.intro Bool.not_true (And.intro Bool.not_false (And.intro decide_true (And.intro decide_false (And.intro and_self (And.intro true_and (And.intro and_true
 (And.intro @Int.natCast_nonneg @Int.toNat_natCast))))))))))))))))))))))))))))))))))))
theorem nle_t {a b : Nat} (h : a ≤ b) : (a ≤ b) = True := by simp [h]
theorem nlt_t {a b : Nat} (h : a < b) : (a < b) = True := by simp [h]
theorem ile_t {a b : Int} (h : a ≤ b) : (a ≤ b) = True := by simp [h]
theorem ilt_t {a b : Int} (h : a < b) : (a < b) = True := by simp [h]
theorem okRows_nil (sz : Nat) : okRows sz [] = true := Eq.trans rfl rfl
theorem okRows_cons (sz : Nat) (r : List D) (l : List (List D)) : okRows sz (r :: l) = (r.length == sz && okRows sz l) := Eq.trans rfl rfl
theorem okRows_append (sz : Nat) (l m : List (List D)) : okRows sz (l ++ m) = (okRows sz l && okRows sz m) := by simp [okRows]
theorem getElem_new {α : Type} (H : List α) (b : α) : (H ++ [b])[H.length]? = some b := by simp
theorem fzLs_map : ∀ (ds : List D) (H : Hp), fzLs (ds.map .d) H = some (ds.map .d, H)
  | [], _ => rfl
  | d :: ds, H => by simp only [List.map_cons, fzLs, fzL, fzLs_map ds H]
theorem toDs_map : ∀ ds : List D, toDs (ds.map .d) = some ds
  | [] => rfl
  | d :: ds => by simp only [List.map_cons, toDs, toD, toDs_map ds]
theorem or_self_l (p : Prop) : (True ∨ p) = True := by simp
theorem or_self_r (p : Prop) : (p ∨ True) = True := by simp
theorem take_map_len {α β : Type} (g : α → β) (q : List α) : (q.map g).take q.length = q.map g := List.take_of_length_le (by simp)
theorem bne_tr (b : Bool) : (b != true) = !b := by cases b <;> rfl
theorem bne_fa (b : Bool) : (b != false) = b := by cases b <;> rfl
theorem take_set_map {α β : Type} (g : α → β) (q : List α) (i : Nat) (x : α) : ((q.set i x).map g).take q.length = (q.set i x).map g := List.take_of_length_le (by simp)
theorem take_set_len {α : Type} (q : List α) (i : Nat) (x : α) : (q.set i x).take q.length = q.set i x := List.take_of_length_le (by simp)
def visB := And.intro Nat.mul_one (And.intro Nat.zero_mul (And.intro Int.toNat_zero (And.intro @List.length_set.{0} (And.intro @take_set_map (And.intro @take_set_len (And.intro @bne_tr (And.intro @bne_fa (And.intro @List.take_length.{0} (And.intro @take_map_len (And.intro @fzLs_map (And.intro @toDs_map (And.intro @List.set_cons_zero.{0} (And.intro @List.set_cons_succ.{0} (And.intro @or_self_l (And.intro @or_self_r (And.intro @List.take_nil.{0} (And.intro @List.drop_nil.{0} (And.intro Nat.zero_add (And.intro Nat.add_zero
  (And.intro @okRows_nil (And.intro @okRows_cons (And.intro @okRows_append (And.intro @List.length_append.{0} (And.intro @List.cons_append.{0} (And.intro @List.flatMap_cons.{0, 0} (And.intro @List.flatMap_nil.{0, 0} (And.intro Bool.true_and Bool.and_true)))))))))))))))))))))))))))
theorem bnd_n (n : Nat) : bounds n n none none none = some (0, n, n) := by simp [bounds]
theorem bnd_lo {n : Nat} {x : Int} (h : 0 ≤ x ∧ x ≤ (n : Int)) : bounds n n (some x) none none = some (x.toNat, n, n) := by simp [bounds, h]
theorem bnd_hi {n : Nat} {x : Int} (h : 0 ≤ x ∧ x ≤ (n : Int)) : bounds n n none (some x) none = some (0, x.toNat, n) := by simp [bounds, h]
theorem bnd_lh {n : Nat} {x y : Int} (h : 0 ≤ x ∧ x ≤ y ∧ y ≤ (n : Int)) : bounds n n (some x) (some y) none = some (x.toNat, y.toNat, n) := by
  have h1 : 0 ≤ y ∧ y ≤ (n : Int) := by omega
  have h2 : 0 ≤ x ∧ x ≤ ((y.toNat : Nat) : Int) := by omega
  simp only [bounds, h1, h2, and_self, if_true]
theorem bnd_hm {n : Nat} {x y : Int} (h : 0 ≤ x ∧ x ≤ y ∧ y ≤ (n : Int)) : bounds n n none (some x) (some y) = some (0, x.toNat, y.toNat) := by
  have h1 : 0 ≤ y ∧ y ≤ (n : Int) := by omega
  have h2 : 0 ≤ x ∧ x ≤ ((y.toNat : Nat) : Int) := by omega
  simp only [bounds, h1, h2, and_self, if_true]
theorem bnd_lhm {n : Nat} {z x y : Int} (h : 0 ≤ z ∧ z ≤ x ∧ x ≤ y ∧ y ≤ (n : Int)) : bounds n n (some z) (some x) (some y) = some (z.toNat, x.toNat, y.toNat) := by
  have h1 : 0 ≤ y ∧ y ≤ (n : Int) := by omega
  have h2 : 0 ≤ x ∧ x ≤ ((y.toNat : Nat) : Int) := by omega
  have h3 : 0 ≤ z ∧ z ≤ ((x.toNat : Nat) : Int) := by omega
  simp only [bounds, h1, h2, h3, and_self, if_true]
theorem toNat_succ (k : Nat) : ((k : Int) + 1).toNat = k + 1 := rfl
theorem wrap_u8 {n : Int} (h : 0 ≤ n ∧ n < 256) : IntKind.u8.wrap n = n := by
  simp [IntKind.wrap, IntKind.bits, IntKind.signed]; omega
theorem wrap_u16 {n : Int} (h : 0 ≤ n ∧ n < 65536) : IntKind.u16.wrap n = n := by
  simp [IntKind.wrap, IntKind.bits, IntKind.signed]; omega
theorem wrap_u32 {n : Int} (h : 0 ≤ n ∧ n < 4294967296) : IntKind.u32.wrap n = n := by
  simp [IntKind.wrap, IntKind.bits, IntKind.signed]; omega
theorem wrap_u64 {n : Int} (h : 0 ≤ n ∧ n < 18446744073709551616) : IntKind.u64.wrap n = n := by
  simp [IntKind.wrap, IntKind.bits, IntKind.signed]; omega
/-- comparisons -/
def dis := And.intro @wrap_u8 (And.intro @wrap_u16 (And.intro @wrap_u32 (And.intro @wrap_u64 (And.intro @bnd_n (And.intro @bnd_lo (And.intro @bnd_hi (And.intro @bnd_lh (And.intro @bnd_hm (And.intro @bnd_lhm (And.intro @toNat_succ (And.intro @okRows_map (And.intro @nle_t (And.intro @nlt_t (And.intro @ile_t (And.intro @ilt_t (And.intro @okRows_nil (And.intro @okRows_cons (And.intro @okRows_append (And.intro @getElem_new (And.intro @dlt_t (And.intro @dlt_f (And.intro @dle_t (And.intro @dle_f (And.intro @beq_t (And.intro @beq_f (And.intro @bne_t (And.intro @bne_f (And.intro @wrap_i (And.intro @row_get @row_getN)))))))))))))))))))))))))))))
/-- what is handed on alone -/
def puri := And.intro @V.pure_one (And.intro @V.pure_agg (And.intro @V.pure_tup (And.intro @List.all_cons.{0} (And.intro @List.all_nil.{0} (And.intro Bool.and_true (And.intro Bool.and_self (And.intro @V.pure_any (And.intro @L.pure_d (And.intro @L.pure_ip (And.intro @L.pure_cl
 (And.intro @L.pure_ns (And.intro @L.pure_np (And.intro @L.pure_nf (And.intro @L.pure_f @Ls.pure_map))))))))))))))
end Go.Vi

namespace Go.Vi
set_option linter.unusedSimpArgs false
set_option linter.unusedVariables false

/-! ### functions whose answer is told, not walked -/
def noPr : Phi := fun _ _ _ => none
theorem noPr_good (P : Program) : Good P noPr := by
  constructor <;> (intro f args H r H' h; cases h)

/-- slices.Clone -/
def cloneAF (sz bytes : Nat) : AF := ⟨8,
 (.seq
  (rg [
    o 2 (.mv (kx (.ns)))])
  (.seq
   (.seq
    (rg [
      o 3 (.mv (.t 0)),
      o 4 (.nilc 0 false (.t 3))])
    (.cond (.t 4)
     (.seq
      (rg [
        o 2 (.mv (kx (.ns)))])
      .ret)
     .skip))
   (.seq
    (rg [
      o 5 (.bsl sz [] []),
      o 6 (.mv (.t 0)),
      o 7 (.app false sz bytes (.t 5) (.t 6)),
      o 2 (.mv (.t 7))])
    .ret))),
 [.t 2], true⟩

theorem clone_nn {P : Program} {an : FuncId → Ann} {pr : Phi} {f : FuncId} {sz bytes : Nat} (hf : compS P f (an f) = some (cloneAF sz bytes)) (rows : List (List D)) (h1 : okRows sz rows = true) (h2 : rows.length * bytes ≤ 140737488355328) (h3 : rows.length ≤ 9223372036854775807) :
    callU (progOf P an) pr f [.one (.nn rows)] [] = some (.one (.sl 1 sz 0 rows.length), [.dead, .arr sz rows 0]) := by
  apply enterS hf rfl
  have h4 : (0 + rows.length) * bytes ≤ 140737488355328 := by simpa using h2
  have h5 : 0 + rows.length ≤ 9223372036854775807 := by simpa using h3
  simp only [cloneAF, h1, h2, h3, vis, visL, visB, fillR, rowsAt, toDs, toD, ↓ops_cons, ↓ops_consz, fzTs, fzLs, rg, rd, o, oz, kc, kb, ks, kx, on, og, od, ogd, A.run, evI, evOpt, evs, evP, argF, V.cs, binD, fzV, fzL, dataVs, dataLs, V.data, L.data, unD, fillL, List.take_succ_cons, List.take_zero, List.drop_succ_cons, List.drop_zero, List.cons_append, ne_eq, Nat.reduceLT, Nat.reduceBEq, ↓reduceIte, Nat.reduceEqDiff, Nat.reduceAdd, Nat.reduceMul, Nat.reduceSub, Int.reduceToNat, Nat.reduceLeDiff, Int.reduceNeg, Int.reduceEq, Int.reduceLT, Int.reduceLE, Int.reduceBEq, Int.reduceBNe, Int.reduceToNat, fillR, rowsAt, true_or]
  simp [trim, V.refs, L.refs]
theorem clone_ns {P : Program} {an : FuncId → Ann} {pr : Phi} {f : FuncId} {sz bytes : Nat} (hf : compS P f (an f) = some (cloneAF sz bytes)) :
    callU (progOf P an) pr f [.one .ns] [] = some (.one .ns, []) := by
  apply enterS hf rfl
  simp only [cloneAF, vis, visL, visB, fillR, rowsAt, toDs, toD, ↓ops_cons, ↓ops_consz, fzTs, fzLs, rg, rd, o, oz, kc, kb, ks, kx, on, og, od, ogd, A.run, evI, evOpt, evs, evP, argF, V.cs, binD, fzV, fzL, dataVs, dataLs, V.data, L.data, unD, fillL, List.take_succ_cons, List.take_zero, List.drop_succ_cons, List.drop_zero, List.cons_append, ne_eq, Nat.reduceLT, Nat.reduceBEq, ↓reduceIte, Nat.reduceEqDiff, Nat.reduceAdd, Nat.reduceMul, Nat.reduceSub, Int.reduceToNat, Nat.reduceLeDiff, Int.reduceNeg, Int.reduceEq, Int.reduceLT, Int.reduceLE, Int.reduceBEq, Int.reduceBNe, Int.reduceToNat, fillR, rowsAt]

/-- the functions that clone: number, cells and bytes of an element -/
def clonePr (l : List (Nat × Nat × Nat)) : Phi := fun f args H => match l.lookup f, args, H with
  | some (sz, bytes), [.one (.d (.l rows))], [] => if okRows sz rows = true ∧ rows.length * bytes ≤ 140737488355328 ∧ rows.length ≤ 9223372036854775807 then some (.one (.sl 1 sz 0 rows.length), [.dead, .arr sz rows 0]) else none
  | _, _, _ => none

theorem clone_ok {P : Program} {φ : Phi} (hg : Good P φ) {f : FuncId} {sz : Nat} {rows : List (List D)} (hsz : 0 < sz)
    (h1 : φ f [.one (.nn rows)] [] = some (.one (.sl 1 sz 0 rows.length), [.dead, .arr sz rows 0])) (h2 : φ f [.one .ns] [] = some (.one .ns, [])) :
    CallOK P f [.one (.d (.l rows))] [] (.one (.sl 1 sz 0 rows.length)) [.dead, .arr sz rows 0] := by
  intro mu S TB w vs hi ha
  obtain ⟨hl, hrel⟩ := ha
  obtain ⟨x, hx, hr⟩ := hrel 0 _ rfl
  match vs, hl, hx with
  | [y], _, hx =>
    simp at hx
    subst hx
    have hsh : ∃ ad n c, y = .slice ad n c ∧ (ad = none → n = 0 ∧ c = 0 ∧ rows = []) := by
      cases hr with
      | nil a c hz => exact ⟨a, 0, c, rfl, fun h => ⟨rfl, hz h, rfl⟩⟩
      | l _ _ B off c u => exact ⟨_, _, _, rfl, fun h => by cases h⟩
    obtain ⟨ad, n, c, rfl, hnil⟩ := hsh
    cases ad with
    | none =>
      obtain ⟨rfl, rfl, rfl⟩ := hnil rfl
      refine (hg.ok _ _ _ _ _ h2 mu S TB w [.slice none 0 0] hi ⟨rfl, fun j v hj => ?_⟩).mono fun e w' he => ?_
      · cases j with
        | zero => simp at hj; subst hj; exact ⟨_, rfl, rfl⟩
        | succ j => simp at hj
      · obtain ⟨x, mu1, S1, rfl, ex, i1, rx⟩ := he
        have hx : x = .slice none 0 0 := rx
        subst hx
        -- a dead box, then a new one without a block
        have i2 : Inv mu1 S1 TB w' [.dead] := by
          refine ⟨fun i b l hb hl => ?_, fun i l hl => by have := i1.dom i l hl; simp at this, i1.old, i1.sl, i1.tl, fun i j bi bj li lj B _ hi' _ hai => ?_⟩
          · have := i1.dom i l hl; simp at this
          · cases i with
            | zero => simp at hi'; subst hi'; cases hai
            | succ i => simp at hi'
        obtain ⟨mu2, e2, i3, r3⟩ := i2.new_nil sz
        exact ⟨_, mu2, S1, rfl, ex.trans e2, i3, r3⟩
    | some A =>
      refine (hg.ok _ _ _ _ _ h1 mu S TB w [.slice (some A) n c] hi ⟨rfl, fun j v hj => ?_⟩).mono fun e w' he => he
      cases j with
      | zero => simp at hj; subst hj; exact ⟨_, rfl, ⟨_, _, _, rfl⟩, hr⟩
      | succ j => simp at hj

theorem lookup_mem {l : List (Nat × Nat × Nat)} {f : Nat} {x : Nat × Nat} (h : l.lookup f = some x) : (f, x) ∈ l := by
  induction l with
  | nil => cases h
  | cons c r ih =>
    obtain ⟨k, y⟩ := c
    simp only [List.lookup] at h
    split at h
    · rename_i e; cases h; rw [eq_of_beq e]; exact List.mem_cons_self ..
    · exact List.mem_cons_of_mem _ (ih h)

theorem clonePr_good {P : Program} (hd : ∀ φ, Good P φ → DrawOK P φ) (l : List (Nat × Nat × Nat)) (h : ∀ f sz bytes, (f, sz, bytes) ∈ l → 0 < sz ∧ ∃ an, compS P f an = some (cloneAF sz bytes)) : Good P (clonePr l) := by
  have key : ∀ f args H r H', clonePr l f args H = some (r, H') → CallOK P f args H r H' ∧ callable P f = true := by
    intro f args H r H' hc
    unfold clonePr at hc
    split at hc
    · rename_i sz bytes rows hlk
      split at hc
      · rename_i hcond
        cases hc
        obtain ⟨hsz, an, han⟩ := h f sz bytes (lookup_mem hlk)
        have hg : Good P (callU (progOf P fun _ => an) noPr) := callU_good hd (progOf_made _ _) (noPr_good P)
        have h1 := clone_nn (P := P) (an := fun _ => an) (pr := noPr) (f := f) han rows hcond.1 hcond.2.1 hcond.2.2
        exact ⟨clone_ok hg hsz h1 (clone_ns (an := fun _ => an) han), hg.can _ _ _ _ _ h1⟩
      · cases hc
    · cases hc
  exact ⟨fun f args H r H' hc => (key f args H r H' hc).1, fun f args H r H' hc => (key f args H r H' hc).2⟩

/-- a call that is handed no references -/
theorem callIso_new {φ : Phi} {f : FuncId} {args : List V} {H H1 : Hp} {r : V} (h : args.all V.pure = true) (hr : φ f args [] = some (r, H1)) :
    callIso φ f args H = some (r.ren (fun j => some (H.length + j)), H ++ H1.map (Box.ren (fun j => some (H.length + j)))) := by
  have e : (fun j : Nat => if j < 0 then ([] : List Nat)[j]? else some (H.length + (j - 0))) = fun j => some (H.length + j) := by funext j; simp
  simp only [callIso, idsOf, refs_pure h, reach_nil, canonH, List.map_nil, ren_pure h, hr, List.length_nil, List.take_zero, List.drop_zero, setAll, e]
theorem clone_call {P : Program} {an : FuncId → Ann} {l : List (Nat × Nat × Nat)} {f : FuncId} {sz bytes : Nat} (ho : (an f).out = true) (hl : l.lookup f = some (sz, bytes)) (rows : List (List D)) (h1 : okRows sz rows = true) (h2 : rows.length * bytes ≤ 140737488355328) (h3 : rows.length ≤ 9223372036854775807) (H : Hp) :
    callIso (callU (progOf P an) (clonePr l)) f [.one (.d (.l rows))] H = some (.one (.sl (H.length + 1) sz 0 rows.length), H ++ [.dead, .arr sz rows 0]) := by
  have hr : callU (progOf P an) (clonePr l) f [.one (.d (.l rows))] [] = some (.one (.sl 1 sz 0 rows.length), [.dead, .arr sz rows 0]) :=
    callU_pr (progOf_out ho) (by simp [clonePr, hl, h1, h2, h3])
  rw [callIso_new rfl hr]
  rfl
end Go.Vi

namespace Go.Vi
/-! ### places in lists, for walks -/
def idxF {α : Type} (p : α → Bool) (q : List α) (k : Nat) : Int := match (q.drop k).findIdx? p with | some i => k + i | none => -1
theorem idxF_end {α : Type} (p : α → Bool) (q : List α) (k : Nat) (h : q.length ≤ k) : idxF p q k = -1 := by simp [idxF, List.drop_eq_nil_of_le h]
theorem idxF_hit {α : Type} (p : α → Bool) (q : List α) (k : Nat) (h : k < q.length) (hp : p q[k] = true) : idxF p q k = k := by
  simp only [idxF, List.drop_eq_getElem_cons h, List.findIdx?_cons, hp, if_true]; simp
theorem idxF_miss {α : Type} (p : α → Bool) (q : List α) (k : Nat) (h : k < q.length) (hp : p q[k] = false) : idxF p q k = idxF p q (k + 1) := by
  simp only [idxF, List.drop_eq_getElem_cons h, List.findIdx?_cons, hp]
  cases (q.drop (k + 1)).findIdx? p <;> simp
  omega
theorem take_succ_get {α : Type} (q : List α) (k : Nat) (h : k < q.length) : q.take (k + 1) = q.take k ++ [q[k]] := by
  rw [List.take_add_one, List.getElem?_eq_getElem h]; rfl
end Go.Vi

namespace Go.Vi
set_option linter.unusedSimpArgs false
set_option linter.unusedVariables false

/-! ### loops over boxes, by what stands at the live places -/
def sortedB : List Nat → Bool
  | a :: b :: r => Nat.blt a b && sortedB (b :: r)
  | _ => true

theorem fnAt_ren (ρ : Nat → Option Nat) : ∀ (lv : List Nat) (vals : List V) (n : Nat), (fnAt lv vals n).ren ρ = fnAt lv (vals.map (V.ren ρ)) n
  | [], vals, n => by cases vals <;> rfl
  | i :: is, [], n => rfl
  | i :: is, v :: vs, n => by
    simp only [List.map_cons, fnAt]
    split
    · rfl
    · exact fnAt_ren ρ is vs n

theorem fnAt_lt : ∀ (lv : List Nat) (vals : List V) (n k : Nat), sortedB (k :: lv) = true → n ≤ k → fnAt lv vals n = .any
  | [], vals, n, k, _, _ => by cases vals <;> rfl
  | i :: is, [], n, k, _, _ => rfl
  | i :: is, v :: vs, n, k, h, hn => by
    simp only [sortedB, Bool.and_eq_true, Nat.blt_eq] at h
    simp only [fnAt]
    rw [if_neg (by omega)]
    exact fnAt_lt is vs n i h.2 (by omega)

theorem refs_fnAt : ∀ (lv : List Nat) (vals : List V) (a N : Nat), sortedB lv = true → (∀ i ∈ lv, a ≤ i) → (∀ i ∈ lv, i < a + N) → lv.length = vals.length → ((List.range' a N).map (fnAt lv vals)).flatMap V.refs = vals.flatMap V.refs
  | [], [], a, N, _, _, _, _ => by
    have : ∀ N a, ((List.range' a N).map (fnAt [] [])).flatMap V.refs = [] := by
      intro N
      induction N with
      | zero => intro a; rfl
      | succ N ih => intro a; rw [List.range'_succ, List.map_cons, List.flatMap_cons, ih]; rfl
    simpa using this N a
  | [], v :: vs, a, N, _, _, _, h => by simp at h
  | i :: is, [], a, N, _, _, _, h => by simp at h
  | i :: is, v :: vs, a, N, hs, ha, hN, hl => by
    have hia := ha i (List.mem_cons_self ..)
    have hiN := hN i (List.mem_cons_self ..)
    have hlow : ∀ (is : List Nat) (i k : Nat), sortedB (i :: is) = true → k ∈ is → i < k := by
      intro is
      induction is with
      | nil => intro i k _ hk; cases hk
      | cons j js ih =>
        intro i k h hk
        simp only [sortedB, Bool.and_eq_true, Nat.blt_eq] at h
        rcases List.mem_cons.1 hk with rfl | hk
        · exact h.1
        · exact Nat.lt_trans h.1 (ih j k h.2 hk)
    have hs' : sortedB is = true := by
      cases is with
      | nil => rfl
      | cons j js => simp only [sortedB, Bool.and_eq_true] at hs; exact hs.2
    -- up to i nothing
    have hsplit : List.range' a N = List.range' a (i - a) ++ i :: List.range' (i + 1) (N - (i - a) - 1) := by
      obtain ⟨q, rfl⟩ : ∃ q, i = a + q := ⟨i - a, by omega⟩
      obtain ⟨r, rfl⟩ : ∃ r, N = q + (r + 1) := ⟨N - q - 1, by omega⟩
      have e1 : a + q - a = q := by omega
      have e2 : q + (r + 1) - q - 1 = r := by omega
      rw [e1, e2, ← List.range'_append_1, List.range'_succ]
    have h0 : ∀ M b, b + M ≤ i → ((List.range' b M).map (fnAt (i :: is) (v :: vs))).flatMap V.refs = [] := by
      intro M
      induction M with
      | zero => intro b _; rfl
      | succ M ih =>
        intro b hb
        rw [List.range'_succ, List.map_cons, List.flatMap_cons, ih (b + 1) (by omega)]
        have : fnAt (i :: is) (v :: vs) b = .any := by
          simp only [fnAt]
          rw [if_neg (by omega)]
          exact fnAt_lt is vs b i hs (by omega)
        rw [this]; rfl
    rw [hsplit, List.map_append, List.flatMap_append, h0 (i - a) a (by omega), List.nil_append, List.map_cons, List.flatMap_cons]
    have e1 : fnAt (i :: is) (v :: vs) i = v := by simp [fnAt]
    rw [e1, List.flatMap_cons]
    congr 1
    have e2 : (List.range' (i + 1) (N - (i - a) - 1)).map (fnAt (i :: is) (v :: vs)) = (List.range' (i + 1) (N - (i - a) - 1)).map (fnAt is vs) := by
      apply List.map_congr_left
      intro n hn
      rw [List.mem_range'_1] at hn
      simp only [fnAt]
      rw [if_neg (by omega)]
    rw [e2]
    exact refs_fnAt is vs (i + 1) _ hs' (fun k hk => hlow is i k hs hk) (fun k hk => by have := hN k (List.mem_cons_of_mem _ hk); omega) (by simpa using hl)

theorem agree_len : ∀ {lv : List Nat} {vals : List V} {f : Fn}, agree lv vals f → lv.length = vals.length
  | [], [], _, _ => rfl
  | [], _ :: _, _, h => h.elim
  | _ :: _, [], _, h => h.elim
  | _ :: is, _ :: vs, f, h => by simp [agree_len h.2]

/-- what a loop's head makes of boxes -/
theorem canon_box {N : Nat} {lv : List Nat} {vals : List V} {f : Fn} {H : Hp} (hs : (sortedB lv && lv.all (fun i => Nat.blt i N)) = true) (h : agree lv vals f) :
    canon 0 lv (frameOf N f) H = (frameOf N (fnAt lv (vals.map (V.ren (place (idsOf H (vals.flatMap V.refs)))))), canonH H (idsOf H (vals.flatMap V.refs))) := by
  simp only [Bool.and_eq_true] at hs
  have hr : (frameOf N (killF lv f)).flatMap V.refs = vals.flatMap V.refs := by
    rw [agree_kill h]
    have := refs_fnAt lv vals 0 N hs.1 (fun _ _ => Nat.zero_le _) (fun i hi => by have := (List.all_eq_true.1 hs.2) i hi; simpa using this) (agree_len h)
    rw [← List.range_eq_range'] at this
    exact this
  simp only [canon, killed_frame, idsM, Nat.zero_min, List.range_zero, List.flatMap_nil, List.nil_append, hr]
  refine Prod.ext ?_ rfl
  simp only [idsOf, frameOf, List.map_map, agree_kill h]
  apply List.map_congr_left
  intro n _
  exact fnAt_ren _ _ _ _

theorem loop_box {α σ : Type} {φ : Phi} {N : Nat} {lv : List Nat} {c : AC} {K : Ex → Fr → Hp → Option α} {st : List KI} (μ : σ → Nat) (P : σ → Prop) (vals : σ → List V) (heap : σ → Hp) (Z : σ → α)
    (hs : ∀ s, P s → ∀ R : Fr → Hp → Option α, (∀ s', μ s' < μ s → P s' → ∀ f' H', canon 0 lv (frameOf N f') H' = (frameOf N (fnAt lv (vals s')), heap s') → R (frameOf N f') H' = some (Z s')) →
      goU φ 0 (KL R (KS φ 0 K st)) c (frameOf N (fnAt lv (vals s))) (heap s) [] = some (Z s)) :
    ∀ s, P s → ∀ f H, canon 0 lv (frameOf N f) H = (frameOf N (fnAt lv (vals s)), heap s) → goU φ 0 K (.loop lv c) (frameOf N f) H st = some (Z s) := by
  intro s hP f H hc
  refine loop_rule (m := 0) (N := N) μ (fun s f H => P s ∧ canon 0 lv (frameOf N f) H = (frameOf N (fnAt lv (vals s)), heap s)) Z ?_ s f H ⟨hP, hc⟩
  rintro s f H ⟨hP, hc⟩ R hR
  rw [hc]
  exact hs s hP R (fun s' hlt hP' f' H' hc' => hR s' f' H' hlt ⟨hP', hc'⟩)

/-- the same, by what stands there ahead of the numbering -/
theorem at_head {N : Nat} {lv : List Nat} {vals0 vals : List V} {f : Fn} {H H' : Hp} (hs : (sortedB lv && lv.all (fun i => Nat.blt i N)) = true) (h : agree lv vals0 f) (h1 : vals0.map (V.ren (place (idsOf H (vals0.flatMap V.refs)))) = vals) (h2 : canonH H (idsOf H (vals0.flatMap V.refs)) = H') :
    canon 0 lv (frameOf N f) H = (frameOf N (fnAt lv vals), H') := by
  rw [canon_box hs h, h1, h2]
theorem agree_map : ∀ (lv : List Nat) (f : Fn), agree lv (lv.map f) f
  | [], _ => trivial
  | _ :: is, f => ⟨rfl, agree_map is f⟩
theorem at_head2 {N : Nat} {lv : List Nat} {vals0 vals : List V} {f : Fn} {H H' : Hp} (hs : (sortedB lv && lv.all (fun i => Nat.blt i N)) = true) (hv : lv.map f = vals0) (h1 : vals0.map (V.ren (place (idsOf H (vals0.flatMap V.refs)))) = vals) (h2 : canonH H (idsOf H (vals0.flatMap V.refs)) = H') :
    canon 0 lv (frameOf N f) H = (frameOf N (fnAt lv vals), H') := at_head hs (hv ▸ agree_map lv f) h1 h2
theorem place_nil (i : Nat) : place [] i = none := Eq.trans rfl rfl
theorem place_cons (i j : Nat) (r : List Nat) : place (j :: r) i = if j = i then some 0 else (place r i).map (· + 1) := by
  simp only [place, List.findIdx?_cons]
  by_cases h : j = i <;> simp [h]
theorem reach_done (H : Hp) (n : Nat) (seen : List Nat) : reach H (n + 1) [] seen = seen := Eq.trans rfl rfl
theorem reach_arr (H : Hp) (n i : Nat) (todo seen : List Nat) {sz fz : Nat} {rows : List (List D)} (h : H[i]? = some (.arr sz rows fz)) : reach H (n + 1) (i :: todo) seen = if seen.contains i then reach H n todo seen else reach H n todo (seen ++ [i]) := by
  simp only [reach, h, Box.refs, List.nil_append]
theorem reach_cells (H : Hp) (n i : Nat) (todo seen : List Nat) {xs : List L} (h : H[i]? = some (.cells xs)) : reach H (n + 1) (i :: todo) seen = if seen.contains i then reach H n todo seen else reach H n (xs.flatMap L.refs ++ todo) (seen ++ [i]) := by
  simp only [reach, h, Box.refs]
end Go.Vi

namespace Go.Vi
set_option linter.unusedSimpArgs false
set_option linter.unusedVariables false

/-! ### the sum, bit by bit and four bits at a time -/
abbrev W32 := BitVec 32
def crcP : W32 := 0x82f63b78#32
def crc1 (x : W32) : W32 := if x.getLsbD 0 then (x >>> 1) ^^^ crcP else x >>> 1
def crcN : Nat → W32 → W32
  | 0, x => x
  | n + 1, x => crcN n (crc1 x)
def crcB (x : W32) (c : UInt8) : W32 := crcN 8 (x ^^^ BitVec.ofNat 32 c.toNat)
def crcOn (sum : W32) (s : List UInt8) : W32 := ~~~(s.foldl crcB (~~~sum))

def sel (b : Bool) (x : W32) : W32 := if b then x else 0#32
theorem crc1_eq (x : W32) : crc1 x = (x >>> 1) ^^^ sel (x.getLsbD 0) crcP := by
  unfold crc1 sel; split <;> simp
theorem sel_bit (b : Bool) (x : W32) (i : Nat) : (sel b x).getLsbD i = (b && x.getLsbD i) := by cases b <;> simp [sel]
theorem sel_shift (b : Bool) (x : W32) (n : Nat) : (sel b x) >>> n = sel b (x >>> n) := by cases b <;> simp [sel]
theorem crc1_bit (x : W32) (i : Nat) (hp : crcP.getLsbD i = false) : (crc1 x).getLsbD i = x.getLsbD (1 + i) := by
  rw [crc1_eq]; simp only [BitVec.getLsbD_xor, BitVec.getLsbD_ushiftRight, sel_bit, hp, Bool.and_false, Bool.xor_false]
theorem crc4 (x : W32) : crcN 4 x = (x >>> 4) ^^^ (sel (x.getLsbD 0) (crcP >>> 3) ^^^ (sel (x.getLsbD 1) (crcP >>> 2) ^^^ (sel (x.getLsbD 2) (crcP >>> 1) ^^^ sel (x.getLsbD 3) crcP))) := by
  have p0 : crcP.getLsbD 0 = false := by decide
  have p1 : crcP.getLsbD 1 = false := by decide
  have p2 : crcP.getLsbD 2 = false := by decide
  simp only [crcN]
  have b1 := crc1_bit x 0 p0
  have b2 := crc1_bit x 1 p1
  have b3 := crc1_bit x 2 p2
  have c1 := crc1_bit (crc1 x) 0 p0
  have c2 := crc1_bit (crc1 x) 1 p1
  have d1 := crc1_bit (crc1 (crc1 x)) 0 p0
  simp only [Nat.reduceAdd] at b1 b2 b3 c1 c2 d1
  rw [crc1_eq (crc1 (crc1 (crc1 x))), d1, c2, b3, crc1_eq (crc1 (crc1 x)), c1, b2, crc1_eq (crc1 x), b1, crc1_eq x]
  simp only [BitVec.ushiftRight_xor_distrib, sel_shift, ← BitVec.shiftRight_add, Nat.reduceAdd, BitVec.xor_assoc]
theorem crcT (x : W32) : crcN 4 x = (x >>> 4) ^^^ crcN 4 (x &&& 15#32) := by
  rw [crc4 x, crc4 (x &&& 15#32)]
  have h : ∀ i, i < 4 → (x &&& 15#32).getLsbD i = x.getLsbD i := by
    intro i hi
    rw [BitVec.getLsbD_and]
    have : (15#32 : W32).getLsbD i = true := by
      match i, hi with
      | 0, _ => decide
      | 1, _ => decide
      | 2, _ => decide
      | 3, _ => decide
    rw [this, Bool.and_true]
  have h0 : (x &&& 15#32) >>> 4 = 0#32 := by
    rw [BitVec.ushiftRight_and_distrib]
    have : (15#32 : W32) >>> 4 = 0#32 := by decide
    rw [this, BitVec.and_zero]
  rw [h 0 (by decide), h 1 (by decide), h 2 (by decide), h 3 (by decide), h0, BitVec.zero_xor]
theorem crcN_add : ∀ (a b : Nat) (x : W32), crcN (a + b) x = crcN b (crcN a x)
  | 0, b, x => by simp [crcN]
  | a + 1, b, x => by rw [show a + 1 + b = (a + b) + 1 by omega]; simp only [crcN]; exact crcN_add a b _
theorem crcB_eq (x : W32) (c : UInt8) : crcB x c = (let y := x ^^^ BitVec.ofNat 32 c.toNat; let z := (y >>> 4) ^^^ crcN 4 (y &&& 15#32); (z >>> 4) ^^^ crcN 4 (z &&& 15#32)) := by
  simp only [crcB]
  rw [show (8 : Nat) = 4 + 4 from rfl, crcN_add, crcT (crcN 4 _), crcT (x ^^^ _)]

/-! every step can be taken back -/
theorem crc1_inj {x y : W32} (h : crc1 x = crc1 y) : x = y := by
  have hp : crcP.getLsbD 31 = true := by decide
  have t : ∀ z : W32, (crc1 z).getLsbD 31 = z.getLsbD 0 := by
    intro z; rw [crc1_eq]; simp only [BitVec.getLsbD_xor, BitVec.getLsbD_ushiftRight, sel_bit, hp, Bool.and_true, Nat.reduceAdd, BitVec.getLsbD_of_ge z 32 (by decide), Bool.false_xor]
  have h0 : x.getLsbD 0 = y.getLsbD 0 := by rw [← t x, ← t y, h]
  have hs : x >>> 1 = y >>> 1 := by
    rw [crc1_eq, crc1_eq, h0] at h
    have : (x >>> 1 ^^^ sel (y.getLsbD 0) crcP) ^^^ sel (y.getLsbD 0) crcP = (y >>> 1 ^^^ sel (y.getLsbD 0) crcP) ^^^ sel (y.getLsbD 0) crcP := by rw [h]
    simpa [BitVec.xor_assoc] using this
  apply BitVec.eq_of_getLsbD_eq
  intro i hi
  cases i with
  | zero => exact h0
  | succ i =>
    have := congrArg (fun z : W32 => z.getLsbD i) hs
    simp only [BitVec.getLsbD_ushiftRight] at this
    rwa [Nat.add_comm 1 i] at this
theorem crcN_inj : ∀ (n : Nat) {x y : W32}, crcN n x = crcN n y → x = y
  | 0, _, _, h => h
  | n + 1, _, _, h => crc1_inj (crcN_inj n h)
theorem xor_cancel_r {x y z : W32} (h : x ^^^ z = y ^^^ z) : x = y := by
  have : (x ^^^ z) ^^^ z = (y ^^^ z) ^^^ z := by rw [h]
  simpa [BitVec.xor_assoc] using this
theorem crcB_inj {x y : W32} (c : UInt8) (h : crcB x c = crcB y c) : x = y := xor_cancel_r (crcN_inj 8 h)
theorem crcB_byte {x : W32} {c d : UInt8} (h : crcB x c = crcB x d) : c = d := by
  have h1 := crcN_inj 8 h
  have h2 : BitVec.ofNat 32 c.toNat ^^^ x = BitVec.ofNat 32 d.toNat ^^^ x := by rw [BitVec.xor_comm _ x, BitVec.xor_comm _ x]; exact h1
  have h3 := congrArg BitVec.toNat (xor_cancel_r h2)
  simp at h3
  exact UInt8.toNat_inj.1 (by omega)
theorem fold_inj : ∀ (s : List UInt8) {x y : W32}, s.foldl crcB x = s.foldl crcB y → x = y
  | [], _, _, h => h
  | c :: s, x, y, h => crcB_inj c (fold_inj s h)
end Go.Vi

namespace Go.Vi
set_option linter.unusedSimpArgs false
set_option linter.unusedVariables false

/-! ### numbers, seven bits at a time -/
def enc128 (n : Nat) : List UInt8 := if n < 128 then [UInt8.ofNat n] else UInt8.ofNat (128 + n % 128) :: enc128 (n / 128)
termination_by n
decreasing_by omega
theorem enc_small {n : Nat} (h : n < 128) : enc128 n = [UInt8.ofNat n] := by rw [enc128, if_pos h]
theorem enc_big {n : Nat} (h : ¬ n < 128) : enc128 n = UInt8.ofNat (128 + n % 128) :: enc128 (n / 128) := by rw [enc128, if_neg h]
/-- how many of them -/
def nd (n : Nat) : Nat := (enc128 n).length
theorem nd_small {n : Nat} (h : n < 128) : nd n = 1 := by unfold nd; rw [enc_small h]; rfl
theorem nd_big {n : Nat} (h : ¬ n < 128) : nd n = nd (n / 128) + 1 := by unfold nd; rw [enc_big h]; rfl
theorem nd_pos (n : Nat) : 1 ≤ nd n := by
  by_cases h : n < 128
  · rw [nd_small h]; exact Nat.le_refl _
  · rw [nd_big h]; omega
theorem nd_range : ∀ (k n : Nat), nd n = k + 1 ↔ (n < 128 ^ (k + 1) ∧ (k = 0 ∨ 128 ^ k ≤ n))
  | 0, n => by
    by_cases h : n < 128
    · simp [nd_small h, h]
    · simp only [nd_big h, true_or, and_true, Nat.zero_add, Nat.pow_one]
      have := nd_pos (n / 128)
      omega
  | k + 1, n => by
    by_cases h : n < 128
    · rw [nd_small h]
      have : 128 ≤ 128 ^ (k + 1) := by rw [Nat.pow_succ]; have := Nat.pow_pos (n := k) (by decide : 0 < 128); omega
      omega
    · rw [nd_big h]
      have ih := nd_range k (n / 128)
      have e1 : n / 128 < 128 ^ (k + 1) ↔ n < 128 ^ (k + 2) := by rw [Nat.div_lt_iff_lt_mul (by decide), ← Nat.pow_succ]
      have e2 : 128 ^ k ≤ n / 128 ↔ 128 ^ (k + 1) ≤ n := by rw [Nat.le_div_iff_mul_le (by decide), ← Nat.pow_succ]
      constructor
      · intro hh
        obtain ⟨h1, h2⟩ := ih.1 (by omega)
        refine ⟨e1.1 h1, .inr ?_⟩
        rcases h2 with h2 | h2
        · subst h2; simpa using Nat.le_of_not_lt h
        · exact e2.1 h2
      · rintro ⟨h1, h2⟩
        have h2' : 128 ^ (k + 1) ≤ n := by
          rcases h2 with h2 | h2
          · omega
          · exact h2
        have := ih.2 ⟨e1.2 h1, .inr (e2.2 h2')⟩
        omega
theorem nd_le9 {n : Nat} (h : n < 9223372036854775808) : nd n ≤ 9 := by
  have hp := nd_pos n
  have := (nd_range (nd n - 1) n).1 (by omega)
  rcases this.2 with h0 | h0
  · omega
  · rcases Nat.lt_or_ge (nd n - 1) 9 with h9 | h9
    · omega
    · have : 128 ^ 9 ≤ 128 ^ (nd n - 1) := Nat.pow_le_pow_right (by decide) h9
      have e : (128 : Nat) ^ 9 = 9223372036854775808 := by decide
      omega
/-- digit by digit -/
theorem enc_digits : ∀ (k n : Nat), nd n = k + 1 → enc128 n = (List.range k).map (fun i => UInt8.ofNat (128 + n / 128 ^ i % 128)) ++ [UInt8.ofNat (n / 128 ^ k)]
  | 0, n, h => by
    have := ((nd_range 0 n).1 h).1
    rw [enc_small (by simpa using this)]; simp
  | k + 1, n, h => by
    have hb : ¬ n < 128 := by
      intro hs; rw [nd_small hs] at h; omega
    rw [nd_big hb] at h
    rw [enc_big hb, enc_digits k (n / 128) (by omega), List.range_succ_eq_map]
    simp only [List.map_cons, List.map_map, Nat.pow_zero, Nat.div_one, List.cons_append]
    congr 2
    · apply List.map_congr_left
      intro i _
      simp only [Function.comp, Nat.succ_eq_add_one]
      rw [Nat.div_div_eq_div_mul, Nat.pow_succ, Nat.mul_comm 128]
    · rw [Nat.div_div_eq_div_mul, Nat.pow_succ, Nat.mul_comm 128]

/-- what bytes come to -/
def val : List UInt8 → Nat
  | [] => 0
  | c :: r => c.toNat % 128 + 128 * val r
/-- the number that stands at the begin of bytes: it, and how many bytes -/
def rdF : List UInt8 → Nat → Nat → Option (Nat × Nat)
  | [], _, _ => none
  | c :: r, i, n => if 9 ≤ i then none else if 128 ≤ c.toNat then rdF r (i + 1) (n + c.toNat % 128 * 128 ^ i) else if c.toNat = 0 ∧ 0 < i then none else some (n + c.toNat * 128 ^ i, i + 1)

/-- bytes of which all but the last are great -/
def longB : List UInt8 → Bool
  | [] => false
  | [c] => decide (c.toNat < 128)
  | c :: d :: r => decide (128 ≤ c.toNat) && longB (d :: r)
theorem ofNat_toNat_lt {n : Nat} (h : n < 256) : (UInt8.ofNat n).toNat = n := by simp; omega
theorem enc_val : ∀ (l : List UInt8), longB l = true → ((l.getLast?.map UInt8.toNat ≠ some 0 ∨ l.length = 1) → enc128 (val l) = l) ∧ (l.getLast?.map UInt8.toNat = some 0 → val l = 0 ∨ ∃ k, 0 < k ∧ val l < 128 ^ (l.length - 1))
  | [], h => by cases h
  | [c], h => by
    simp only [longB, decide_eq_true_eq] at h
    refine ⟨fun _ => ?_, fun h0 => .inl ?_⟩
    · simp only [val, Nat.mul_zero, Nat.add_zero]
      rw [Nat.mod_eq_of_lt h, enc_small h]; simp
    · simp at h0
      simp [val, h0]
  | c :: d :: r, h => by
    simp only [longB, Bool.and_eq_true, decide_eq_true_eq] at h
    obtain ⟨h1, h2⟩ := h
    have hc := c.toNat_lt
    have ih := enc_val (d :: r) h2
    have hl : (c :: d :: r).getLast? = (d :: r).getLast? := by simp [List.getLast?_cons_cons]
    rw [hl]
    refine ⟨fun h0 => ?_, fun h0 => ?_⟩
    · rcases h0 with h0 | h0
      · have ihv := ih.1 (.inl h0)
        have hv : val (c :: d :: r) = c.toNat % 128 + 128 * val (d :: r) := rfl
        have hpos : 0 < val (d :: r) := by
          rcases Nat.eq_zero_or_pos (val (d :: r)) with hz | hz
          · rw [hz, enc_small (by decide)] at ihv
            rw [← ihv] at h0
            simp at h0
          · exact hz
        rw [hv, enc_big (by omega)]
        have e1 : (c.toNat % 128 + 128 * val (d :: r)) % 128 = c.toNat % 128 := by omega
        have e2 : (c.toNat % 128 + 128 * val (d :: r)) / 128 = val (d :: r) := by omega
        rw [e1, e2, ihv]
        congr 1
        apply UInt8.toNat_inj.1
        rw [ofNat_toNat_lt (by omega)]; omega
      · simp at h0
    · rcases ih.2 h0 with hz | ⟨k, hk, hlt⟩
      · refine .inr ⟨1, by decide, ?_⟩
        simp only [val, List.length_cons] at hz ⊢
        rw [hz]
        have : 128 ≤ 128 ^ (r.length + 1 + 1 - 1) := by
          rw [show r.length + 1 + 1 - 1 = r.length + 1 by omega, Nat.pow_succ]
          have := Nat.pow_pos (n := r.length) (by decide : 0 < 128)
          omega
        omega
      · refine .inr ⟨1, by decide, ?_⟩
        simp only [List.length_cons] at hlt ⊢
        have hv : val (c :: d :: r) = c.toNat % 128 + 128 * val (d :: r) := rfl
        rw [hv]
        have e : 128 ^ (r.length + 1 + 1 - 1) = 128 ^ (r.length + 1 - 1) * 128 := by rw [← Nat.pow_succ]; congr 1
        rw [e]
        omega
/-- the shortest bytes alone are a number's -/
theorem enc_val_iff (l : List UInt8) (h : longB l = true) : enc128 (val l) = l ↔ ¬ (l.getLast?.map UInt8.toNat = some 0 ∧ 1 < l.length) := by
  have hne : l ≠ [] := by intro e; subst e; cases h
  have hlen : 0 < l.length := List.length_pos_iff.2 hne
  constructor
  · rintro he ⟨h0, h1⟩
    have hn : nd (val l) = l.length := by unfold nd; rw [he]
    rcases (enc_val l h).2 h0 with hz | ⟨k, _, hlt⟩
    · rw [hz, nd_small (by decide)] at hn; omega
    · have := (nd_range (l.length - 1) (val l)).1 (by omega)
      rcases this.2 with h3 | h3 <;> omega
  · intro hh
    apply (enc_val l h).1
    by_cases h0 : l.getLast?.map UInt8.toNat = some 0
    · exact .inr (by have : ¬ 1 < l.length := fun h1 => hh ⟨h0, h1⟩; omega)
    · exact .inl h0
end Go.Vi

