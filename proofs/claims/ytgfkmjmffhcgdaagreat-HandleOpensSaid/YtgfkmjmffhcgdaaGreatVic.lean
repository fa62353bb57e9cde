import Derived.Test.YtgfkmjmffhcgdaaGreatVib
set_option linter.unusedSimpArgs false
set_option linter.unusedVariables false
/- An interpreter of values: what it answers the program answers. -/
namespace Go.Vi
open Go.ChangeShapes Go.WideShapes Go.ChangeAt Go.RowKit
set_option linter.unusedSimpArgs false
set_option linter.unusedVariables false
def wfArg (P : Program) (n : Nat) (t : TypeId) (v : V) : Prop := match P.underlying t with
  | some (.struct _) => ∃ ds : List D, v = .agg (ds.map .d) ∧ wfD P n t ds
  | some (.array _ _) => ∃ ds : List D, v = .agg (ds.map .d) ∧ wfD P n t ds
  | _ => ∃ d, v = .one (.d d) ∧ wfD P n t [d]
def wfArgs (P : Program) (n : Nat) : List TypeId → List V → Prop
  | [], [] => True
  | t :: ts, v :: vs => wfArg P n t v ∧ wfArgs P n ts vs
  | _, _ => False
section
variable {H : Type} {enc : TypeId × Value → H} {P : Program} {w : World} {spare : Nat → Bool} {held : Bool}
theorem RelQ.agg {mu : Mu} {S : St} {ds : List D} {cs : Array Value} (h : RelQ S w ds cs.toList) : RelV mu S w (.agg (ds.map .d)) (.agg cs) := by
  refine ⟨cs, rfl, by simp [← h.1], fun j x hj => ?_⟩
  rw [List.getElem?_map, Option.map_eq_some_iff] at hj
  obtain ⟨d, hd, rfl⟩ := hj
  exact h.2 j d hd
theorem RelQ.single {S : St} {ds : List D} {v : Value} (h : RelQ S w ds [v]) : ∃ d, ds = [d] ∧ RelD S w d v := by
  obtain ⟨h1, h2⟩ := h
  match ds, h1 with
  | [d], _ =>
    obtain ⟨x, hx, hr⟩ := h2 0 d rfl
    simp at hx; subst hx
    exact ⟨d, rfl, hr⟩
theorem open_arg {n : Nat} {t : TypeId} (hp : plainT P n t = true) {base : Nat} {v : Value} {d : DataW H} {ps : List MemPlace} (hval : Value.okWide P w .any base t v) (hd : DataW.Trod enc P w 0 spare held t v d ps) :
    ∃ x : V, wfArg P n t x ∧ RelV (fun _ => none) (fun b _ => b < w.heap.size) w x v := by
  cases n with
  | zero => simp [plainT] at hp
  | succ n =>
  obtain ⟨fuel, hf⟩ := hd
  obtain ⟨ds, hq, hw⟩ := open_data (n + 1) t hp _ _ _ hf
  unfold wfArg
  have hp' := hp
  unfold plainT at hp'
  cases hu : P.underlying t with
  | none => rw [hu] at hp'; simp at hp'
  | some u =>
    rw [hu] at hp'
    have flat1 : v.cells = #[v] → ∃ x : V, (∃ d, x = .one (.d d) ∧ wfD P (n + 1) t [d]) ∧ RelV (fun _ => none) (fun b _ => b < w.heap.size) w x v := by
      intro hc
      rw [hc] at hq
      obtain ⟨d, rfl, hr⟩ := hq.single
      exact ⟨_, ⟨d, rfl, hw⟩, hr⟩
    cases u
    case bool => obtain ⟨b, rfl⟩ := okWide_bool hu hval; exact flat1 rfl
    case int k => obtain ⟨b, rfl⟩ := okWide_int hu hval; exact flat1 rfl
    case string => obtain ⟨b, rfl⟩ := okWide_string hu hval; exact flat1 rfl
    case slice e => obtain ⟨a, l, c, rfl⟩ := okWide_slice hu hval; exact flat1 rfl
    case struct fs =>
      simp only [Value.okWide, hu] at hval
      obtain ⟨cs, rfl, _, _⟩ := hval
      exact ⟨_, ⟨ds, rfl, hw⟩, RelQ.agg hq⟩
    case array k e =>
      simp only [Value.okWide, hu] at hval
      obtain ⟨cs, rfl, _, _⟩ := hval
      exact ⟨_, ⟨ds, rfl, hw⟩, RelQ.agg hq⟩
    all_goals simp at hp'
theorem open_args {n : Nat} {base : Nat} : ∀ (ts : List TypeId) (vs : List Value) (ds : List (DataW H)) (ps : List MemPlace), ts.all (plainT P n) = true →
    (∀ (j : Nat) t v, ts[j]? = some t → vs[j]? = some v → Value.okWide P w .any base t v) → DataW.TrodAll enc P w 0 spare held ts vs ds ps →
    ∃ xs : List V, wfArgs P n ts xs ∧ ArgsRel (fun _ => none) (fun b _ => b < w.heap.size) w xs vs
  | [], [], ds, ps, _, _, h => ⟨[], trivial, rfl, fun j v hj => by simp at hj⟩
  | t :: ts, v :: vs, [], ps, _, _, h => by cases h
  | t :: ts, v :: vs, d :: ds, ps, hp, hv, h => by
    obtain ⟨p, q, h1, h2, _⟩ := h
    simp only [List.all_cons, Bool.and_eq_true] at hp
    obtain ⟨x, wx, rx⟩ := open_arg hp.1 (hv 0 t v rfl rfl) h1
    obtain ⟨xs, wxs, rl, rxs⟩ := open_args ts vs ds q hp.2 (fun j t' v' ht hv' => hv (j + 1) t' v' (by simpa using ht) (by simpa using hv')) h2
    refine ⟨x :: xs, ⟨wx, wxs⟩, by simp [rl], fun j y hj => ?_⟩
    cases j with
    | zero => simp at hj; subst hj; exact ⟨v, rfl, rx⟩
    | succ j => simpa using rxs j y (by simpa using hj)
  | [], v :: vs, ds, ps, _, _, h => by cases ds <;> cases h
  | t :: ts, [], ds, ps, _, _, h => by cases ds <;> cases h
theorem args_again {W W' : World} (hl : laidOutB P = true) (hb : Below W.heap.size W W') : ∀ (ts : List TypeId) (vs : List Value) (ds : List (DataW H)) (ps : List MemPlace),
    (∀ t ∈ ts, P.readableRec t = true ∧ t < P.types.size) → (∀ p ∈ ps, p.block < W.heap.size) → DataW.TrodAll enc P W 0 (fun _ => true) true ts vs ds ps →
    DataW.TrodAll enc P W' 0 (fun b => decide (b < W.heap.size)) true ts vs ds ps
  | [], [], [], ps, _, _, h => h
  | [], [], _ :: _, ps, _, _, h => by cases h
  | [], _ :: _, ds, ps, _, _, h => by cases ds <;> cases h
  | t :: ts, [], ds, ps, _, _, h => by cases ds <;> cases h
  | t :: ts, v :: vs, [], ps, _, _, h => by cases h
  | t :: ts, v :: vs, d :: ds, ps, hr, hlt, h => by
    obtain ⟨p, q, h1, h2, rfl⟩ := h
    refine ⟨p, q, ?_, args_again hl hb ts vs ds q (fun u hu => hr u (List.mem_cons_of_mem _ hu)) (fun x hx => hlt x (List.mem_append_right _ hx)) h2, rfl⟩
    obtain ⟨r1, r2⟩ := hr t (List.mem_cons_self ..)
    exact Below.trod hl r1 r2 h1 hb (fun x hx => hlt x (List.mem_append_left _ hx))
theorem keptBut_below {W W' : World} (hb : Below W.heap.size W W') (may : MemPlace → Prop) : W.keptBut W' may := by
  refine ⟨hb.os, hb.output, fun i hi => ?_⟩
  rw [hb.block i hi]
  cases W.heap[i]? with
  | none => trivial
  | some o => cases o <;> first | exact ⟨rfl, rfl, rfl, fun _ _ => rfl⟩ | exact .inr ⟨rfl, rfl⟩ | rfl
theorem law_true {φ : Phi} (hg : Good P φ) (hl : laidOutB P = true) {f : FuncId} {fn : Func} {s : ChangeSpec} {n tb : Nat} {W : World} {base : Nat} {args : Array Value} {ds gs : List (DataW H)} {before : List MemPlace}
    (hpl : fn.params.toList.all (plainT P n) = true) (hrd : fn.params.toList.all (fun t => P.readableRec t && decide (t < P.types.size)) = true)
    (hres : fn.resultTypes = #[tb]) (hb : P.underlying tb = some .bool) (hsv : s.vars = [])
    (hfn : ∀ ds : List (DataW H), ds.length = fn.params.size → s.fn H ds = { results := [.lit (.bool true)], args := ds })
    (hlaw : ∀ xs, wfArgs P n fn.params.toList xs → φ f xs [] = some (.one (.d (.b true)), []))
    (hval : ∀ (j : Nat) t v, fn.params[j]? = some t → args[j]? = some v → Value.okWide P W .any base t v)
    (hW : DataW.Whole enc P fn.params.toList s.vars false W args.toList ds gs before) :
    Calls P f args W fun e W' => ∃ v, e = .returned v ∧ s.post enc P fn false true false false W args v W' := by
  have hlt := hW.lt
  have hW' := hW
  obtain ⟨p, q, hA, hV, rfl, hz, hap⟩ := hW
  rw [hsv] at hV
  obtain ⟨xs, wx, rx⟩ := open_args (base := base) _ _ _ _ hpl (fun j t v ht hv => hval j t v (by simpa using ht) (by simpa using hv)) hA
  have hgs : gs = [] ∧ q = [] := by
    cases gs with
    | nil => exact ⟨rfl, hV⟩
    | cons a b => cases hV
  obtain ⟨rfl, rfl⟩ := hgs
  have hi : Inv (fun _ => none) (fun b _ => b < W.heap.size) (fun b => b < W.heap.size) W [] :=
    { box := fun i b l h => by simp at h, dom := fun i l h => (by cases h), old := fun i l B h => (by cases h), sl := fun b o h => h, tl := fun b h => h, one := fun i j bi bj li lj B _ h => by simp at h }
  have hc := hg.ok _ _ _ _ _ (hlaw xs wx) _ _ _ W args.toList hi rx
  rw [Array.toArray_toList] at hc
  refine hc.mono fun e W' he => ?_
  obtain ⟨v, mu', S', rfl, ex, _, hr⟩ := he
  have hv : v = .bool true := by cases hr; rfl
  subst hv
  have hbl : Below W.heap.size W W' := ⟨ex.os, ex.tape, ex.output, ex.size, fun k hk => ex.blk k hk⟩
  have hdl : ds.length = fn.params.size := by
    have key : ∀ (ts : List TypeId) (vs : List Value) (ds : List (DataW H)) (ps : List MemPlace), DataW.TrodAll enc P W 0 (fun _ => true) true ts vs ds ps → ds.length = ts.length := by
      intro ts
      induction ts with
      | nil => intro vs ds ps h; cases vs <;> cases ds <;> first | rfl | cases h
      | cons t ts ih =>
        intro vs ds ps h
        cases vs with
        | nil => cases ds <;> cases h
        | cons v vs =>
          cases ds with
          | nil => cases h
          | cons d ds => obtain ⟨_, _, _, h2, _⟩ := h; simp [ih vs ds _ h2]
    simpa using key _ _ _ _ hA
  have hf := hfn (ds ++ []) (by simpa using hdl)
  refine ⟨_, rfl, ds, [], p ++ [], [], p, [], hW', ?_, ?_, ?_, keptBut_below hbl _, fun h => by cases h⟩
  · rw [hf, hres]
    exact trodAll_mk1 (shut_bool hb true)
  · rw [hf]
    simp only [List.append_nil]
    have := args_again hl hbl _ _ _ _ (fun t ht => by have := (List.all_eq_true.1 hrd) t ht; simpa using this) (fun x hx => hlt x (by simpa using hx)) hA
    exact this
  · rw [hf, hsv]; rfl
end
end Go.Vi

namespace Go.Vi
set_option linter.unusedSimpArgs false
set_option linter.unusedVariables false
theorem xk_le' (fr : Fr) (x : X) : xk fr x ≤ xkS x := by
  cases x with
  | t n => simp only [xk, xkS]; cases (xRefs fr (.t n)).isEmpty <;> decide
  | c v => exact Nat.le_refl _
theorem kind_le (fr : Fr) (a : A) : a.kind fr ≤ a.kindS := by
  cases a <;> simp only [A.kind, A.kindS] <;> (try omega)
  case ld ag x => exact xk_le' _ _
  case b2s x => exact xk_le' _ _
  case app st s b x y =>
    split
    · have := xk_le' fr y; cases y <;> simp only [xkS] at this <;> (try omega); rename_i v; revert this; cases v.refs.isEmpty <;> simp only [cond_true, cond_false] <;> omega
    · omega
def Log0.le (x y : Log0) : Prop := x.kind ≤ y.kind ∧ x.dst = y.dst ∧ x.rds = y.rds
theorem free_of_freeS {x y x' y' : Log0} (hx : x.le x') (hy : y.le y') (h : x'.freeS y' = true) : x.free y = true := by
  obtain ⟨hx1, hx2, hx3⟩ := hx
  obtain ⟨hy1, hy2, hy3⟩ := hy
  simp only [Log0.freeS, Log0.free, Bool.and_eq_true, Bool.or_eq_true, beq_iff_eq, decide_eq_true_eq] at h ⊢
  rw [hx2, hx3, hy2, hy3]
  refine ⟨h.1, ?_⟩
  rcases h.2 with (h2 | h2) | h2 <;> omega
theorem freeAll_of_S {pre : List Nat} {e e' : Log0} (he : e.le e') : ∀ {l l' : List Log0} {i : Nat}, l.length = l'.length → (∀ (j : Nat) (x x' : Log0), l[j]? = some x → l'[j]? = some x' → x.le x') → freeAllS pre e' i l' = true → freeAll0 pre e i l = true
  | [], [], i, _, _, _ => rfl
  | [], y :: r, i, h, _, _ => by cases h
  | x :: r, [], i, h, _, _ => by cases h
  | x :: r, x' :: r', i, hl, hr, h => by
    simp only [freeAllS, freeAll0, Bool.and_eq_true, Bool.or_eq_true] at h ⊢
    refine ⟨?_, freeAll_of_S he (by simpa using hl) (fun j y y' h1 h2 => hr (j + 1) y y' (by simpa using h1) (by simpa using h2)) h.2⟩
    rcases h.1 with h1 | h1
    · exact .inl h1
    · exact .inr (free_of_freeS (hr 0 x x' rfl rfl) he h1)
def AOp.bare (o : AOp) : AOp := { o with pre := [] }
def AC.bare : AC → AC
  | .reg ops dr => bif !dr || statS ops [] then .reg (ops.map AOp.bare) false else .reg ops true
  | .seq a b => .seq a.bare b.bare
  | .cond c a b => .cond c a.bare b.bare
  | .block id c => .block id c.bare
  | .loop lv c => .loop lv c.bare
  | .skip => .skip
  | .exit i => .exit i
  | .ret => .ret
  | .yld a d y xs b => .yld a d y xs b
  | .rng g ps a b => .rng g ps a b
section
variable {φ : Phi}
theorem runOps_bare : ∀ (ops : List AOp) (fr : Fr) (H : Hp), runOps φ (ops.map AOp.bare) fr H = runOps φ ops fr H
  | [], _, _ => rfl
  | o :: r, fr, H => by
    simp only [List.map_cons, runOps]
    have : o.bare.step φ fr H = o.step φ fr H := rfl
    rw [this]
    cases o.step φ fr H with
    | none => rfl
    | some q => exact runOps_bare r _ _
theorem runDraw_stat : ∀ (ops : List AOp) (lg lgS : List Log0) (fr0 : Fr) (H : Hp), lg.length = lgS.length → (∀ (j : Nat) (x x' : Log0), lg[j]? = some x → lgS[j]? = some x' → x.le x') → statS ops lgS = true →
    runDrawA φ ops lg fr0 H = runOps φ ops fr0 H
  | [], _, _, _, _, _, _, _ => rfl
  | o :: r, lg, lgS, fr0, H, hl, hr, h => by
    simp only [statS, Bool.and_eq_true, Bool.not_eq_true'] at h
    obtain ⟨⟨hfz, hpre, hfree⟩, hrest⟩ := h
    simp only [runDrawA, runOps, AOp.step]
    cases hw : wantedV fr0 o.g with
    | none => rfl
    | some w =>
      simp only
      have hle : Log0.le ⟨bif w then o.a.kind fr0 else 0, o.dst, o.slots⟩ o.logS := by
        refine ⟨?_, rfl, rfl⟩
        cases w with
        | true => exact kind_le fr0 o.a
        | false => exact Nat.zero_le _
      have hchk : (!o.fz && (o.pre.all (fun j => decide (j < lg.length)) && freeAll0 o.pre ⟨bif w then o.a.kind fr0 else 0, o.dst, o.slots⟩ 0 lg)) = true := by
        rw [hfz, hl, hpre, freeAll_of_S hle hl hr hfree]; rfl
      rw [if_pos hchk]
      have ih : ∀ fr H, runDrawA φ r (lg ++ [⟨bif w then o.a.kind fr0 else 0, o.dst, o.slots⟩]) fr H = runOps φ r fr H := fun fr' H' =>
        runDraw_stat r _ (lgS ++ [o.logS]) fr' H' (by simp [hl]) (fun j x x' h1 h2 => by
          rcases Nat.lt_or_ge j lg.length with hj | hj
          · rw [List.getElem?_append_left hj] at h1
            rw [List.getElem?_append_left (by omega)] at h2
            exact hr j x x' h1 h2
          · rw [List.getElem?_append_right hj] at h1
            rw [List.getElem?_append_right (by omega)] at h2
            have h0 : j - lg.length = 0 := by
              have := (List.getElem?_eq_some_iff.1 h1).1
              simpa using this
            have h0' : j - lgS.length = 0 := by omega
            rw [h0] at h1
            rw [h0'] at h2
            simp at h1 h2
            subst h1; subst h2
            exact hle) hrest
      cases w with
      | true =>
        simp only [cond_true, hfz, cond_false] at ih ⊢
        cases o.a.run φ fr0 H with
        | none => rfl
        | some q => exact ih _ _
      | false =>
        simp only [cond_false] at ih ⊢
        exact ih _ _
theorem exec_bare {α : Type} (m : Nat) : ∀ (c : AC) (fr : Fr) (H : Hp) (K : Ex → Fr → Hp → Option α), execU φ m c.bare fr H K = execU φ m c fr H K
  | .skip, _, _, _ => rfl
  | .reg ops dr, fr, H, K => by
    simp only [AC.bare]
    cases dr with
    | false => simp only [Bool.not_false, Bool.true_or, cond_true, execU, cond_false, runOps_bare]
    | true =>
      simp only [Bool.not_true, Bool.false_or]
      cases h : statS ops [] with
      | false => rfl
      | true => simp only [cond_true, execU, cond_false, runOps_bare, runDraw, h, runDraw_stat ops [] [] fr H rfl (fun j x x' hj => by simp at hj) h]
  | .seq a b, fr, H, K => by
    simp only [AC.bare, execU]
    rw [exec_bare m a]
    congr 1
    funext e fr' H'
    cases e with
    | normal => exact exec_bare m b _ _ _
    | exit i => rfl
    | ret => rfl
  | .cond c a b, fr, H, K => by
    simp only [AC.bare, execU]
    simp only [exec_bare m a, exec_bare m b]
  | .block id c, fr, H, K => by
    simp only [AC.bare, execU]
    rw [exec_bare m c]
  | .loop lv c, fr, H, K => by
    simp only [AC.bare, execU]
    have : (execU (α := α) φ m c.bare) = execU φ m c := by
      funext fr' H' K'
      exact exec_bare m c _ _ _
    rw [this]
  | .exit id, _, _, _ => rfl
  | .ret, _, _, _ => rfl
  | .yld _ _ _ _ _, _, _, _ => rfl
  | .rng _ _ _ _, _, _, _ => rfl
end
def compS (P : Program) (f : FuncId) (an : Ann) : Option AF := bif an.out then none else match compF P f an with
  | some af => some { af with body := af.body.bare }
  | none => none
def progOf (P : Program) (an : FuncId → Ann) (f : FuncId) : Option AF := bif (an f).out then none else compF P f (an f)
theorem progOf_made (P : Program) (an : FuncId → Ann) : Made P (progOf P an) := fun f af h => by
  unfold progOf at h
  cases ho : (an f).out with
  | true => rw [ho] at h; cases h
  | false => rw [ho] at h; exact ⟨an f, h⟩
theorem progOf_out {P : Program} {an : FuncId → Ann} {f : FuncId} (h : (an f).out = true) : progOf P an f = none := by simp only [progOf, h, cond_true]
def anOf : List (Nat × Ann) → FuncId → Ann
  | [], _ => {}
  | (k, a) :: r, f => if f = k then a else anOf r f
theorem hasR_bare : ∀ c : AC, c.bare.hasR = c.hasR
  | .reg ops dr => by
    simp only [AC.bare]
    cases (!dr || statS ops []) <;> rfl
  | .seq a b => by simp only [AC.bare, AC.hasR, hasR_bare a, hasR_bare b]
  | .cond c a b => by simp only [AC.bare, AC.hasR, hasR_bare a, hasR_bare b]
  | .block id c => by simp only [AC.bare, AC.hasR, hasR_bare c]
  | .loop lv c => rfl
  | .skip => rfl
  | .exit i => rfl
  | .ret => rfl
  | .yld _ _ _ _ _ => rfl
  | .rng _ _ _ _ => rfl
theorem enterS {P : Program} {an : FuncId → Ann} {pr : Phi} {f : FuncId} {args : List V} {H : Hp} {z : V × Hp} {af : AF} (hf : compS P f (an f) = some af) (hl : (Nat.ble args.length af.ntmps && !af.body.hasR) = true)
    (h : goU (callU (progOf P an) pr) H.length (finK af.res af.keep H.length) af.body (frameOf af.ntmps (argF args)) H [] = some z) : callU (progOf P an) pr f args H = some z := by
  unfold compS at hf
  cases ho : (an f).out with
  | true => rw [ho] at hf; cases hf
  | false =>
    rw [ho] at hf
    simp only [cond_false] at hf
    split at hf
    · rename_i af0 h0
      cases hf
      rw [Bool.and_eq_true, Bool.not_eq_true'] at hl
      refine enter (af := af0) (by simp only [progOf, ho, cond_false]; exact h0) (by have := hl.2; simp only [hasR_bare] at this; exact this) hl.1 ?_
      simp only [goU] at h ⊢
      rwa [exec_bare H.length af0.body] at h
    · cases hf
end Go.Vi

namespace Go.Vi
set_option linter.unusedSimpArgs false
set_option linter.unusedVariables false
def fnAt : List Nat → List V → Fn
  | i :: is, v :: vs => fun n => if n = i then v else fnAt is vs n
  | _, _ => fun _ => .any
def agree : List Nat → List V → Fn → Prop
  | i :: is, v :: vs, f => f i = v ∧ agree is vs f
  | [], [], _ => True
  | _, _, _ => False
theorem fnAt_same (i : Nat) (is : List Nat) (v : V) (vs : List V) : fnAt (i :: is) (v :: vs) i = v := by simp [fnAt]
theorem fnAt_ne (i : Nat) (is : List Nat) (v : V) (vs : List V) {n : Nat} (h : n ≠ i) : fnAt (i :: is) (v :: vs) n = fnAt is vs n := by simp [fnAt, h]
theorem agree_nil (f : Fn) : agree [] [] f = True := Eq.trans rfl rfl
theorem agree_cons (i : Nat) (is : List Nat) (v : V) (vs : List V) (f : Fn) : agree (i :: is) (v :: vs) f = (f i = v ∧ agree is vs f) := Eq.trans rfl rfl
theorem agree_kill {lv : List Nat} {vals : List V} {f : Fn} (h : agree lv vals f) : killF lv f = fnAt lv vals := by
  induction lv generalizing vals with
  | nil =>
    cases vals with
    | nil => funext n; simp [killF, fnAt]
    | cons v vs => exact h.elim
  | cons i is ih =>
    cases vals with
    | nil => exact h.elim
    | cons v vs =>
      obtain ⟨h1, h2⟩ := h
      have e := ih h2
      funext n
      have en := congrFun e n
      simp only [killF, fnAt, List.contains_cons, Bool.or_eq_true, beq_iff_eq] at en ⊢
      by_cases c : n = i
      · subst c; simp [h1]
      · simp only [c, false_or, if_false]; exact en
inductive Ty where
  | b | i (k : IntKind) | s | l (row : List Ty)
  deriving Inhabited
mutual
def wfT : Ty → D → Prop
  | .b, d => ∃ x, d = .b x
  | .i k, d => ∃ n, d = .i k n ∧ k.min ≤ n ∧ n ≤ k.max
  | .s, d => ∃ l : List UInt8, d = .s l ∧ l.length ≤ 9223372036854775807
  | .l row, d => ∃ rows : List (List D), d = .l rows ∧ rows.length ≤ 9223372036854775807 ∧ ∀ r ∈ rows, wfRow row r
def wfRow : List Ty → List D → Prop
  | [], ds => ds = []
  | t :: ts, ds => ∃ d r, ds = d :: r ∧ wfT t d ∧ wfRow ts r
end
def catO : List (Option (List Ty)) → Option (List Ty)
  | [] => some []
  | some x :: r => match catO r with | some y => some (x ++ y) | none => none
  | none :: _ => none
def tyOf (P : Program) : Nat → TypeId → Option (List Ty)
  | 0, _ => none
  | n + 1, t => match P.underlying t with
    | some .bool => some [.b]
    | some (.int k) => some [.i k]
    | some .string => some [.s]
    | some (.slice e) => match tyOf P n e with | some row => some [.l row] | none => none
    | some (.struct fs) => catO (fs.toList.map fun f => tyOf P n f.type)
    | some (.array m e) => catO ((List.replicate m e).map (tyOf P n))
    | _ => none
theorem wfRow_append {a b : List Ty} {x y : List D} (h : wfRow a x) (k : wfRow b y) : wfRow (a ++ b) (x ++ y) := by
  induction a generalizing x with
  | nil => simp only [wfRow] at h; subst h; exact k
  | cons t ts ih =>
    simp only [wfRow] at h
    obtain ⟨d, r, rfl, h1, h2⟩ := h
    simp only [List.cons_append, wfRow]
    exact ⟨d, _, rfl, h1, ih h2⟩
theorem wf_cat {W : TypeId → List D → Prop} {sz : TypeId → Nat} {g : TypeId → Option (List Ty)} (hW : ∀ t ts ds, g t = some ts → W t ds → wfRow ts ds) :
    ∀ (l : List TypeId) (ts : List Ty) (ds : List D), catO (l.map g) = some ts → wfFields W sz l ds → wfRow ts ds
  | [], ts, ds, h, hd => by cases h; simpa [wfFields, wfRow] using hd
  | t :: l, ts, ds, h, hd => by
    simp only [List.map_cons] at h
    cases hg : g t with
    | none => rw [hg] at h; cases h
    | some x =>
      rw [hg] at h
      simp only [catO] at h
      cases hc : catO (l.map g) with
      | none => rw [hc] at h; cases h
      | some y =>
        rw [hc] at h
        cases h
        obtain ⟨p, r, rfl, _, h1, h2⟩ := hd
        exact wfRow_append (hW t x p hg h1) (wf_cat hW l y r hc h2)
theorem ty_ok {P : Program} : ∀ (n : Nat) (t : TypeId) (ts : List Ty) (ds : List D), tyOf P n t = some ts → wfD P n t ds → wfRow ts ds := by
  intro n
  induction n with
  | zero => intro t ts ds h; cases h
  | succ n ih =>
    intro t ts ds h hd
    unfold tyOf at h
    unfold wfD at hd
    cases hu : P.underlying t with
    | none => rw [hu] at h; cases h
    | some u =>
      rw [hu] at h hd
      cases u
      case bool => cases h; obtain ⟨b, rfl⟩ := hd; simp [wfRow, wfT]
      case int k =>
        cases h; obtain ⟨x, rfl, hx⟩ := hd
        simp only [Lit.wf, Bool.and_eq_true, decide_eq_true_eq] at hx
        simp [wfRow, wfT, hx]
      case string => cases h; obtain ⟨l, rfl, hl⟩ := hd; simp only [wfRow, wfT]; exact ⟨_, _, rfl, ⟨l, rfl, hl⟩, rfl⟩
      case slice e =>
        simp only at h hd
        cases hr : tyOf P n e with
        | none => rw [hr] at h; cases h
        | some row =>
          rw [hr] at h; cases h
          obtain ⟨rows, rfl, hl, hall⟩ := hd
          simp only [wfRow, wfT]
          exact ⟨_, _, rfl, ⟨rows, rfl, hl, fun r hr' => ih e row r hr (hall r hr').2⟩, rfl⟩
      case struct fs =>
        simp only at h hd
        have : catO ((fs.toList.map (·.type)).map (tyOf P n)) = some ts := by rw [List.map_map]; exact h
        exact wf_cat (fun t ts ds => ih t ts ds) _ _ _ this hd
      case array m e =>
        simp only at h hd
        exact wf_cat (fun t ts ds => ih t ts ds) _ _ _ h hd
      all_goals cases h
def tyA (P : Program) (n : Nat) (t : TypeId) : Option (Bool × List Ty) := match P.underlying t with
  | some (.struct _) => (tyOf P n t).map (true, ·)
  | some (.array _ _) => (tyOf P n t).map (true, ·)
  | _ => (tyOf P n t).map (false, ·)
def wfA : Bool × List Ty → V → Prop
  | (true, ts), v => ∃ ds : List D, v = .agg (ds.map .d) ∧ wfRow ts ds
  | (false, ts), v => ∃ d, v = .one (.d d) ∧ wfRow ts [d]
def wfAs : List (Bool × List Ty) → List V → Prop
  | [], vs => vs = []
  | t :: ts, vs => ∃ v r, vs = v :: r ∧ wfA t v ∧ wfAs ts r
def tyAs (P : Program) (n : Nat) : List TypeId → Option (List (Bool × List Ty))
  | [] => some []
  | t :: ts => match tyA P n t, tyAs P n ts with | some x, some xs => some (x :: xs) | _, _ => none
theorem tyA_ok {P : Program} {n : Nat} {t : TypeId} {a : Bool × List Ty} {v : V} (h : tyA P n t = some a) (hv : wfArg P n t v) : wfA a v := by
  unfold tyA at h
  unfold wfArg at hv
  have one : (tyOf P n t).map (false, ·) = some a → (∃ d, v = .one (.d d) ∧ wfD P n t [d]) → wfA a v := by
    intro h ⟨d, hd, hw⟩
    obtain ⟨ts, hts, rfl⟩ := Option.map_eq_some_iff.1 h
    exact ⟨d, hd, ty_ok n t ts _ hts hw⟩
  have agg : (tyOf P n t).map (true, ·) = some a → (∃ ds : List D, v = .agg (ds.map .d) ∧ wfD P n t ds) → wfA a v := by
    intro h ⟨d, hd, hw⟩
    obtain ⟨ts, hts, rfl⟩ := Option.map_eq_some_iff.1 h
    exact ⟨d, hd, ty_ok n t ts _ hts hw⟩
  cases hu : P.underlying t with
  | none => rw [hu] at h hv; exact one h hv
  | some u =>
    rw [hu] at h hv
    cases u
    case struct fs => exact agg h hv
    case array m e => exact agg h hv
    all_goals exact one h hv
theorem tyAs_ok {P : Program} {n : Nat} : ∀ {ts : List TypeId} {al : List (Bool × List Ty)} {vs : List V}, tyAs P n ts = some al → wfArgs P n ts vs → wfAs al vs
  | [], al, [], h, hv => by cases h; rfl
  | [], al, _ :: _, h, hv => hv.elim
  | t :: ts, al, [], h, hv => hv.elim
  | t :: ts, al, v :: vs, h, hv => by
    simp only [tyAs] at h
    cases h1 : tyA P n t with
    | none => rw [h1] at h; cases h
    | some x =>
      cases h2 : tyAs P n ts with
      | none => rw [h1, h2] at h; cases h
      | some xs =>
        rw [h1, h2] at h
        cases h
        exact ⟨v, vs, rfl, tyA_ok h1 hv.1, tyAs_ok h2 hv.2⟩
theorem dlt_t {a b : Int} (h : a < b) : decide (a < b) = true := by simp [h]
theorem dlt_f {a b : Int} (h : b ≤ a) : decide (a < b) = false := by simp; omega
theorem dle_t {a b : Int} (h : a ≤ b) : decide (a ≤ b) = true := by simp [h]
theorem dle_f {a b : Int} (h : b < a) : decide (a ≤ b) = false := by simp; omega
theorem beq_t {a b : Int} (h : a = b) : (a == b) = true := by simp [h]
theorem beq_f {a b : Int} (h : a ≠ b) : (a == b) = false := by simp [h]
theorem bne_t {a b : Int} (h : a ≠ b) : (a != b) = true := by simp [h]
theorem bne_f {a b : Int} (h : a = b) : (a != b) = false := by simp [h]
theorem wrap_i {n : Int} (h : -9223372036854775808 ≤ n ∧ n < 9223372036854775808) : IntKind.i64.wrap n = n := wrap64_of h.1 h.2
theorem row_get {α β : Type} (g : α → β) (q : List α) (n : Int) (h : n.toNat < q.length) : (q.map g)[n.toNat]? = some (g (q[n.toNat]'h)) := by simp [h]
theorem row_getN {α β : Type} (g : α → β) (q : List α) (k : Nat) (h : k < q.length) : (q.map g)[k]? = some (g (q[k]'h)) := by simp [h]
end Go.Vi

namespace Go.Vi
set_option linter.defProp false
def vis := And.intro @opB_some (And.intro @opBz_some (And.intro @opW_true (And.intro @opW_false (And.intro @opWz_true (And.intro @opWz_false (And.intro @cdB_true (And.intro @cdB_false (And.intro @fnAt_same (And.intro @fnAt_ne (And.intro @agree_nil (And.intro @agree_cons (And.intro @wanted_some (And.intro @go_skip (And.intro @go_seq (And.intro @go_reg (And.intro @go_cond (And.intro @go_block (And.intro @go_exit (And.intro @go_ret
 (And.intro @pop_nil (And.intro @pop_s (And.intro @pop_se (And.intro @pop_sr (And.intro @pop_k (And.intro @pop_ke (And.intro @pop_kr (And.intro @ops_nil (And.intro @KL_normal (And.intro @KL_exit (And.intro @KL_ret (And.intro @finK_ret (And.intro @finK_normal
 (And.intro @fin_eq (And.intro @fin_keep (And.intro @rv_t (And.intro @rv_c (And.intro @resV_nil (And.intro @resV_one (And.intro @resV_two (And.intro @resL_nil (And.intro @resL_cons (And.intro @resT_one (And.intro @resT_agg (And.intro @wanted_none (And.intro @ev_t (And.intro @ev_c (And.intro @put_some (And.intro @put_none (And.intro @upd_same (And.intro @upd_ne (And.intro @killF_apply
 (And.intro @frame_get (And.intro @trim_pure (And.intro @V.pure_one (And.intro @V.pure_agg (And.intro @V.pure_tup (And.intro @V.pure_any (And.intro @L.pure_d (And.intro @L.pure_ip (And.intro @L.pure_cl (And.intro @L.pure_ns (And.intro @L.pure_np (And.intro @L.pure_nf (And.intro @L.pure_f @Ls.pure_map))))))))))))))))))))))))))))))))))))))))))))))))))))))))))))))))
def visL := And.intro @List.length_nil.{0} (And.intro @cond_false.{1} (And.intro @cond_true.{1} (And.intro @List.contains_cons.{0} (And.intro @List.contains_nil.{0} (And.intro Bool.or_true (And.intro Bool.true_or (And.intro Bool.or_false (And.intro not_false_eq_true
 (And.intro @List.getD_cons_zero.{0} (And.intro @List.getD_cons_succ.{0} (And.intro @List.map_cons.{0, 0} (And.intro @List.map_nil.{0, 0} (And.intro @List.nil_append.{0} (And.intro @List.append_nil.{0} (And.intro @List.length_cons.{0} (And.intro @List.length_map.{0, 0}
 (And.intro @List.getElem?_cons_zero.{0} (And.intro @List.getElem?_cons_succ.{0} (And.intro not_true_eq_false (And.intro @List.all_cons.{0} (And.intro @List.all_nil.{0} (And.intro Bool.and_true (And.intro Bool.and_self (And.intro @beq_self_eq_true.{0}
 (And.intro Bool.true_eq_false (And.intro Bool.false_eq_true (And.intro @beq_true (And.intro @beq_false (And.intro Bool.not_true (And.intro Bool.not_false (And.intro decide_true (And.intro decide_false (And.intro and_self (And.intro true_and (And.intro and_true
 (And.intro @Int.natCast_nonneg @Int.toNat_natCast))))))))))))))))))))))))))))))))))))
theorem nle_t {a b : Nat} (h : a ≤ b) : (a ≤ b) = True := by simp [h]
theorem nlt_t {a b : Nat} (h : a < b) : (a < b) = True := by simp [h]
theorem ile_t {a b : Int} (h : a ≤ b) : (a ≤ b) = True := by simp [h]
theorem ilt_t {a b : Int} (h : a < b) : (a < b) = True := by simp [h]
theorem okRows_nil (sz : Nat) : okRows sz [] = true := Eq.trans rfl rfl
theorem okRows_cons (sz : Nat) (r : List D) (l : List (List D)) : okRows sz (r :: l) = (r.length == sz && okRows sz l) := Eq.trans rfl rfl
theorem okRows_append (sz : Nat) (l m : List (List D)) : okRows sz (l ++ m) = (okRows sz l && okRows sz m) := by simp [okRows]
theorem getElem_new {α : Type} (H : List α) (b : α) : (H ++ [b])[H.length]? = some b := by simp
theorem fzLs_map : ∀ (ds : List D) (H : Hp), fzLs (ds.map .d) H = some (ds.map .d, H)
  | [], _ => rfl
  | d :: ds, H => by simp only [List.map_cons, fzLs, fzL, fzLs_map ds H]
theorem toDs_map : ∀ ds : List D, toDs (ds.map .d) = some ds
  | [] => rfl
  | d :: ds => by simp only [List.map_cons, toDs, toD, toDs_map ds]
theorem or_self_l (p : Prop) : (True ∨ p) = True := by simp
theorem or_self_r (p : Prop) : (p ∨ True) = True := by simp
theorem take_map_len {α β : Type} (g : α → β) (q : List α) : (q.map g).take q.length = q.map g := List.take_of_length_le (by simp)
theorem bne_tr (b : Bool) : (b != true) = !b := by cases b <;> rfl
theorem bne_fa (b : Bool) : (b != false) = b := by cases b <;> rfl
theorem take_set_map {α β : Type} (g : α → β) (q : List α) (i : Nat) (x : α) : ((q.set i x).map g).take q.length = (q.set i x).map g := List.take_of_length_le (by simp)
theorem take_set_len {α : Type} (q : List α) (i : Nat) (x : α) : (q.set i x).take q.length = q.set i x := List.take_of_length_le (by simp)
def visB := And.intro Nat.mul_one (And.intro Nat.zero_mul (And.intro Int.toNat_zero (And.intro @List.length_set.{0} (And.intro @take_set_map (And.intro @take_set_len (And.intro @bne_tr (And.intro @bne_fa (And.intro @List.take_length.{0} (And.intro @take_map_len (And.intro @fzLs_map (And.intro @toDs_map (And.intro @List.set_cons_zero.{0} (And.intro @List.set_cons_succ.{0} (And.intro @or_self_l (And.intro @or_self_r (And.intro @List.take_nil.{0} (And.intro @List.drop_nil.{0} (And.intro Nat.zero_add (And.intro Nat.add_zero
  (And.intro @okRows_nil (And.intro @okRows_cons (And.intro @okRows_append (And.intro @List.length_append.{0} (And.intro @List.cons_append.{0} (And.intro @List.flatMap_cons.{0, 0} (And.intro @List.flatMap_nil.{0, 0} (And.intro Bool.true_and Bool.and_true)))))))))))))))))))))))))))
theorem bnd_n (n : Nat) : bounds n n none none none = some (0, n, n) := by simp [bounds]
theorem bnd_lo {n : Nat} {x : Int} (h : 0 ≤ x ∧ x ≤ (n : Int)) : bounds n n (some x) none none = some (x.toNat, n, n) := by simp [bounds, h]
theorem bnd_hi {n : Nat} {x : Int} (h : 0 ≤ x ∧ x ≤ (n : Int)) : bounds n n none (some x) none = some (0, x.toNat, n) := by simp [bounds, h]
theorem bnd_lh {n : Nat} {x y : Int} (h : 0 ≤ x ∧ x ≤ y ∧ y ≤ (n : Int)) : bounds n n (some x) (some y) none = some (x.toNat, y.toNat, n) := by
  have h1 : 0 ≤ y ∧ y ≤ (n : Int) := by omega
  have h2 : 0 ≤ x ∧ x ≤ ((y.toNat : Nat) : Int) := by omega
  simp only [bounds, h1, h2, and_self, if_true]
theorem bnd_hm {n : Nat} {x y : Int} (h : 0 ≤ x ∧ x ≤ y ∧ y ≤ (n : Int)) : bounds n n none (some x) (some y) = some (0, x.toNat, y.toNat) := by
  have h1 : 0 ≤ y ∧ y ≤ (n : Int) := by omega
  have h2 : 0 ≤ x ∧ x ≤ ((y.toNat : Nat) : Int) := by omega
  simp only [bounds, h1, h2, and_self, if_true]
theorem bnd_lhm {n : Nat} {z x y : Int} (h : 0 ≤ z ∧ z ≤ x ∧ x ≤ y ∧ y ≤ (n : Int)) : bounds n n (some z) (some x) (some y) = some (z.toNat, x.toNat, y.toNat) := by
  have h1 : 0 ≤ y ∧ y ≤ (n : Int) := by omega
  have h2 : 0 ≤ x ∧ x ≤ ((y.toNat : Nat) : Int) := by omega
  have h3 : 0 ≤ z ∧ z ≤ ((x.toNat : Nat) : Int) := by omega
  simp only [bounds, h1, h2, h3, and_self, if_true]
theorem toNat_succ (k : Nat) : ((k : Int) + 1).toNat = k + 1 := rfl
theorem wrap_u8 {n : Int} (h : 0 ≤ n ∧ n < 256) : IntKind.u8.wrap n = n := by
  simp [IntKind.wrap, IntKind.bits, IntKind.signed]; omega
theorem wrap_u16 {n : Int} (h : 0 ≤ n ∧ n < 65536) : IntKind.u16.wrap n = n := by
  simp [IntKind.wrap, IntKind.bits, IntKind.signed]; omega
theorem wrap_u32 {n : Int} (h : 0 ≤ n ∧ n < 4294967296) : IntKind.u32.wrap n = n := by
  simp [IntKind.wrap, IntKind.bits, IntKind.signed]; omega
theorem wrap_u64 {n : Int} (h : 0 ≤ n ∧ n < 18446744073709551616) : IntKind.u64.wrap n = n := by
  simp [IntKind.wrap, IntKind.bits, IntKind.signed]; omega
def dis := And.intro @wrap_u8 (And.intro @wrap_u16 (And.intro @wrap_u32 (And.intro @wrap_u64 (And.intro @bnd_n (And.intro @bnd_lo (And.intro @bnd_hi (And.intro @bnd_lh (And.intro @bnd_hm (And.intro @bnd_lhm (And.intro @toNat_succ (And.intro @okRows_map (And.intro @nle_t (And.intro @nlt_t (And.intro @ile_t (And.intro @ilt_t (And.intro @okRows_nil (And.intro @okRows_cons (And.intro @okRows_append (And.intro @getElem_new (And.intro @dlt_t (And.intro @dlt_f (And.intro @dle_t (And.intro @dle_f (And.intro @beq_t (And.intro @beq_f (And.intro @bne_t (And.intro @bne_f (And.intro @wrap_i (And.intro @row_get @row_getN)))))))))))))))))))))))))))))
def puri := And.intro @V.pure_one (And.intro @V.pure_agg (And.intro @V.pure_tup (And.intro @List.all_cons.{0} (And.intro @List.all_nil.{0} (And.intro Bool.and_true (And.intro Bool.and_self (And.intro @V.pure_any (And.intro @L.pure_d (And.intro @L.pure_ip (And.intro @L.pure_cl
 (And.intro @L.pure_ns (And.intro @L.pure_np (And.intro @L.pure_nf (And.intro @L.pure_f @Ls.pure_map))))))))))))))
end Go.Vi

namespace Go.Vi
set_option linter.unusedSimpArgs false
set_option linter.unusedVariables false
def noPr : Phi := fun _ _ _ => none
theorem noPr_good (P : Program) : Good P noPr := by
  constructor <;> (intro f args H r H' h; cases h)
def cloneAF (sz bytes : Nat) : AF := ⟨8,
 (.seq
  (rg [
    o 2 (.mv (kx (.ns)))])
  (.seq
   (.seq
    (rg [
      o 3 (.mv (.t 0)),
      o 4 (.nilc 0 false (.t 3))])
    (.cond (.t 4)
     (.seq
      (rg [
        o 2 (.mv (kx (.ns)))])
      .ret)
     .skip))
   (.seq
    (rg [
      o 5 (.bsl sz [] []),
      o 6 (.mv (.t 0)),
      o 7 (.app false sz bytes (.t 5) (.t 6)),
      o 2 (.mv (.t 7))])
    .ret))),
 [.t 2], true⟩
theorem clone_nn {P : Program} {an : FuncId → Ann} {pr : Phi} {f : FuncId} {sz bytes : Nat} (hf : compS P f (an f) = some (cloneAF sz bytes)) (rows : List (List D)) (h1 : okRows sz rows = true) (h2 : rows.length * bytes ≤ 140737488355328) (h3 : rows.length ≤ 9223372036854775807) :
    callU (progOf P an) pr f [.one (.nn rows)] [] = some (.one (.sl 1 sz 0 rows.length), [.dead, .arr sz rows 0]) := by
  apply enterS hf rfl
  have h4 : (0 + rows.length) * bytes ≤ 140737488355328 := by simpa using h2
  have h5 : 0 + rows.length ≤ 9223372036854775807 := by simpa using h3
  simp only [cloneAF, h1, h2, h3, vis, visL, visB, fillR, rowsAt, toDs, toD, ↓ops_cons, ↓ops_consz, fzTs, fzLs, rg, rd, o, oz, kc, kb, ks, kx, on, og, od, ogd, A.run, evI, evOpt, evs, evP, argF, V.cs, binD, fzV, fzL, dataVs, dataLs, V.data, L.data, unD, fillL, List.take_succ_cons, List.take_zero, List.drop_succ_cons, List.drop_zero, List.cons_append, ne_eq, Nat.reduceLT, Nat.reduceBEq, ↓reduceIte, Nat.reduceEqDiff, Nat.reduceAdd, Nat.reduceMul, Nat.reduceSub, Int.reduceToNat, Nat.reduceLeDiff, Int.reduceNeg, Int.reduceEq, Int.reduceLT, Int.reduceLE, Int.reduceBEq, Int.reduceBNe, Int.reduceToNat, fillR, rowsAt, true_or]
  simp [trim, V.refs, L.refs]
theorem clone_ns {P : Program} {an : FuncId → Ann} {pr : Phi} {f : FuncId} {sz bytes : Nat} (hf : compS P f (an f) = some (cloneAF sz bytes)) :
    callU (progOf P an) pr f [.one .ns] [] = some (.one .ns, []) := by
  apply enterS hf rfl
  simp only [cloneAF, vis, visL, visB, fillR, rowsAt, toDs, toD, ↓ops_cons, ↓ops_consz, fzTs, fzLs, rg, rd, o, oz, kc, kb, ks, kx, on, og, od, ogd, A.run, evI, evOpt, evs, evP, argF, V.cs, binD, fzV, fzL, dataVs, dataLs, V.data, L.data, unD, fillL, List.take_succ_cons, List.take_zero, List.drop_succ_cons, List.drop_zero, List.cons_append, ne_eq, Nat.reduceLT, Nat.reduceBEq, ↓reduceIte, Nat.reduceEqDiff, Nat.reduceAdd, Nat.reduceMul, Nat.reduceSub, Int.reduceToNat, Nat.reduceLeDiff, Int.reduceNeg, Int.reduceEq, Int.reduceLT, Int.reduceLE, Int.reduceBEq, Int.reduceBNe, Int.reduceToNat, fillR, rowsAt]
def clonePr (l : List (Nat × Nat × Nat)) : Phi := fun f args H => match l.lookup f, args, H with
  | some (sz, bytes), [.one (.d (.l rows))], [] => if okRows sz rows = true ∧ rows.length * bytes ≤ 140737488355328 ∧ rows.length ≤ 9223372036854775807 then some (.one (.sl 1 sz 0 rows.length), [.dead, .arr sz rows 0]) else none
  | _, _, _ => none
theorem clone_ok {P : Program} {φ : Phi} (hg : Good P φ) {f : FuncId} {sz : Nat} {rows : List (List D)} (hsz : 0 < sz)
    (h1 : φ f [.one (.nn rows)] [] = some (.one (.sl 1 sz 0 rows.length), [.dead, .arr sz rows 0])) (h2 : φ f [.one .ns] [] = some (.one .ns, [])) :
    CallOK P f [.one (.d (.l rows))] [] (.one (.sl 1 sz 0 rows.length)) [.dead, .arr sz rows 0] := by
  intro mu S TB w vs hi ha
  obtain ⟨hl, hrel⟩ := ha
  obtain ⟨x, hx, hr⟩ := hrel 0 _ rfl
  match vs, hl, hx with
  | [y], _, hx =>
    simp at hx
    subst hx
    have hsh : ∃ ad n c, y = .slice ad n c ∧ (ad = none → n = 0 ∧ c = 0 ∧ rows = []) := by
      cases hr with
      | nil a c hz => exact ⟨a, 0, c, rfl, fun h => ⟨rfl, hz h, rfl⟩⟩
      | l _ _ B off c u => exact ⟨_, _, _, rfl, fun h => by cases h⟩
    obtain ⟨ad, n, c, rfl, hnil⟩ := hsh
    cases ad with
    | none =>
      obtain ⟨rfl, rfl, rfl⟩ := hnil rfl
      refine (hg.ok _ _ _ _ _ h2 mu S TB w [.slice none 0 0] hi ⟨rfl, fun j v hj => ?_⟩).mono fun e w' he => ?_
      · cases j with
        | zero => simp at hj; subst hj; exact ⟨_, rfl, rfl⟩
        | succ j => simp at hj
      · obtain ⟨x, mu1, S1, rfl, ex, i1, rx⟩ := he
        have hx : x = .slice none 0 0 := rx
        subst hx
        have i2 : Inv mu1 S1 TB w' [.dead] := by
          refine ⟨fun i b l hb hl => ?_, fun i l hl => by have := i1.dom i l hl; simp at this, i1.old, i1.sl, i1.tl, fun i j bi bj li lj B _ hi' _ hai => ?_⟩
          · have := i1.dom i l hl; simp at this
          · cases i with
            | zero => simp at hi'; subst hi'; cases hai
            | succ i => simp at hi'
        obtain ⟨mu2, e2, i3, r3⟩ := i2.new_nil sz
        exact ⟨_, mu2, S1, rfl, ex.trans e2, i3, r3⟩
    | some A =>
      refine (hg.ok _ _ _ _ _ h1 mu S TB w [.slice (some A) n c] hi ⟨rfl, fun j v hj => ?_⟩).mono fun e w' he => he
      cases j with
      | zero => simp at hj; subst hj; exact ⟨_, rfl, ⟨_, _, _, rfl⟩, hr⟩
      | succ j => simp at hj
theorem lookup_mem {l : List (Nat × Nat × Nat)} {f : Nat} {x : Nat × Nat} (h : l.lookup f = some x) : (f, x) ∈ l := by
  induction l with
  | nil => cases h
  | cons c r ih =>
    obtain ⟨k, y⟩ := c
    simp only [List.lookup] at h
    split at h
    · rename_i e; cases h; rw [eq_of_beq e]; exact List.mem_cons_self ..
    · exact List.mem_cons_of_mem _ (ih h)
theorem clonePr_good {P : Program} (hd : ∀ φ, Good P φ → DrawOK P φ) (l : List (Nat × Nat × Nat)) (h : ∀ f sz bytes, (f, sz, bytes) ∈ l → 0 < sz ∧ ∃ an, compS P f an = some (cloneAF sz bytes)) : Good P (clonePr l) := by
  have key : ∀ f args H r H', clonePr l f args H = some (r, H') → CallOK P f args H r H' ∧ callable P f = true := by
    intro f args H r H' hc
    unfold clonePr at hc
    split at hc
    · rename_i sz bytes rows hlk
      split at hc
      · rename_i hcond
        cases hc
        obtain ⟨hsz, an, han⟩ := h f sz bytes (lookup_mem hlk)
        have hg : Good P (callU (progOf P fun _ => an) noPr) := callU_good hd (progOf_made _ _) (noPr_good P)
        have h1 := clone_nn (P := P) (an := fun _ => an) (pr := noPr) (f := f) han rows hcond.1 hcond.2.1 hcond.2.2
        exact ⟨clone_ok hg hsz h1 (clone_ns (an := fun _ => an) han), hg.can _ _ _ _ _ h1⟩
      · cases hc
    · cases hc
  exact ⟨fun f args H r H' hc => (key f args H r H' hc).1, fun f args H r H' hc => (key f args H r H' hc).2⟩
end Go.Vi

namespace Go.Vi
end Go.Vi

namespace Go.Vi
set_option linter.unusedSimpArgs false
set_option linter.unusedVariables false
def sortedB : List Nat → Bool
  | a :: b :: r => Nat.blt a b && sortedB (b :: r)
  | _ => true
theorem fnAt_ren (ρ : Nat → Option Nat) : ∀ (lv : List Nat) (vals : List V) (n : Nat), (fnAt lv vals n).ren ρ = fnAt lv (vals.map (V.ren ρ)) n
  | [], vals, n => by cases vals <;> rfl
  | i :: is, [], n => rfl
  | i :: is, v :: vs, n => by
    simp only [List.map_cons, fnAt]
    split
    · rfl
    · exact fnAt_ren ρ is vs n
theorem fnAt_lt : ∀ (lv : List Nat) (vals : List V) (n k : Nat), sortedB (k :: lv) = true → n ≤ k → fnAt lv vals n = .any
  | [], vals, n, k, _, _ => by cases vals <;> rfl
  | i :: is, [], n, k, _, _ => rfl
  | i :: is, v :: vs, n, k, h, hn => by
    simp only [sortedB, Bool.and_eq_true, Nat.blt_eq] at h
    simp only [fnAt]
    rw [if_neg (by omega)]
    exact fnAt_lt is vs n i h.2 (by omega)
theorem refs_fnAt : ∀ (lv : List Nat) (vals : List V) (a N : Nat), sortedB lv = true → (∀ i ∈ lv, a ≤ i) → (∀ i ∈ lv, i < a + N) → lv.length = vals.length → ((List.range' a N).map (fnAt lv vals)).flatMap V.refs = vals.flatMap V.refs
  | [], [], a, N, _, _, _, _ => by
    have : ∀ N a, ((List.range' a N).map (fnAt [] [])).flatMap V.refs = [] := by
      intro N
      induction N with
      | zero => intro a; rfl
      | succ N ih => intro a; rw [List.range'_succ, List.map_cons, List.flatMap_cons, ih]; rfl
    simpa using this N a
  | [], v :: vs, a, N, _, _, _, h => by simp at h
  | i :: is, [], a, N, _, _, _, h => by simp at h
  | i :: is, v :: vs, a, N, hs, ha, hN, hl => by
    have hia := ha i (List.mem_cons_self ..)
    have hiN := hN i (List.mem_cons_self ..)
    have hlow : ∀ (is : List Nat) (i k : Nat), sortedB (i :: is) = true → k ∈ is → i < k := by
      intro is
      induction is with
      | nil => intro i k _ hk; cases hk
      | cons j js ih =>
        intro i k h hk
        simp only [sortedB, Bool.and_eq_true, Nat.blt_eq] at h
        rcases List.mem_cons.1 hk with rfl | hk
        · exact h.1
        · exact Nat.lt_trans h.1 (ih j k h.2 hk)
    have hs' : sortedB is = true := by
      cases is with
      | nil => rfl
      | cons j js => simp only [sortedB, Bool.and_eq_true] at hs; exact hs.2
    have hsplit : List.range' a N = List.range' a (i - a) ++ i :: List.range' (i + 1) (N - (i - a) - 1) := by
      obtain ⟨q, rfl⟩ : ∃ q, i = a + q := ⟨i - a, by omega⟩
      obtain ⟨r, rfl⟩ : ∃ r, N = q + (r + 1) := ⟨N - q - 1, by omega⟩
      have e1 : a + q - a = q := by omega
      have e2 : q + (r + 1) - q - 1 = r := by omega
      rw [e1, e2, ← List.range'_append_1, List.range'_succ]
    have h0 : ∀ M b, b + M ≤ i → ((List.range' b M).map (fnAt (i :: is) (v :: vs))).flatMap V.refs = [] := by
      intro M
      induction M with
      | zero => intro b _; rfl
      | succ M ih =>
        intro b hb
        rw [List.range'_succ, List.map_cons, List.flatMap_cons, ih (b + 1) (by omega)]
        have : fnAt (i :: is) (v :: vs) b = .any := by
          simp only [fnAt]
          rw [if_neg (by omega)]
          exact fnAt_lt is vs b i hs (by omega)
        rw [this]; rfl
    rw [hsplit, List.map_append, List.flatMap_append, h0 (i - a) a (by omega), List.nil_append, List.map_cons, List.flatMap_cons]
    have e1 : fnAt (i :: is) (v :: vs) i = v := by simp [fnAt]
    rw [e1, List.flatMap_cons]
    congr 1
    have e2 : (List.range' (i + 1) (N - (i - a) - 1)).map (fnAt (i :: is) (v :: vs)) = (List.range' (i + 1) (N - (i - a) - 1)).map (fnAt is vs) := by
      apply List.map_congr_left
      intro n hn
      rw [List.mem_range'_1] at hn
      simp only [fnAt]
      rw [if_neg (by omega)]
    rw [e2]
    exact refs_fnAt is vs (i + 1) _ hs' (fun k hk => hlow is i k hs hk) (fun k hk => by have := hN k (List.mem_cons_of_mem _ hk); omega) (by simpa using hl)
theorem agree_len : ∀ {lv : List Nat} {vals : List V} {f : Fn}, agree lv vals f → lv.length = vals.length
  | [], [], _, _ => rfl
  | [], _ :: _, _, h => h.elim
  | _ :: _, [], _, h => h.elim
  | _ :: is, _ :: vs, f, h => by simp [agree_len h.2]
theorem agree_map : ∀ (lv : List Nat) (f : Fn), agree lv (lv.map f) f
  | [], _ => trivial
  | _ :: is, f => ⟨rfl, agree_map is f⟩
end Go.Vi

namespace Go.Vi
set_option linter.unusedSimpArgs false
set_option linter.unusedVariables false
end Go.Vi

namespace Go.Vi
set_option linter.unusedSimpArgs false
set_option linter.unusedVariables false
def enc128 (n : Nat) : List UInt8 := if n < 128 then [UInt8.ofNat n] else UInt8.ofNat (128 + n % 128) :: enc128 (n / 128)
termination_by n
decreasing_by omega
def nd (n : Nat) : Nat := (enc128 n).length
end Go.Vi

namespace Go.Vi
set_option linter.unusedSimpArgs false
set_option linter.unusedVariables false
set_option linter.defProp false
end Go.Vi

namespace Go.Vi
set_option linter.unusedSimpArgs false
set_option linter.unusedVariables false
end Go.Vi

namespace Go.Vi
set_option linter.unusedSimpArgs false
set_option linter.unusedVariables false
end Go.Vi

namespace Go.Vi
set_option linter.unusedSimpArgs false
set_option linter.unusedVariables false
end Go.Vi

namespace Go.Vi
set_option linter.unusedSimpArgs false
set_option linter.unusedVariables false
end Go.Vi

namespace Go.Vi
set_option linter.unusedSimpArgs false
set_option linter.unusedVariables false
end Go.Vi

namespace Go.Vi
set_option linter.unusedSimpArgs false
set_option linter.unusedVariables false
end Go.Vi

namespace Go.Vi
set_option linter.unusedSimpArgs false
set_option linter.unusedVariables false
end Go.Vi

namespace Go.Vi
set_option linter.unusedSimpArgs false
set_option linter.unusedVariables false
set_option linter.defProp false
theorem iso_at {φ : Phi} {f : FuncId} {args args' : List V} {H H' H1 H2 : Hp} {ids : List Nat} {r r' : V} (hi : idsOf H (args.flatMap V.refs) = ids) (ha : args.map (V.ren (place ids)) = args') (hH : canonH H ids = H')
    (hr : φ f args' H' = some (r, H1)) (he : (r.ren (fun j => if j < ids.length then ids[j]? else some (H.length + (j - ids.length))), setAll H ids ((H1.take ids.length).map (Box.ren (fun j => if j < ids.length then ids[j]? else some (H.length + (j - ids.length))))) ++ (H1.drop ids.length).map (Box.ren (fun j => if j < ids.length then ids[j]? else some (H.length + (j - ids.length))))) = (r', H2)) :
    callIso φ f args H = some (r', H2) := by
  subst hi; subst ha; subst hH
  simp only [callIso, hr]
  rw [he]
theorem canon_boxM {m N : Nat} {lv : List Nat} {vals : List V} {f : Fn} {H : Hp} (hs : (sortedB lv && lv.all (fun i => Nat.blt i N)) = true) (h : agree lv vals f) :
    canon m lv (frameOf N f) H = (frameOf N (fnAt lv (vals.map (V.ren (place (idsM m H (vals.flatMap V.refs)))))), canonH H (idsM m H (vals.flatMap V.refs))) := by
  simp only [Bool.and_eq_true] at hs
  have hr : (frameOf N (killF lv f)).flatMap V.refs = vals.flatMap V.refs := by
    rw [agree_kill h]
    have := refs_fnAt lv vals 0 N hs.1 (fun _ _ => Nat.zero_le _) (fun i hi => by have := (List.all_eq_true.1 hs.2) i hi; simpa using this) (agree_len h)
    rw [← List.range_eq_range'] at this
    exact this
  simp only [canon, killed_frame, hr]
  refine Prod.ext ?_ rfl
  simp only [frameOf, List.map_map, agree_kill h]
  apply List.map_congr_left
  intro n _
  exact fnAt_ren _ _ _ _
theorem loop_boxM {α σ : Type} {φ : Phi} {m N : Nat} {lv : List Nat} {c : AC} {K : Ex → Fr → Hp → Option α} {st : List KI} (μ : σ → Nat) (P : σ → Prop) (vals : σ → List V) (heap : σ → Hp) (Z : σ → α)
    (hs : ∀ s, P s → ∀ R : Fr → Hp → Option α, (∀ s', μ s' < μ s → P s' → ∀ f' H', canon m lv (frameOf N f') H' = (frameOf N (fnAt lv (vals s')), heap s') → R (frameOf N f') H' = some (Z s')) →
      goU φ m (KL R (KS φ m K st)) c (frameOf N (fnAt lv (vals s))) (heap s) [] = some (Z s)) :
    ∀ s, P s → ∀ f H, canon m lv (frameOf N f) H = (frameOf N (fnAt lv (vals s)), heap s) → goU φ m K (.loop lv c) (frameOf N f) H st = some (Z s) := by
  intro s hP f H hc
  refine loop_rule (m := m) (N := N) μ (fun s f H => P s ∧ canon m lv (frameOf N f) H = (frameOf N (fnAt lv (vals s)), heap s)) Z ?_ s f H ⟨hP, hc⟩
  rintro s f H ⟨hP, hc⟩ R hR
  rw [hc]
  exact hs s hP R (fun s' hlt hP' f' H' hc' => hR s' f' H' hlt ⟨hP', hc'⟩)
theorem at_headM {m N : Nat} {lv : List Nat} {vals0 vals : List V} {f : Fn} {H H' : Hp} {ids : List Nat} (hs : (sortedB lv && lv.all (fun i => Nat.blt i N)) = true) (hv : lv.map f = vals0) (hi : idsM m H (vals0.flatMap V.refs) = ids) (h1 : vals0.map (V.ren (place ids)) = vals) (h2 : canonH H ids = H') :
    canon m lv (frameOf N f) H = (frameOf N (fnAt lv vals), H') := by
  rw [canon_boxM hs (hv ▸ agree_map lv f), hi, h1, h2]
end Go.Vi

namespace Go.Vi
set_option linter.unusedSimpArgs false
set_option linter.unusedVariables false
set_option linter.defProp false
section
variable {α : Type} {φ : Phi} {ψ : Psi} {m : Nat} {K : Ex → Fr → Hp → Option α} {fr : Fr} {H : Hp} {st : List KI}
end
section
variable {α : Type} {φ : Phi} {ψ : Psi} {m : Nat} {K : Ex → Fr → Hp → Option α} {fr : Fr} {H : Hp} {st : List KI}
end
section
variable {α : Type} {φ : Phi} {prog : FuncId → Option AF} {m : Nat} {K : Ex → Fr → Hp → Option α} {fr : Fr} {H : Hp}
end
end Go.Vi

namespace Go.Vi
set_option linter.unusedSimpArgs false
set_option linter.unusedVariables false
end Go.Vi

namespace Go.Vi
set_option linter.unusedSimpArgs false
set_option linter.unusedVariables false
end Go.Vi

