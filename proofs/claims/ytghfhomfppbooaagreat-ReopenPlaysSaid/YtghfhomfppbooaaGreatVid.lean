import Derived.Test.YtghfhomfppbooaaGreatVic
set_option linter.unusedSimpArgs false
set_option linter.unusedVariables false
set_option maxRecDepth 20000
set_option maxHeartbeats 16000000
/- An interpreter of values: what it answers the program answers. -/
namespace Go.Vi
set_option linter.unusedSimpArgs false
set_option linter.unusedVariables false
set_option linter.defProp false
noncomputable def Cm {α:Type} (φ:bL) (ψ:mc) (m:Nat) (K:Ex->Fr->Hp->Option α):List KI->Ex->Fr->Hp->Option α
 | []=>K
 | .s b::st=>fun e fr H=>match e with | .normal=>aT φ ψ m b fr H (Cm φ ψ m K st)|e=>Cm φ ψ m K st e fr H
 | .k id::st=>fun e fr H=>match e with | .exit i=>if i=id then Cm φ ψ m K st .normal fr H else Cm φ ψ m K st (.exit i) fr H|e=>Cm φ ψ m K st e fr H
noncomputable def iC {α:Type} (φ:bL) (ψ:mc) (m:Nat) (K:Ex->Fr->Hp->Option α) (e:Ex) (fr:Fr) (H:Hp) (st:List KI):Option α:=Cm φ ψ m K st e fr H
noncomputable def mP {α:Type} (φ:bL) (ψ:mc) (m:Nat) (K:Ex->Fr->Hp->Option α) (c:AC) (fr:Fr) (H:Hp) (st:List KI):Option α:=aT φ ψ m c fr H (Cm φ ψ m K st)
noncomputable def mB {α:Type} (φ:bL) (ψ:mc) (m:Nat) (K:Ex->Fr->Hp->Option α) (ops:List AOp) (fr:Fr) (H:Hp) (st:List KI):Option α :=
 match bf φ ops fr H with|some (fr,H)=>iC φ ψ m K .normal fr H st|none=>none
noncomputable def y9 {α:Type} (φ:bL) (ψ:mc) (m:Nat) (K:Ex->Fr->Hp->Option α) (x:Option (V × Hp)) (d:Option Nat) (r:List AOp) (fr:Fr) (st:List KI):Option α :=
 match x with|some (v,H)=>mB φ ψ m K r (put fr d v) H st|none=>none
noncomputable def z6 {α:Type} (φ:bL) (ψ:mc) (m:Nat) (K:Ex->Fr->Hp->Option α) (x:Option (V × Hp)) (d:Option Nat) (r:List AOp) (fr:Fr) (st:List KI):Option α :=
 match x with|some (v,H)=>y9 φ ψ m K (oE v H) d r fr st|none=>none
noncomputable def Gh {α:Type} (φ:bL) (ψ:mc) (m:Nat) (K:Ex->Fr->Hp->Option α) (w:Option Bool) (d:Option Nat) (a:A) (r:List AOp) (fr:Fr) (H:Hp) (st:List KI):Option α :=
 match w with|none=>none|some true=>y9 φ ψ m K (a.run φ fr H) d r fr st|some false=>mB φ ψ m K r (put fr d (.tup [])) H st
noncomputable def zu {α:Type} (φ:bL) (ψ:mc) (m:Nat) (K:Ex->Fr->Hp->Option α) (w:Option Bool) (d:Option Nat) (a:A) (r:List AOp) (fr:Fr) (H:Hp) (st:List KI):Option α :=
 match w with|none=>none|some true=>z6 φ ψ m K (a.run φ fr H) d r fr st|some false=>mB φ ψ m K r (put fr d (.tup [])) H st
noncomputable def GC {α:Type} (φ:bL) (ψ:mc) (m:Nat) (K:Ex->Fr->Hp->Option α) (c:Option V) (a b:AC) (fr:Fr) (H:Hp) (st:List KI):Option α :=
 match c with|some (.one (.d (.b true)))=>mP φ ψ m K a fr H st|some (.one (.d (.b false)))=>mP φ ψ m K b fr H st|_=>none
noncomputable def qT {α:Type} (φ:bL) (ψ:mc) (m:Nat) (K:Ex->Fr->Hp->Option α) (ops:List AOp) (lg:List Log) (fr:Fr) (H:Hp) (st:List KI):Option α :=
 match bW φ ops lg fr H with|some (fr,H)=>iC φ ψ m K .normal fr H st|none=>none
noncomputable def Jy {α:Type} (φ:bL) (ψ:mc) (m:Nat) (K:Ex->Fr->Hp->Option α) (c:Bool) (r:List AOp) (lg:List Log) (fr:Fr) (H:Hp) (st:List KI):Option α :=
 match c with|true=>qT φ ψ m K r lg fr H st|false=>none
noncomputable def ux {α:Type} (φ:bL) (ψ:mc) (m:Nat) (K:Ex->Fr->Hp->Option α) (k:Nat) (x:Option (V × Hp)) (o:AOp) (r:List AOp) (lg:List Log) (fr:Fr) (H:Hp) (st:List KI):Option α :=
 match x with|some (v,H1)=>Jy φ ψ m K (Cn o ⟨k,o.dst,o.slots,touch k o fr H H1⟩ lg) r (lg++[⟨k,o.dst,o.slots,touch k o fr H H1⟩]) (put fr o.dst v) H1 st|none=>none
noncomputable def Ba {α:Type} (φ:bL) (ψ:mc) (m:Nat) (K:Ex->Fr->Hp->Option α) (k:Nat) (o:AOp) (r:List AOp) (lg:List Log) (fr:Fr) (H:Hp) (st:List KI):Option α :=
 ux φ ψ m K k (drawStep φ o k true fr H) o r lg fr H st
noncomputable def Gl {α:Type} (φ:bL) (ψ:mc) (m:Nat) (K:Ex->Fr->Hp->Option α) (w:Option Bool) (o:AOp) (r:List AOp) (lg:List Log) (fr:Fr) (H:Hp) (st:List KI):Option α :=
 match w with|none=>none|some true=>Ba φ ψ m K (o.a.kind fr) o r lg fr H st|some false=>ux φ ψ m K 0 (some (.tup [],H)) o r lg fr H st
def Le {α:Type} (R:Fr->Hp->Option α) (k:Ex->Fr->Hp->Option α):Ex->Fr->Hp->Option α:=fun e fr H=>match e with | .normal=>R fr H|e=>k e fr H
section
variable {α:Type} {φ:bL} {ψ:mc} {m:Nat} {K:Ex->Fr->Hp->Option α} {fr:Fr} {H:Hp} {st:List KI}
theorem go_skipY:mP φ ψ m K .skip fr H st=iC φ ψ m K .normal fr H st:=rfl
theorem go_seqY (a b:AC):mP φ ψ m K (.seq a b) fr H st=mP φ ψ m K a fr H (.s b::st):=rfl
theorem go_regY (ops:List AOp):mP φ ψ m K (.reg ops false) fr H st=mB φ ψ m K ops fr H st:=rfl
theorem go_drawY (ops:List AOp) (h:hJ ops []=false):mP φ ψ m K (.reg ops true) fr H st=qT φ ψ m K ops [] fr H st:=by
 simp only[mP,aT,qT,cond_true,cf,h,cond_false];rfl
theorem BO (lg:List Log):qT φ ψ m K [] lg fr H st=iC φ ψ m K .normal fr H st:=rfl
theorem yl (o:AOp) (r:List AOp) (lg:List Log):qT φ ψ m K (o::r) lg fr H st=Gl φ ψ m K (wantedV fr o.g) o r lg fr H st:=by
 simp only[qT,bW,Gl];cases wantedV fr o.g with
 | none=>rfl
 | some w =>
  cases w with
  | false =>
   simp only[ux,cond_false,drawStep,Cn];cases (!o.fz && (o.pre.all (fun j=>decide (j<lg.length)) && eh o.pre ⟨0,o.dst,o.slots,touch 0 o fr H H⟩ 0 lg)) <;> rfl
  | true =>
   simp only[Ba,ux,cond_true];cases drawStep φ o (o.a.kind fr) true fr H with
   | none=>rfl
   | some q =>
    simp only[Cn];cases (!o.fz && (o.pre.all (fun j=>decide (j<lg.length)) && eh o.pre ⟨o.a.kind fr,o.dst,o.slots,touch (o.a.kind fr) o fr H q.2⟩ 0 lg)) <;> rfl
theorem Bx (o:AOp) (r:List AOp) (lg:List Log):Gl φ ψ m K (some true) o r lg fr H st=Ba φ ψ m K (o.a.kind fr) o r lg fr H st:=rfl
theorem yZ (o:AOp) (r:List AOp) (lg:List Log):Gl φ ψ m K (some false) o r lg fr H st=ux φ ψ m K 0 (some (.tup [],H)) o r lg fr H st:=rfl
theorem H5 (o:AOp) (r:List AOp) (lg:List Log):Ba φ ψ m K 0 o r lg fr H st=ux φ ψ m K 0 (o.a.run φ fr H) o r lg fr H st:=rfl
theorem Iq (o:AOp) (r:List AOp) (lg:List Log):Ba φ ψ m K 1 o r lg fr H st=ux φ ψ m K 1 (o.a.run φ fr H) o r lg fr H st:=rfl
theorem H4 (o:AOp) (r:List AOp) (lg:List Log):Ba φ ψ m K 2 o r lg fr H st=ux φ ψ m K 2 (aW φ o fr H) o r lg fr H st:=rfl
theorem Ca (k:Nat) (v:V) (H1:Hp) (o:AOp) (r:List AOp) (lg:List Log):ux φ ψ m K k (some (v,H1)) o r lg fr H st =
  Jy φ ψ m K (Cn o ⟨k,o.dst,o.slots,touch k o fr H H1⟩ lg) r (lg++[⟨k,o.dst,o.slots,touch k o fr H H1⟩]) (put fr o.dst v) H1 st:=rfl
theorem go_condY (c:X) (a b:AC):mP φ ψ m K (.cond c a b) fr H st=GC φ ψ m K (c.ev fr) a b fr H st:=by
 simp only[mP,aT,GC];rcases c.ev fr with _|v
 ·rfl
 ·cases v with
  | one x=>cases x with
   | d x=>cases x with
    | b b=>cases b <;> rfl
    | _=>rfl
   | _=>rfl
  | _=>rfl
theorem AY (a b:AC):GC φ ψ m K (some (.one (.d (.b true)))) a b fr H st=mP φ ψ m K a fr H st:=rfl
theorem yK (a b:AC):GC φ ψ m K (some (.one (.d (.b false)))) a b fr H st=mP φ ψ m K b fr H st:=rfl
theorem AO (d:Option Nat) (r:List AOp) (v:V) (H1:Hp):y9 φ ψ m K (some (v,H1)) d r fr st=mB φ ψ m K r (put fr d v) H1 st:=rfl
theorem yg (d:Option Nat) (r:List AOp) (v:V) (H1:Hp):z6 φ ψ m K (some (v,H1)) d r fr st=y9 φ ψ m K (oE v H1) d r fr st:=rfl
theorem Ck (d:Option Nat) (a:A) (r:List AOp):Gh φ ψ m K (some true) d a r fr H st=y9 φ ψ m K (a.run φ fr H) d r fr st:=rfl
theorem xO (d:Option Nat) (a:A) (r:List AOp):Gh φ ψ m K (some false) d a r fr H st=mB φ ψ m K r (put fr d (.tup [])) H st:=rfl
theorem xJ (d:Option Nat) (a:A) (r:List AOp):zu φ ψ m K (some true) d a r fr H st=z6 φ ψ m K (a.run φ fr H) d r fr st:=rfl
theorem wH (d:Option Nat) (a:A) (r:List AOp):zu φ ψ m K (some false) d a r fr H st=mB φ ψ m K r (put fr d (.tup [])) H st:=rfl
theorem go_blockY (id:Nat) (c:AC):mP φ ψ m K (.block id c) fr H st=mP φ ψ m K c fr H (.k id::st):=rfl
theorem go_exitY (id:Nat):mP φ ψ m K (.exit id) fr H st=iC φ ψ m K (.exit id) fr H st:=rfl
theorem go_retY:mP φ ψ m K .ret fr H st=iC φ ψ m K .ret fr H st:=rfl
theorem EW (e:Ex):iC φ ψ m K e fr H []=K e fr H:=rfl
theorem Ii (b:AC):iC φ ψ m K .normal fr H (.s b::st)=mP φ ψ m K b fr H st:=rfl
theorem Hg (b:AC) (i:Nat):iC φ ψ m K (.exit i) fr H (.s b::st)=iC φ ψ m K (.exit i) fr H st:=rfl
theorem Hy (b:AC):iC φ ψ m K .ret fr H (.s b::st)=iC φ ψ m K .ret fr H st:=rfl
theorem Ij (id:Nat):iC φ ψ m K .normal fr H (.k id::st)=iC φ ψ m K .normal fr H st:=rfl
theorem F5 (id i:Nat):iC φ ψ m K (.exit i) fr H (.k id::st)=if i=id then iC φ ψ m K .normal fr H st else iC φ ψ m K (.exit i) fr H st:=rfl
theorem GK (id:Nat):iC φ ψ m K .ret fr H (.k id::st)=iC φ ψ m K .ret fr H st:=rfl
theorem Cw:mB φ ψ m K [] fr H st=iC φ ψ m K .normal fr H st:=rfl
theorem cq (d:Option Nat) (a:A) (g:Option (Nat × Bool)) (p:List Nat) (r:List AOp):mB φ ψ m K (⟨d,a,g,p,false⟩::r) fr H st =
  Gh φ ψ m K (wantedV fr g) d a r fr H st:=by
 simp only[mB,bf,AOp.step,Gh,y9];cases wantedV fr g with
 | none=>rfl
 | some w =>
  cases w with
  | false=>rfl
  | true =>
   simp only[cond_true,cond_false];cases a.run φ fr H with
   | none=>rfl
   | some q=>rfl
theorem bU (d:Option Nat) (a:A) (g:Option (Nat × Bool)) (p:List Nat) (r:List AOp):mB φ ψ m K (⟨d,a,g,p,true⟩::r) fr H st =
  zu φ ψ m K (wantedV fr g) d a r fr H st:=by
 simp only[mB,bf,AOp.step,zu,y9,z6];cases wantedV fr g with
 | none=>rfl
 | some w =>
  cases w with
  | false=>rfl
  | true =>
   simp only[cond_true,cond_false];cases a.run φ fr H with
   | none=>rfl
   | some q =>
    obtain⟨v,H1⟩:=q;simp only;cases oE v H1 with
    | none=>rfl
    | some q=>rfl
theorem y7 (R:Fr->Hp->Option α):Le R (Cm φ ψ m K st) .normal fr H=R fr H:=rfl
theorem EI (R:Fr->Hp->Option α) (i:Nat):Le R (Cm φ ψ m K st) (.exit i) fr H=iC φ ψ m K (.exit i) fr H st:=rfl
theorem Hh (R:Fr->Hp->Option α):Le R (Cm φ ψ m K st) .ret fr H=iC φ ψ m K .ret fr H st:=rfl
end
theorem y8 {α σ:Type} {φ:bL} {ψ:mc} {m N:Nat} {lv:List Nat} {c:AC} {K:Ex->Fr->Hp->Option α} {st:List KI} (μ:σ->Nat) (I:σ->Fn->Hp->Prop) (Z:σ->α)
  (hs:∀ s f H,I s f H->∀ R:Fr->Hp->Option α,(∀ s' f' H',μ s'<μ s->I s' f' H'->R (ae N f') H'=some (Z s')) ->
   mP φ ψ m (Le R (Cm φ ψ m K st)) c (canon m lv (ae N f) H).1 (canon m lv (ae N f) H).2 []=some (Z s)) :
  ∀ s f H,I s f H->mP φ ψ m K (.loop lv c) (ae N f) H st=some (Z s):=by
 have key:∀ k s f H,μ s<k->I s f H->mP φ ψ m K (.loop lv c) (ae N f) H st=some (Z s):=by
  intro k;induction k with
  | zero=>intro s f H h;omega
  | succ k ih =>
   intro s f H hk hi;simp only[mP,aT];apply xi;exact hs s f H hi _ (fun s' f' H' hlt hi'=>by have:=ih s' f' H' (by omega) hi';simpa only[mP,aT] using this)
 exact fun s f H hi=>key (μ s+1) s f H (Nat.lt_succ_self _) hi
theorem A3 {α σ:Type} {φ:bL} {ψ:mc} {m N:Nat} {lv:List Nat} {c:AC} {K:Ex->Fr->Hp->Option α} {st:List KI} (μ:σ->Nat) (P:σ->Prop) (vals:σ->List V) (heap:σ->Hp) (Z:σ->α)
  (hs:∀ s,P s->∀ R:Fr->Hp->Option α,(∀ s',μ s'<μ s->P s'->∀ f' H',canon m lv (ae N f') H'=(ae N (cr lv (vals s')),heap s')->R (ae N f') H'=some (Z s')) ->
   mP φ ψ m (Le R (Cm φ ψ m K st)) c (ae N (cr lv (vals s))) (heap s) []=some (Z s)) :
  ∀ s,P s->∀ f H,canon m lv (ae N f) H=(ae N (cr lv (vals s)),heap s)->mP φ ψ m K (.loop lv c) (ae N f) H st=some (Z s):=by
 intro s hP f H hc;refine y8 (m:=m) (N:=N) μ (fun s f H=>P s∧canon m lv (ae N f) H=(ae N (cr lv (vals s)),heap s)) Z ?_ s f H ⟨hP,hc⟩
 rintro s f H ⟨hP,hc⟩ R hR;rw[hc];exact hs s hP R (fun s' hlt hP' f' H' hc'=>hR s' f' H' hlt ⟨hP',hc'⟩)
theorem GT {α:Type} {φ:bL} {ψ:mc} {m:Nat} {K:Ex->Fr->Hp->Option α} {fr:Fr} {H:Hp} {st:List KI} {o:AOp} {e:Log} {r:List AOp} {lg lg':List Log} (h:Cn o e lg=true):Jy φ ψ m K (Cn o e lg) r lg' fr H st=qT φ ψ m K r lg' fr H st:=by rw[h];rfl
section
variable {α:Type} {φ:bL} {ψ:mc} {m:Nat} {K:Ex->Fr->Hp->Option α} {fr:Fr} {H:Hp} {st:List KI}
noncomputable def yC {α:Type} (φ:bL) (ψ:mc) (m:Nat) (K:Ex->Fr->Hp->Option α) (x:Option (Nat × Hp)) (q:Nat) (d:Option Nat) (o2:List AOp) (fr:Fr) (st:List KI):Option α :=
 match x with|some (k,H2)=>mB φ ψ m K o2 (put (put fr (some 0) (.one (.y q k))) d (.one (.d (.b (k == 0))))) H2 st|none=>none
noncomputable def yB {α:Type} (φ:bL) (ψ:mc) (m:Nat) (K:Ex->Fr->Hp->Option α) (h y:Option V) (vs:Option (List V)) (d:Option Nat) (o2:List AOp) (fr:Fr) (H:Hp) (st:List KI):Option α :=
 match h,y,vs with
 | some (.one (.y q 0)),some (.one (.y q' _)),some vs=>if q'=q then yC φ ψ m K (ψ vs H) q d o2 fr st else none
 | _,_,_=>none
noncomputable def yO {α:Type} (φ:bL) (ψ:mc) (m:Nat) (K:Ex->Fr->Hp->Option α) (d:Option Nat) (y:X) (xs:List X) (o2:List AOp) (o1:List AOp) (fr:Fr) (H:Hp) (st:List KI):Option α :=
 match bf φ o1 fr H with|some (fr,H)=>yB φ ψ m K fr.head? (y.ev fr) (mO fr xs) d o2 fr H st|none=>none
theorem go_yld (o1:List AOp) (d:Option Nat) (y:X) (xs:List X) (o2:List AOp):mP φ ψ m K (.yld o1 d y xs o2) fr H st=yO φ ψ m K d y xs o2 o1 fr H st:=by
 simp only[mP,aT,yO];cases bf φ o1 fr H with
 | none=>rfl
 | some p =>
  obtain⟨fr1,H1⟩:=p;simp only[yB];generalize fr1.head?=h1;generalize y.ev fr1=h2;generalize mO fr1 xs=h3;split
  ·rename_i q q' k vs;simp only;split
   ·simp only[yC];cases ψ vs H1 with
    | none=>rfl
    | some r =>
     obtain⟨k,H2⟩:=r;simp only[mB];rfl
   ·rfl
  ·rename_i hx;split
   ·rename_i q q' k vs;exact absurd rfl (hx q q' k vs rfl rfl)
   ·rfl
noncomputable def yS {α:Type} (φ:bL) (ψ:mc) (m:Nat) (K:Ex->Fr->Hp->Option α) (d:Option Nat) (y:X) (xs:List X) (o2:List AOp) (x:Option (Fr × Hp)) (r:List AOp) (st:List KI):Option α :=
 match x with|some (fr,H)=>yO φ ψ m K d y xs o2 r fr H st|none=>none
theorem Je (d:Option Nat) (y:X) (xs:List X) (o2:List AOp):yO φ ψ m K d y xs o2 [] fr H st=yB φ ψ m K fr.head? (y.ev fr) (mO fr xs) d o2 fr H st:=rfl
theorem Gi (d:Option Nat) (y:X) (xs:List X) (o2:List AOp) (o:AOp) (r:List AOp):yO φ ψ m K d y xs o2 (o::r) fr H st=yS φ ψ m K d y xs o2 (o.step φ fr H) r st:=by
 simp only[yO,bf,yS];cases o.step φ fr H with
 | none=>rfl
 | some p=>rfl
theorem Hw (d:Option Nat) (y:X) (xs:List X) (o2:List AOp) (r:List AOp):yS φ ψ m K d y xs o2 (some (fr,H)) r st=yO φ ψ m K d y xs o2 r fr H st:=rfl
theorem Gd (q q' k:Nat) (vs:List V) (d:Option Nat) (o2:List AOp):yB φ ψ m K (some (.one (.y q 0))) (some (.one (.y q' k))) (some vs) d o2 fr H st=if q'=q then yC φ ψ m K (ψ vs H) q d o2 fr st else none:=rfl
theorem GN (k:Nat) (H2:Hp) (q:Nat) (d:Option Nat) (o2:List AOp):yC φ ψ m K (some (k,H2)) q d o2 fr st=mB φ ψ m K o2 (put (put fr (some 0) (.one (.y q k))) d (.one (.d (.b (k == 0))))) H2 st:=rfl
end
theorem my {N:Nat} {f:Fn} (h:0<N):(ae N f).head?=some (f 0):=by
 cases N with
 | zero=>omega
 | succ N=>simp[ae,List.range_succ_eq_map]
theorem step_e (φ:bL) (d:Option Nat) (a:A) (p:List Nat) (fr:Fr) (H:Hp):AOp.step φ ⟨d,a,none,p,false⟩ fr H=match a.run φ fr H with|some (v,H1)=>some (put fr d v,H1)|none=>none:=by
 simp only[AOp.step,wantedV,cond_true,cond_false];cases a.run φ fr H <;> rfl
noncomputable def L8:Ex->Fr->Hp->Option (Nat × Hp):=fun e _ H=>some (mH e,H)
noncomputable def KR (φ:bL) (m:Nat) (body:AC):Ex->Fr->Hp->Option (Nat × Hp):=fun e fr H=>match e with | .normal=>iF φ m L8 body fr H []|_=>none
theorem Ag (φ:bL) (fr:Fr) (ps:List Nat) (asg body:AC) (args:List V) (H:Hp) (h:args.length=ps.length):eJ φ fr ps asg body args H=iF φ H.length (KR φ H.length body) asg (l9 ps args fr) H []:=by
 simp only[eJ,if_pos h,iF];congr 1
theorem Bt (φ:bL) (m:Nat) (body:AC) (fr:Fr) (H:Hp):KR φ m body .normal fr H=iF φ m L8 body fr H []:=rfl
theorem Kg (e:Ex) (fr:Fr) (H:Hp):L8 e fr H=some (mH e,H):=rfl
theorem CD:mH .normal=0:=rfl
theorem Ct:mH .ret=1:=rfl
theorem Et (i:Nat):mH (.exit i)=i+2:=rfl
theorem D7:lh 0=.normal:=rfl
theorem Dd:lh 1=.ret:=rfl
theorem Be (vs:List V) (fr:Fr):l9 [] vs fr=fr:=rfl
theorem xS (t:Nat) (ts:List Nat) (v:V) (vs:List V) (N:Nat) (f:Fn):l9 (t::ts) (v::vs) (ae N f)=l9 ts vs (ae N (I8 f t v)):=by
 have:=vu N t f v;simp only[put] at this;simp only[l9,this]
section
variable {α:Type} {φ:bL} {prog:FuncId->Option AF} {m:Nat} {K:Ex->Fr->Hp->Option α} {fr:Fr} {H:Hp}
noncomputable def Lj {α:Type} (φ:bL) (prog:FuncId->Option AF) (m:Nat) (K:Ex->Fr->Hp->Option α) (b:AC):Ex->Fr->Hp->Option α:=fun e fr H=>match e with | .normal=>bw φ prog m b fr H K|e=>K e fr H
def Ly {α:Type} (K:Ex->Fr->Hp->Option α) (id:Nat):Ex->Fr->Hp->Option α:=fun e fr H=>match e with | .exit i=>if i=id then K .normal fr H else K (.exit i) fr H|e=>K e fr H
theorem ch:∀ (c:AC),c.hasR=false->∀ (fr:Fr) (H:Hp) (K:Ex->Fr->Hp->Option α),bw φ prog m c fr H K=bc φ m c fr H K
 | .skip,_,_,_,_=>rfl
 | .reg _ _,_,_,_,_=>rfl
 | .exit _,_,_,_,_=>rfl
 | .ret,_,_,_,_=>rfl
 | .loop _ _,_,_,_,_=>rfl
 | .yld _ _ _ _ _,_,_,_,_=>rfl
 | .rng _ _ _ _,h,_,_,_=>by cases h
 | .seq a b,h,fr,H,K=>by
  simp only[AC.hasR,Bool.or_eq_false_iff] at h;simp only[bw,bc];rw[ch a h.1];congr 1
  funext e fr' H'
  cases e with
  | normal=>exact ch b h.2 _ _ _
  | exit i=>rfl
  | ret=>rfl
 | .cond c a b,h,fr,H,K=>by
  simp only[AC.hasR,Bool.or_eq_false_iff] at h;simp only[bw,bc,ch a h.1,ch b h.2]
 | .block id c,h,fr,H,K=>by
  simp only[AC.hasR] at h;simp only[bw,bc];rw[ch c h]
theorem If (a b:AC) (h:a.hasR=false):bw φ prog m (.seq a b) fr H K=iF φ m (Lj φ prog m K b) a fr H []:=by
 simp only[bw,iF];rw[ch a h];congr 1
theorem IW (a b:AC) (h:a.hasR=true):bw φ prog m (.seq a b) fr H K=bw φ prog m a fr H (Lj φ prog m K b):=by
 simp only[bw];congr 1
theorem GW (c:AC) (h:c.hasR=false):bw φ prog m c fr H K=iF φ m K c fr H []:=by rw[ch c h];rfl
theorem Gk (id:Nat) (c:AC) (h:c.hasR=true):bw φ prog m (.block id c) fr H K=bw φ prog m c fr H (Ly K id):=by
 simp only[bw];congr 1
theorem xL (b:AC):Lj φ prog m K b .normal fr H=bw φ prog m b fr H K:=rfl
theorem Cv (b:AC) (i:Nat):Lj φ prog m K b (.exit i) fr H=K (.exit i) fr H:=rfl
theorem FY (b:AC):Lj φ prog m K b .ret fr H=K .ret fr H:=rfl
theorem yT (i:Nat):Ly K i .normal fr H=K .normal fr H:=rfl
theorem GJ (i:Nat):Ly K i .ret fr H=K .ret fr H:=rfl
theorem Ej (i j:Nat):Ly K i (.exit j) fr H=if j=i then K .normal fr H else K (.exit j) fr H:=rfl
theorem Lb {g:X} {ps:List Nat} {asg body:AC} {gf:FuncId} {caps:List Nat} {af:AF} (hg:g.ev fr=some (.one (.f gf caps))) (hp:prog gf=some af)
  (hc:(((af.res.isEmpty && af.body.zok) && (asg.nd && body.nd)) && Nat.ble (caps.length+1) af.ntmps)=true) :
  bw φ prog m (.rng g ps asg body) fr H K=mP φ (eJ φ fr ps asg body) (H.length+1) (kM fr K) af.body (ae af.ntmps (pF (.one (.y H.length 0)::caps.map fun i=>V.one (.p i 0)))) (H++[Box.dead]) []:=by
 rw[Bool.and_eq_true] at hc;have e:=xX (args:=(V.one (.y H.length 0)::caps.map fun i=>V.one (.p i 0))) (N:=af.ntmps) (by simpa using hc.2)
 simp only[List.length_cons,List.length_map] at e;simp only[bw,pT,hg,hp,hc.1,cond_true,mP,e];rfl
theorem oN {N:Nat} {f:Fn} {q k:Nat} (h:0<N) (hf:f 0=.one (.y q k)):kM fr K .ret (ae N f) H=K (lh k) fr H:=by
 simp only[kM,my h,hf]
theorem Df {N:Nat} {f:Fn} {q k:Nat} (h:0<N) (hf:f 0=.one (.y q k)):kM fr K .normal (ae N f) H=K (lh k) fr H:=by
 simp only[kM,my h,hf]
end
theorem eK {α:Type} {φ:bL} {prog:FuncId->Option AF} {m:Nat}:∀ (c:AC) (fr:Fr) (H:Hp) (K:Ex->Fr->Hp->Option α),bw φ prog m c.bare fr H K=bw φ prog m c fr H K
 | .skip,_,_,_=>rfl
 | .reg ops dr,fr,H,K=>by
  have h:(AC.reg ops dr).bare.hasR=false:=by rw[dO];rfl
  rw[ch _ h,dQ,<- ch (φ:=φ) (prog:=prog) (AC.reg ops dr) rfl]
 | .seq a b,fr,H,K=>by
  simp only[AC.bare,bw];rw[eK a];congr 1
  funext e fr' H'
  cases e with
  | normal=>exact eK b _ _ _
  | exit i=>rfl
  | ret=>rfl
 | .cond c a b,fr,H,K=>by simp only[AC.bare,bw,eK a,eK b]
 | .block id c,fr,H,K=>by
  simp only[AC.bare,bw];rw[eK c]
 | .loop lv c,fr,H,K=>by
  have e:=dQ (φ:=φ) m (AC.loop lv c) fr H K;simp only[AC.bare] at e;simp only[AC.bare,bw,e]
 | .exit _,_,_,_=>rfl
 | .ret,_,_,_=>rfl
 | .yld _ _ _ _ _,_,_,_=>rfl
 | .rng _ _ _ _,_,_,_=>rfl
theorem eB {α:Type} {φ:bL} {ψ:mc} (m:Nat):∀ (c:AC) (fr:Fr) (H:Hp) (K:Ex->Fr->Hp->Option α),aT φ ψ m c.bare fr H K=aT φ ψ m c fr H K
 | .skip,_,_,_=>rfl
 | .reg ops dr,fr,H,K=>by
  simp only[AC.bare];cases dr with
  | false=>simp only[Bool.not_false,Bool.true_or,cond_true,aT,cond_false,ge]
  | true =>
   simp only[Bool.not_true,Bool.false_or];cases h:hJ ops [] with
   | false=>rfl
   | true=>simp only[cond_true,aT,cond_false,ge,cf,h,jN ops [] [] fr H rfl (fun j x x' hj=>by simp at hj) h]
 | .seq a b,fr,H,K=>by
  simp only[AC.bare,aT];rw[eB m a];congr 1
  funext e fr' H'
  cases e with
  | normal=>exact eB m b _ _ _
  | exit i=>rfl
  | ret=>rfl
 | .cond c a b,fr,H,K=>by simp only[AC.bare,aT,eB m a,eB m b]
 | .block id c,fr,H,K=>by
  simp only[AC.bare,aT];rw[eB m c]
 | .loop lv c,fr,H,K=>by
  simp only[AC.bare,aT];have:(aT (α:=α) φ ψ m c.bare)=aT φ ψ m c:=by
   funext fr' H' K'
   exact eB m c _ _ _
  rw[this]
 | .exit id,_,_,_=>rfl
 | .ret,_,_,_=>rfl
 | .yld _ _ _ _ _,_,_,_=>rfl
 | .rng _ _ _ _,_,_,_=>rfl
theorem AQ (ops:List AOp):oP (ops.map AOp.bare)=oP ops:=by simp[oP,AOp.bare,Function.comp_def]
theorem gV:∀ c:AC,c.bare.zok=c.zok
 | .reg ops dr=>by
  simp only[AC.bare];cases (!dr || hJ ops []) with
  | true=>simp only[cond_true,AC.zok,AQ]
  | false=>rfl
 | .seq a b=>by simp only[AC.bare,AC.zok,gV a,gV b]
 | .cond c a b=>by simp only[AC.bare,AC.zok,gV a,gV b]
 | .block id c=>by simp only[AC.bare,AC.zok,gV c]
 | .loop lv c=>by simp only[AC.bare,AC.zok,gV c]
 | .skip=>rfl
 | .exit i=>rfl
 | .ret=>rfl
 | .yld _ _ _ _ _=>rfl
 | .rng _ _ _ _=>rfl
theorem gU:∀ c:AC,jL c.bare=jL c
 | .reg ops dr=>by
  simp only[AC.bare];cases (!dr || hJ ops []) <;> rfl
 | .seq a b=>by simp only[AC.bare,jL,gU a,gU b,dO]
 | .cond c a b=>by simp only[AC.bare,jL,gU a,gU b]
 | .block id c=>by simp only[AC.bare,jL,gU c]
 | .loop lv c=>rfl
 | .skip=>rfl
 | .exit i=>rfl
 | .ret=>rfl
 | .yld _ _ _ _ _=>rfl
 | .rng _ _ _ _=>rfl
theorem vV {P:Program} {f:FuncId} {an:FuncId->Ann} {af:AF} (hf:compS P f (an f)=some af):∃ af0,cz P an f=some af0∧af={ af0 with body:=af0.body.bare }:=by
 unfold compS at hf;cases ho:(an f).out with
 | true=>rw[ho] at hf;cases hf
 | false =>
  rw[ho] at hf;simp only[cond_false] at hf;split at hf
  ·rename_i af0 h0;cases hf;exact⟨af0,by simp only[cz,ho,cond_false];exact h0,rfl⟩
  ·cases hf
theorem JQ {α:Type} {φ:bL} {P:Program} {an:FuncId->Ann} {m:Nat} {K:Ex->Fr->Hp->Option α} {fr:Fr} {H:Hp} {g:X} {ps:List Nat} {asg body:AC} {gf:FuncId} {caps:List Nat} {af:AF} (hg:g.ev fr=some (.one (.f gf caps))) (hp:compS P gf (an gf)=some af)
  (hc:(((af.res.isEmpty && af.body.zok) && (asg.nd && body.nd)) && Nat.ble (caps.length+1) af.ntmps)=true) :
  bw φ (cz P an) m (.rng g ps asg body) fr H K=mP φ (eJ φ fr ps asg body) (H.length+1) (kM fr K) af.body (ae af.ntmps (pF (.one (.y H.length 0)::caps.map fun i=>V.one (.p i 0)))) (H++[Box.dead]) []:=by
 obtain⟨af0,h0,rfl⟩:=vV hp;simp only[gV] at hc;rw[Lb hg h0 hc];simp only[mP,eB]
theorem IZ {P:Program} {an:FuncId->Ann} {pr:bL} {f:FuncId} {args:List V} {H:Hp} {z:V × Hp} {af:AF} (hf:compS P f (an f)=some af) (hl:(Nat.ble args.length af.ntmps && (af.body.hasR && jL af.body))=true)
  (h:bw (cV (cz P an) pr) (cz P an) H.length af.body (ae af.ntmps (pF args)) H (wZ af.res af.keep H.length)=some z):cV (cz P an) pr f args H=some z:=by
 obtain⟨af0,h0,rfl⟩:=vV hf;simp only[dO,gU,Bool.and_eq_true] at hl;refine uJ h0 (by rw[hl.2.1,hl.2.2];rfl) ?_
 simp only[eK] at h;rw[xX (Nat.le_of_ble_eq_true hl.1),tI];exact h
def ii:=And.intro @AO (And.intro @yg (And.intro @Ck (And.intro @xO (And.intro @xJ (And.intro @wH (And.intro @AY (And.intro @yK (And.intro @go_skipY (And.intro @go_seqY (And.intro @go_regY (And.intro @go_condY (And.intro @go_blockY (And.intro @go_exitY (And.intro @go_retY (And.intro @EW (And.intro @Ii (And.intro @Hg (And.intro @Hy (And.intro @Ij (And.intro @F5 (And.intro @GK (And.intro @Cw (And.intro @y7 (And.intro @EI (And.intro @Hh (And.intro @go_drawY (And.intro @BO (And.intro @yl (And.intro @Bx (And.intro @yZ (And.intro @H5 (And.intro @Iq (And.intro @H4 (And.intro @Ca (And.intro @GT (And.intro @go_yld (And.intro @Je (And.intro @Gi (And.intro @Hw (And.intro @Gd (And.intro @GN (And.intro @my (And.intro @step_e (And.intro @Ag (And.intro @Bt (And.intro @Kg (And.intro @CD (And.intro @Ct (And.intro @Et (And.intro @D7 (And.intro @Dd (And.intro @Be (@xS)))))))))))))))))))))))))))))))))))))))))))))))))))))
def sy:=And.intro @If (And.intro @IW (And.intro @GW (And.intro @Gk (And.intro @xL (And.intro @Cv (And.intro @FY (And.intro @yT (And.intro @GJ (@Ej)))))))))
def HQ (run alt:Option (V × Hp)):Option (V × Hp):=match run with|some (r,H1)=>(match r.pure with|true=>some (r,H1)|false=>alt)|none=>alt
def Lr (sv:V) (H:Hp) (run alt:Option (V × Hp)):Option (V × Hp):=match sv with
 | .one (.sl b _ _ _)=>(match H[b]? with|some (.arr _ _ _)=>HQ run alt|_=>alt)
 | _=>alt
theorem dj {r:V} {H1:Hp} {alt:Option (V × Hp)} (h:r.pure=true):HQ (some (r,H1)) alt=some (r,H1):=by simp only[HQ,h]
theorem tY {b z o n:Nat} {H:Hp} {run alt:Option (V × Hp)}:Lr (.one (.sl b z o n)) H run alt=match H[b]? with|some (.arr _ _ _)=>HQ run alt|_=>alt:=rfl
def Mn (sv xv:V) (H:Hp) (run alt:Option (V × Hp)):Option (V × Hp):=match sv with
 | .one .ns=>(match xv with | .one (.sl b _ _ _)=>(match H[b]? with|some (.arr _ _ _)=>run|_=>alt)|_=>alt)
 | _=>alt
theorem Cq {b z o n:Nat} {H:Hp} {run alt:Option (V × Hp)}:Mn (.one .ns) (.one (.sl b z o n)) H run alt=match H[b]? with|some (.arr _ _ _)=>run|_=>alt:=rfl
theorem Bk {φ:bL} {d:Option Nat} {p:List Nat} {sz bytes s y b z off n z' fz N:Nat} {rows:List (List D)} {f:Fn} {H:Hp} (hN:s<N∧y<N) (hs:f s=.one .ns) (hy:f y=.one (.sl b z off n)) (hH:H[b]?=some (.arr z' rows fz)) :
  aW φ ⟨d,.app false sz bytes (.t s) (.t y),none,p,false⟩ (ae N f) H=(A.app false sz bytes (.t s) (.t y)).run φ (ae N f) H:=by
 have hsl:aF (ae N f) (AOp.slots ⟨d,.app false sz bytes (.t s) (.t y),none,p,false⟩)=[b]:=by
  have e:AOp.slots ⟨d,.app false sz bytes (.t s) (.t y),none,p,false⟩=[s,y]:=rfl;rw[e,bz _ hN.1,bz _ hN.2,cL,hs,hy];rfl
 have hi:aO ⟨d,.app false sz bytes (.t s) (.t y),none,p,false⟩ (ae N f) H=[b]:=by
  rw[aO,hsl];exact pS hH rfl rfl
 have es:X.ev ((aS (AOp.slots ⟨d,.app false sz bytes (.t s) (.t y),none,p,false⟩) (ae N f)).map (V.ren (aK [b]))) (.t s)=some (.one .ns):=by
  simp only[X.ev,List.getElem?_map];rw[aY (by simp[AOp.slots,A.xs,X.slot]),bI hN.1,hs]
  simp[V.ren,L.ren]
 have ey:X.ev ((aS (AOp.slots ⟨d,.app false sz bytes (.t s) (.t y),none,p,false⟩) (ae N f)).map (V.ren (aK [b]))) (.t y)=some (.one (.sl 0 z off n)):=by
  simp only[X.ev,List.getElem?_map];rw[aY (by simp[AOp.slots,A.xs,X.slot]),bI hN.2,hy]
  simp[V.ren,L.ren,ay]
 have hc:ax H [b]=[.arr z' rows fz]:=by
  simp only[ax,List.map_cons,List.map_nil,List.getD,hH,Option.getD_some,Box.ren]
 have es0:X.ev (ae N f) (.t s)=some (.one .ns):=by rw[pI hN.1,hs]
 have ey0:X.ev (ae N f) (.t y)=some (.one (.sl b z off n)):=by rw[pI hN.2,hy]
 have hset:H.set b (.arr z' rows fz)=H:=by
  obtain⟨hlt,hg⟩:=List.getElem?_eq_some_iff.1 hH;rw[<- hg];exact List.set_getElem_self hlt
 simp only[aW,hi,hc,A.run,es,ey,es0,ey0,cond_false,bQ,List.getElem?_cons_zero,hH];by_cases h1:(z'=sz∨(z'=0∧sz=1)∨rows=[])∧off+n<=rows.length
 ·simp only[if_pos h1];by_cases h2:((rows.drop off).take n).length*bytes<=140737488355328∧((rows.drop off).take n).length<=9223372036854775807∧aQ sz ((rows.drop off).take n)=true
  ·simp only[if_pos h2];simp[V.ren,L.ren,bE,Box.ren,bB,hset]
  ·simp only[if_neg h2]
 ·simp only[if_neg h1]
theorem pv {φ:bL} {d:Option Nat} {p:List Nat} {sz bytes s y N:Nat} {f:Fn} {H:Hp} (hN:s<N∧y<N) :
  aW φ ⟨d,.app false sz bytes (.t s) (.t y),none,p,false⟩ (ae N f) H=Mn (f s) (f y) H ((A.app false sz bytes (.t s) (.t y)).run φ (ae N f) H) (ef φ ⟨d,.app false sz bytes (.t s) (.t y),none,p,false⟩ (ae N f) H):=by
 unfold Mn;split
 ·rename_i hs;split
  ·rename_i hy;split
   ·rename_i hH;exact Bk hN hs hy hH
   ·rfl
  ·rfl
 ·rfl
def Jo (n:Nat) (av:V) (cs:Option (List L)) (H:Hp) (ids:List Nat) (alt:Option (V × Hp)):Option (V × Hp):=match av,cs with
 | .one (.p i off),some ys=>(match H[i]? with
  | some (.cells xs)=>bif ids.contains i && ((ys.flatMap L.refs).all ids.contains && (ids.all (fun k=>decide (k=i) || (match H[k]? with|some b=>b.refs|none=>[]).all ids.contains) && (((xs.take off).flatMap L.refs).all ids.contains && (((xs.drop (off+n)).flatMap L.refs).all ids.contains && (decide (ys.length=n) && decide (off+n<=xs.length)))))) then some (.tup [],H.set i (.cells (xs.take off++ys++xs.drop (off+n)))) else alt
  | _=>alt)
 | _,_=>alt
theorem yd {n i off:Nat} {ys:List L} {H:Hp} {ids:List Nat} {alt:Option (V × Hp)}:Jo n (.one (.p i off)) (some ys) H ids alt=(match H[i]? with
  | some (.cells xs)=>bif ids.contains i && ((ys.flatMap L.refs).all ids.contains && (ids.all (fun k=>decide (k=i) || (match H[k]? with|some b=>b.refs|none=>[]).all ids.contains) && (((xs.take off).flatMap L.refs).all ids.contains && (((xs.drop (off+n)).flatMap L.refs).all ids.contains && (decide (ys.length=n) && decide (off+n<=xs.length)))))) then some (.tup [],H.set i (.cells (xs.take off++ys++xs.drop (off+n)))) else alt
  | _=>alt):=rfl
theorem n5 {φ:bL} {d:Option Nat} {g:Option (Nat × Bool)} {p:List Nat} {n a v N:Nat} {f:Fn} {H:Hp} (hN:a<N∧v<N) :
  aW φ ⟨d,.st n (.t a) (.t v),g,p,false⟩ (ae N f) H=Jo n (f a) (f v).cs H (aL H (aF (ae N f) ([a,v]++nG g))) (ef φ ⟨d,.st n (.t a) (.t v),g,p,false⟩ (ae N f) H):=by
 unfold Jo;split
 ·rename_i i off ys ha hv;split
  ·rename_i xs hb;generalize hc:(List.contains _ i && _)=cc;cases cc with
   | false=>rfl
   | true =>
    simp only[Bool.and_eq_true,decide_eq_true_eq,List.all_eq_true,List.contains_iff_mem] at hc;obtain⟨c1,c2,c3,c6,c7,c4,c5⟩:=hc;have hids:aO ⟨d,.st n (.t a) (.t v),g,p,false⟩ (ae N f) H=aL H (aF (ae N f) ([a,v]++nG g)):=rfl;obtain⟨hn,hal⟩:=fF H (aF (ae N f) ([a,v]++nG g));simp only[aW,hids,cond_true];generalize aL H (aF (ae N f) ([a,v]++nG g))=ids at *;have c3':∀ k∈ids,k≠i->∀ r∈(match H[k]? with|some b=>b.refs|none=>[]),r∈ids:=fun k hk hne r hr=>by
     have:=c3 k hk;simp only[Bool.or_eq_true,decide_eq_true_eq,List.all_eq_true,List.contains_iff_mem] at this;exact this.resolve_left hne r hr
    obtain⟨j,j1,j2,j3⟩:=dC (q:=H.length) (d:=ids.length-ids.length) c1;have hjl:j<ids.length:=(List.getElem?_eq_some_iff.1 j3).1;have ea:X.ev ((aS (AOp.slots ⟨d,.st n (.t a) (.t v),g,p,false⟩) (ae N f)).map (V.ren (aK ids))) (.t a)=some (.one (.p j off)):=by
     simp only[X.ev,List.getElem?_map];rw[aY (by simp[AOp.slots,A.xs,X.slot]),bI hN.1,ha]
     simp only[Option.map_some,V.ren,L.ren,j1]
    have ev:X.ev ((aS (AOp.slots ⟨d,.st n (.t a) (.t v),g,p,false⟩) (ae N f)).map (V.ren (aK ids))) (.t v)=some ((f v).ren (aK ids)):=by
     simp only[X.ev,List.getElem?_map];rw[aY (by simp[AOp.slots,A.xs,X.slot]),bI hN.2]
     rfl
    have hcj:(ax H ids)[j]?=some (.cells (xs.map (L.ren (aK ids)))):=by
     simp only[ax,List.getElem?_map,j3,Option.map_some,List.getD,hb,Option.getD_some,Box.ren]
    have hrun:(A.st n (.t a) (.t v)).run φ ((aS (AOp.slots ⟨d,.st n (.t a) (.t v),g,p,false⟩) (ae N f)).map (V.ren (aK ids))) (ax H ids)=some (.tup [],(ax H ids).set j (.cells ((xs.map (L.ren (aK ids))).take off++ys.map (L.ren (aK ids))++(xs.map (L.ren (aK ids))).drop (off+n)))):=by
     simp only[A.run,ea,ev,V.cs_ren,hv,Option.map_some,hcj,List.length_map,c4,c5,and_self,if_true]
    have hcl:(ax H ids).length=ids.length:=by simp[ax]
    simp only[hrun,List.length_set,hcl,V.ren,List.map_nil,Option.some.injEq,Prod.mk.injEq,true_and];have hdr:List.drop ids.length ((ax H ids).set j (.cells ((xs.map (L.ren (aK ids))).take off++ys.map (L.ren (aK ids))++(xs.map (L.ren (aK ids))).drop (off+n))))=[]:=List.drop_eq_nil_of_le (by simp[hcl])
    have htk:List.take ids.length ((ax H ids).set j (.cells ((xs.map (L.ren (aK ids))).take off++ys.map (L.ren (aK ids))++(xs.map (L.ren (aK ids))).drop (off+n))))=(ax H ids).set j (.cells ((xs.map (L.ren (aK ids))).take off++ys.map (L.ren (aK ids))++(xs.map (L.ren (aK ids))).drop (off+n))):=List.take_of_length_le (by simp[hcl])
    rw[hdr,htk,List.map_nil,List.append_nil];apply List.ext_getElem?;intro k;by_cases hk:k∈ids
    ·obtain⟨b0,hb0,_⟩:=hal k hk;have hkl:=(List.getElem?_eq_some_iff.1 hb0).1;obtain⟨t,ht,rfl⟩:=List.getElem_of_mem hk;rw[jj ids H _ t ids[t] hn (by simp[hcl]) (by simp[ht]) hkl,List.getElem?_map]
     by_cases htj:j=t
     ·subst htj;have hi:ids[j]=i:=by
       have:=List.getElem?_eq_getElem ht;rw[j3] at this;exact(Option.some.inj this).symm
      rw[List.getElem?_set_self (by rw[hcl];exact ht),hi,List.getElem?_set_self (by rw[<- hi];exact hkl)]
      simp only[Option.map_some,Box.ren,List.map_append];rw[<- List.map_take,<- List.map_drop,Ls.ren_back c6,Ls.ren_back c2,Ls.ren_back c7]
     ·have hne:i≠ids[t]:=by
       intro e;exact htj (lL hn j3 (by rw[e];simp[ht]))
      rw[List.getElem?_set_ne htj,List.getElem?_set_ne hne,hb0];simp only[ax,List.getElem?_map,List.getElem?_eq_getElem ht,Option.map_some,List.getD,hb0,Option.getD_some];rw[Box.ren_back (fun r hr=>c3' ids[t] hk (fun e=>hne e.symm) r (by rw[hb0];exact hr))]
    ·rw[dS _ _ _ _ hk,List.getElem?_set_ne (fun e=>hk (by rw[<- e];exact c1))]
  ·rfl
 ·rfl
end Go.Vi
