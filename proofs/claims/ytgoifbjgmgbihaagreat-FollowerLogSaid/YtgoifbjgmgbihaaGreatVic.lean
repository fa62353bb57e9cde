import Derived.Test.YtgoifbjgmgbihaaGreatVib
import Derived.ProofKit
import Derived.OpenShut
set_option linter.unusedSimpArgs false
set_option linter.unusedVariables false
set_option maxRecDepth 20000
set_option maxHeartbeats 16000000
/- An interpreter of values: what it answers the program answers. -/
namespace Go.Vi
set_option linter.unusedSimpArgs false
set_option linter.unusedVariables false
section
variable {P:Program} {φ:FuncId->List V->Hp->Option (V × Hp)}
theorem rO (fr:Fr) (d:Option Nat) (v:V) (t:Nat):(put fr d v)[t]?=if d=some t then(if t<fr.length then some v else none) else fr[t]?:=by
 cases d with
 | none=>simp[put]
 | some d =>
  simp only[put,List.getElem?_set,Option.some.injEq];by_cases h:d=t
  ·subst h;simp
  ·simp[h]
theorem tg (fr:Fr) (d:Option Nat) (v:V):(put fr d v).length=fr.length:=by cases d <;> simp[put]
theorem jI (a:Act) (d:Option Tmp) (x:Value) (t:Nat):(a.put d x).tmps[t]?=if d=some t then(if t<a.tmps.size then some x else none) else a.tmps[t]?:=by
 cases d with
 | none=>simp[Act.put]
 | some d =>
  simp only[Act.put,Array.getElem?_setIfInBounds,Option.some.injEq];by_cases h:d=t
  ·subst h;simp
  ·simp[h]
theorem lB (a:Act) (d:Option Tmp) (x:Value):(a.put d x).tmps.size=a.tmps.size:=by cases d <;> simp[Act.put]
variable {F:Nat->Fr} {G:Nat->Hp} {E:Nat->Log} {L:List AOp}
theorem jT (hS:∀ k o,L[k]?=some o->StepAt φ F G E k o) {t:Nat}:∀ (b a:Nat),a<=b->b<=L.length->(∀ k,a<=k->k<b->(E k).dst≠some t)->(F a)[t]?=(F b)[t]?
 | 0,a,h,_,_=>by rw[show a=0 by omega]
 | b+1,a,h,hb,hn=>by
  rcases Nat.lt_or_ge a (b+1) with h1|h1
  ·rw[jT hS b a (by omega) (by omega) (fun k h2 h3=>hn k h2 (by omega))]
   have hs:=hS b L[b] (by simp)
   obtain⟨⟨bb,v,x1,x2,x3,x4⟩,_,y1,_⟩:=hs;have:=hn b (by omega) (by omega)
   rw[y1] at this;rw[x3,rO,if_neg this]
  ·rw[show a=b+1 by omega]
theorem km (hS:∀ k o,L[k]?=some o->StepAt φ F G E k o):∀ k,k<=L.length->(F k).length=(F 0).length
 | 0,_=>rfl
 | k+1,h=>by
  obtain⟨⟨bb,v,x1,x2,x3,x4⟩,_,y1,_⟩:=hS k L[k] (by simp)
  rw[x3,tg,km hS k (by omega)]
theorem mi (hS:∀ k o,L[k]?=some o->StepAt φ F G E k o):∀ (b a:Nat),a<=b->b<=L.length->(G a).length<=(G b).length
 | 0,a,h,_=>by rw[show a=0 by omega];exact Nat.le_refl _
 | b+1,a,h,hb=>by
  rcases Nat.lt_or_ge a (b+1) with h1|h1
  ·exact Nat.le_trans (mi hS b a (by omega) (by omega)) (step_len (hS b L[b] (by simp)))
  ·rw[show a=b+1 by omega];exact Nat.le_refl _
theorem nc (hS:∀ k o,L[k]?=some o->StepAt φ F G E k o) {x:Nat}:∀ (b a:Nat),a<=b->b<=L.length->(∀ k,a<=k->k<b->¬ wr E k x)->(G a)[x]?=(G b)[x]?
 | 0,a,h,_,_=>by rw[show a=0 by omega]
 | b+1,a,h,hb,hn=>by
  rcases Nat.lt_or_ge a (b+1) with h1|h1
  ·rw[nc hS b a (by omega) (by omega) (fun k h2 h3=>hn k h2 (by omega))]
   exact(step_get (hS b L[b] (by simp)) (hn b (by omega) (by omega))).symm
  ·rw[show a=b+1 by omega]
def Dn (listed:Array Bool) (i:Nat):Prop:=listed.getD i false=true
structure Half (n:Nat) (F:Nat->Fr) (G:Nat->Hp) (E:Nat->Log) (TB:Nat->Prop) (listed:Array Bool) (mu:Mu) (S:St) (w:World) (a:Act):Prop where
 heap:∃ X:Hp,X.length=(G n).length∧Inv mu S TB w X∧∀ b,∃ m,m<=n∧(∀ k,k<m->wr E k b->Dn listed k)∧(∀ k,m<=k->k<n->wr E k b->¬ Dn listed k) ∧
  (b<(G m).length->X[b]?=(G m)[b]?)∧((G m).length<=b->mu b=none)
 size:a.tmps.size=(F 0).length
 slot:∀ t,∃ m,m<=n∧(∀ k,k<m->(E k).dst=some t->Dn listed k)∧(∀ k,m<=k->k<n->(E k).dst=some t->¬ Dn listed k) ∧
  ∀ v,(F m)[t]?=some v->∃ x,a.tmps[t]?=some x∧RelV mu S w v x
theorem vV {listed:Array Bool} {i k:Nat} (hi:i<listed.size):Dn (listed.setIfInBounds i true) k↔k=i∨Dn listed k:=by
 unfold Dn;by_cases h:i=k
 ·subst h;simp[hi]
 ·rw[getD_set_ne false h];constructor
  ·exact .inr
  ·rintro(h1|h1)
   ·exact absurd h1.symm h
   ·exact h1
theorem ni {fr:Fr} {lv:List Nat} {g:Option (Nat × Bool)} {b:Bool} (h:wantedV fr g=some b) (hl:∀ t w,g=some (t,w)->t∈lv):wantedV (aY lv fr) g=some b:=by
 cases g with
 | none=>exact h
 | some p =>
  obtain⟨t,w⟩:=p;have ht:=hl t w rfl;have:(aY lv fr)[t]?=fr[t]?:=by
   simp only[aY,List.getElem?_mapIdx];cases fr[t]? with
   | none=>rfl
   | some v=>simp[ht]
  simp only[wantedV,this] at h ⊢;exact h
theorem bc {fr:Fr} {lv:List Nat} {t:Nat} (ht:t∈lv):(aY lv fr)[t]?=fr[t]?:=by
 simp only[aY,List.getElem?_mapIdx];cases fr[t]? with
 | none=>rfl
 | some v=>simp[ht]
theorem mt {X H:Hp} {mu:Mu} {S:St} {TB:Nat->Prop} {w:World} (hi:Inv mu S TB w X):∀ (n:Nat) (todo seen:List Nat),(∀ i∈todo,(mu i).isSome=true)->(∀ i∈seen,(mu i).isSome=true) ->
  (∀ i∈aB H n todo seen,X[i]?=H[i]?)->∀ i∈aB H n todo seen,(mu i).isSome=true
 | 0,todo,seen,h1,h2,_=>by cases todo <;> exact h2
 | n+1,[],seen,h1,h2,_=>h2
 | n+1,i::todo,seen,h1,h2,hX=>by
  have h1':∀ i∈todo,(mu i).isSome=true:=fun k hk=>h1 k (List.mem_cons_of_mem _ hk)
  have h0:=h1 i List.mem_cons_self;obtain⟨l,hl⟩:=Option.isSome_iff_exists.1 h0;simp only[aB] at hX ⊢;split at hX
  ·exact mt hi n todo seen h1' h2 hX
  ·exact mt hi n todo seen h1' h2 hX
  ·rename_i b hne hb;by_cases hc:seen.contains i=true
   ·rw[if_pos hc] at hX ⊢;exact mt hi n todo seen h1' h2 hX
   ·rw[if_neg hc] at hX ⊢;have hin:i∈aB H n (b.refs++todo) (seen++[i]):=by
     have:∀ (n:Nat) (t s:List Nat),i∈s->i∈aB H n t s:=by
      intro n;induction n with
      | zero=>intro t s h;cases t <;> exact h
      | succ n ih =>
       intro t s h;cases t with
       | nil=>exact h
       | cons j t =>
        simp only[aB];split
        ·exact ih t s h
        ·exact ih t s h
        ·split
         ·exact ih t s h
         ·exact ih _ _ (List.mem_append_left _ h)
     exact this _ _ _ (List.mem_append_right _ (List.mem_singleton_self _))
    have hXi:=hX i hin;refine mt hi n _ _ (fun k hk=>?_) (fun k hk=>?_) hX
    ·rcases List.mem_append.1 hk with h|h
     ·exact(hi.box i b l (by rw[hXi,hb]) hl).refs k h
     ·exact h1' k h
    ·rcases List.mem_append.1 hk with h|h
     ·exact h2 k h
     ·simp at h;subst h;exact h0
theorem xh {X H:Hp} {ids:List Nat} (h:∀ i∈ids,X[i]?=H[i]?):aq X ids=aq H ids:=by
 simp only[aq];apply List.map_congr_left;intro i hi;simp only[List.getD,h i hi]
theorem EU (hg:Good P φ) {TB:Nat->Prop} {an:Nat->Nat} {ops:Array Oper} {ps:List (List Nat)} (hc:dM P an ops ps 0 ops.toList=some L)
  (hS:∀ k o,L[k]?=some o->StepAt φ F G E k o) {listed:Array Bool} {mu:Mu} {S:St} {w:World} {a:Act} (hsz:listed.size=L.length)
  (hcl:∀ k,Dn listed k->∀ o,L[k]?=some o->∀ j∈o.pre,Dn listed j)
  {i:Nat} (hi:i<L.length) (hnd:¬ Dn listed i) (hpre:∀ o,L[i]?=some o->∀ j∈o.pre,Dn listed j)
  (hh:Half L.length F G E TB listed mu S w a) {K:Act->World->Prop} {Q:Exit->Act->World->Prop}
  (hk:∀ a' w' mu' S',Ext TB mu S w mu' S' w'->Half L.length F G E TB (listed.setIfInBounds i true) mu' S' w' a'->a'.defers=a.defers->K a' w'):wpOp P ops Q i K a w:=by
 obtain⟨hl,hget⟩:=eL hc;have hio:i<ops.size:=by rw[hl] at hi;simpa using hi
 obtain⟨g1,g2,g3,g4⟩:=hget i ops[i] L[i] (by simp[hio]) (by simp[hi])
 have hst:=hS i L[i] (by simp[hi])
 obtain⟨⟨b,v,x1,x2,x3,x4⟩,yt,y1,y2,y3,y4,y5⟩:=hst;have hp:=hpre L[i] (by simp[hi])
 have before:∀ k,k<i->¬ Dn listed k->(E k).free (E i)=true:=fun k hki hk=>(y5 k hki).resolve_left fun h=>hk (hp k h)
 have after:∀ k,i<k->k<L.length->Dn listed k->(E i).free (E k)=true:=fun k hik hkn hk=>by
  obtain⟨_,_,_,_,_,_,z5⟩:=hS k L[k] (by simp[hkn])
  exact(z5 i hik).resolve_left fun h=>hnd (hcl k hk L[k] (by simp[hkn]) i h)
 have hfree:∀ x y:Log,x.free y=true->(∀ d,x.dst=some d->d ∉ y.rds∧y.dst≠some d)∧(∀ d,y.dst=some d->d ∉ x.rds∧x.dst≠some d)∧(x.kind=0∨y.kind=0∨(x.kind=1∧y.kind=1)∨((∀ b,b∈x.tch.all->b ∉ y.tch.chg)∧∀ b,b∈x.tch.chg->b ∉ y.tch.all)):=by
  intro x y h;simp only[Log.free,Bool.and_eq_true,Bool.or_eq_true,beq_iff_eq] at h;obtain⟨⟨h1,h2⟩,h3⟩:=h;have e1:∀ d,x.dst=some d->d ∉ y.rds∧y.dst≠some d:=by
   intro d hd;rw[hd] at h1;simpa using h1
  refine⟨e1,fun d hd=>?_,?_⟩
  ·rw[hd] at h2;refine⟨by simpa using h2,fun hx=>(e1 d hx).2 hd⟩
  ·rcases h3 with((h3|h3)|h3)|h3
   ·exact .inl h3
   ·exact .inr (.inl h3)
   ·exact .inr (.inr (.inl h3))
   ·refine .inr (.inr (.inr ⟨fun b hb hb2=>?_,fun b hb hb2=>?_⟩))
    ·have:=(List.all_eq_true.1 h3.1) b hb;simp[hb2] at this
    ·have:=(List.all_eq_true.1 h3.2) b hb;simp[hb2] at this
 have disB:∀ k b,k<i->wr E k b->(E i).kind≠0->b∈(E i).tch.all->Dn listed k:=fun k b hki hw hk0 hbt=>Classical.byContradiction fun hnk=>by
  rcases(hfree _ _ (before k hki hnk)).2.2 with h|h|h|h
  ·have:=hw.1;omega
  ·exact hk0 h
  ·have:=hw.1;omega
  ·exact h.2 b hw.2 hbt
 have disA:∀ k b,i<k->k<L.length->wr E k b->(E i).kind≠0->b∈(E i).tch.all->¬ Dn listed k:=fun k b hik hkn hw hk0 hbt hdk=>by
  rcases(hfree _ _ (after k hik hkn hdk)).2.2 with h|h|h|h
  ·exact hk0 h
  ·have:=hw.1;omega
  ·have:=hw.1;omega
  ·exact h.1 b hbt hw.2
 have hslots:∀ t∈L[i].slots,∀ v,(F i)[t]?=some v->∃ x,a.tmps[t]?=some x∧RelV mu S w v x:=by
  intro t ht v hv;obtain⟨m,hm,m1,m2,m3⟩:=hh.slot t;apply m3;rw[<- hv];rcases Nat.le_total m i with hmi|hmi
  ·refine jT hS i m hmi (by omega) fun k h1 h2 h3=>?_
   have:=(hfree _ _ (before k h2 (m2 k h1 (by omega) h3))).1 t h3
   exact this.1 (y2 ▸ ht)
  ·refine(jT hS m i hmi hm fun k h1 h2 h3=>?_).symm
   have hd:=m1 k h2 h3;rcases Nat.lt_or_ge i k with h4|h4
   ·have:=(hfree _ _ (after k h4 (by omega) hd)).2.1 t h3
    exact this.1 (y2 ▸ ht)
   ·exact hnd (by rwa [show i=k by omega])
 have hfr:RelFr mu S w (aY L[i].slots (F i)) a:=by
  refine⟨by rw[hh.size];simp[aY,km hS i (by omega)],fun t v ht=>?_⟩
  by_cases hts:t∈L[i].slots
  ·rw[bc hts] at ht;exact hslots t hts v ht
  ·simp only[aY,List.getElem?_mapIdx,Option.map_eq_some_iff] at ht;obtain⟨u,hu,rfl⟩:=ht;have hlt:t<a.tmps.size:=by
    rw[hh.size,<- km hS i (by omega)]
    rcases Nat.lt_or_ge t (F i).length with h|h
    ·exact h
    ·rw[List.getElem?_eq_none h] at hu;cases hu
   refine⟨a.tmps[t],by simp[hlt],?_⟩
   rw[if_neg (by simpa using hts)]
   trivial
 obtain⟨X,hXl,hinv,hX⟩:=hh.heap;have hXi:∀ x,(E i).kind≠0->x∈(E i).tch.all->x<(G i).length->X[x]?=(G i)[x]?:=by
  intro x hk0 hx hlt;obtain⟨m,hm,m1,m2,m3,m4⟩:=hX x;have he:(G m)[x]?=(G i)[x]?:=by
   rcases Nat.le_total m i with hmi|hmi
   ·exact nc hS i m hmi (by omega) fun k h1 h2 h3=>m2 k h1 (by omega) h3 (disB k x h2 h3 hk0 hx)
   ·refine(nc hS m i hmi hm fun k h1 h2 h3=>?_).symm
    have hd:=m1 k h2 h3;rcases Nat.lt_or_ge i k with h4|h4
    ·exact disA k x h4 (by omega) h3 hk0 hx hd
    ·exact hnd (by rwa [show i=k by omega])
  have hlm:x<(G m).length:=by
   rw[List.getElem?_eq_getElem hlt] at he;exact(List.getElem?_eq_some_iff.1 he).1
  rw[m3 hlm,he]
 have hset:∀ k,Dn (listed.setIfInBounds i true) k↔k=i∨Dn listed k:=fun k=>vV (by omega)
 have fslot:∀ (x:Value) (w':World) (mu':Mu) (S':St),Ext TB mu S w mu' S' w'->RelV mu' S' w' v x->∀ t,∃ m,m<=L.length∧(∀ k,k<m->(E k).dst=some t->Dn (listed.setIfInBounds i true) k) ∧
   (∀ k,m<=k->k<L.length->(E k).dst=some t->¬ Dn (listed.setIfInBounds i true) k)∧∀ v,(F m)[t]?=some v->∃ y,(a.put ops[i].dst x).tmps[t]?=some y∧RelV mu' S' w' v y:=by
  intro x w' mu' S' ex rx t;by_cases ht:(E i).dst=some t
  ·have hdt:ops[i].dst=some t:=by rw[<- g3,<- y1];exact ht
   refine⟨i+1,by omega,fun k hk1 hk2=>(hset k).2 ?_,fun k hk1 hkn hk2 hd=>?_,fun u hu=>?_⟩
   ·rcases Nat.lt_or_ge k i with h|h
    ·refine .inr (Classical.byContradiction fun hnk=>?_)
     exact((hfree _ _ (before k h hnk)).1 t hk2).2 ht
    ·exact .inl (by omega)
   ·rcases(hset k).1 hd with h|h
    ·omega
    ·exact((hfree _ _ (after k (by omega) hkn h)).1 t ht).2 hk2
   ·rw[x3,rO,if_pos (by rw[<- y1];exact ht)] at hu
    split at hu
    ·rename_i hlt;cases hu;refine⟨x,?_,rx⟩;rw[jI,if_pos hdt,if_pos];rw[hh.size,<- km hS i (by omega)];exact hlt
    ·cases hu
  ·have hdt:ops[i].dst≠some t:=by rw[<- g3,<- y1];exact ht
   obtain⟨q,hq,q1,q2,q3⟩:=hh.slot t;refine⟨q,hq,fun k hk1 hk2=>(hset k).2 (.inr (q1 k hk1 hk2)),fun k hk1 hkn hk2 hd=>?_,fun u hu=>?_⟩
   ·rcases(hset k).1 hd with h|h
    ·subst h;exact ht hk2
    ·exact q2 k hk1 hkn hk2 h
   ·obtain⟨y,hy,hr⟩:=q3 u hu;refine⟨y,?_,hr.ext ex⟩;rw[jI,if_neg hdt];exact hy
 have fin01:∀ (x:Value) (w':World) (S':St),(E i).kind≠2->Ext TB mu S w mu S' w'->Inv mu S' TB w' X->RelV mu S' w' v x->K (a.put ops[i].dst x) w':=by
  intro x w' S' h2 ex i1 rx;refine hk _ _ mu S' ex ⟨⟨X,hXl,i1,fun b=>?_⟩,by rw[lB];exact hh.size,fslot x w' mu S' ex rx⟩ (eG _ _ _)
  obtain⟨m,hm,m1,m2,m3,m4⟩:=hX b;refine⟨m,hm,fun k hk1 hk2=>(hset k).2 (.inr (m1 k hk1 hk2)),fun k hk1 hkn hk2 hd=>?_,m3,m4⟩
  rcases(hset k).1 hd with h|h
  ·subst h;exact h2 hk2.1
  ·exact m2 k hk1 hkn hk2 h
 have hwk:wantedV (aY L[i].slots (F i)) L[i].g=some b:=ni x1 fun t w hgw=>by
  simp only[AOp.slots,hgw,List.mem_append];exact .inr (List.mem_singleton_self _)
 unfold wpOp;simp only[show ops[i]?=some ops[i] by simp[hio]]
 rw[mC g2 hfr hwk];cases b with
 | false =>
  rw[if_neg (by simp)]
  simp only[cond_false] at x2;simp only[drawStep,Option.some.injEq,Prod.mk.injEq] at x4;obtain⟨rfl,hG⟩:=x4;exact fin01 undef w S (by omega) (.refl _ _ _ _) hinv gO
 | true =>
  simp only[if_true];left
  simp only[cond_true] at x2;rw[y3] at *;have g1':bJ P (if an (0+i)=2 then 0 else an (0+i)) ops[i].op=some L[i].a:=g1
  by_cases h2:(E i).kind=2
  ·
   rw[h2] at x4;have hiso:aS φ L[i] (F i) (G i)=some (v,G (i+1)):=x4;obtain⟨r,H1,e1,e2,e3,e4,e5,e6⟩:=pY hiso;obtain⟨hnd2,hal2⟩:(aI L[i] (F i) (G i)).Nodup∧∀ j∈aI L[i] (F i) (G i),∃ b,(G i)[j]?=some b∧alive b=true:=gD (G i) _;have hk0:(E i).kind≠0:=by omega
   have ytt:(E i).tch.all=aI L[i] (F i) (G i)++List.range' (G i).length ((G (i+1)).length-(G i).length):=by rw[yt,h2];rfl
   have hil:∀ j∈aI L[i] (F i) (G i),j<(G i).length:=fun j hj=>by obtain⟨b,hb,_⟩:=hal2 j hj;exact(List.getElem?_eq_some_iff.1 hb).1
   have hXids:∀ j∈aI L[i] (F i) (G i),X[j]?=(G i)[j]?:=fun j hj=>hXi j hk0 (by rw[ytt];exact List.mem_append_left _ hj) (hil j hj)
   have hmu:∀ j∈aI L[i] (F i) (G i),(mu j).isSome=true:=by
    refine mt hinv 1000 _ [] (fun k hk=>?_) (by simp) hXids
    simp only[aA,List.mem_flatMap] at hk;obtain⟨t,ht,hk⟩:=hk;cases hv:(F i)[t]? with
    | none=>rw[hv] at hk;simp at hk
    | some u =>
     rw[hv] at hk;obtain⟨x,_,hx⟩:=hslots t ht u hv;exact hx.refs k hk
   have hGin:(G i).length<=(G L.length).length:=mi hS _ _ (by omega) (Nat.le_refl _)
   have hGi1:(G (i+1)).length<=(G L.length).length:=mi hS _ _ (by omega) (Nat.le_refl _)
   have hnew:∀ j,(G i).length<=j->j<(G i).length+(H1.length-(aI L[i] (F i) (G i)).length)->wr E i j:=fun j h1 h3=>by
    refine⟨h2,?_⟩;rw[yt,h2];refine List.mem_append_right _ ?_;simp only[touch];rw[List.mem_range'_1];omega
   have hq:∀ j,(G i).length<=j->j<(G i).length+(H1.length-(aI L[i] (F i) (G i)).length)->mu j=none:=by
    intro j h1 h3;have hwi:=hnew j h1 h3;obtain⟨m,hm,m1,m2,m3,m4⟩:=hX j;apply m4;have hmi:m<=i:=by
     rcases Nat.lt_or_ge i m with h|h
     ·exact absurd (m1 i h hwi) hnd
     ·exact h
    exact Nat.le_trans (mi hS i m hmi (by omega)) h1
   let X2:Hp:=X.mapIdx fun j x=>if(E i).tch.all.contains j then(G (i+1)).getD j .dead else x
   have hX2l:X2.length=X.length:=by simp[X2]
   have hX2in:∀ j,j∈(E i).tch.all->X2[j]?=(G (i+1))[j]?:=by
    intro j hj;have hjl:j<(G (i+1)).length:=by
     have hle:=step_len (hS i L[i] (by simp[hi]))
     rw[ytt,List.mem_append,List.mem_range'_1] at hj;rcases hj with h|h
     ·have:=hil j h;omega
     ·omega
    have hjx:j<X.length:=by omega
    simp only[X2,List.getElem?_mapIdx,List.getElem?_eq_getElem hjx,Option.map_some];rw[if_pos (by simpa using hj)]
    simp only[List.getD,List.getElem?_eq_getElem hjl,Option.getD_some]
   have hX2o:∀ j,j ∉ (E i).tch.all->X2[j]?=X[j]?:=by
    intro j hj;simp only[X2,List.getElem?_mapIdx];cases X[j]? with
    | none=>rfl
    | some x=>simp only[Option.map_some];rw[if_neg (by simpa using hj)]
   have hX2out:∀ j,j ∉ (E i).tch.chg->X2[j]?=X[j]?:=by
    intro j hj;by_cases ha:j∈(E i).tch.all
    ·have hlt:j<(G i).length:=by
      rw[ytt,List.mem_append] at ha;rcases ha with h|h
      ·exact hil j h
      ·exact absurd (by rw[yt,h2];exact List.mem_append_right _ h) hj
     rw[hX2in j ha,step_get (hS i L[i] (by simp[hi])) (fun hw=>hj hw.2),hXi j hk0 ha hlt]
    ·exact hX2o j ha
   have hcan:aq X (aI L[i] (F i) (G i))=aq (G i) (aI L[i] (F i) (G i)):=xh hXids;refine Md hg g1' hinv hfr hnd2 (fun j hj=>?_) hmu (by rw[hcan];exact e1) hq (fun j hj=>.inl (hil j hj)) hX2l (by omega) (fun hm j k hjk=>?_) (fun hm t ht=>?_) (fun j hj hr=>?_) K Q fun x w' mu1 S' ex i1 rx=>?_
   ·have:=hil j hj;omega
   ·rw[hX2in k (by rw[ytt];exact List.mem_append_left _ (List.mem_of_getElem? hjk))];exact e5 hm j k hjk
   ·rw[hX2in _ (by rw[ytt];exact List.mem_append_right _ (by rw[List.mem_range'_1];omega))];exact e6 hm t ht
   ·refine hX2o j fun hj2=>?_
    rw[ytt,List.mem_append,List.mem_range'_1] at hj2;rcases hj2 with h|h
    ·exact hj h
    ·omega
   ·rw[<- e2] at rx;refine hk _ _ _ S' ex ⟨⟨X2,by rw[hX2l,hXl],i1,fun j=>?_⟩,by rw[lB];exact hh.size,fslot x w' _ S' ex rx⟩ (eG _ _ _)
    by_cases hj:j∈(E i).tch.chg
    ·refine⟨i+1,by omega,fun k hk1 hk2=>(hset k).2 ?_,fun k hk1 hkn hk2 hd=>?_,fun _=>hX2in j (rV hj),fun hge=>?_⟩
     ·rcases Nat.lt_or_ge k i with h|h
      ·exact .inr (disB k j h hk2 hk0 (rV hj))
      ·exact .inl (by omega)
     ·rcases(hset k).1 hd with h|h
      ·omega
      ·exact disA k j (by omega) hkn hk2 hk0 (rV hj) h
     ·have:=Oi (hS i L[i] (by simp[hi])) ⟨h2,hj⟩
      omega
    ·obtain⟨m,hm,m1,m2,m3,m4⟩:=hX j;refine⟨m,hm,fun k hk1 hk2=>(hset k).2 (.inr (m1 k hk1 hk2)),fun k hk1 hkn hk2 hd=>?_,fun h=>by rw[hX2out j hj];exact m3 h,fun h=>?_⟩
     ·rcases(hset k).1 hd with h|h
      ·subst h;exact hj hk2.2
      ·exact m2 k hk1 hkn hk2 h
     ·have h0:=m4 h;simp only[xt];rw[if_neg (fun hc=>hj (hnew j hc.1 hc.2).2)]
      exact h0
  ·have hrun:L[i].a.run φ (F i) (G i)=some (v,G (i+1)):=by rw[oS h2] at x4;exact x4
   have hkk:L[i].a.kind (F i)≠2:=by rw[<- x2];exact h2
   have hcg:∀ H,L[i].a.run φ (aY L[i].slots (F i)) H=L[i].a.run φ (F i) H:=fun H=>qo fun t ht=>bc (by
    simp only[AOp.slots,List.mem_append];exact .inl ht)
   have hrX:L[i].a.run φ (F i) X=some (v,X):=by
    by_cases h0:L[i].a.kind (F i)=0
    ·exact(mQ h0 hrun).2 X
    ·have h1:L[i].a.kind (F i)=1:=by have:=yc (F i) L[i].a;omega
     refine uM h1 hrun fun b hb hlt=>hXi b (by rw[x2];exact h0) ?_ hlt
     rw[yt,x2,h1];simp only[touch,Tc.all,aA,AOp.slots,List.flatMap_append,List.mem_append];exact .inl (.inl hb)
   have hkk2:L[i].a.kind (aY L[i].slots (F i))≠2:=by
    rw[AY (fr2:=F i) fun t ht=>bc (by simp only[AOp.slots,List.mem_append];exact .inl ht)]
    exact hkk
   exact EO hg g1' hinv hfr hkk2 (by rw[hcg];exact hrX) K Q fun x w' S' ex i1 rx=>fin01 x w' S' h2 ex i1 rx
end
section
variable {P:Program} {φ:FuncId->List V->Hp->Option (V × Hp)}
variable {F:Nat->Fr} {G:Nat->Hp} {E:Nat->Log} {L:List AOp}
theorem Hd (hg:Good P φ) {TB:Nat->Prop} {an:Nat->Nat} {ops:Array Oper} (hc:dM P an ops (eH ops.toList []) 0 ops.toList=some L)
  (hS:∀ k o,L[k]?=some o->StepAt φ F G E k o) {Q:Exit->Act->World->Prop} {mu:Mu} {S:St} {w:World} {a:Act}
  (hQ:∀ a' w' mu' S',Ext TB mu S w mu' S' w'->Inv mu' S' TB w' (G L.length)->RelFr mu' S' w' (F L.length) a'->a'.defers=a.defers->Q .normal a' w') :
  ∀ (fuel:Nat) (listed:Array Bool) (mu1:Mu) (S1:St) (w1:World) (a1:Act),listed.size=L.length->listed.toList.count false<=fuel ->
   (∀ k,Dn listed k->∀ o,L[k]?=some o->∀ j∈o.pre,Dn listed j)->Half L.length F G E TB listed mu1 S1 w1 a1->Ext TB mu S w mu1 S1 w1->a1.defers=a.defers ->
   wpAny P .any ops Q fuel listed a1 w1:=by
 obtain⟨hl,hget⟩:=eL hc;have hsz:L.length=ops.size:=by simpa using hl
 have hready:∀ (listed:Array Bool) (i:Nat),listed.size=L.length->(∀ k,Dn listed k->∀ o,L[k]?=some o->∀ j∈o.pre,Dn listed j)->i∈Region.ready .any ops listed ->
   i<L.length∧¬ Dn listed i∧∀ o,L[i]?=some o->∀ j∈o.pre,Dn listed j:=by
  intro listed i hls hcl hi;rw[mem_ready] at hi;obtain⟨h0,o,ho,hall⟩:=hi;have hio:i<ops.size:=by
   rcases Nat.lt_or_ge i ops.size with h|h
   ·exact h
   ·rw[Array.getElem?_eq_none h] at ho;cases ho
  refine⟨by omega,?_,fun ao hao j hj=>?_⟩
  ·unfold Dn;have:i<listed.size:=by omega
   simp only[Array.getD,this,dite_true] at h0 ⊢;rw[h0];simp
  ·obtain⟨_,_,_,g4⟩:=hget i o ao (by simpa using ho) hao
   rw[g4,Nat.zero_add,jU (o:=o) (by simpa using ho)] at hj
   obtain⟨e,he,hb,hx⟩:=hj;have hd:=hall e (by simpa using he) hb
   rcases hx with rfl|⟨hlt,hx⟩
   ·exact hd
   ·have hen:e.on<L.length:=by omega
    obtain⟨_,_,_,g4'⟩:=hget e.on ops[e.on] L[e.on] (by simp <;> omega) (by simp[hen])
    refine hcl e.on hd L[e.on] (by simp[hen]) j ?_
    rw[g4',Nat.zero_add];exact hx
 have hdone:∀ listed:Array Bool,listed.size=L.length->Region.ready .any ops listed=[]->∀ k,k<L.length->Dn listed k:=by
  intro listed hls hr k;induction k using Nat.strongRecOn with
  | ind k ih =>
   intro hk;apply Classical.byContradiction;intro hnd;have:k∈Region.ready .any ops listed:=by
    rw[mem_ready];have hks:k<listed.size:=by omega
    refine⟨?_,ops[k]'(by omega),by simp <;> omega,fun e he hb=>?_⟩
    ·unfold Dn at hnd;simp only[Array.getD,hks,dite_true] at hnd ⊢;simpa using hnd
    ·obtain⟨_,_,_,g4⟩:=hget k (ops[k]'(by omega)) L[k] (by simp <;> omega) (by simp[hk])
     obtain⟨_,_,_,_,_,z4,_⟩:=hS k L[k] (by simp[hk])
     have hm:e.on∈L[k].pre:=by
      rw[g4,Nat.zero_add,jU (o:=ops[k]'(by omega)) (by simp <;> omega)]
      exact⟨e,by simpa using he,hb,.inl rfl⟩
     have:=z4 _ hm;exact ih e.on this (by omega)
   rw[hr] at this;cases this
 have hend:∀ (listed:Array Bool) (mu1:Mu) (S1:St) (w1:World) (a1:Act),listed.size=L.length->Region.ready .any ops listed=[]->Half L.length F G E TB listed mu1 S1 w1 a1 ->
   Ext TB mu S w mu1 S1 w1->a1.defers=a.defers->Q .normal a1 w1:=by
  intro listed mu1 S1 w1 a1 hls hr hh ex hdf;have hd:=hdone listed hls hr;obtain⟨X,hXl,hinv,hX⟩:=hh.heap;have hGm:X=G L.length:=by
   apply List.ext_getElem?;intro x;obtain⟨m,hm,m1,m2,m3,m4⟩:=hX x;have he:(G m)[x]?=(G L.length)[x]?:=nc hS L.length m hm (Nat.le_refl _) fun k h1 h2 h3=>m2 k h1 h2 h3 (hd k h2)
   rcases Nat.lt_or_ge x (G L.length).length with hx|hx
   ·have hxm:x<(G m).length:=by
     rw[List.getElem?_eq_getElem hx] at he;exact(List.getElem?_eq_some_iff.1 he).1
    rw[m3 hxm,he]
   ·rw[List.getElem?_eq_none hx,List.getElem?_eq_none (by omega)]
  refine hQ a1 w1 mu1 S1 ex (hGm ▸ hinv) ⟨by rw[hh.size,km hS L.length (Nat.le_refl _)],fun t v ht=>?_⟩ hdf
  obtain⟨q,hq,q1,q2,q3⟩:=hh.slot t;apply q3;rw[<- ht];exact jT hS L.length q hq (Nat.le_refl _) fun k h1 h2 h3=>q2 k h1 h2 h3 (hd k h2)
 intro fuel;induction fuel with
 | zero =>
  intro listed mu1 S1 w1 a1 hls hcnt hcl hh ex hdf;have hr:Region.ready .any ops listed=[]:=by
   apply List.eq_nil_iff_forall_not_mem.2;intro i hi;obtain⟨h1,h2,_⟩:=hready listed i hls hcl hi;have hz:listed.toList.count false=0:=by omega
   rw[List.count_eq_zero] at hz;apply h2;have his:i<listed.size:=by omega
   unfold Dn;simp only[Array.getD,his,dite_true];cases hv:listed[i] with
   | true=>exact hv
   | false=>exact absurd (by rw[<- hv];simp) hz
  exact⟨hr,hend listed mu1 S1 w1 a1 hls hr hh ex hdf⟩
 | succ fuel ih =>
  intro listed mu1 S1 w1 a1 hls hcnt hcl hh ex hdf;refine⟨fun hr=>hend listed mu1 S1 w1 a1 hls hr hh ex hdf,fun i hi=>?_⟩
  obtain⟨h1,h2,h3⟩:=hready listed i hls hcl hi;refine EU hg hc hS hls hcl h1 h2 h3 hh fun a' w' mu' S' ex' hh' hdf'=>?_
  have his:i<listed.size:=by omega
  refine ih _ mu' S' w' a' (by simp[hls]) ?_ (fun k hk o ho j hj=>?_) hh' (ex.trans ex') (hdf'.trans hdf)
  ·have hv:listed[i]=false:=by
    unfold Dn at h2;simp only[Array.getD,his,dite_true] at h2;simpa using h2
   rw[Array.toList_setIfInBounds,List.count_set (by simpa using his)]
   have:(listed.toList[i]'(by simpa using his))=false:=by simpa using hv
   rw[this,if_pos (by decide:(false == false)=true),if_neg (by decide:¬ ((true == false)=true))]
   omega
  ·rw[vV his] at hk ⊢;rcases hk with rfl|hk
   ·exact .inr (h3 o ho j hj)
   ·exact .inr (hcl k hk o ho j hj)
def Oo (P:Program) (φ:FuncId->List V->Hp->Option (V × Hp)):Prop :=
 ∀ (TB:Nat->Prop) (an:Nat->Nat) (ops:Array Oper) (id:Nat) (L:List AOp),dM P an ops (eH ops.toList []) 0 ops.toList=some L ->
  ∀ (mu:Mu) (S:St) (w:World) (H H':Hp) (fr fr':Fr) (a:Act) (Q:Exit->Act->World->Prop),cJ φ L [] fr H=some (fr',H')->Inv mu S TB w H->RelFr mu S w fr a ->
   (∀ a' w' mu' S',Ext TB mu S w mu' S' w'->Inv mu' S' TB w' H'->RelFr mu' S' w' fr' a'->a'.defers=a.defers->Q .normal a' w')->(Code.region id ops true).wp P Q a w
theorem Fp (hm:P.follows .mixedOrders=true) (hg:Good P φ):Oo P φ:=by
 intro TB an ops id L hc mu S w H H' fr fr' a Q hrun hi hf hQ;obtain⟨F,G,E,hF,hG,hF',hG',_,hS⟩:=yz L [] fr H hrun;simp only[List.length_nil,Nat.zero_add] at hF hG hF' hG' hS;obtain⟨hl,hget⟩:=eL hc;have hsz:L.length=ops.size:=by simpa using hl
 apply wp_region_any hm;have hd0:∀ k,¬ Dn (Array.replicate ops.size false) k:=by
  intro k h;unfold Dn at h;simp only[Array.getD] at h;split at h <;> simp at h
 have ex0:Ext TB mu S w mu S { w with drawn:=w.drawn+1 }:=⟨fun _ _ h=>h,fun _ _ h=>h,fun _ _ _ h=>h,fun _ _ _=>rfl,fun _ _=>rfl,Nat.le_refl _,rfl,rfl,rfl⟩
 have hi0:Inv mu S TB { w with drawn:=w.drawn+1 } H:=by
  refine⟨fun i b l hb hl=>?_,hi.dom,hi.old,hi.sl,hi.tl,hi.one⟩
  have:=hi.box i b l hb hl;cases b with
  | dead=>trivial
  | mp rows=>exact this
  | cells xs =>
   obtain⟨l,B,cur,e,h1,h2,h3,h4,h5,h6⟩:=this;exact⟨l,B,cur,e,h1,h2,h3,h4.ext ex0,h5,h6⟩
  | arr sz rows fz =>
   obtain⟨l,h1,h2,h3,h4,h5,h6⟩:=this;refine⟨l,h1,h2,h3,h4,h5,?_⟩;cases hbk:l.blk with
   | none=>rw[hbk] at h6;exact h6
   | some B =>
    rw[hbk] at h6;obtain⟨cur,e,ff,k1,k2,k3,k4,k5,k6,k7,k8⟩:=h6;exact⟨cur,e,ff,k1,k2,k3,k4,k5,fun k j r d hr hd=>by obtain⟨v,hv,hrel⟩:=k6 k j r d hr hd;exact⟨v,hv,hrel.ext ex0⟩,k7,k8⟩
 refine Hd hg hc hS (mu:=mu) (S:=S) (w:=w) (a:=a) (fun a' w' mu' S' ex i1 f1 hdf=>hQ a' w' mu' S' ex (hG' ▸ i1) (hF' ▸ f1) hdf) ops.size _ mu S _ a (by simp[hsz]) ?_ (fun k hk=>absurd hk (hd0 k)) ?_ ex0 rfl
 ·simp[List.count_replicate]
 ·have hpad:∀ x,x<(G 0).length->(G 0++List.replicate ((G L.length).length-(G 0).length) Box.dead)[x]?=(G 0)[x]?:=fun x hx=>by rw[List.getElem?_append_left hx]
  have hlen:(G 0).length<=(G L.length).length:=mi hS _ _ (Nat.zero_le _) (Nat.le_refl _);refine⟨⟨G 0++List.replicate ((G L.length).length-(G 0).length) .dead,by simp;omega,?_,fun b=>⟨0,Nat.zero_le _,fun k h=>by omega,fun k _ _ _=>hd0 k,fun h=>hpad b h,fun h=>?_⟩⟩,by rw[hF];exact hf.size,fun t=>⟨0,Nat.zero_le _,fun k h=>by omega,fun k _ _ _=>hd0 k,fun v hv=>?_⟩⟩
  ·rw[hG] at hpad ⊢;have hb:∀ {i:Nat} {b:Box} {l:Loc},(H++List.replicate ((G L.length).length-H.length) Box.dead)[i]?=some b->mu i=some l->H[i]?=some b:=fun {i b l} h1 h2=>by rw[<- hpad i (hi0.dom i l h2)];exact h1
   exact⟨fun i b l h1 h2=>hi0.box i b l (hb h1 h2) h2,fun i l h=>by have:=hi0.dom i l h;simp;omega,hi0.old,hi0.sl,hi0.tl,fun i j bi bj li lj B hij h1 h2 h3 h4 h5 h6=>hi0.one i j bi bj li lj B hij (hb h1 h5) (hb h2 h6) h3 h4 h5 h6⟩
  ·rw[hG] at h;cases hm:mu b with
   | none=>rfl
   | some l=>have:=hi0.dom b l hm;omega
  rw[hF] at hv;obtain⟨x,hx,hr⟩:=hf.rel t v hv;exact⟨x,hx,hr.ext ex0⟩
end
section
variable {P:Program} {φ:FuncId->List V->Hp->Option (V × Hp)}
structure StepAt0 (φ:FuncId->List V->Hp->Option (V × Hp)) (F:Nat->Fr) (G:Nat->Hp) (E:Nat->Log0) (k:Nat) (o:AOp):Prop where
 ex:∃ (b:Bool) (v:V),wantedV (F k) o.g=some b∧(E k).kind=(bif b then o.a.kind (F k) else 0)∧F (k+1)=put (F k) o.dst v ∧
  (b=true->o.a.run φ (F k) (G k)=some (v,G (k+1)))∧(b=false->v=.tup []∧G (k+1)=G k)
 dst:(E k).dst=o.dst
 rds:(E k).rds=o.slots
 fz:o.fz=false
 pre:∀ j∈o.pre,j<k
 free:∀ j,j<k->j∈o.pre∨(E j).free (E k)=true
theorem nj {pre:List Nat} {e:Log0}:∀ {l:List Log0} {i:Nat},i5 pre e i l=true->∀ (j:Nat) (x:Log0),l[j]?=some x->(i+j)∈pre∨x.free e=true
 | [],i,h,j,x,hx=>by simp at hx
 | y::r,i,h,j,x,hx=>by
  simp only[i5,Bool.and_eq_true,Bool.or_eq_true] at h;cases j with
  | zero =>
   simp at hx;subst hx;rcases h.1 with h1|h1
   ·exact .inl (by simpa using h1)
   ·exact .inr h1
  | succ j =>
   have:=nj h.2 j x (by simpa using hx)
   rwa [show i+1+j=i+(j+1) by omega] at this
theorem vD {fr':Fr} {H':Hp}:∀ (r:List AOp) (lg:List Log0) (fr:Fr) (H:Hp),cY φ r lg fr H=some (fr',H') ->
  ∃ (F:Nat->Fr) (G:Nat->Hp) (E:Nat->Log0),F lg.length=fr∧G lg.length=H∧F (lg.length+r.length)=fr'∧G (lg.length+r.length)=H' ∧
   (∀ (j:Nat) (l:Log0),lg[j]?=some l->E j=l)∧∀ (k:Nat) (o:AOp),r[k]?=some o->StepAt0 φ F G E (lg.length+k) o
 | [],lg,fr,H,h=>by
  simp only[cY] at h;cases h;exact⟨fun _=>fr',fun _=>H',fun j=>lg.getD j ⟨0,none,[]⟩,rfl,rfl,rfl,rfl,fun j l hj=>by simp[List.getD,hj],fun k o hk=>by simp at hk⟩
 | o::r,lg,fr,H,h=>by
  simp only[cY] at h;split at h
  ·cases h
  ·rename_i b hb;split at h
   ·rename_i hchk;simp only[Bool.and_eq_true,Bool.not_eq_true'] at hchk;obtain⟨hfz,hpre,hfree⟩:=hchk;split at h
    ·rename_i v H1 hrun;obtain⟨F,G,E,hF,hG,hF',hG',hE,hS⟩:=vD r _ _ _ h;simp only[List.length_append,List.length_cons,List.length_nil] at hF hG hF' hG' hS;have hEk:E lg.length=⟨bif b then o.a.kind fr else 0,o.dst,o.slots⟩:=hE lg.length _ (by simp)
     refine⟨fun j=>if j=lg.length then fr else F j,fun j=>if j=lg.length then H else G j,E,by simp,by simp,?_,?_,fun j l hj=>hE j l ?_,?_⟩
     ·show(if lg.length+(o::r).length=lg.length then fr else F (lg.length+(o::r).length))=fr'
      rw[if_neg (by simp only[List.length_cons];omega),<- hF',show lg.length+(o::r).length=lg.length+(0+1)+r.length by simp only[List.length_cons];omega]
     ·show(if lg.length+(o::r).length=lg.length then H else G (lg.length+(o::r).length))=H'
      rw[if_neg (by simp only[List.length_cons];omega),<- hG',show lg.length+(o::r).length=lg.length+(0+1)+r.length by simp only[List.length_cons];omega]
     ·have hj':j<lg.length:=by
       rcases Nat.lt_or_ge j lg.length with h|h
       ·exact h
       ·rw[List.getElem?_eq_none h] at hj;cases hj
      rw[List.getElem?_append_left hj'];exact hj
     ·intro k o' hk;cases k with
      | zero =>
       simp at hk;subst hk;refine⟨⟨b,v,by simpa using hb,by simp[hEk],?_,?_,?_⟩,by simp[hEk],by simp[hEk],hfz,?_,?_⟩
       ·simp[hF]
       ·intro hbt;subst hbt;simpa[hG] using hrun
       ·intro hbf;subst hbf;simp at hrun;simp[hG,hrun]
       ·intro j hj;have:=(List.all_eq_true.1 hpre) j hj;simpa using this
       ·intro j hj;have hj':j<lg.length:=by simpa using hj
        have hx:=nj hfree j lg[j] (by simp[hj'])
        rw[Nat.zero_add] at hx;have hEj:E j=lg[j]:=hE j _ (by rw[List.getElem?_append_left hj'];simp[hj'])
        rw[Nat.add_zero,hEk,hEj];exact hx
      | succ k =>
       have hs:=hS k o' (by simpa using hk)
       rw[show lg.length+1+k=lg.length+(k+1) by omega] at hs
       obtain⟨⟨b',v',x1,x2,x3,x4,x5⟩,y1,y2,y3,y4,y5⟩:=hs;have e1:¬ (lg.length+(k+1)=lg.length):=by omega
       have e2:¬ (lg.length+(k+1)+1=lg.length):=by omega
       exact⟨⟨b',v',by simpa only[if_neg e1] using x1,by simpa only[if_neg e1] using x2,by simpa only[if_neg e1,if_neg e2] using x3,
        by simpa only[if_neg e1,if_neg e2] using x4,by simpa only[if_neg e1,if_neg e2] using x5⟩,y1,y2,y3,y4,y5⟩
    ·cases h
   ·cases h
variable {F:Nat->Fr} {G:Nat->Hp} {E:Nat->Log0} {L:List AOp}
theorem iF (hS:∀ k o,L[k]?=some o->StepAt0 φ F G E k o) {t:Nat}:∀ (b a:Nat),a<=b->b<=L.length->(∀ k,a<=k->k<b->(E k).dst≠some t)->(F a)[t]?=(F b)[t]?
 | 0,a,h,_,_=>by rw[show a=0 by omega]
 | b+1,a,h,hb,hn=>by
  rcases Nat.lt_or_ge a (b+1) with h1|h1
  ·rw[iF hS b a (by omega) (by omega) (fun k h2 h3=>hn k h2 (by omega))]
   have hs:=hS b L[b] (by simp)
   obtain⟨⟨bb,v,x1,x2,x3,x4,x5⟩,y1,_⟩:=hs;have:=hn b (by omega) (by omega)
   rw[y1] at this;rw[x3,rO,if_neg this]
  ·rw[show a=b+1 by omega]
theorem jk (hS:∀ k o,L[k]?=some o->StepAt0 φ F G E k o):∀ k,k<=L.length->(F k).length=(F 0).length
 | 0,_=>rfl
 | k+1,h=>by
  obtain⟨⟨bb,v,x1,x2,x3,x4,x5⟩,y1,_⟩:=hS k L[k] (by simp)
  rw[x3,tg,jk hS k (by omega)]
theorem jS (hS:∀ k o,L[k]?=some o->StepAt0 φ F G E k o):∀ (b a:Nat),a<=b->b<=L.length->(∀ k,a<=k->k<b->(E k).kind≠2)->G a=G b
 | 0,a,h,_,_=>by rw[show a=0 by omega]
 | b+1,a,h,hb,hn=>by
  rcases Nat.lt_or_ge a (b+1) with h1|h1
  ·rw[jS hS b a (by omega) (by omega) (fun k h2 h3=>hn k h2 (by omega))]
   obtain⟨⟨bb,v,x1,x2,x3,x4,x5⟩,y1,_⟩:=hS b L[b] (by simp)
   have:=hn b (by omega) (by omega)
   rw[x2] at this;cases bb with
   | true=>exact(td this (x4 rfl)).symm
   | false=>exact(x5 rfl).2.symm
  ·rw[show a=b+1 by omega]
structure Half0 (n:Nat) (F:Nat->Fr) (G:Nat->Hp) (E:Nat->Log0) (TB:Nat->Prop) (listed:Array Bool) (mu:Mu) (S:St) (w:World) (a:Act):Prop where
 heap:∃ m,m<=n∧(∀ k,k<m->(E k).kind=2->Dn listed k)∧(∀ k,m<=k->k<n->(E k).kind=2->¬ Dn listed k)∧Inv mu S TB w (G m)
 size:a.tmps.size=(F 0).length
 slot:∀ t,∃ m,m<=n∧(∀ k,k<m->(E k).dst=some t->Dn listed k)∧(∀ k,m<=k->k<n->(E k).dst=some t->¬ Dn listed k) ∧
  ∀ v,(F m)[t]?=some v->∃ x,a.tmps[t]?=some x∧RelV mu S w v x
theorem Ag (hg:Good P φ) {TB:Nat->Prop} {an:Nat->Nat} {ops:Array Oper} {ps:List (List Nat)} (hc:dM P an ops ps 0 ops.toList=some L)
  (hS:∀ k o,L[k]?=some o->StepAt0 φ F G E k o) {listed:Array Bool} {mu:Mu} {S:St} {w:World} {a:Act} (hsz:listed.size=L.length)
  (hcl:∀ k,Dn listed k->∀ o,L[k]?=some o->∀ j∈o.pre,Dn listed j)
  {i:Nat} (hi:i<L.length) (hnd:¬ Dn listed i) (hpre:∀ o,L[i]?=some o->∀ j∈o.pre,Dn listed j)
  (hh:Half0 L.length F G E TB listed mu S w a) {K:Act->World->Prop} {Q:Exit->Act->World->Prop}
  (hk:∀ a' w' mu' S',Ext TB mu S w mu' S' w'->Half0 L.length F G E TB (listed.setIfInBounds i true) mu' S' w' a'->a'.defers=a.defers->K a' w'):wpOp P ops Q i K a w:=by
 obtain⟨hl,hget⟩:=eL hc;have hio:i<ops.size:=by rw[hl] at hi;simpa using hi
 obtain⟨g1,g2,g3,g4⟩:=hget i ops[i] L[i] (by simp[hio]) (by simp[hi])
 obtain⟨⟨b,v,x1,x2,x3,x4,x5⟩,y1,y2,y3,y4,y5⟩:=hS i L[i] (by simp[hi])
 have hp:=hpre L[i] (by simp[hi])
 have before:∀ k,k<i->¬ Dn listed k->(E k).free (E i)=true:=fun k hki hk=>(y5 k hki).resolve_left fun h=>hk (hp k h)
 have after:∀ k,i<k->k<L.length->Dn listed k->(E i).free (E k)=true:=fun k hik hkn hk=>by
  obtain⟨_,_,_,_,_,z5⟩:=hS k L[k] (by simp[hkn])
  exact(z5 i hik).resolve_left fun h=>hnd (hcl k hk L[k] (by simp[hkn]) i h)
 have hfree:∀ x y:Log0,x.free y=true->(∀ d,x.dst=some d->d ∉ y.rds∧y.dst≠some d)∧(∀ d,y.dst=some d->d ∉ x.rds∧x.dst≠some d)∧(x.kind=0∨y.kind=0∨(x.kind=1∧y.kind=1)):=by
  intro x y h;simp only[Log0.free,Bool.and_eq_true,Bool.or_eq_true,beq_iff_eq] at h;obtain⟨⟨h1,h2⟩,h3⟩:=h;have e1:∀ d,x.dst=some d->d ∉ y.rds∧y.dst≠some d:=by
   intro d hd;rw[hd] at h1;simpa using h1
  refine⟨e1,fun d hd=>?_,?_⟩
  ·rw[hd] at h2;refine⟨by simpa using h2,fun hx=>(e1 d hx).2 hd⟩
  ·rcases h3 with(h3|h3)|h3
   ·exact .inl h3
   ·exact .inr (.inl h3)
   ·exact .inr (.inr h3)
 have hslots:∀ t∈L[i].slots,∀ v,(F i)[t]?=some v->∃ x,a.tmps[t]?=some x∧RelV mu S w v x:=by
  intro t ht v hv;obtain⟨m,hm,m1,m2,m3⟩:=hh.slot t;apply m3;rw[<- hv];rcases Nat.le_total m i with hmi|hmi
  ·refine iF hS i m hmi (by omega) fun k h1 h2 h3=>?_
   have:=(hfree _ _ (before k h2 (m2 k h1 (by omega) h3))).1 t h3
   exact this.1 (y2 ▸ ht)
  ·refine(iF hS m i hmi hm fun k h1 h2 h3=>?_).symm
   have hd:=m1 k h2 h3;rcases Nat.lt_or_ge i k with h4|h4
   ·have:=(hfree _ _ (after k h4 (by omega) hd)).2.1 t h3
    exact this.1 (y2 ▸ ht)
   ·exact hnd (by rwa [show i=k by omega])
 have hfr:RelFr mu S w (aY L[i].slots (F i)) a:=by
  refine⟨by rw[hh.size];simp[aY,jk hS i (by omega)],fun t v ht=>?_⟩
  by_cases hts:t∈L[i].slots
  ·rw[bc hts] at ht;exact hslots t hts v ht
  ·simp only[aY,List.getElem?_mapIdx,Option.map_eq_some_iff] at ht;obtain⟨u,hu,rfl⟩:=ht;have hlt:t<a.tmps.size:=by
    rw[hh.size,<- jk hS i (by omega)]
    rcases Nat.lt_or_ge t (F i).length with h|h
    ·exact h
    ·rw[List.getElem?_eq_none h] at hu;cases hu
   refine⟨a.tmps[t],by simp[hlt],?_⟩
   rw[if_neg (by simpa using hts)]
   trivial
 obtain⟨m,hm,m1,m2,hinv⟩:=hh.heap;have hheap:(E i).kind≠0->G i=G m:=by
  intro hk0;have hb1:∀ k,k<i->(E k).kind=2->Dn listed k:=fun k hki hk2=>Classical.byContradiction fun hnk=>by
   have:=(hfree _ _ (before k hki hnk)).2.2;rw[hk2] at this;omega
  have hb2:∀ k,i<k->k<L.length->(E k).kind=2->¬ Dn listed k:=fun k hik hkn hk2 hdk=>by
   have:=(hfree _ _ (after k hik hkn hdk)).2.2;rw[hk2] at this;omega
  rcases Nat.le_total m i with hmi|hmi
  ·exact(jS hS i m hmi (by omega) fun k h1 h2 h3=>m2 k h1 (by omega) h3 (hb1 k h2 h3)).symm
  ·refine jS hS m i hmi hm fun k h1 h2 h3=>?_
   have hd:=m1 k h2 h3;rcases Nat.lt_or_ge i k with h4|h4
   ·exact hb2 k h4 (by omega) h3 hd
   ·exact hnd (by rwa [show i=k by omega])
 have hset:∀ k,Dn (listed.setIfInBounds i true) k↔k=i∨Dn listed k:=fun k=>vV (by omega)
 have uw:∀ (x:Value) (w':World) (mu':Mu) (S':St) (H1:Hp),Ext TB mu S w mu' S' w'->Inv mu' S' TB w' H1->RelV mu' S' w' v x->((E i).kind=2->H1=G (i+1))->((E i).kind≠2->H1=G m) ->
   K (a.put ops[i].dst x) w':=by
  intro x w' mu' S' H1 ex i1 rx hH2 hH0;refine hk _ _ mu' S' ex ⟨?_,by rw[lB];exact hh.size,fun t=>?_⟩ (eG _ _ _)
  ·by_cases h2:(E i).kind=2
   ·refine⟨i+1,by omega,fun k hk1 hk2=>(hset k).2 ?_,fun k hk1 hkn hk2 hd=>?_,hH2 h2 ▸ i1⟩
    ·rcases Nat.lt_or_ge k i with h|h
     ·refine .inr (Classical.byContradiction fun hnk=>?_)
      have:=(hfree _ _ (before k h hnk)).2.2;omega
     ·exact .inl (by omega)
    ·rcases(hset k).1 hd with h|h
     ·omega
     ·have:=(hfree _ _ (after k (by omega) hkn h)).2.2
      omega
   ·refine⟨m,hm,fun k hk1 hk2=>(hset k).2 (.inr (m1 k hk1 hk2)),fun k hk1 hkn hk2 hd=>?_,hH0 h2 ▸ i1⟩
    rcases(hset k).1 hd with h|h
    ·subst h;exact h2 hk2
    ·exact m2 k hk1 hkn hk2 h
  ·by_cases ht:(E i).dst=some t
   ·have hdt:ops[i].dst=some t:=by rw[<- g3,<- y1];exact ht
    refine⟨i+1,by omega,fun k hk1 hk2=>(hset k).2 ?_,fun k hk1 hkn hk2 hd=>?_,fun u hu=>?_⟩
    ·rcases Nat.lt_or_ge k i with h|h
     ·refine .inr (Classical.byContradiction fun hnk=>?_)
      exact((hfree _ _ (before k h hnk)).1 t hk2).2 ht
     ·exact .inl (by omega)
    ·rcases(hset k).1 hd with h|h
     ·omega
     ·exact((hfree _ _ (after k (by omega) hkn h)).1 t ht).2 hk2
    ·rw[x3,rO,if_pos (by rw[<- y1];exact ht)] at hu
     split at hu
     ·rename_i hlt;cases hu;refine⟨x,?_,rx⟩;rw[jI,if_pos hdt,if_pos];rw[hh.size,<- jk hS i (by omega)];exact hlt
     ·cases hu
   ·have hdt:ops[i].dst≠some t:=by rw[<- g3,<- y1];exact ht
    obtain⟨q,hq,q1,q2,q3⟩:=hh.slot t;refine⟨q,hq,fun k hk1 hk2=>(hset k).2 (.inr (q1 k hk1 hk2)),fun k hk1 hkn hk2 hd=>?_,fun u hu=>?_⟩
    ·rcases(hset k).1 hd with h|h
     ·subst h;exact ht hk2
     ·exact q2 k hk1 hkn hk2 h
    ·obtain⟨y,hy,hr⟩:=q3 u hu;refine⟨y,?_,hr.ext ex⟩;rw[jI,if_neg hdt];exact hy
 have hwk:wantedV (aY L[i].slots (F i)) L[i].g=some b:=ni x1 fun t w hgw=>by
  simp only[AOp.slots,hgw,List.mem_append];exact .inr (List.mem_singleton_self _)
 unfold wpOp;simp only[show ops[i]?=some ops[i] by simp[hio]]
 rw[mC g2 hfr hwk];cases b with
 | true =>
  simp only[if_true];left
  have hrun:∃ H1,L[i].a.run φ (aY L[i].slots (F i)) (G m)=some (v,H1)∧((E i).kind=2->H1=G (i+1))∧((E i).kind≠2->H1=G m):=by
   have hcg:∀ H,L[i].a.run φ (aY L[i].slots (F i)) H=L[i].a.run φ (F i) H:=fun H=>qo fun t ht=>bc (by
    simp only[AOp.slots,List.mem_append];exact .inl ht)
   simp only[hcg];simp only[cond_true] at x2;have hr:=x4 rfl;by_cases h0:(E i).kind=0
   ·obtain⟨_,h2⟩:=mQ (by rw[<- x2];exact h0) hr
    exact⟨G m,h2 _,fun h=>by omega,fun _=>rfl⟩
   ·rw[<- hheap h0];refine⟨G (i+1),hr,fun _=>rfl,fun h=>td (by rw[<- x2];exact h) hr⟩
  obtain⟨H1,hr,hH2,hH0⟩:=hrun;rw[y3] at *;have g1':bJ P (if an (0+i)=2 then 0 else an (0+i)) ops[i].op=some L[i].a:=g1
  exact y0 hg g1' hinv hfr hr K Q fun x w' mu' S' ex i1 rx=>uw x w' mu' S' H1 ex i1 rx hH2 hH0
 | false =>
  rw[if_neg (by simp)]
  obtain⟨rfl,hG⟩:=x5 rfl;simp only[cond_false] at x2;exact uw undef w mu S (G m) (.refl _ _ _ _) hinv gO (fun h=>by omega) (fun _=>rfl)
theorem EA (hg:Good P φ) {TB:Nat->Prop} {an:Nat->Nat} {ops:Array Oper} (hc:dM P an ops (eH ops.toList []) 0 ops.toList=some L)
  (hS:∀ k o,L[k]?=some o->StepAt0 φ F G E k o) {Q:Exit->Act->World->Prop} {mu:Mu} {S:St} {w:World} {a:Act}
  (hQ:∀ a' w' mu' S',Ext TB mu S w mu' S' w'->Inv mu' S' TB w' (G L.length)->RelFr mu' S' w' (F L.length) a'->a'.defers=a.defers->Q .normal a' w') :
  ∀ (fuel:Nat) (listed:Array Bool) (mu1:Mu) (S1:St) (w1:World) (a1:Act),listed.size=L.length->listed.toList.count false<=fuel ->
   (∀ k,Dn listed k->∀ o,L[k]?=some o->∀ j∈o.pre,Dn listed j)->Half0 L.length F G E TB listed mu1 S1 w1 a1->Ext TB mu S w mu1 S1 w1->a1.defers=a.defers ->
   wpAny P .any ops Q fuel listed a1 w1:=by
 obtain⟨hl,hget⟩:=eL hc;have hsz:L.length=ops.size:=by simpa using hl
 have hready:∀ (listed:Array Bool) (i:Nat),listed.size=L.length->(∀ k,Dn listed k->∀ o,L[k]?=some o->∀ j∈o.pre,Dn listed j)->i∈Region.ready .any ops listed ->
   i<L.length∧¬ Dn listed i∧∀ o,L[i]?=some o->∀ j∈o.pre,Dn listed j:=by
  intro listed i hls hcl hi;rw[mem_ready] at hi;obtain⟨h0,o,ho,hall⟩:=hi;have hio:i<ops.size:=by
   rcases Nat.lt_or_ge i ops.size with h|h
   ·exact h
   ·rw[Array.getElem?_eq_none h] at ho;cases ho
  refine⟨by omega,?_,fun ao hao j hj=>?_⟩
  ·unfold Dn;have:i<listed.size:=by omega
   simp only[Array.getD,this,dite_true] at h0 ⊢;rw[h0];simp
  ·obtain⟨_,_,_,g4⟩:=hget i o ao (by simpa using ho) hao
   rw[g4,Nat.zero_add,jU (o:=o) (by simpa using ho)] at hj
   obtain⟨e,he,hb,hx⟩:=hj;have hd:=hall e (by simpa using he) hb
   rcases hx with rfl|⟨hlt,hx⟩
   ·exact hd
   ·have hen:e.on<L.length:=by omega
    obtain⟨_,_,_,g4'⟩:=hget e.on ops[e.on] L[e.on] (by simp <;> omega) (by simp[hen])
    refine hcl e.on hd L[e.on] (by simp[hen]) j ?_
    rw[g4',Nat.zero_add];exact hx
 have hdone:∀ listed:Array Bool,listed.size=L.length->Region.ready .any ops listed=[]->∀ k,k<L.length->Dn listed k:=by
  intro listed hls hr k;induction k using Nat.strongRecOn with
  | ind k ih =>
   intro hk;apply Classical.byContradiction;intro hnd;have:k∈Region.ready .any ops listed:=by
    rw[mem_ready];have hks:k<listed.size:=by omega
    refine⟨?_,ops[k]'(by omega),by simp <;> omega,fun e he hb=>?_⟩
    ·unfold Dn at hnd;simp only[Array.getD,hks,dite_true] at hnd ⊢;simpa using hnd
    ·obtain⟨_,_,_,g4⟩:=hget k (ops[k]'(by omega)) L[k] (by simp <;> omega) (by simp[hk])
     obtain⟨_,_,_,_,z4,_⟩:=hS k L[k] (by simp[hk])
     have hm:e.on∈L[k].pre:=by
      rw[g4,Nat.zero_add,jU (o:=ops[k]'(by omega)) (by simp <;> omega)]
      exact⟨e,by simpa using he,hb,.inl rfl⟩
     have:=z4 _ hm;exact ih e.on this (by omega)
   rw[hr] at this;cases this
 have hend:∀ (listed:Array Bool) (mu1:Mu) (S1:St) (w1:World) (a1:Act),listed.size=L.length->Region.ready .any ops listed=[]->Half0 L.length F G E TB listed mu1 S1 w1 a1 ->
   Ext TB mu S w mu1 S1 w1->a1.defers=a.defers->Q .normal a1 w1:=by
  intro listed mu1 S1 w1 a1 hls hr hh ex hdf;have hd:=hdone listed hls hr;obtain⟨m,hm,m1,m2,hinv⟩:=hh.heap;have hGm:G m=G L.length:=jS hS L.length m hm (Nat.le_refl _) fun k h1 h2 h3=>m2 k h1 h2 h3 (hd k h2)
  refine hQ a1 w1 mu1 S1 ex (hGm ▸ hinv) ⟨by rw[hh.size,jk hS L.length (Nat.le_refl _)],fun t v ht=>?_⟩ hdf
  obtain⟨q,hq,q1,q2,q3⟩:=hh.slot t;apply q3;rw[<- ht];exact iF hS L.length q hq (Nat.le_refl _) fun k h1 h2 h3=>q2 k h1 h2 h3 (hd k h2)
 intro fuel;induction fuel with
 | zero =>
  intro listed mu1 S1 w1 a1 hls hcnt hcl hh ex hdf;have hr:Region.ready .any ops listed=[]:=by
   apply List.eq_nil_iff_forall_not_mem.2;intro i hi;obtain⟨h1,h2,_⟩:=hready listed i hls hcl hi;have hz:listed.toList.count false=0:=by omega
   rw[List.count_eq_zero] at hz;apply h2;have his:i<listed.size:=by omega
   unfold Dn;simp only[Array.getD,his,dite_true];cases hv:listed[i] with
   | true=>exact hv
   | false=>exact absurd (by rw[<- hv];simp) hz
  exact⟨hr,hend listed mu1 S1 w1 a1 hls hr hh ex hdf⟩
 | succ fuel ih =>
  intro listed mu1 S1 w1 a1 hls hcnt hcl hh ex hdf;refine⟨fun hr=>hend listed mu1 S1 w1 a1 hls hr hh ex hdf,fun i hi=>?_⟩
  obtain⟨h1,h2,h3⟩:=hready listed i hls hcl hi;refine Ag hg hc hS hls hcl h1 h2 h3 hh fun a' w' mu' S' ex' hh' hdf'=>?_
  have his:i<listed.size:=by omega
  refine ih _ mu' S' w' a' (by simp[hls]) ?_ (fun k hk o ho j hj=>?_) hh' (ex.trans ex') (hdf'.trans hdf)
  ·have hv:listed[i]=false:=by
    unfold Dn at h2;simp only[Array.getD,his,dite_true] at h2;simpa using h2
   rw[Array.toList_setIfInBounds,List.count_set (by simpa using his)]
   have:(listed.toList[i]'(by simpa using his))=false:=by simpa using hv
   rw[this,if_pos (by decide:(false == false)=true),if_neg (by decide:¬ ((true == false)=true))]
   omega
  ·rw[vV his] at hk ⊢;rcases hk with rfl|hk
   ·exact .inr (h3 o ho j hj)
   ·exact .inr (hcl k hk o ho j hj)
def OD (P:Program) (φ:FuncId->List V->Hp->Option (V × Hp)):Prop :=
 ∀ (TB:Nat->Prop) (an:Nat->Nat) (ops:Array Oper) (id:Nat) (L:List AOp),dM P an ops (eH ops.toList []) 0 ops.toList=some L ->
  ∀ (mu:Mu) (S:St) (w:World) (H H':Hp) (fr fr':Fr) (a:Act) (Q:Exit->Act->World->Prop),cY φ L [] fr H=some (fr',H')->Inv mu S TB w H->RelFr mu S w fr a ->
   (∀ a' w' mu' S',Ext TB mu S w mu' S' w'->Inv mu' S' TB w' H'->RelFr mu' S' w' fr' a'->a'.defers=a.defers->Q .normal a' w')->(Code.region id ops true).wp P Q a w
theorem Gt (hm:P.follows .mixedOrders=true) (hg:Good P φ):OD P φ:=by
 intro TB an ops id L hc mu S w H H' fr fr' a Q hrun hi hf hQ;obtain⟨F,G,E,hF,hG,hF',hG',_,hS⟩:=vD L [] fr H hrun;simp only[List.length_nil,Nat.zero_add] at hF hG hF' hG' hS;obtain⟨hl,hget⟩:=eL hc;have hsz:L.length=ops.size:=by simpa using hl
 apply wp_region_any hm;have hd0:∀ k,¬ Dn (Array.replicate ops.size false) k:=by
  intro k h;unfold Dn at h;simp only[Array.getD] at h;split at h <;> simp at h
 have ex0:Ext TB mu S w mu S { w with drawn:=w.drawn+1 }:=⟨fun _ _ h=>h,fun _ _ h=>h,fun _ _ _ h=>h,fun _ _ _=>rfl,fun _ _=>rfl,Nat.le_refl _,rfl,rfl,rfl⟩
 have hi0:Inv mu S TB { w with drawn:=w.drawn+1 } H:=by
  refine⟨fun i b l hb hl=>?_,hi.dom,hi.old,hi.sl,hi.tl,hi.one⟩
  have:=hi.box i b l hb hl;cases b with
  | dead=>trivial
  | mp rows=>exact this
  | cells xs =>
   obtain⟨l,B,cur,e,h1,h2,h3,h4,h5,h6⟩:=this;exact⟨l,B,cur,e,h1,h2,h3,h4.ext ex0,h5,h6⟩
  | arr sz rows fz =>
   obtain⟨l,h1,h2,h3,h4,h5,h6⟩:=this;refine⟨l,h1,h2,h3,h4,h5,?_⟩;cases hbk:l.blk with
   | none=>rw[hbk] at h6;exact h6
   | some B =>
    rw[hbk] at h6;obtain⟨cur,e,ff,k1,k2,k3,k4,k5,k6,k7,k8⟩:=h6;exact⟨cur,e,ff,k1,k2,k3,k4,k5,fun k j r d hr hd=>by obtain⟨v,hv,hrel⟩:=k6 k j r d hr hd;exact⟨v,hv,hrel.ext ex0⟩,k7,k8⟩
 refine EA hg hc hS (mu:=mu) (S:=S) (w:=w) (a:=a) (fun a' w' mu' S' ex i1 f1 hdf=>hQ a' w' mu' S' ex (hG' ▸ i1) (hF' ▸ f1) hdf) ops.size _ mu S _ a (by simp[hsz]) ?_ (fun k hk=>absurd hk (hd0 k)) ?_ ex0 rfl
 ·simp[List.count_replicate]
 ·refine⟨⟨0,Nat.zero_le _,fun k h=>by omega,fun k _ _ _=>hd0 k,by rw[hG];exact hi0⟩,by rw[hF];exact hf.size,fun t=>⟨0,Nat.zero_le _,fun k h=>by omega,fun k _ _ _=>hd0 k,fun v hv=>?_⟩⟩
  rw[hF] at hv;obtain⟨x,hx,hr⟩:=hf.rel t v hv;exact⟨x,hx,hr.ext ex0⟩
end
theorem Cj {P:Program} {φ:FuncId->List V->Hp->Option (V × Hp)} (hm:P.follows .mixedOrders=true) (hg:Good P φ):gN P φ:=by
 intro TB an ops id L hc mu S w H H' fr fr' a Q hrun hi hf hQ;simp only[cS] at hrun;cases hs:ju L [] with
 | true=>rw[hs] at hrun;exact Gt hm hg TB an ops id L hc mu S w H H' fr fr' a Q hrun hi hf hQ
 | false=>rw[hs] at hrun;exact Fp hm hg TB an ops id L hc mu S w H H' fr fr' a Q hrun hi hf hQ
def RelQ (S:St) (w:World) (ds:List D) (cs:List Value):Prop:=cs.length=ds.length∧∀ (j:Nat) (d:D),ds[j]?=some d->∃ v,cs[j]?=some v∧RelD S w d v
def jn (W:TypeId->List D->Prop) (sz:TypeId->Nat):List TypeId->List D->Prop
 | [],ds=>ds=[]
 | f::fs,ds=>∃ p r,ds=p++r∧p.length=sz f∧W f p∧jn W sz fs r
def xq (P:Program):Nat->TypeId->List D->Prop
 | 0,_,_=>False
 | n+1,t,ds=>match P.underlying t with
  | some .bool=>∃ b,ds=[.b b]
  | some (.int k)=>∃ x,ds=[.i k x]∧(Lit.int k x).wf=true
  | some .string=>∃ l:List UInt8,ds=[.s l]∧l.length<=maxLen
  | some (.slice e)=>∃ rows,ds=[.l rows]∧rows.length<=maxLen∧∀ r∈rows,r.length=P.cellsOf e∧xq P n e r
  | some (.struct fs)=>jn (xq P n) P.cellsOf (fs.toList.map (·.type)) ds
  | some (.array m e)=>jn (xq P n) P.cellsOf (List.replicate m e) ds
  | _=>False
def y7 (sz:TypeId->Nat):Nat->List Field->Nat->Bool
 | off,[],total=>off == total
 | off,f::fs,total=>f.offset == off && y7 sz (off+sz f.type) fs total
def gJ (P:Program):Nat->TypeId->Bool
 | 0,_=>false
 | n+1,t=>match P.underlying t with
  | some .bool=>true
  | some (.int _)=>true
  | some .string=>true
  | some (.slice e)=>gJ P n e && decide (0<P.cellsOf e)
  | some (.struct fs)=>y7 P.cellsOf 0 fs.toList (P.cellsOf t) && fs.toList.all fun f=>gJ P n f.type
  | some (.array m e)=>gJ P n e && P.cellsOf t == m*P.cellsOf e
  | _=>false
theorem Cq {β:Type} {p:Nat->β->Prop}:∀ {n:Nat},(∀ i,i<n->∃ r,p i r)->∃ l:List β,l.length=n∧∀ (i:Nat) (r:β),l[i]?=some r->p i r
 | 0,_=>⟨[],rfl,fun i r h=>by simp at h⟩
 | n+1,h=>by
  obtain⟨l,hl,hp⟩:=Cq (n:=n) (fun i hi=>h i (by omega))
  obtain⟨r,hr⟩:=h n (by omega)
  refine⟨l++[r],by simp[hl],fun i x hx=>?_⟩
  rcases Nat.lt_or_ge i n with hi|hi
  ·rw[List.getElem?_append_left (by omega)] at hx;exact hp i x hx
  ·rw[List.getElem?_append_right (by omega)] at hx
   have:i=n:=by
    have:=(List.getElem?_eq_some_iff.1 hx).1;simp at this;omega
   subst this;simp[hl] at hx;subst hx;exact hr
theorem RelQ.append {S:St} {w:World} {d1 d2:List D} {c1 c2:List Value} (h1:RelQ S w d1 c1) (h2:RelQ S w d2 c2):RelQ S w (d1++d2) (c1++c2):=by
 refine⟨by simp[h1.1,h2.1],fun j d hj=>?_⟩
 rcases Nat.lt_or_ge j d1.length with h|h
 ·rw[List.getElem?_append_left h] at hj;rw[List.getElem?_append_left (by rw[h1.1];exact h)]
  exact h1.2 j d hj
 ·rw[List.getElem?_append_right h] at hj;rw[List.getElem?_append_right (by rw[h1.1];exact h),h1.1]
  exact h2.2 _ d hj
theorem RelQ.one {S:St} {w:World} {d:D} {v:Value} (h:RelD S w d v):RelQ S w [d] [v]:=by
 refine⟨rfl,fun j x hj=>?_⟩
 cases j with
 | zero=>simp at hj;subst hj;exact⟨v,rfl,h⟩
 | succ j=>simp at hj
section
variable {H:Type} {enc:TypeId × Value->H} {P:Program} {w:World} {spare:Nat->Bool} {held:Bool}
theorem qM {n:Nat} {cs:List Value} {total:Nat} (ht:cs.length=total)
  (ih:∀ t,gJ P n t=true->∀ cs' x fuel,DataW.trod enc P w 0 spare held fuel t cs'=some x->∃ ds,RelQ (fun b _=>b<w.heap.size) w ds cs'∧xq P n t ds) (fuel:Nat) :
  ∀ (fs:List Field) (off:Nat),y7 P.cellsOf off fs total=true->(∀ f∈fs,gJ P n f.type=true)->(∀ f∈fs,∃ x,DataW.trod enc P w 0 spare held fuel f.type ((cs.drop f.offset).take (P.cellsOf f.type))=some x)->off<=total ->
   ∃ ds,RelQ (fun b _=>b<w.heap.size) w ds (cs.drop off)∧jn (xq P n) P.cellsOf (fs.map (·.type)) ds
 | [],off,hs,hp,hx,hle=>by
  simp only[y7,beq_iff_eq] at hs;refine⟨[],⟨by simp;omega,fun j d hj=>by simp at hj⟩,rfl⟩
 | f::fs,off,hs,hp,hx,hle=>by
  simp only[y7,Bool.and_eq_true,beq_iff_eq] at hs;obtain⟨hf,hs⟩:=hs;have hle2:off+P.cellsOf f.type<=total:=by
   have key:∀ (fs:List Field) (a:Nat),y7 P.cellsOf a fs total=true->a<=total:=by
    intro fs;induction fs with
    | nil=>intro a h;simp only[y7,beq_iff_eq] at h;omega
    | cons g gs ihg=>intro a h;simp only[y7,Bool.and_eq_true,beq_iff_eq] at h;have:=ihg _ h.2;omega
   exact key fs _ hs
  obtain⟨x,hx1⟩:=hx f (List.mem_cons_self ..);rw[hf] at hx1;obtain⟨d1,r1,w1⟩:=ih f.type (hp f (List.mem_cons_self ..)) _ _ _ hx1;obtain⟨d2,r2,w2⟩:=qM ht ih fuel fs _ hs (fun g hg=>hp g (List.mem_cons_of_mem _ hg)) (fun g hg=>hx g (List.mem_cons_of_mem _ hg)) hle2
  refine⟨d1++d2,?_,d1,d2,rfl,?_,w1,w2⟩
  ·have:=r1.append r2;rwa [<- List.drop_drop,List.take_append_drop] at this
  ·rw[<- r1.1];simp;omega
theorem yY {n:Nat} {e:TypeId} {cs:List Value}
  (ih:∀ cs' x fuel,DataW.trod enc P w 0 spare held fuel e cs'=some x->∃ ds,RelQ (fun b _=>b<w.heap.size) w ds cs'∧xq P n e ds) (fuel:Nat) :
  ∀ (m k:Nat),cs.length=(k+m)*P.cellsOf e->(∀ i,i<k+m->∃ x,DataW.trod enc P w 0 spare held fuel e ((cs.drop (i*P.cellsOf e)).take (P.cellsOf e))=some x) ->
   ∃ ds,RelQ (fun b _=>b<w.heap.size) w ds (cs.drop (k*P.cellsOf e))∧jn (xq P n) P.cellsOf (List.replicate m e) ds
 | 0,k,hl,hx=>⟨[],⟨by simp[hl],fun j d hj=>by simp at hj⟩,rfl⟩
 | m+1,k,hl,hx=>by
  obtain⟨x,hx1⟩:=hx k (by omega)
  obtain⟨d1,r1,w1⟩:=ih _ _ _ hx1;obtain⟨d2,r2,w2⟩:=yY ih fuel m (k+1) (by rw[hl];congr 1;omega) (fun i hi=>hx i (by omega))
  refine⟨d1++d2,?_,d1,d2,rfl,?_,w1,w2⟩
  ·have:=r1.append r2;rwa [Nat.add_mul,Nat.one_mul,<- List.drop_drop,List.take_append_drop] at this
  ·rw[<- r1.1];have:(k+1)*P.cellsOf e<=(k+(m+1))*P.cellsOf e:=Nat.mul_le_mul_right _ (by omega)
   rw[Nat.add_mul] at this;simp;omega
theorem mT {a:Addr} {n:Nat} {ci:List Value} (h:w.cells? 0 a n=some ci):ci.length=n∧∀ j,j<n->∃ v,ci[j]?=some v∧w.cell? (a.add j)=some v:=by
 unfold World.cells? at h;rw[if_pos (Nat.zero_le _)] at h;have key:∀ (l:List Nat) (r:List Value),l.mapM (fun i=>w.cell? (a.add i))=some r->r.length=l.length∧∀ (j i:Nat),l[j]?=some i->∃ v,r[j]?=some v∧w.cell? (a.add i)=some v:=by
  intro l;induction l with
  | nil=>intro r hr;simp at hr;subst hr;exact⟨rfl,fun j i hj=>by simp at hj⟩
  | cons b l ih =>
   intro r hr;rw[List.mapM_cons] at hr;cases hb:w.cell? (a.add b) with
   | none=>rw[hb] at hr;simp at hr
   | some v =>
    rw[hb] at hr;cases hl:l.mapM (fun i=>w.cell? (a.add i)) with
    | none=>rw[hl] at hr;simp at hr
    | some vs =>
     rw[hl] at hr;simp at hr;subst hr;obtain⟨e1,e2⟩:=ih vs hl;refine⟨by simp[e1],fun j i hj=>?_⟩
     cases j with
     | zero=>simp at hj;subst hj;exact⟨v,rfl,hb⟩
     | succ j=>simpa using e2 j i (by simpa using hj)
 obtain⟨e1,e2⟩:=key _ _ h;refine⟨by simpa using e1,fun j hj=>e2 j j (by simp[hj])⟩
theorem u9:∀ (n:Nat) (t:TypeId),gJ P n t=true->∀ (cs:List Value) (x:DataW H × List MemPlace) (fuel:Nat),DataW.trod enc P w 0 spare held fuel t cs=some x->∃ ds,RelQ (fun b _=>b<w.heap.size) w ds cs∧xq P n t ds
 | 0,t,hp,_,_,_,_=>by simp[gJ] at hp
 | n+1,t,hp,cs,x,fuel,hx=>by
  have ih:=fun t hp cs x fuel hx=>u9 n t hp cs x fuel hx
  unfold xq;unfold gJ at hp;cases hu:P.underlying t with
  | none=>rw[hu] at hp;simp at hp
  | some u =>
   rw[hu] at hp;cases u;case bool =>
    obtain⟨b,rfl,_⟩:=DataW.trod_bool hu hx;exact⟨[.b b],.one (.b b),b,rfl⟩
   case int k =>
    obtain⟨m,rfl,_,hw⟩:=DataW.trod_int hu hx;exact⟨[.i k m],.one (.i k m),m,rfl,hw⟩
   case string =>
    obtain⟨s,rfl,_,hw⟩:=DataW.trod_string hu hx;refine⟨[.s s.data.toList],.one ?_,_,rfl,by rw[Array.length_toList];exact hw⟩
    have e:(⟨s.data.toList.toArray⟩:ByteArray)=s:=by rw[Array.toArray_toList]
    have:=RelD.s (S:=fun b _=>b<w.heap.size) (w:=w) s.data.toList
    rwa [e] at this
   case slice e =>
    simp only[Bool.and_eq_true,decide_eq_true_eq] at hp;rcases DataW.trod_slice hu hx with⟨rfl,_⟩|⟨a,len,cap,elems,rest,m,rfl,rfl,_,_,hlc,hcm,hel,hget,_⟩
    ·exact⟨[.l []],.one (.nil none 0 (fun _=>rfl)),[],rfl,Nat.zero_le _,fun r hr=>by cases hr⟩
    ·rcases Nat.eq_zero_or_pos len with h0|h0
     ·subst h0;exact⟨[.l []],.one (.nil _ _ (fun he=>by cases he)),[],rfl,Nat.zero_le _,fun r hr=>by cases hr⟩
     ·have hrow:∀ i,i<len->∃ r:List D,r.length=P.cellsOf e∧xq P n e r∧∃ ci,w.cells? 0 (a.add (i*P.cellsOf e)) (P.cellsOf e)=some ci∧RelQ (fun b _=>b<w.heap.size) w r ci:=by
       intro i hi;have h1:=hget i hi;rw[List.getElem?_eq_getElem (by omega)] at h1
       simp only[Option.bind_eq_some_iff] at h1;obtain⟨ci,hci,htr⟩:=h1;obtain⟨ds,hr,hw⟩:=ih e hp.1 ci _ _ htr;exact⟨ds,by rw[<- hr.1];exact(mT hci).1,hw,ci,hci,hr⟩
      obtain⟨rows,hrl,hrp⟩:=Cq hrow;have hsp:a.spot=none:=by
       obtain⟨r,_,_,ci,hci,_⟩:=hrow 0 h0;obtain⟨v,_,hv⟩:=(mT hci).2 0 hp.2;rw[Nat.zero_mul] at hv;simp only[Addr.add,if_true,World.cell?] at hv;split at hv
       ·split at hv
        ·cases hv
        ·rename_i h;simpa using h
       ·cases hv
      obtain⟨B,off,sp⟩:=a;simp only at hsp;subst hsp;have hadd:∀ i j:Nat,((⟨B,off,none⟩:Addr).add (i*P.cellsOf e)).add j=⟨B,off+i*P.cellsOf e+j,none⟩:=by
       intro i j;simp only[eQ]
      have hcell:∀ i j,i<len->j<P.cellsOf e->∃ v,w.cell? ⟨B,off+i*P.cellsOf e+j,none⟩=some v:=by
       intro i j hi hj;obtain⟨r,_,_,ci,hci,_⟩:=hrow i hi;obtain⟨v,_,hv⟩:=(mT hci).2 j hj;rw[hadd] at hv;exact⟨v,hv⟩
      have hblk:B<w.heap.size:=by
       obtain⟨v,hv⟩:=hcell 0 0 h0 hp.2;simp only[World.cell?] at hv;split at hv
       ·rename_i hb;exact(Array.getElem?_eq_some_iff.1 hb).1
       ·cases hv
      refine⟨[.l rows],.one ?_,rows,rfl,by omega,fun r hr=>?_⟩
      ·rw[<- hrl];refine .l rows (P.cellsOf e) B off cap (fun i j=>(w.cell? ⟨B,off+i*P.cellsOf e+j,none⟩).getD (.bool false)) (by omega) (fun r hr=>?_) (fun i j _ _=>hblk) (fun i j hi hj=>?_) (fun i j r d hr hd=>?_)
       ·obtain⟨i,hi,rfl⟩:=List.getElem_of_mem hr;exact(hrp i _ (List.getElem?_eq_getElem hi)).1
       ·obtain⟨v,hv⟩:=hcell i j (by omega) hj
        rw[hv];rfl
       ·obtain⟨hl,_,ci,hci,hq⟩:=hrp i r hr;have hj:j<P.cellsOf e:=by rw[<- hl];exact(List.getElem?_eq_some_iff.1 hd).1
        obtain⟨v,hv,hv2⟩:=(mT hci).2 j hj;obtain⟨v',hv',hrel⟩:=hq.2 j d hd;rw[hv] at hv';cases hv';rw[hadd] at hv2;simp only[hv2,Option.getD_some];exact hrel
      ·obtain⟨i,hi,rfl⟩:=List.getElem_of_mem hr;obtain⟨h1,h2,_⟩:=hrp i _ (List.getElem?_eq_getElem hi);exact⟨h1,h2⟩
   case struct fs =>
    simp only[Bool.and_eq_true,List.all_eq_true] at hp;obtain⟨xs,m,rfl,_,hl,hxl,hf⟩:=DataW.trod_struct hu hx;have:=qM (n:=n) hl (fun t hp cs x fuel hx=>ih t hp cs x fuel hx) m fs.toList 0 hp.1 (fun f hf=>hp.2 f hf) (fun f hfm=>by
     obtain⟨i,hi,rfl⟩:=List.getElem_of_mem hfm;have h1:=hf i (fs.toList[i]) (by simp)
     have hi':i<fs.size:=by simpa using hi
     rw[List.getElem?_eq_getElem (by omega)] at h1
     exact⟨_,h1⟩) (Nat.zero_le _)
    rwa [List.drop_zero] at this
   case array k e =>
    simp only[Bool.and_eq_true,beq_iff_eq] at hp;obtain⟨xs,m,rfl,_,hl,hxl,hf⟩:=DataW.trod_array hu hx;have:=yY (n:=n) (fun cs x fuel hx=>ih e hp.1 cs x fuel hx) m k 0 (by rw[hl,hp.2];simp) (fun i hi=>by
     have h1:=hf i (by omega)
     rw[List.getElem?_eq_getElem (by omega)] at h1
     exact⟨_,h1⟩)
    rwa [Nat.zero_mul,List.drop_zero] at this
   all_goals simp at hp
end
open Go.ChangeShapes Go.WideShapes Go.ChangeAt Go.RowKit
def zh (P:Program) (n:Nat) (t:TypeId) (v:V):Prop:=match P.underlying t with
 | some (.struct _)=>∃ ds:List D,v=.agg (ds.map .d)∧xq P n t ds
 | some (.array _ _)=>∃ ds:List D,v=.agg (ds.map .d)∧xq P n t ds
 | _=>∃ d,v=.one (.d d)∧xq P n t [d]
def tY (P:Program) (n:Nat):List TypeId->List V->Prop
 | [],[]=>True
 | t::ts,v::vs=>zh P n t v∧tY P n ts vs
 | _,_=>False
section
variable {H:Type} {enc:TypeId × Value->H} {P:Program} {w:World} {spare:Nat->Bool} {held:Bool}
theorem RelQ.agg {mu:Mu} {S:St} {ds:List D} {cs:Array Value} (h:RelQ S w ds cs.toList):RelV mu S w (.agg (ds.map .d)) (.agg cs):=by
 refine⟨cs,rfl,by simp[<- h.1],fun j x hj=>?_⟩
 rw[List.getElem?_map,Option.map_eq_some_iff] at hj;obtain⟨d,hd,rfl⟩:=hj;exact h.2 j d hd
theorem RelQ.single {S:St} {ds:List D} {v:Value} (h:RelQ S w ds [v]):∃ d,ds=[d]∧RelD S w d v:=by
 obtain⟨h1,h2⟩:=h;match ds,h1 with
 | [d],_ =>
  obtain⟨x,hx,hr⟩:=h2 0 d rfl;simp at hx;subst hx;exact⟨d,rfl,hr⟩
theorem H6 {n:Nat} {t:TypeId} (hp:gJ P n t=true) {base:Nat} {v:Value} {d:DataW H} {ps:List MemPlace} (hval:Value.okWide P w .any base t v) (hd:DataW.Trod enc P w 0 spare held t v d ps) :
  ∃ x:V,zh P n t x∧RelV (fun _=>none) (fun b _=>b<w.heap.size) w x v:=by
 cases n with
 | zero=>simp[gJ] at hp
 | succ n =>
 obtain⟨fuel,hf⟩:=hd;obtain⟨ds,hq,hw⟩:=u9 (n+1) t hp _ _ _ hf;unfold zh;have hp':=hp;unfold gJ at hp';cases hu:P.underlying t with
 | none=>rw[hu] at hp';simp at hp'
 | some u =>
  rw[hu] at hp';have flat1:v.cells = #[v]->∃ x:V,(∃ d,x=.one (.d d)∧xq P (n+1) t [d])∧RelV (fun _=>none) (fun b _=>b<w.heap.size) w x v:=by
   intro hc;rw[hc] at hq;obtain⟨d,rfl,hr⟩:=hq.single;exact⟨_,⟨d,rfl,hw⟩,hr⟩
  cases u;case bool=>obtain⟨b,rfl⟩:=okWide_bool hu hval;exact flat1 rfl
  case int k=>obtain⟨b,rfl⟩:=okWide_int hu hval;exact flat1 rfl
  case string=>obtain⟨b,rfl⟩:=okWide_string hu hval;exact flat1 rfl
  case slice e=>obtain⟨a,l,c,rfl⟩:=okWide_slice hu hval;exact flat1 rfl
  case struct fs =>
   simp only[Value.okWide,hu] at hval;obtain⟨cs,rfl,_,_⟩:=hval;exact⟨_,⟨ds,rfl,hw⟩,RelQ.agg hq⟩
  case array k e =>
   simp only[Value.okWide,hu] at hval;obtain⟨cs,rfl,_,_⟩:=hval;exact⟨_,⟨ds,rfl,hw⟩,RelQ.agg hq⟩
  all_goals simp at hp'
theorem uW {n:Nat} {base:Nat}:∀ (ts:List TypeId) (vs:List Value) (ds:List (DataW H)) (ps:List MemPlace),ts.all (gJ P n)=true ->
  (∀ (j:Nat) t v,ts[j]?=some t->vs[j]?=some v->Value.okWide P w .any base t v)->DataW.TrodAll enc P w 0 spare held ts vs ds ps ->
  ∃ xs:List V,tY P n ts xs∧ArgsRel (fun _=>none) (fun b _=>b<w.heap.size) w xs vs
 | [],[],ds,ps,_,_,h=>⟨[],trivial,rfl,fun j v hj=>by simp at hj⟩
 | t::ts,v::vs,[],ps,_,_,h=>by cases h
 | t::ts,v::vs,d::ds,ps,hp,hv,h=>by
  obtain⟨p,q,h1,h2,_⟩:=h;simp only[List.all_cons,Bool.and_eq_true] at hp;obtain⟨x,wx,rx⟩:=H6 hp.1 (hv 0 t v rfl rfl) h1;obtain⟨xs,wxs,rl,rxs⟩:=uW ts vs ds q hp.2 (fun j t' v' ht hv'=>hv (j+1) t' v' (by simpa using ht) (by simpa using hv')) h2
  refine⟨x::xs,⟨wx,wxs⟩,by simp[rl],fun j y hj=>?_⟩
  cases j with
  | zero=>simp at hj;subst hj;exact⟨v,rfl,rx⟩
  | succ j=>simpa using rxs j y (by simpa using hj)
 | [],v::vs,ds,ps,_,_,h=>by cases ds <;> cases h
 | t::ts,[],ds,ps,_,_,h=>by cases ds <;> cases h
theorem tA {W W':World} (hl:laidOutB P=true) (hb:Below W.heap.size W W'):∀ (ts:List TypeId) (vs:List Value) (ds:List (DataW H)) (ps:List MemPlace),
  (∀ t∈ts,P.readableRec t=true∧t<P.types.size)->(∀ p∈ps,p.block<W.heap.size)->DataW.TrodAll enc P W 0 (fun _=>true) true ts vs ds ps ->
  DataW.TrodAll enc P W' 0 (fun b=>decide (b<W.heap.size)) true ts vs ds ps
 | [],[],[],ps,_,_,h=>h
 | [],[],_::_,ps,_,_,h=>by cases h
 | [],_::_,ds,ps,_,_,h=>by cases ds <;> cases h
 | t::ts,[],ds,ps,_,_,h=>by cases ds <;> cases h
 | t::ts,v::vs,[],ps,_,_,h=>by cases h
 | t::ts,v::vs,d::ds,ps,hr,hlt,h=>by
  obtain⟨p,q,h1,h2,rfl⟩:=h;refine⟨p,q,?_,tA hl hb ts vs ds q (fun u hu=>hr u (List.mem_cons_of_mem _ hu)) (fun x hx=>hlt x (List.mem_append_right _ hx)) h2,rfl⟩
  obtain⟨r1,r2⟩:=hr t (List.mem_cons_self ..);exact Below.trod hl r1 r2 h1 hb (fun x hx=>hlt x (List.mem_append_left _ hx))
theorem uj {W W':World} (hb:Below W.heap.size W W') (may:MemPlace->Prop):W.keptBut W' may:=by
 refine⟨hb.os,hb.output,fun i hi=>?_⟩
 rw[hb.block i hi];cases W.heap[i]? with
 | none=>trivial
 | some o=>cases o <;> first|exact⟨rfl,rfl,rfl,fun _ _=>rfl⟩|exact .inr ⟨rfl,rfl⟩|rfl
theorem Fo {φ:cm} (hg:Good P φ) (hl:laidOutB P=true) {f:FuncId} {fn:Func} {s:ChangeSpec} {n tb:Nat} {W:World} {base:Nat} {args:Array Value} {ds gs:List (DataW H)} {before:List MemPlace}
  (hpl:fn.params.toList.all (gJ P n)=true) (hrd:fn.params.toList.all (fun t=>P.readableRec t && decide (t<P.types.size))=true)
  (hres:fn.resultTypes = #[tb]) (hb:P.underlying tb=some .bool) (hsv:s.vars=[])
  (hfn:∀ ds:List (DataW H),ds.length=fn.params.size->s.fn H ds={ results:=[.lit (.bool true)],args:=ds })
  (hlaw:∀ xs,tY P n fn.params.toList xs->φ f xs []=some (.one (.d (.b true)),[]))
  (hval:∀ (j:Nat) t v,fn.params[j]?=some t->args[j]?=some v->Value.okWide P W .any base t v)
  (hW:DataW.Whole enc P fn.params.toList s.vars false W args.toList ds gs before) :
  Calls P f args W fun e W'=>∃ v,e=.returned v∧s.post enc P fn false true false false W args v W':=by
 have hlt:=hW.lt;have hW':=hW;obtain⟨p,q,hA,hV,rfl,hz,hap⟩:=hW;rw[hsv] at hV;obtain⟨xs,wx,rx⟩:=uW (base:=base) _ _ _ _ hpl (fun j t v ht hv=>hval j t v (by simpa using ht) (by simpa using hv)) hA
 have hgs:gs=[]∧q=[]:=by
  cases gs with
  | nil=>exact⟨rfl,hV⟩
  | cons a b=>cases hV
 obtain⟨rfl,rfl⟩:=hgs;have hi:Inv (fun _=>none) (fun b _=>b<W.heap.size) (fun b=>b<W.heap.size) W [] :=
  { box:=fun i b l h=>by simp at h,dom:=fun i l h=>(by cases h),old:=fun i l B h=>(by cases h),sl:=fun b o h=>h,tl:=fun b h=>h,one:=fun i j bi bj li lj B _ h=>by simp at h }
 have hc:=hg.ok _ _ _ _ _ (hlaw xs wx) _ _ _ W args.toList hi rx;rw[Array.toArray_toList] at hc;refine hc.mono fun e W' he=>?_
 obtain⟨v,mu',S',rfl,ex,_,hr⟩:=he;have hv:v=.bool true:=by cases hr;rfl
 subst hv;have hbl:Below W.heap.size W W':=⟨ex.os,ex.tape,ex.output,ex.size,fun k hk=>ex.blk k hk⟩
 have hdl:ds.length=fn.params.size:=by
  have key:∀ (ts:List TypeId) (vs:List Value) (ds:List (DataW H)) (ps:List MemPlace),DataW.TrodAll enc P W 0 (fun _=>true) true ts vs ds ps->ds.length=ts.length:=by
   intro ts;induction ts with
   | nil=>intro vs ds ps h;cases vs <;> cases ds <;> first|rfl|cases h
   | cons t ts ih =>
    intro vs ds ps h;cases vs with
    | nil=>cases ds <;> cases h
    | cons v vs =>
     cases ds with
     | nil=>cases h
     | cons d ds=>obtain⟨_,_,_,h2,_⟩:=h;simp[ih vs ds _ h2]
  simpa using key _ _ _ _ hA
 have hf:=hfn (ds++[]) (by simpa using hdl)
 refine⟨_,rfl,ds,[],p++[],[],p,[],hW',?_,?_,?_,uj hbl _,fun h=>by cases h⟩
 ·rw[hf,hres];exact trodAll_mk1 (shut_bool hb true)
 ·rw[hf];simp only[List.append_nil];have:=tA hl hbl _ _ _ _ (fun t ht=>by have:=(List.all_eq_true.1 hrd) t ht;simpa using this) (fun x hx=>hlt x (by simpa using hx)) hA
  exact this
 ·rw[hf,hsv];rfl
end
theorem AH (fr:Fr) (x:X):xk fr x<=O7 x:=by
 cases x with
 | t n=>simp only[xk,O7];cases (sL fr (.t n)).isEmpty <;> decide
 | c v=>exact Nat.le_refl _
theorem JF (fr:Fr) (a:A):a.kind fr<=a.kindS:=by
 cases a <;> simp only[A.kind,A.kindS] <;> (try omega)
 case ld ag x=>exact AH _ _
 case b2s x=>exact AH _ _
 case app st s b x y =>
  split
  ·have:=AH fr y;cases y <;> simp only[O7] at this <;> (try omega);rename_i v;revert this;cases v.refs.isEmpty <;> simp only[cond_true,cond_false] <;> omega
  ·omega
def Log0.le (x y:Log0):Prop:=x.kind<=y.kind∧x.dst=y.dst∧x.rds=y.rds
theorem uv {x y x' y':Log0} (hx:x.le x') (hy:y.le y') (h:x'.freeS y'=true):x.free y=true:=by
 obtain⟨hx1,hx2,hx3⟩:=hx;obtain⟨hy1,hy2,hy3⟩:=hy;simp only[Log0.freeS,Log0.free,Bool.and_eq_true,Bool.or_eq_true,beq_iff_eq,decide_eq_true_eq] at h ⊢;rw[hx2,hx3,hy2,hy3];refine⟨h.1,?_⟩;rcases h.2 with(h2|h2)|h2 <;> omega
theorem pu {pre:List Nat} {e e':Log0} (he:e.le e'):∀ {l l':List Log0} {i:Nat},l.length=l'.length->(∀ (j:Nat) (x x':Log0),l[j]?=some x->l'[j]?=some x'->x.le x')->o8 pre e' i l'=true->i5 pre e i l=true
 | [],[],i,_,_,_=>rfl
 | [],y::r,i,h,_,_=>by cases h
 | x::r,[],i,h,_,_=>by cases h
 | x::r,x'::r',i,hl,hr,h=>by
  simp only[o8,i5,Bool.and_eq_true,Bool.or_eq_true] at h ⊢;refine⟨?_,pu he (by simpa using hl) (fun j y y' h1 h2=>hr (j+1) y y' (by simpa using h1) (by simpa using h2)) h.2⟩
  rcases h.1 with h1|h1
  ·exact .inl h1
  ·exact .inr (uv (hr 0 x x' rfl rfl) he h1)
def AOp.bare (o:AOp):AOp:={ o with pre:=[] }
def AC.bare:AC->AC
 | .reg ops dr=>bif !dr || ju ops [] then .reg (ops.map AOp.bare) false else .reg ops true
 | .seq a b=>.seq a.bare b.bare
 | .cond c a b=>.cond c a.bare b.bare
 | .block id c=>.block id c.bare
 | .loop lv c=>.loop lv c.bare
 | .skip=>.skip
 | .exit i=>.exit i
 | .ret=>.ret
 | .yld a d y xs b=>.yld a d y xs b
 | .rng g ps a b=>.rng g ps a b
section
variable {φ:cm}
theorem gV:∀ (ops:List AOp) (fr:Fr) (H:Hp),bI φ (ops.map AOp.bare) fr H=bI φ ops fr H
 | [],_,_=>rfl
 | o::r,fr,H=>by
  simp only[List.map_cons,bI];have:o.bare.step φ fr H=o.step φ fr H:=rfl;rw[this];cases o.step φ fr H with
  | none=>rfl
  | some q=>exact gV r _ _
theorem kZ:∀ (ops:List AOp) (lg lgS:List Log0) (fr0:Fr) (H:Hp),lg.length=lgS.length->(∀ (j:Nat) (x x':Log0),lg[j]?=some x->lgS[j]?=some x'->x.le x')->ju ops lgS=true ->
  cY φ ops lg fr0 H=bI φ ops fr0 H
 | [],_,_,_,_,_,_,_=>rfl
 | o::r,lg,lgS,fr0,H,hl,hr,h=>by
  simp only[ju,Bool.and_eq_true,Bool.not_eq_true'] at h;obtain⟨⟨hfz,hpre,hfree⟩,hrest⟩:=h;simp only[cY,bI,AOp.step];cases hw:wantedV fr0 o.g with
  | none=>rfl
  | some w =>
   simp only;have hle:Log0.le ⟨bif w then o.a.kind fr0 else 0,o.dst,o.slots⟩ o.logS:=by
    refine⟨?_,rfl,rfl⟩;cases w with
    | true=>exact JF fr0 o.a
    | false=>exact Nat.zero_le _
   have hchk:(!o.fz && (o.pre.all (fun j=>decide (j<lg.length)) && i5 o.pre ⟨bif w then o.a.kind fr0 else 0,o.dst,o.slots⟩ 0 lg))=true:=by
    rw[hfz,hl,hpre,pu hle hl hr hfree];rfl
   rw[if_pos hchk];have ih:∀ fr H,cY φ r (lg++[⟨bif w then o.a.kind fr0 else 0,o.dst,o.slots⟩]) fr H=bI φ r fr H:=fun fr' H' =>
    kZ r _ (lgS++[o.logS]) fr' H' (by simp[hl]) (fun j x x' h1 h2=>by
     rcases Nat.lt_or_ge j lg.length with hj|hj
     ·rw[List.getElem?_append_left hj] at h1;rw[List.getElem?_append_left (by omega)] at h2
      exact hr j x x' h1 h2
     ·rw[List.getElem?_append_right hj] at h1;rw[List.getElem?_append_right (by omega)] at h2
      have h0:j-lg.length=0:=by
       have:=(List.getElem?_eq_some_iff.1 h1).1;simpa using this
      have h0':j-lgS.length=0:=by omega
      rw[h0] at h1;rw[h0'] at h2;simp at h1 h2;subst h1;subst h2;exact hle) hrest
   cases w with
   | true =>
    simp only[cond_true,hfz,cond_false] at ih ⊢;cases o.a.run φ fr0 H with
    | none=>rfl
    | some q=>exact ih _ _
   | false =>
    simp only[cond_false] at ih ⊢;exact ih _ _
theorem eY {α:Type} (m:Nat):∀ (c:AC) (fr:Fr) (H:Hp) (K:Ex->Fr->Hp->Option α),bD φ m c.bare fr H K=bD φ m c fr H K
 | .skip,_,_,_=>rfl
 | .reg ops dr,fr,H,K=>by
  simp only[AC.bare];cases dr with
  | false=>simp only[Bool.not_false,Bool.true_or,cond_true,bD,cond_false,gV]
  | true =>
   simp only[Bool.not_true,Bool.false_or];cases h:ju ops [] with
   | false=>rfl
   | true=>simp only[cond_true,bD,cond_false,gV,cS,h,kZ ops [] [] fr H rfl (fun j x x' hj=>by simp at hj) h]
 | .seq a b,fr,H,K=>by
  simp only[AC.bare,bD];rw[eY m a];congr 1
  funext e fr' H'
  cases e with
  | normal=>exact eY m b _ _ _
  | exit i=>rfl
  | ret=>rfl
 | .cond c a b,fr,H,K=>by
  simp only[AC.bare,bD];simp only[eY m a,eY m b]
 | .block id c,fr,H,K=>by
  simp only[AC.bare,bD];rw[eY m c]
 | .loop lv c,fr,H,K=>by
  simp only[AC.bare,bD];have:(bD (α:=α) φ m c.bare)=bD φ m c:=by
   funext fr' H' K'
   exact eY m c _ _ _
  rw[this]
 | .exit id,_,_,_=>rfl
 | .ret,_,_,_=>rfl
 | .yld _ _ _ _ _,_,_,_=>rfl
 | .rng _ _ _ _,_,_,_=>rfl
end
def compS (P:Program) (f:FuncId) (an:Ann):Option AF:=bif an.out then none else match nr P f an with
 | some af=>some { af with body:=af.body.bare }
 | none=>none
def de (P:Program) (an:FuncId->Ann) (f:FuncId):Option AF:=bif (an f).out then none else nr P f (an f)
theorem qU (P:Program) (an:FuncId->Ann):DH P (de P an):=fun f af h=>by
 unfold de at h;cases ho:(an f).out with
 | true=>rw[ho] at h;cases h
 | false=>rw[ho] at h;exact⟨an f,h⟩
theorem nE {P:Program} {an:FuncId->Ann} {f:FuncId} (h:(an f).out=true):de P an f=none:=by simp only[de,h,cond_true]
def rE:List (Nat × Ann)->FuncId->Ann
 | [],_=>{}
 | (k,a)::r,f=>if f=k then a else rE r f
theorem eT:∀ c:AC,c.bare.hasR=c.hasR
 | .reg ops dr=>by
  simp only[AC.bare];cases (!dr || ju ops []) <;> rfl
 | .seq a b=>by simp only[AC.bare,AC.hasR,eT a,eT b]
 | .cond c a b=>by simp only[AC.bare,AC.hasR,eT a,eT b]
 | .block id c=>by simp only[AC.bare,AC.hasR,eT c]
 | .loop lv c=>rfl
 | .skip=>rfl
 | .exit i=>rfl
 | .ret=>rfl
 | .yld _ _ _ _ _=>rfl
 | .rng _ _ _ _=>rfl
theorem ae {P:Program} {an:FuncId->Ann} {pr:cm} {f:FuncId} {args:List V} {H:Hp} {z:V × Hp} {af:AF} (hf:compS P f (an f)=some af) (hl:(Nat.ble args.length af.ntmps && !af.body.hasR)=true)
  (h:jH (dJ (de P an) pr) H.length (Ar af.res af.keep H.length) af.body (aa af.ntmps (tu args)) H []=some z):dJ (de P an) pr f args H=some z:=by
 unfold compS at hf;cases ho:(an f).out with
 | true=>rw[ho] at hf;cases hf
 | false =>
  rw[ho] at hf;simp only[cond_false] at hf;split at hf
  ·rename_i af0 h0;cases hf;rw[Bool.and_eq_true,Bool.not_eq_true'] at hl;refine enter (af:=af0) (by simp only[de,ho,cond_false];exact h0) (by have:=hl.2;simp only[eT] at this;exact this) hl.1 ?_
   simp only[jH] at h ⊢;rwa [eY H.length af0.body] at h
  ·cases hf
def cX:List Nat->List V->Fn
 | i::is,v::vs=>fun n=>if n=i then v else cX is vs n
 | _,_=>fun _=>.any
def jQ:List Nat->List V->Fn->Prop
 | i::is,v::vs,f=>f i=v∧jQ is vs f
 | [],[],_=>True
 | _,_,_=>False
theorem Dd (i:Nat) (is:List Nat) (v:V) (vs:List V):cX (i::is) (v::vs) i=v:=by simp[cX]
theorem KG (i:Nat) (is:List Nat) (v:V) (vs:List V) {n:Nat} (h:n≠i):cX (i::is) (v::vs) n=cX is vs n:=by simp[cX,h]
theorem EH (f:Fn):jQ [] [] f=True:=Eq.trans rfl rfl
theorem BU (i:Nat) (is:List Nat) (v:V) (vs:List V) (f:Fn):jQ (i::is) (v::vs) f=(f i=v∧jQ is vs f):=Eq.trans rfl rfl
theorem agree_pure {lv:List Nat} {vals:List V} {f:Fn} (h:jQ lv vals f) (hp:vals.all V.pure=true):lv.all (fun i=>(f i).pure)=true:=by
 induction lv generalizing vals with
 | nil=>rfl
 | cons i is ih =>
  cases vals with
  | nil=>exact h.elim
  | cons v vs =>
   obtain⟨h1,h2⟩:=h;simp only[List.all_cons,Bool.and_eq_true] at hp ⊢;exact⟨by rw[h1];exact hp.1,ih h2 hp.2⟩
theorem jp {lv:List Nat} {vals:List V} {f:Fn} (h:jQ lv vals f):mj lv f=cX lv vals:=by
 induction lv generalizing vals with
 | nil =>
  cases vals with
  | nil=>funext n;simp[mj,cX]
  | cons v vs=>exact h.elim
 | cons i is ih =>
  cases vals with
  | nil=>exact h.elim
  | cons v vs =>
   obtain⟨h1,h2⟩:=h;have e:=ih h2;funext n
   have en:=congrFun e n;simp only[mj,cX,List.contains_cons,Bool.or_eq_true,beq_iff_eq] at en ⊢;by_cases c:n=i
   ·subst c;simp[h1]
   ·simp only[c,false_or,if_false];exact en
theorem gE {α σ:Type} {φ:cm} {N:Nat} {lv:List Nat} {c:AC} {K:Ex->Fr->Hp->Option α} {st:List KI} (μ:σ->Nat) (P:σ->Prop) (vals:σ->List V) (Z:σ->α)
  (hp:∀ s,(vals s).all V.pure=true)
  (hs:∀ s,P s->∀ R:Fr->Hp->Option α,(∀ s',μ s'<μ s->P s'->∀ f',jQ lv (vals s') f'->R (aa N f') []=some (Z s')) ->
   jH φ 0 (KL R (KS φ 0 K st)) c (aa N (cX lv (vals s))) [] []=some (Z s)) :
  ∀ s,P s->∀ f,jQ lv (vals s) f->jH φ 0 K (.loop lv c) (aa N f) [] st=some (Z s):=by
 intro s hP f hf;refine pN (m:=0) (N:=N) μ (fun s f H=>H=[]∧P s∧jQ lv (vals s) f) Z ?_ s f [] ⟨rfl,hP,hf⟩
 rintro s f H ⟨rfl,hP,hf⟩ R hR;rw[Ai (agree_pure hf (hp s)),jp hf];exact hs s hP R (fun s' hlt hP' f' hf'=>hR s' f' [] hlt ⟨rfl,hP',hf'⟩)
inductive Ty where
 | b|i (k:IntKind)|s|l (row:List Ty)
 deriving Inhabited
mutual
def IJ:Ty->D->Prop
 | .b,d=>∃ x,d=.b x
 | .i k,d=>∃ n,d=.i k n∧k.min<=n∧n<=k.max
 | .s,d=>∃ l:List UInt8,d=.s l∧l.length<=9223372036854775807
 | .l row,d=>∃ rows:List (List D),d=.l rows∧rows.length<=9223372036854775807∧∀ r∈rows,dg row r
def dg:List Ty->List D->Prop
 | [],ds=>ds=[]
 | t::ts,ds=>∃ d r,ds=d::r∧IJ t d∧dg ts r
end
def Aq:List (Option (List Ty))->Option (List Ty)
 | []=>some []
 | some x::r=>match Aq r with|some y=>some (x++y)|none=>none
 | none::_=>none
def rH (P:Program):Nat->TypeId->Option (List Ty)
 | 0,_=>none
 | n+1,t=>match P.underlying t with
  | some .bool=>some [.b]
  | some (.int k)=>some [.i k]
  | some .string=>some [.s]
  | some (.slice e)=>match rH P n e with|some row=>some [.l row]|none=>none
  | some (.struct fs)=>Aq (fs.toList.map fun f=>rH P n f.type)
  | some (.array m e)=>Aq ((List.replicate m e).map (rH P n))
  | _=>none
theorem vP {a b:List Ty} {x y:List D} (h:dg a x) (k:dg b y):dg (a++b) (x++y):=by
 induction a generalizing x with
 | nil=>simp only[dg] at h;subst h;exact k
 | cons t ts ih =>
  simp only[dg] at h;obtain⟨d,r,rfl,h1,h2⟩:=h;simp only[List.cons_append,dg];exact⟨d,_,rfl,h1,ih h2⟩
theorem Bz {W:TypeId->List D->Prop} {sz:TypeId->Nat} {g:TypeId->Option (List Ty)} (hW:∀ t ts ds,g t=some ts->W t ds->dg ts ds) :
  ∀ (l:List TypeId) (ts:List Ty) (ds:List D),Aq (l.map g)=some ts->jn W sz l ds->dg ts ds
 | [],ts,ds,h,hd=>by cases h;simpa[jn,dg] using hd
 | t::l,ts,ds,h,hd=>by
  simp only[List.map_cons] at h;cases hg:g t with
  | none=>rw[hg] at h;cases h
  | some x =>
   rw[hg] at h;simp only[Aq] at h;cases hc:Aq (l.map g) with
   | none=>rw[hc] at h;cases h
   | some y =>
    rw[hc] at h;cases h;obtain⟨p,r,rfl,_,h1,h2⟩:=hd;exact vP (hW t x p hg h1) (Bz hW l y r hc h2)
theorem Lx {P:Program}:∀ (n:Nat) (t:TypeId) (ts:List Ty) (ds:List D),rH P n t=some ts->xq P n t ds->dg ts ds:=by
 intro n;induction n with
 | zero=>intro t ts ds h;cases h
 | succ n ih =>
  intro t ts ds h hd;unfold rH at h;unfold xq at hd;cases hu:P.underlying t with
  | none=>rw[hu] at h;cases h
  | some u =>
   rw[hu] at h hd;cases u;case bool=>cases h;obtain⟨b,rfl⟩:=hd;simp[dg,IJ]
   case int k =>
    cases h;obtain⟨x,rfl,hx⟩:=hd;simp only[Lit.wf,Bool.and_eq_true,decide_eq_true_eq] at hx;simp[dg,IJ,hx]
   case string=>cases h;obtain⟨l,rfl,hl⟩:=hd;simp only[dg,IJ];exact⟨_,_,rfl,⟨l,rfl,hl⟩,rfl⟩
   case slice e =>
    simp only at h hd;cases hr:rH P n e with
    | none=>rw[hr] at h;cases h
    | some row =>
     rw[hr] at h;cases h;obtain⟨rows,rfl,hl,hall⟩:=hd;simp only[dg,IJ];exact⟨_,_,rfl,⟨rows,rfl,hl,fun r hr'=>ih e row r hr (hall r hr').2⟩,rfl⟩
   case struct fs =>
    simp only at h hd;have:Aq ((fs.toList.map (·.type)).map (rH P n))=some ts:=by rw[List.map_map];exact h
    exact Bz (fun t ts ds=>ih t ts ds) _ _ _ this hd
   case array m e =>
    simp only at h hd;exact Bz (fun t ts ds=>ih t ts ds) _ _ _ h hd
   all_goals cases h
def Qu (P:Program) (n:Nat) (t:TypeId):Option (Bool × List Ty):=match P.underlying t with
 | some (.struct _)=>(rH P n t).map (true,·)
 | some (.array _ _)=>(rH P n t).map (true,·)
 | _=>(rH P n t).map (false,·)
def Px:Bool × List Ty->V->Prop
 | (true,ts),v=>∃ ds:List D,v=.agg (ds.map .d)∧dg ts ds
 | (false,ts),v=>∃ d,v=.one (.d d)∧dg ts [d]
def Mh:List (Bool × List Ty)->List V->Prop
 | [],vs=>vs=[]
 | t::ts,vs=>∃ v r,vs=v::r∧Px t v∧Mh ts r
def J1 (P:Program) (n:Nat):List TypeId->Option (List (Bool × List Ty))
 | []=>some []
 | t::ts=>match Qu P n t,J1 P n ts with|some x,some xs=>some (x::xs)|_,_=>none
theorem Mj {P:Program} {n:Nat} {t:TypeId} {a:Bool × List Ty} {v:V} (h:Qu P n t=some a) (hv:zh P n t v):Px a v:=by
 unfold Qu at h;unfold zh at hv;have one:(rH P n t).map (false,·)=some a->(∃ d,v=.one (.d d)∧xq P n t [d])->Px a v:=by
  intro h ⟨d,hd,hw⟩;obtain⟨ts,hts,rfl⟩:=Option.map_eq_some_iff.1 h;exact⟨d,hd,Lx n t ts _ hts hw⟩
 have agg:(rH P n t).map (true,·)=some a->(∃ ds:List D,v=.agg (ds.map .d)∧xq P n t ds)->Px a v:=by
  intro h ⟨d,hd,hw⟩;obtain⟨ts,hts,rfl⟩:=Option.map_eq_some_iff.1 h;exact⟨d,hd,Lx n t ts _ hts hw⟩
 cases hu:P.underlying t with
 | none=>rw[hu] at h hv;exact one h hv
 | some u =>
  rw[hu] at h hv;cases u;case struct fs=>exact agg h hv
  case array m e=>exact agg h hv
  all_goals exact one h hv
theorem CX {P:Program} {n:Nat}:∀ {ts:List TypeId} {al:List (Bool × List Ty)} {vs:List V},J1 P n ts=some al->tY P n ts vs->Mh al vs
 | [],al,[],h,hv=>by cases h;rfl
 | [],al,_::_,h,hv=>hv.elim
 | t::ts,al,[],h,hv=>hv.elim
 | t::ts,al,v::vs,h,hv=>by
  simp only[J1] at h;cases h1:Qu P n t with
  | none=>rw[h1] at h;cases h
  | some x =>
   cases h2:J1 P n ts with
   | none=>rw[h1,h2] at h;cases h
   | some xs =>
    rw[h1,h2] at h;cases h;exact⟨v,vs,rfl,Mj h1 hv.1,CX h2 hv.2⟩
theorem ot {α:Type} {enc:α->List D} {ok:α->Prop} {row:List Ty} (h:∀ r,dg row r->∃ x,r=enc x∧ok x):∀ rows:List (List D),(∀ r∈rows,dg row r)->∃ q:List α,rows=q.map enc∧∀ x∈q,ok x
 | [],_=>⟨[],rfl,fun x hx=>by cases hx⟩
 | r::rows,hr=>by
  obtain⟨x,rfl,hx⟩:=h r (hr r (List.mem_cons_self ..));obtain⟨q,rfl,hq⟩:=ot h rows (fun r hr'=>hr r (List.mem_cons_of_mem _ hr'))
  exact⟨x::q,rfl,fun y hy=>by rcases List.mem_cons.1 hy with rfl|hy;exact hx;exact hq y hy⟩
theorem Oa {a b:Int} (h:a<b):decide (a<b)=true:=by simp[h]
theorem Pm {a b:Int} (h:b<=a):decide (a<b)=false:=by simp;omega
theorem P8 {a b:Int} (h:a<=b):decide (a<=b)=true:=by simp[h]
theorem Oj {a b:Int} (h:b<a):decide (a<=b)=false:=by simp;omega
theorem O6 {a b:Int} (h:a=b):(a == b)=true:=by simp[h]
theorem OT {a b:Int} (h:a≠b):(a == b)=false:=by simp[h]
theorem OB {a b:Int} (h:a≠b):(a != b)=true:=by simp[h]
theorem O0 {a b:Int} (h:a=b):(a != b)=false:=by simp[h]
theorem gH {n:Int} (h : -9223372036854775808<=n∧n<9223372036854775808):IntKind.i64.wrap n=n:=DP h.1 h.2
theorem KP {α β:Type} (g:α->β) (q:List α) (n:Int) (h:n.toNat<q.length):(q.map g)[n.toNat]?=some (g (q[n.toNat]'h)):=by simp[h]
theorem H8 {α β:Type} (g:α->β) (q:List α) (k:Nat) (h:k<q.length):(q.map g)[k]?=some (g (q[k]'h)):=by simp[h]
set_option linter.defProp false
def SA:=And.intro @HX (And.intro @EG (And.intro @Fm (And.intro @Em (And.intro @D8 (And.intro @A0 (And.intro @Iy (And.intro @ED (And.intro @Dd (And.intro @KG (And.intro @EH (And.intro @BU (And.intro @zm (And.intro @go_skip (And.intro @go_seq (And.intro @go_reg (And.intro @go_cond (And.intro @go_block (And.intro @go_exit (And.intro @go_ret
 (And.intro @JZ (And.intro @PS (And.intro @MV (And.intro @Nw (And.intro @Of (And.intro @LN (And.intro @NG (And.intro @I5 (And.intro @DD (And.intro @Jo (And.intro @MM (And.intro @FQ (And.intro @yU
 (And.intro @Nv (And.intro @Gb (And.intro @RZ (And.intro @Ri (And.intro @H0 (And.intro @Iv (And.intro @Ig (And.intro @Ij (And.intro @Ee (And.intro @GU (And.intro @HA (And.intro @yj (And.intro @pt (And.intro @Sx (And.intro @xT (And.intro @F7 (And.intro @FG (And.intro @Mk (And.intro @yI
 (And.intro @bW (And.intro @trim_pure (And.intro @V.pure_one (And.intro @V.pure_agg (And.intro @V.pure_tup (And.intro @V.pure_any (And.intro @L.pure_d (And.intro @L.pure_ip (And.intro @L.pure_cl (And.intro @L.pure_ns (And.intro @L.pure_np (And.intro @L.pure_nf (And.intro @L.pure_f @Ls.pure_map))))))))))))))))))))))))))))))))))))))))))))))))))))))))))))))))
def NR:=And.intro @List.length_nil.{0} (And.intro @cond_false.{1} (And.intro @cond_true.{1} (And.intro @List.contains_cons.{0} (And.intro @List.contains_nil.{0} (And.intro Bool.or_true (And.intro Bool.true_or (And.intro Bool.or_false (And.intro not_false_eq_true
 (And.intro @List.getD_cons_zero.{0} (And.intro @List.getD_cons_succ.{0} (And.intro @List.map_cons.{0,0} (And.intro @List.map_nil.{0,0} (And.intro @List.nil_append.{0} (And.intro @List.append_nil.{0} (And.intro @List.length_cons.{0} (And.intro @List.length_map.{0,0}
 (And.intro @List.getElem?_cons_zero.{0} (And.intro @List.getElem?_cons_succ.{0} (And.intro not_true_eq_false (And.intro @List.all_cons.{0} (And.intro @List.all_nil.{0} (And.intro Bool.and_true (And.intro Bool.and_self (And.intro @beq_self_eq_true.{0}
 (And.intro Bool.true_eq_false (And.intro Bool.false_eq_true (And.intro @beq_true (And.intro @beq_false (And.intro Bool.not_true (And.intro Bool.not_false (And.intro decide_true (And.intro decide_false (And.intro and_self (And.intro true_and (And.intro and_true
 (And.intro @Int.natCast_nonneg @Int.toNat_natCast))))))))))))))))))))))))))))))))))))
theorem Ow {a b:Nat} (h:a<=b):(a<=b)=True:=by simp[h]
theorem OR {a b:Nat} (h:a<b):(a<b)=True:=by simp[h]
theorem PY {a b:Int} (h:a<=b):(a<=b)=True:=by simp[h]
theorem Pl {a b:Int} (h:a<b):(a<b)=True:=by simp[h]
theorem tM (sz:Nat):aQ sz []=true:=Eq.trans rfl rfl
theorem qR (sz:Nat) (r:List D) (l:List (List D)):aQ sz (r::l)=(r.length == sz && aQ sz l):=Eq.trans rfl rfl
theorem nz (sz:Nat) (l m:List (List D)):aQ sz (l++m)=(aQ sz l && aQ sz m):=by simp[aQ]
theorem zi {α:Type} (H:List α) (b:α):(H++[b])[H.length]?=some b:=by simp
theorem sP:∀ (ds:List D) (H:Hp),gk (ds.map .d) H=some (ds.map .d,H)
 | [],_=>rfl
 | d::ds,H=>by simp only[List.map_cons,gk,ui,sP ds H]
theorem x9:∀ ds:List D,ng (ds.map .d)=some ds
 | []=>rfl
 | d::ds=>by simp only[List.map_cons,ng,N3,x9 ds]
theorem Ed (p:Prop):(True∨p)=True:=by simp
theorem D7 (p:Prop):(p∨True)=True:=by simp
theorem vO {α β:Type} (g:α->β) (q:List α):(q.map g).take q.length=q.map g:=List.take_of_length_le (by simp)
theorem LZ (b:Bool):(b != true) = !b:=by cases b <;> rfl
theorem LT (b:Bool):(b != false)=b:=by cases b <;> rfl
theorem v1 {α β:Type} (g:α->β) (q:List α) (i:Nat) (x:α):((q.set i x).map g).take q.length=(q.set i x).map g:=List.take_of_length_le (by simp)
theorem wB {α:Type} (q:List α) (i:Nat) (x:α):(q.set i x).take q.length=q.set i x:=List.take_of_length_le (by simp)
def LS:=And.intro Nat.mul_one (And.intro Nat.zero_mul (And.intro Int.toNat_zero (And.intro @List.length_set.{0} (And.intro @v1 (And.intro @wB (And.intro @LZ (And.intro @LT (And.intro @List.take_length.{0} (And.intro @vO (And.intro @sP (And.intro @x9 (And.intro @List.set_cons_zero.{0} (And.intro @List.set_cons_succ.{0} (And.intro @Ed (And.intro @D7 (And.intro @List.take_nil.{0} (And.intro @List.drop_nil.{0} (And.intro Nat.zero_add (And.intro Nat.add_zero
 (And.intro @tM (And.intro @qR (And.intro @nz (And.intro @List.length_append.{0} (And.intro @List.cons_append.{0} (And.intro @List.flatMap_cons.{0,0} (And.intro @List.flatMap_nil.{0,0} (And.intro Bool.true_and Bool.and_true)))))))))))))))))))))))))))
theorem Oe (n:Nat):cE n n none none none=some (0,n,n):=by simp[cE]
theorem Mq {n:Nat} {x:Int} (h:0<=x∧x<=(n:Int)):cE n n (some x) none none=some (x.toNat,n,n):=by simp[cE,h]
theorem NE {n:Nat} {x:Int} (h:0<=x∧x<=(n:Int)):cE n n none (some x) none=some (0,x.toNat,n):=by simp[cE,h]
theorem L4 {n:Nat} {x y:Int} (h:0<=x∧x<=y∧y<=(n:Int)):cE n n (some x) (some y) none=some (x.toNat,y.toNat,n):=by
 have h1:0<=y∧y<=(n:Int):=by omega
 have h2:0<=x∧x<=((y.toNat:Nat):Int):=by omega
 simp only[cE,h1,h2,and_self,if_true]
theorem M2 {n:Nat} {x y:Int} (h:0<=x∧x<=y∧y<=(n:Int)):cE n n none (some x) (some y)=some (0,x.toNat,y.toNat):=by
 have h1:0<=y∧y<=(n:Int):=by omega
 have h2:0<=x∧x<=((y.toNat:Nat):Int):=by omega
 simp only[cE,h1,h2,and_self,if_true]
theorem K5 {n:Nat} {z x y:Int} (h:0<=z∧z<=x∧x<=y∧y<=(n:Int)):cE n n (some z) (some x) (some y)=some (z.toNat,x.toNat,y.toNat):=by
 have h1:0<=y∧y<=(n:Int):=by omega
 have h2:0<=x∧x<=((y.toNat:Nat):Int):=by omega
 have h3:0<=z∧z<=((x.toNat:Nat):Int):=by omega
 simp only[cE,h1,h2,h3,and_self,if_true]
theorem AI (k:Nat):((k:Int)+1).toNat=k+1:=rfl
theorem rJ {n:Int} (h:0<=n∧n<256):IntKind.u8.wrap n=n:=by
 simp[IntKind.wrap,IntKind.bits,IntKind.signed];omega
theorem Ik {n:Int} (h:0<=n∧n<65536):IntKind.u16.wrap n=n:=by
 simp[IntKind.wrap,IntKind.bits,IntKind.signed];omega
theorem sU {n:Int} (h:0<=n∧n<4294967296):IntKind.u32.wrap n=n:=by
 simp[IntKind.wrap,IntKind.bits,IntKind.signed];omega
theorem oh {n:Int} (h:0<=n∧n<18446744073709551616):IntKind.u64.wrap n=n:=by
 simp[IntKind.wrap,IntKind.bits,IntKind.signed];omega
def aO:=And.intro @rJ (And.intro @Ik (And.intro @sU (And.intro @oh (And.intro @Oe (And.intro @Mq (And.intro @NE (And.intro @L4 (And.intro @M2 (And.intro @K5 (And.intro @AI (And.intro @aV (And.intro @Ow (And.intro @OR (And.intro @PY (And.intro @Pl (And.intro @tM (And.intro @qR (And.intro @nz (And.intro @zi (And.intro @Oa (And.intro @Pm (And.intro @P8 (And.intro @Oj (And.intro @O6 (And.intro @OT (And.intro @OB (And.intro @O0 (And.intro @gH (And.intro @KP @H8)))))))))))))))))))))))))))))
def am:=And.intro @V.pure_one (And.intro @V.pure_agg (And.intro @V.pure_tup (And.intro @List.all_cons.{0} (And.intro @List.all_nil.{0} (And.intro Bool.and_true (And.intro Bool.and_self (And.intro @V.pure_any (And.intro @L.pure_d (And.intro @L.pure_ip (And.intro @L.pure_cl
 (And.intro @L.pure_ns (And.intro @L.pure_np (And.intro @L.pure_nf (And.intro @L.pure_f @Ls.pure_map))))))))))))))
def NC:cm:=fun _ _ _=>none
theorem El (P:Program):Good P NC:=by
 constructor <;> (intro f args H r H' h;cases h)
def cloneAF (sz bytes:Nat):AF:=⟨8,
 (.seq
  (rg [
    o 2 (.mv (kx (.ns)))])
  (.seq
   (.seq
    (rg [
      o 3 (.mv (.t 0)),
      o 4 (.nilc 0 false (.t 3))])
    (.cond (.t 4)
     (.seq
      (rg [
        o 2 (.mv (kx (.ns)))])
      .ret)
     .skip))
   (.seq
    (rg [
      o 5 (.bsl sz [] []),
      o 6 (.mv (.t 0)),
      o 7 (.app false sz bytes (.t 5) (.t 6)),
      o 2 (.mv (.t 7))])
    .ret))),
 [.t 2],true⟩
theorem IE {P:Program} {an:FuncId->Ann} {pr:cm} {f:FuncId} {sz bytes:Nat} (hf:compS P f (an f)=some (cloneAF sz bytes)) (rows:List (List D)) (h1:aQ sz rows=true) (h2:rows.length*bytes<=140737488355328) (h3:rows.length<=9223372036854775807) :
  dJ (de P an) pr f [.one (.nn rows)] []=some (.one (.sl 1 sz 0 rows.length),[.dead,.arr sz rows 0]):=by
 apply ae hf rfl;have h4:(0+rows.length)*bytes<=140737488355328:=by simpa using h2
 have h5:0+rows.length<=9223372036854775807:=by simpa using h3
 simp only[cloneAF,h1,h2,h3,SA,NR,LS,jE,cD,ng,N3,↓tj,↓qa,BM,gk,rg,rd,o,oz,kc,kb,ks,kx,on,og,od,Qx,A.run,E2,ig,mB,E9,tu,V.cs,db,nS,ui,fk,dj,V.data,L.data,MJ,mh,List.take_succ_cons,List.take_zero,List.drop_succ_cons,List.drop_zero,List.cons_append,ne_eq,Nat.reduceLT,Nat.reduceBEq,↓reduceIte,Nat.reduceEqDiff,Nat.reduceAdd,Nat.reduceMul,Nat.reduceSub,Int.reduceToNat,Nat.reduceLeDiff,Int.reduceNeg,Int.reduceEq,Int.reduceLT,Int.reduceLE,Int.reduceBEq,Int.reduceBNe,Int.reduceToNat,jE,cD,true_or];simp[trim,V.refs,L.refs]
theorem GO {P:Program} {an:FuncId->Ann} {pr:cm} {f:FuncId} {sz bytes:Nat} (hf:compS P f (an f)=some (cloneAF sz bytes)) :
  dJ (de P an) pr f [.one .ns] []=some (.one .ns,[]):=by
 apply ae hf rfl;simp only[cloneAF,SA,NR,LS,jE,cD,ng,N3,↓tj,↓qa,BM,gk,rg,rd,o,oz,kc,kb,ks,kx,on,og,od,Qx,A.run,E2,ig,mB,E9,tu,V.cs,db,nS,ui,fk,dj,V.data,L.data,MJ,mh,List.take_succ_cons,List.take_zero,List.drop_succ_cons,List.drop_zero,List.cons_append,ne_eq,Nat.reduceLT,Nat.reduceBEq,↓reduceIte,Nat.reduceEqDiff,Nat.reduceAdd,Nat.reduceMul,Nat.reduceSub,Int.reduceToNat,Nat.reduceLeDiff,Int.reduceNeg,Int.reduceEq,Int.reduceLT,Int.reduceLE,Int.reduceBEq,Int.reduceBNe,Int.reduceToNat,jE,cD]
def mH (l:List (Nat × Nat × Nat)):cm:=fun f args H=>match l.lookup f,args,H with
 | some (sz,bytes),[.one (.d (.l rows))],[]=>if aQ sz rows=true∧rows.length*bytes<=140737488355328∧rows.length<=9223372036854775807 then some (.one (.sl 1 sz 0 rows.length),[.dead,.arr sz rows 0]) else none
 | _,_,_=>none
theorem HG {P:Program} {φ:cm} (hg:Good P φ) {f:FuncId} {sz:Nat} {rows:List (List D)} (hsz:0<sz)
  (h1:φ f [.one (.nn rows)] []=some (.one (.sl 1 sz 0 rows.length),[.dead,.arr sz rows 0])) (h2:φ f [.one .ns] []=some (.one .ns,[])) :
  CallOK P f [.one (.d (.l rows))] [] (.one (.sl 1 sz 0 rows.length)) [.dead,.arr sz rows 0]:=by
 intro mu S TB w vs hi ha;obtain⟨hl,hrel⟩:=ha;obtain⟨x,hx,hr⟩:=hrel 0 _ rfl;match vs,hl,hx with
 | [y],_,hx =>
  simp at hx;subst hx;have hsh:∃ ad n c,y=.slice ad n c∧(ad=none->n=0∧c=0∧rows=[]):=by
   cases hr with
   | nil a c hz=>exact⟨a,0,c,rfl,fun h=>⟨rfl,hz h,rfl⟩⟩
   | l _ _ B off c u=>exact⟨_,_,_,rfl,fun h=>by cases h⟩
  obtain⟨ad,n,c,rfl,hnil⟩:=hsh;cases ad with
  | none =>
   obtain⟨rfl,rfl,rfl⟩:=hnil rfl;refine(hg.ok _ _ _ _ _ h2 mu S TB w [.slice none 0 0] hi ⟨rfl,fun j v hj=>?_⟩).mono fun e w' he=>?_
   ·cases j with
    | zero=>simp at hj;subst hj;exact⟨_,rfl,rfl⟩
    | succ j=>simp at hj
   ·obtain⟨x,mu1,S1,rfl,ex,i1,rx⟩:=he;have hx:x=.slice none 0 0:=rx;subst hx;have i2:Inv mu1 S1 TB w' [.dead]:=by
     refine⟨fun i b l hb hl=>?_,fun i l hl=>by have:=i1.dom i l hl;simp at this,i1.old,i1.sl,i1.tl,fun i j bi bj li lj B _ hi' _ hai=>?_⟩
     ·have:=i1.dom i l hl;simp at this
     ·cases i with
      | zero=>simp at hi';subst hi';cases hai
      | succ i=>simp at hi'
    obtain⟨mu2,e2,i3,r3⟩:=i2.new_nil sz;exact⟨_,mu2,S1,rfl,ex.trans e2,i3,r3⟩
  | some A =>
   refine(hg.ok _ _ _ _ _ h1 mu S TB w [.slice (some A) n c] hi ⟨rfl,fun j v hj=>?_⟩).mono fun e w' he=>he
   cases j with
   | zero=>simp at hj;subst hj;exact⟨_,rfl,⟨_,_,_,rfl⟩,hr⟩
   | succ j=>simp at hj
theorem z6 {l:List (Nat × Nat × Nat)} {f:Nat} {x:Nat × Nat} (h:l.lookup f=some x):(f,x)∈l:=by
 induction l with
 | nil=>cases h
 | cons c r ih =>
  obtain⟨k,y⟩:=c;simp only[List.lookup] at h;split at h
  ·rename_i e;cases h;rw[eq_of_beq e];exact List.mem_cons_self ..
  ·exact List.mem_cons_of_mem _ (ih h)
theorem wG {P:Program} (hd:∀ φ,Good P φ->gN P φ) (l:List (Nat × Nat × Nat)) (h:∀ f sz bytes,(f,sz,bytes)∈l->0<sz∧∃ an,compS P f an=some (cloneAF sz bytes)):Good P (mH l):=by
 have key:∀ f args H r H',mH l f args H=some (r,H')->CallOK P f args H r H'∧callable P f=true:=by
  intro f args H r H' hc;unfold mH at hc;split at hc
  ·rename_i sz bytes rows hlk;split at hc
   ·rename_i hcond;cases hc;obtain⟨hsz,an,han⟩:=h f sz bytes (z6 hlk);have hg:Good P (dJ (de P fun _=>an) NC):=sG hd (qU _ _) (El P)
    have h1:=IE (P:=P) (an:=fun _=>an) (pr:=NC) (f:=f) han rows hcond.1 hcond.2.1 hcond.2.2
    exact⟨HG hg hsz h1 (GO (an:=fun _=>an) han),hg.can _ _ _ _ _ h1⟩
   ·cases hc
  ·cases hc
 exact⟨fun f args H r H' hc=>(key f args H r H' hc).1,fun f args H r H' hc=>(key f args H r H' hc).2⟩
theorem xF {φ:cm} {f:FuncId} {args:List V} {H H1:Hp} {r:V} (h:args.all V.pure=true) (hr:φ f args []=some (r,H1)) :
  ak φ f args H=some (r.ren (fun j=>some (H.length+j)),H++H1.map (Box.ren (fun j=>some (H.length+j)))):=by
 have e:(fun j:Nat=>if j<0 then([]:List Nat)[j]? else some (H.length+(j-0)))=fun j=>some (H.length+j):=by funext j;simp
 simp only[ak,aF,refs_pure h,qB,aq,List.map_nil,ren_pure h,hr,List.length_nil,List.take_zero,List.drop_zero,bY,e]
theorem gS {α:Type} (q:List α) (k:Nat) (h:k<q.length):q.take (k+1)=q.take k++[q[k]]:=by
 rw[List.take_add_one,List.getElem?_eq_getElem h];rfl
def dU:List Nat->Bool
 | a::b::r=>Nat.blt a b && dU (b::r)
 | _=>true
theorem tD (ρ:Nat->Option Nat):∀ (lv:List Nat) (vals:List V) (n:Nat),(cX lv vals n).ren ρ=cX lv (vals.map (V.ren ρ)) n
 | [],vals,n=>by cases vals <;> rfl
 | i::is,[],n=>rfl
 | i::is,v::vs,n=>by
  simp only[List.map_cons,cX];split
  ·rfl
  ·exact tD ρ is vs n
theorem CN:∀ (lv:List Nat) (vals:List V) (n k:Nat),dU (k::lv)=true->n<=k->cX lv vals n=.any
 | [],vals,n,k,_,_=>by cases vals <;> rfl
 | i::is,[],n,k,_,_=>rfl
 | i::is,v::vs,n,k,h,hn=>by
  simp only[dU,Bool.and_eq_true,Nat.blt_eq] at h;simp only[cX];rw[if_neg (by omega)]
  exact CN is vs n i h.2 (by omega)
theorem pO:∀ (lv:List Nat) (vals:List V) (a N:Nat),dU lv=true->(∀ i∈lv,a<=i)->(∀ i∈lv,i<a+N)->lv.length=vals.length->((List.range' a N).map (cX lv vals)).flatMap V.refs=vals.flatMap V.refs
 | [],[],a,N,_,_,_,_=>by
  have:∀ N a,((List.range' a N).map (cX [] [])).flatMap V.refs=[]:=by
   intro N;induction N with
   | zero=>intro a;rfl
   | succ N ih=>intro a;rw[List.range'_succ,List.map_cons,List.flatMap_cons,ih];rfl
  simpa using this N a
 | [],v::vs,a,N,_,_,_,h=>by simp at h
 | i::is,[],a,N,_,_,_,h=>by simp at h
 | i::is,v::vs,a,N,hs,ha,hN,hl=>by
  have hia:=ha i (List.mem_cons_self ..);have hiN:=hN i (List.mem_cons_self ..);have hlow:∀ (is:List Nat) (i k:Nat),dU (i::is)=true->k∈is->i<k:=by
   intro is;induction is with
   | nil=>intro i k _ hk;cases hk
   | cons j js ih =>
    intro i k h hk;simp only[dU,Bool.and_eq_true,Nat.blt_eq] at h;rcases List.mem_cons.1 hk with rfl|hk
    ·exact h.1
    ·exact Nat.lt_trans h.1 (ih j k h.2 hk)
  have hs':dU is=true:=by
   cases is with
   | nil=>rfl
   | cons j js=>simp only[dU,Bool.and_eq_true] at hs;exact hs.2
  have hsplit:List.range' a N=List.range' a (i-a)++i::List.range' (i+1) (N-(i-a)-1):=by
   obtain⟨q,rfl⟩:∃ q,i=a+q:=⟨i-a,by omega⟩
   obtain⟨r,rfl⟩:∃ r,N=q+(r+1):=⟨N-q-1,by omega⟩
   have e1:a+q-a=q:=by omega
   have e2:q+(r+1)-q-1=r:=by omega
   rw[e1,e2,<- List.range'_append_1,List.range'_succ]
  have h0:∀ M b,b+M<=i->((List.range' b M).map (cX (i::is) (v::vs))).flatMap V.refs=[]:=by
   intro M;induction M with
   | zero=>intro b _;rfl
   | succ M ih =>
    intro b hb;rw[List.range'_succ,List.map_cons,List.flatMap_cons,ih (b+1) (by omega)]
    have:cX (i::is) (v::vs) b=.any:=by
     simp only[cX];rw[if_neg (by omega)]
     exact CN is vs b i hs (by omega)
    rw[this];rfl
  rw[hsplit,List.map_append,List.flatMap_append,h0 (i-a) a (by omega),List.nil_append,List.map_cons,List.flatMap_cons]
  have e1:cX (i::is) (v::vs) i=v:=by simp[cX]
  rw[e1,List.flatMap_cons];congr 1
  have e2:(List.range' (i+1) (N-(i-a)-1)).map (cX (i::is) (v::vs))=(List.range' (i+1) (N-(i-a)-1)).map (cX is vs):=by
   apply List.map_congr_left;intro n hn;rw[List.mem_range'_1] at hn;simp only[cX];rw[if_neg (by omega)]
  rw[e2];exact pO is vs (i+1) _ hs' (fun k hk=>hlow is i k hs hk) (fun k hk=>by have:=hN k (List.mem_cons_of_mem _ hk);omega) (by simpa using hl)
theorem qk:∀ {lv:List Nat} {vals:List V} {f:Fn},jQ lv vals f->lv.length=vals.length
 | [],[],_,_=>rfl
 | [],_::_,_,h=>h.elim
 | _::_,[],_,h=>h.elim
 | _::is,_::vs,f,h=>by simp[qk h.2]
theorem D2 {N:Nat} {lv:List Nat} {vals:List V} {f:Fn} {H:Hp} (hs:(dU lv && lv.all (fun i=>Nat.blt i N))=true) (h:jQ lv vals f) :
  canon 0 lv (aa N f) H=(aa N (cX lv (vals.map (V.ren (aE (aF H (vals.flatMap V.refs)))))),aq H (aF H (vals.flatMap V.refs))):=by
 simp only[Bool.and_eq_true] at hs;have hr:(aa N (mj lv f)).flatMap V.refs=vals.flatMap V.refs:=by
  rw[jp h];have:=pO lv vals 0 N hs.1 (fun _ _=>Nat.zero_le _) (fun i hi=>by have:=(List.all_eq_true.1 hs.2) i hi;simpa using this) (qk h)
  rw[<- List.range_eq_range'] at this;exact this
 simp only[canon,ly,qq,Nat.zero_min,List.range_zero,List.flatMap_nil,List.nil_append,hr];refine Prod.ext ?_ rfl;simp only[aF,aa,List.map_map,jp h];apply List.map_congr_left;intro n _;exact tD _ _ _ _
theorem i8 {α σ:Type} {φ:cm} {N:Nat} {lv:List Nat} {c:AC} {K:Ex->Fr->Hp->Option α} {st:List KI} (μ:σ->Nat) (P:σ->Prop) (vals:σ->List V) (heap:σ->Hp) (Z:σ->α)
  (hs:∀ s,P s->∀ R:Fr->Hp->Option α,(∀ s',μ s'<μ s->P s'->∀ f' H',canon 0 lv (aa N f') H'=(aa N (cX lv (vals s')),heap s')->R (aa N f') H'=some (Z s')) ->
   jH φ 0 (KL R (KS φ 0 K st)) c (aa N (cX lv (vals s))) (heap s) []=some (Z s)) :
  ∀ s,P s->∀ f H,canon 0 lv (aa N f) H=(aa N (cX lv (vals s)),heap s)->jH φ 0 K (.loop lv c) (aa N f) H st=some (Z s):=by
 intro s hP f H hc;refine pN (m:=0) (N:=N) μ (fun s f H=>P s∧canon 0 lv (aa N f) H=(aa N (cX lv (vals s)),heap s)) Z ?_ s f H ⟨hP,hc⟩
 rintro s f H ⟨hP,hc⟩ R hR;rw[hc];exact hs s hP R (fun s' hlt hP' f' H' hc'=>hR s' f' H' hlt ⟨hP',hc'⟩)
theorem at_head {N:Nat} {lv:List Nat} {vals0 vals:List V} {f:Fn} {H H':Hp} (hs:(dU lv && lv.all (fun i=>Nat.blt i N))=true) (h:jQ lv vals0 f) (h1:vals0.map (V.ren (aE (aF H (vals0.flatMap V.refs))))=vals) (h2:aq H (aF H (vals0.flatMap V.refs))=H') :
  canon 0 lv (aa N f) H=(aa N (cX lv vals),H'):=by
 rw[D2 hs h,h1,h2]
theorem pQ:∀ (lv:List Nat) (f:Fn),jQ lv (lv.map f) f
 | [],_=>trivial
 | _::is,f=>⟨rfl,pQ is f⟩
theorem at_head2 {N:Nat} {lv:List Nat} {vals0 vals:List V} {f:Fn} {H H':Hp} (hs:(dU lv && lv.all (fun i=>Nat.blt i N))=true) (hv:lv.map f=vals0) (h1:vals0.map (V.ren (aE (aF H (vals0.flatMap V.refs))))=vals) (h2:aq H (aF H (vals0.flatMap V.refs))=H') :
  canon 0 lv (aa N f) H=(aa N (cX lv vals),H'):=at_head hs (hv ▸ pQ lv f) h1 h2
theorem aC (i:Nat):aE [] i=none:=Eq.trans rfl rfl
theorem au (i j:Nat) (r:List Nat):aE (j::r) i=if j=i then some 0 else(aE r i).map (· + 1):=by
 simp only[aE,List.findIdx?_cons];by_cases h:j=i <;> simp[h]
theorem qt (H:Hp) (n i:Nat) (todo seen:List Nat) {sz fz:Nat} {rows:List (List D)} (h:H[i]?=some (.arr sz rows fz)):aB H (n+1) (i::todo) seen=if seen.contains i then aB H n todo seen else aB H n todo (seen++[i]):=by
 simp only[aB,h,Box.refs,List.nil_append]
theorem sI (H:Hp) (n i:Nat) (todo seen:List Nat) {rows:List (List UInt8 × Bool)} (h:H[i]?=some (.mp rows)):aB H (n+1) (i::todo) seen=if seen.contains i then aB H n todo seen else aB H n todo (seen++[i]):=by
 simp only[aB,h,Box.refs,List.nil_append]
theorem mr (H:Hp) (n i:Nat) (todo seen:List Nat) {xs:List L} (h:H[i]?=some (.cells xs)):aB H (n+1) (i::todo) seen=if seen.contains i then aB H n todo seen else aB H n (xs.flatMap L.refs++todo) (seen++[i]):=by
 simp only[aB,h,Box.refs]
abbrev iM:=BitVec 32
def crcP:iM:=0x82f63b78#32
def kz (x:iM):iM:=if x.getLsbD 0 then(x >>> 1) ^^^ crcP else x >>> 1
def fh:Nat->iM->iM
 | 0,x=>x
 | n+1,x=>fh n (kz x)
def pf (x:iM) (c:UInt8):iM:=fh 8 (x ^^^ BitVec.ofNat 32 c.toNat)
def cr (sum:iM) (s:List UInt8):iM := ~~~(s.foldl pf (~~~sum))
def Fb (b:Bool) (x:iM):iM:=if b then x else 0#32
theorem mK (x:iM):kz x=(x >>> 1) ^^^ Fb (x.getLsbD 0) crcP:=by
 unfold kz Fb;split <;> simp
theorem Jw (b:Bool) (x:iM) (i:Nat):(Fb b x).getLsbD i=(b && x.getLsbD i):=by cases b <;> simp[Fb]
theorem Dq (b:Bool) (x:iM) (n:Nat):(Fb b x) >>> n=Fb b (x >>> n):=by cases b <;> simp[Fb]
theorem kH (x:iM) (i:Nat) (hp:crcP.getLsbD i=false):(kz x).getLsbD i=x.getLsbD (1+i):=by
 rw[mK];simp only[BitVec.getLsbD_xor,BitVec.getLsbD_ushiftRight,Jw,hp,Bool.and_false,Bool.xor_false]
theorem Pq (x:iM):fh 4 x=(x >>> 4) ^^^ (Fb (x.getLsbD 0) (crcP >>> 3) ^^^ (Fb (x.getLsbD 1) (crcP >>> 2) ^^^ (Fb (x.getLsbD 2) (crcP >>> 1) ^^^ Fb (x.getLsbD 3) crcP))):=by
 have p0:crcP.getLsbD 0=false:=by decide
 have p1:crcP.getLsbD 1=false:=by decide
 have p2:crcP.getLsbD 2=false:=by decide
 simp only[fh];have b1:=kH x 0 p0;have b2:=kH x 1 p1;have b3:=kH x 2 p2;have c1:=kH (kz x) 0 p0;have c2:=kH (kz x) 1 p1;have d1:=kH (kz (kz x)) 0 p0;simp only[Nat.reduceAdd] at b1 b2 b3 c1 c2 d1;rw[mK (kz (kz (kz x))),d1,c2,b3,mK (kz (kz x)),c1,b2,mK (kz x),b1,mK x];simp only[BitVec.ushiftRight_xor_distrib,Dq,<- BitVec.shiftRight_add,Nat.reduceAdd,BitVec.xor_assoc]
theorem P0 (x:iM):fh 4 x=(x >>> 4) ^^^ fh 4 (x &&& 15#32):=by
 rw[Pq x,Pq (x &&& 15#32)];have h:∀ i,i<4->(x &&& 15#32).getLsbD i=x.getLsbD i:=by
  intro i hi;rw[BitVec.getLsbD_and];have:(15#32:iM).getLsbD i=true:=by
   match i,hi with
   | 0,_=>decide
   | 1,_=>decide
   | 2,_=>decide
   | 3,_=>decide
  rw[this,Bool.and_true]
 have h0:(x &&& 15#32) >>> 4=0#32:=by
  rw[BitVec.ushiftRight_and_distrib];have:(15#32:iM) >>> 4=0#32:=by decide
  rw[this,BitVec.and_zero]
 rw[h 0 (by decide),h 1 (by decide),h 2 (by decide),h 3 (by decide),h0,BitVec.zero_xor]
theorem pi:∀ (a b:Nat) (x:iM),fh (a+b) x=fh b (fh a x)
 | 0,b,x=>by simp[fh]
 | a+1,b,x=>by rw[show a+1+b=(a+b)+1 by omega];simp only[fh];exact pi a b _
theorem Jy (x:iM) (c:UInt8):pf x c=(let y:=x ^^^ BitVec.ofNat 32 c.toNat;let z:=(y >>> 4) ^^^ fh 4 (y &&& 15#32);(z >>> 4) ^^^ fh 4 (z &&& 15#32)):=by
 simp only[pf];rw[show(8:Nat)=4+4 from rfl,pi,P0 (fh 4 _),P0 (x ^^^ _)]
def ai (n:Nat):List UInt8:=if n<128 then[UInt8.ofNat n] else UInt8.ofNat (128+n % 128)::ai (n / 128)
termination_by n
decreasing_by omega
theorem iV {n:Nat} (h:n<128):ai n=[UInt8.ofNat n]:=by rw[ai,if_pos h]
theorem oX {n:Nat} (h:¬ n<128):ai n=UInt8.ofNat (128+n % 128)::ai (n / 128):=by rw[ai,if_neg h]
def nd (n:Nat):Nat:=(ai n).length
theorem jg {n:Nat} (h:n<128):nd n=1:=by unfold nd;rw[iV h];rfl
theorem nV {n:Nat} (h:¬ n<128):nd n=nd (n / 128)+1:=by unfold nd;rw[oX h];rfl
theorem fL (n:Nat):1<=nd n:=by
 by_cases h:n<128
 ·rw[jg h];exact Nat.le_refl _
 ·rw[nV h];omega
theorem fq:∀ (k n:Nat),nd n=k+1↔(n<128 ^ (k+1)∧(k=0∨128 ^ k<=n))
 | 0,n=>by
  by_cases h:n<128
  ·simp[jg h,h]
  ·simp only[nV h,true_or,and_true,Nat.zero_add,Nat.pow_one];have:=fL (n / 128);omega
 | k+1,n=>by
  by_cases h:n<128
  ·rw[jg h];have:128<=128 ^ (k+1):=by rw[Nat.pow_succ];have:=Nat.pow_pos (n:=k) (by decide:0<128);omega
   omega
  ·rw[nV h];have ih:=fq k (n / 128);have e1:n / 128<128 ^ (k+1)↔n<128 ^ (k+2):=by rw[Nat.div_lt_iff_lt_mul (by decide),<- Nat.pow_succ]
   have e2:128 ^ k<=n / 128↔128 ^ (k+1)<=n:=by rw[Nat.le_div_iff_mul_le (by decide),<- Nat.pow_succ]
   constructor
   ·intro hh;obtain⟨h1,h2⟩:=ih.1 (by omega)
    refine⟨e1.1 h1,.inr ?_⟩;rcases h2 with h2|h2
    ·subst h2;simpa using Nat.le_of_not_lt h
    ·exact e2.1 h2
   ·rintro⟨h1,h2⟩;have h2':128 ^ (k+1)<=n:=by
     rcases h2 with h2|h2
     ·omega
     ·exact h2
    have:=ih.2 ⟨e1.2 h1,.inr (e2.2 h2')⟩;omega
theorem dD {n:Nat} (h:n<9223372036854775808):nd n<=9:=by
 have hp:=fL n;have:=(fq (nd n-1) n).1 (by omega)
 rcases this.2 with h0|h0
 ·omega
 ·rcases Nat.lt_or_ge (nd n-1) 9 with h9|h9
  ·omega
  ·have:128 ^ 9<=128 ^ (nd n-1):=Nat.pow_le_pow_right (by decide) h9
   have e:(128:Nat) ^ 9=9223372036854775808:=by decide
   omega
theorem nX:∀ (k n:Nat),nd n=k+1->ai n=(List.range k).map (fun i=>UInt8.ofNat (128+n / 128 ^ i % 128))++[UInt8.ofNat (n / 128 ^ k)]
 | 0,n,h=>by
  have:=((fq 0 n).1 h).1;rw[iV (by simpa using this)];simp
 | k+1,n,h=>by
  have hb:¬ n<128:=by
   intro hs;rw[jg hs] at h;omega
  rw[nV hb] at h;rw[oX hb,nX k (n / 128) (by omega),List.range_succ_eq_map]
  simp only[List.map_cons,List.map_map,Nat.pow_zero,Nat.div_one,List.cons_append];congr 2
  ·apply List.map_congr_left;intro i _;simp only[Function.comp,Nat.succ_eq_add_one];rw[Nat.div_div_eq_div_mul,Nat.pow_succ,Nat.mul_comm 128]
  ·rw[Nat.div_div_eq_div_mul,Nat.pow_succ,Nat.mul_comm 128]
def val:List UInt8->Nat
 | []=>0
 | c::r=>c.toNat % 128+128*val r
def j8:List UInt8->Nat->Nat->Option (Nat × Nat)
 | [],_,_=>none
 | c::r,i,n=>if 9<=i then none else if 128<=c.toNat then j8 r (i+1) (n+c.toNat % 128*128 ^ i) else if c.toNat=0∧0<i then none else some (n+c.toNat*128 ^ i,i+1)
def oi:List UInt8->Bool
 | []=>false
 | [c]=>decide (c.toNat<128)
 | c::d::r=>decide (128<=c.toNat) && oi (d::r)
theorem dE {n:Nat} (h:n<256):(UInt8.ofNat n).toNat=n:=by simp;omega
theorem w7:∀ (l:List UInt8),oi l=true->((l.getLast?.map UInt8.toNat≠some 0∨l.length=1)->ai (val l)=l)∧(l.getLast?.map UInt8.toNat=some 0->val l=0∨∃ k,0<k∧val l<128 ^ (l.length-1))
 | [],h=>by cases h
 | [c],h=>by
  simp only[oi,decide_eq_true_eq] at h;refine⟨fun _=>?_,fun h0=>.inl ?_⟩
  ·simp only[val,Nat.mul_zero,Nat.add_zero];rw[Nat.mod_eq_of_lt h,iV h];simp
  ·simp at h0;simp[val,h0]
 | c::d::r,h=>by
  simp only[oi,Bool.and_eq_true,decide_eq_true_eq] at h;obtain⟨h1,h2⟩:=h;have hc:=c.toNat_lt;have ih:=w7 (d::r) h2;have hl:(c::d::r).getLast?=(d::r).getLast?:=by simp[List.getLast?_cons_cons]
  rw[hl];refine⟨fun h0=>?_,fun h0=>?_⟩
  ·rcases h0 with h0|h0
   ·have ihv:=ih.1 (.inl h0);have hv:val (c::d::r)=c.toNat % 128+128*val (d::r):=rfl;have hpos:0<val (d::r):=by
     rcases Nat.eq_zero_or_pos (val (d::r)) with hz|hz
     ·rw[hz,iV (by decide)] at ihv
      rw[<- ihv] at h0;simp at h0
     ·exact hz
    rw[hv,oX (by omega)]
    have e1:(c.toNat % 128+128*val (d::r)) % 128=c.toNat % 128:=by omega
    have e2:(c.toNat % 128+128*val (d::r)) / 128=val (d::r):=by omega
    rw[e1,e2,ihv];congr 1
    apply UInt8.toNat_inj.1;rw[dE (by omega)];omega
   ·simp at h0
  ·rcases ih.2 h0 with hz|⟨k,hk,hlt⟩
   ·refine .inr ⟨1,by decide,?_⟩
    simp only[val,List.length_cons] at hz ⊢;rw[hz];have:128<=128 ^ (r.length+1+1-1):=by
     rw[show r.length+1+1-1=r.length+1 by omega,Nat.pow_succ]
     have:=Nat.pow_pos (n:=r.length) (by decide:0<128)
     omega
    omega
   ·refine .inr ⟨1,by decide,?_⟩
    simp only[List.length_cons] at hlt ⊢;have hv:val (c::d::r)=c.toNat % 128+128*val (d::r):=rfl;rw[hv];have e:128 ^ (r.length+1+1-1)=128 ^ (r.length+1-1)*128:=by rw[<- Nat.pow_succ];congr 1
    rw[e];omega
theorem yD (l:List UInt8) (h:oi l=true):ai (val l)=l↔¬ (l.getLast?.map UInt8.toNat=some 0∧1<l.length):=by
 have hne:l≠[]:=by intro e;subst e;cases h
 have hlen:0<l.length:=List.length_pos_iff.2 hne;constructor
 ·rintro he ⟨h0,h1⟩;have hn:nd (val l)=l.length:=by unfold nd;rw[he]
  rcases(w7 l h).2 h0 with hz|⟨k,_,hlt⟩
  ·rw[hz,jg (by decide)] at hn;omega
  ·have:=(fq (l.length-1) (val l)).1 (by omega)
   rcases this.2 with h3|h3 <;> omega
 ·intro hh;apply(w7 l h).1;by_cases h0:l.getLast?.map UInt8.toNat=some 0
  ·exact .inr (by have:¬ 1<l.length:=fun h1=>hh ⟨h0,h1⟩;omega)
  ·exact .inl h0
set_option linter.defProp false
theorem ji (n:Nat) (x:BitVec n):BitVec.ofInt n ((x.toNat:Nat):Int)=x:=by
 apply BitVec.eq_of_toNat_eq;simp
theorem ki (x:iM):IntKind.u32.wrap ((x.toNat:Nat):Int)=((x.toNat:Nat):Int):=sU (by have:=x.isLt;omega)
theorem Ln (x y:iM):db .xor (.i .u32 ((x.toNat:Nat):Int)) (.i .u32 ((y.toNat:Nat):Int))=some (.i .u32 (((x ^^^ y).toNat:Nat):Int)):=by
 simp only[db,ne_eq,not_true_eq_false,if_false];rw[show IntKind.u32.bits=32 from rfl,ji,ji,ki]
theorem LX (x:iM):db .xor (.i .u32 ((x.toNat:Nat):Int)) (.i .u32 2197175160)=some (.i .u32 (((x ^^^ crcP).toNat:Nat):Int)):=Ln x crcP
theorem Oz (x:iM):db .and (.i .u32 ((x.toNat:Nat):Int)) (.i .u32 15)=some (.i .u32 (((x &&& 15#32).toNat:Nat):Int)):=by
 simp only[db,ne_eq,not_true_eq_false,if_false];rw[show IntKind.u32.bits=32 from rfl,ji,show BitVec.ofInt 32 15=15#32 from rfl,ki]
theorem Qw (x:iM):db .and (.i .u32 ((x.toNat:Nat):Int)) (.i .u32 1)=some (.i .u32 (((x &&& 1#32).toNat:Nat):Int)):=by
 simp only[db,ne_eq,not_true_eq_false,if_false];rw[show IntKind.u32.bits=32 from rfl,ji,show BitVec.ofInt 32 1=1#32 from rfl,ki]
theorem OE (x:iM):MJ .xor (.i .u32 ((x.toNat:Nat):Int))=some (.i .u32 (((~~~x).toNat:Nat):Int)):=by
 simp only[MJ];rw[show IntKind.u32.bits=32 from rfl,show IntKind.u32.signed=false from rfl,ji]
 have:BitVec.ofInt 32 (if false=true then -1 else IntKind.u32.max)=BitVec.allOnes 32:=by decide
 rw[this,BitVec.allOnes_xor,ki]
theorem ya (a b:Nat):((a:Nat):Int).fdiv ((b:Nat):Int)=((a / b:Nat):Int):=by
 rw[Int.fdiv_eq_ediv_of_nonneg _ (by omega)];simp
theorem xD (x:iM) (n:Nat) (hn:n<=32) (k:IntKind):db .shr (.i .u32 ((x.toNat:Nat):Int)) (.i k ((n:Nat):Int))=some (.i .u32 (((x >>> n).toNat:Nat):Int)):=by
 simp only[db];rw[if_neg (by omega),show IntKind.u32.bits=32 from rfl,Int.toNat_natCast,Nat.min_eq_left hn]
 have:=ya x.toNat (2 ^ n);rw[show((2 ^ n:Nat):Int)=(2:Int) ^ n by simp] at this
 rw[this,BitVec.toNat_ushiftRight,Nat.shiftRight_eq_div_pow]
theorem Kz (x:iM) (k:IntKind):db .shr (.i .u32 ((x.toNat:Nat):Int)) (.i k 1)=some (.i .u32 (((x >>> 1).toNat:Nat):Int)):=xD x 1 (by decide) k
theorem Kv (x:iM) (k:IntKind):db .shr (.i .u32 ((x.toNat:Nat):Int)) (.i k 4)=some (.i .u32 (((x >>> 4).toNat:Nat):Int)):=xD x 4 (by decide) k
theorem Kc (x:iM) (k:IntKind):db .shr (.i .u32 ((x.toNat:Nat):Int)) (.i k 8)=some (.i .u32 (((x >>> 8).toNat:Nat):Int)):=xD x 8 (by decide) k
theorem Hu (x:iM) (k:IntKind):db .shr (.i .u32 ((x.toNat:Nat):Int)) (.i k 16)=some (.i .u32 (((x >>> 16).toNat:Nat):Int)):=xD x 16 (by decide) k
theorem F9 (x:iM) (k:IntKind):db .shr (.i .u32 ((x.toNat:Nat):Int)) (.i k 24)=some (.i .u32 (((x >>> 24).toNat:Nat):Int)):=xD x 24 (by decide) k
theorem KN (x:iM):db .quo (.i .u32 ((x.toNat:Nat):Int)) (.i .u32 2)=some (.i .u32 (((x >>> 1).toNat:Nat):Int)):=by
 simp only[db,ne_eq,not_true_eq_false,if_false];rw[if_neg (by decide),Int.tdiv_eq_ediv_of_nonneg (by omega)]
 have:((x.toNat:Nat):Int) / (2:Int)=(((x >>> 1).toNat:Nat):Int):=by
  rw[BitVec.toNat_ushiftRight,Nat.shiftRight_eq_div_pow];omega
 rw[this,ki]
theorem J7 (x:iM):db .rem (.i .u32 ((x.toNat:Nat):Int)) (.i .u32 2)=some (.i .u32 (bif x.getLsbD 0 then 1 else 0)):=by
 simp only[db,ne_eq,not_true_eq_false,if_false];rw[if_neg (by decide),Int.tmod_eq_emod_of_nonneg (by omega)]
 have:x.getLsbD 0=decide (x.toNat % 2=1):=by
  rw[BitVec.getLsbD,Nat.testBit_zero]
 rw[this];by_cases h:x.toNat % 2=1
 ·have e:((x.toNat:Nat):Int) % 2=1:=by omega
  simp[h,e]
 ·have e:((x.toNat:Nat):Int) % 2=0:=by omega
  have e':¬ x.toNat % 2=1:=h;simp[e',e]
theorem ua (c:UInt8):IntKind.u32.wrap ((c.toNat:Nat):Int)=(((BitVec.ofNat 32 c.toNat).toNat:Nat):Int):=by
 have:=c.toNat_lt;rw[sU (by omega)]
 simp
theorem iS (n:Nat):IntKind.u8.wrap ((n:Nat):Int)=((n % 256:Nat):Int):=by
 simp[IntKind.wrap,IntKind.bits,IntKind.signed]
theorem tX (n:Nat):UInt8.ofNat (n % 256)=UInt8.ofNat n:=by
 apply UInt8.toNat_inj.1;simp
theorem jO:fG []=some []:=Eq.trans rfl rfl
theorem gq (n:Int) (r:List (List D)):fG ([.i .u8 n]::r)=match fG r with|some bs=>some (UInt8.ofNat n.toNat::bs)|none=>none:=Eq.trans rfl rfl
theorem lc:∀ l:List UInt8,fG (aw l)=some l
 | []=>rfl
 | c::l=>by
  have e:aw (c::l)=[.i .u8 ((c.toNat:Nat):Int)]::aw l:=rfl;rw[e,gq,lc l];simp
theorem oe (l:List UInt8):aQ 1 (aw l)=true:=by simp[aQ,aw]
theorem dp (l:List UInt8):(aw l).length=l.length:=by simp[aw]
def iH (x:iM):List UInt8:=[UInt8.ofNat x.toNat,UInt8.ofNat (x >>> 8).toNat,UInt8.ofNat (x >>> 16).toNat,UInt8.ofNat (x >>> 24).toNat]
theorem mG (l:List UInt8) (k:Nat) (h:k<l.length):l[k]?=some (l[k]'h):=by simp[h]
def jJ:=And.intro @Ln (And.intro @LX (And.intro @Oz (And.intro @OE (And.intro @Kz (And.intro @Kv (And.intro @Kc (And.intro @Hu (And.intro @F9 (And.intro @KN @J7)))))))))
def tabW:List L:=(List.range 16).map fun i=>L.d (.i .u32 (((fh 4 (BitVec.ofNat 32 i)).toNat:Nat):Int))
def iE (k:Nat):List L:=(List.range 16).map fun i=>L.d (.i .u32 (if i<k then(((fh 4 (BitVec.ofNat 32 i)).toNat:Nat):Int) else 0))
theorem lO (k:Nat):(iE k).length=16:=by simp[iE]
theorem vL:iE 16=tabW:=by
 unfold iE tabW;apply List.map_congr_left;intro i hi;rw[if_pos (by simpa using hi)]
theorem G3:iE 0=List.replicate 16 (L.d (.i .u32 0)):=by rfl
theorem Ie (k:Nat) (hk:k<16):(iE k).take k++[L.d (.i .u32 (((fh 4 (BitVec.ofNat 32 k)).toNat:Nat):Int))]++(iE k).drop (k+1)=iE (k+1):=by
 have e:(iE k).take k++[L.d (.i .u32 (((fh 4 (BitVec.ofNat 32 k)).toNat:Nat):Int))]++(iE k).drop (k+1)=(iE k).set k (L.d (.i .u32 (((fh 4 (BitVec.ofNat 32 k)).toNat:Nat):Int))):=by
  rw[List.set_eq_take_append_cons_drop,if_pos (by rw[lO];exact hk)];simp
 rw[e];apply List.ext_getElem?;intro i;rw[List.getElem?_set,lO];by_cases h:k=i
 ·subst h;simp[iE,hk]
 ·rw[if_neg h];simp only[iE,List.getElem?_map];rcases Nat.lt_or_ge i 16 with hi|hi
  ·rw[List.getElem?_range hi];simp only[Option.map_some];have:(i<k)=(i<k+1):=by rw[eq_iff_iff];omega
   simp only[this]
  ·rw[List.getElem?_eq_none (by simpa using hi)];rfl
theorem DR (x:iM):db .and (.i .u32 2197175160) (.i .u32 (IntKind.u32.wrap (0-(((x &&& 1#32).toNat:Nat):Int))))=some (.i .u32 (((Fb (x.getLsbD 0) crcP).toNat:Nat):Int)):=by
 have h1:(x &&& 1#32).toNat=if x.getLsbD 0=true then 1 else 0:=by
  have:x &&& 1#32=if x.getLsbD 0=true then 1#32 else 0#32:=by
   apply BitVec.eq_of_getLsbD_eq;intro i hi;rw[BitVec.getLsbD_and];cases i with
   | zero=>cases hx:x.getLsbD 0 <;> simp
   | succ i =>
    have:(1#32:iM).getLsbD (i+1)=false:=by simp
    rw[this,Bool.and_false];split <;> simp
  rw[this];split <;> rfl
 rw[h1];cases hx:x.getLsbD 0 with
 | true=>rfl
 | false=>rfl
theorem KT (x:iM):tabW[(x &&& 15#32).toNat]?=some (.d (.i .u32 (((fh 4 (x &&& 15#32)).toNat:Nat):Int))):=by
 have h:(x &&& 15#32).toNat<16:=by
  rw[BitVec.toNat_and];exact Nat.lt_of_le_of_lt Nat.and_le_right (by decide)
 simp only[tabW,List.getElem?_map,List.getElem?_range h,Option.map_some];rw[BitVec.ofNat_toNat,BitVec.setWidth_eq]
theorem xB (x:iM):(x &&& 15#32).toNat<16:=by
 rw[BitVec.toNat_and];exact Nat.lt_of_le_of_lt Nat.and_le_right (by decide)
theorem sh:tabW.length=16:=by simp[tabW]
theorem gF (k:Nat):(iE k).flatMap L.refs=[]:=by
 rw[List.flatMap_eq_nil_iff];intro x hx;simp only[iE,List.mem_map] at hx;obtain⟨i,_,rfl⟩:=hx;rfl
theorem je (k:Nat) (ρ:Nat->Option Nat):(iE k).map (L.ren ρ)=iE k:=by
 conv=>rhs;rw[<- List.map_id (iE k)]
 apply List.map_congr_left;intro x hx;simp only[iE,List.mem_map] at hx;obtain⟨i,_,rfl⟩:=hx;rfl
theorem mX:tabW.flatMap L.refs=[]:=by rw[<- vL];exact gF 16
theorem oU (ρ:Nat->Option Nat):tabW.map (L.ren ρ)=tabW:=by rw[<- vL];exact je 16 ρ
theorem tabW_pure:tabW.all L.pure=true:=by
 rw[List.all_eq_true];intro x hx;simp only[tabW,List.mem_map] at hx;obtain⟨i,_,rfl⟩:=hx;rfl
theorem K0 (H:Hp):gk tabW H=some (tabW,H):=by
 have:tabW=((List.range 16).map fun i=>(D.i .u32 (((fh 4 (BitVec.ofNat 32 i)).toNat:Nat):Int))).map L.d:=by simp only[tabW,List.map_map];rfl
 rw[this];exact sP _ H
def blen (n:Nat):Nat:=if n=0 then 0 else Nat.log2 n+1
theorem gl (n j:Nat):blen n<=j↔n<2 ^ j:=by
 unfold blen;by_cases h:n=0
 ·subst h;simp[Nat.pow_pos]
 ·rw[if_neg h,Nat.succ_le_iff,Nat.log2_lt h]
theorem fI (n j:Nat) (h:2 ^ j<=n):blen n=blen (n / 2 ^ j)+j:=by
 apply Nat.le_antisymm
 ·rw[gl,Nat.pow_add];have:=(gl (n / 2 ^ j) (blen (n / 2 ^ j))).1 (Nat.le_refl _);rwa [Nat.div_lt_iff_lt_mul (Nat.pow_pos (by decide))] at this
 ·have h0:j<blen n:=by
   have:=(not_congr (gl n j)).2 (by omega);omega
  have:blen (n / 2 ^ j)<=blen n-j:=by
   rw[gl,Nat.div_lt_iff_lt_mul (Nat.pow_pos (by decide)),<- Nat.pow_add]
   have:=(gl n (blen n)).1 (Nat.le_refl _);rwa [Nat.sub_add_cancel (by omega)]
  omega
theorem Kr (n:Nat):max 1 ((blen n+6) / 7)=nd n:=by
 have hp:=fL n;obtain⟨k,hk⟩:∃ k,nd n=k+1:=⟨nd n-1,by omega⟩
 obtain⟨h1,h2⟩:=(fq k n).1 hk;have e:∀ j,(128:Nat) ^ j=2 ^ (7*j):=fun j=>by rw[Nat.pow_mul]
 have u:blen n<=7*(k+1):=by rw[gl,<- e];exact h1
 rcases h2 with h2|h2
 ·omega
 ·have l:¬ blen n<=7*k:=by rw[gl,<- e];omega
  omega
theorem ik:∀ m,m<256->([0,1,2,2,3,3,3,3,4,4,4,4,4,4,4,4,5,5,5,5,5,5,5,5,5,5,5,5,5,5,5,5,6,6,6,6,6,6,6,6,6,6,6,6,6,6,6,6,6,6,6,6,6,6,6,6,6,6,6,6,6,6,6,6,7,7,7,7,7,7,7,7,7,7,7,7,7,7,7,7,7,7,7,7,7,7,7,7,7,7,7,7,7,7,7,7,7,7,7,7,7,7,7,7,7,7,7,7,7,7,7,7,7,7,7,7,7,7,7,7,7,7,7,7,7,7,7,7,8,8,8,8,8,8,8,8,8,8,8,8,8,8,8,8,8,8,8,8,8,8,8,8,8,8,8,8,8,8,8,8,8,8,8,8,8,8,8,8,8,8,8,8,8,8,8,8,8,8,8,8,8,8,8,8,8,8,8,8,8,8,8,8,8,8,8,8,8,8,8,8,8,8,8,8,8,8,8,8,8,8,8,8,8,8,8,8,8,8,8,8,8,8,8,8,8,8,8,8,8,8,8,8,8,8,8,8,8,8,8,8,8,8,8,8,8,8,8,8,8,8,8,8,8,8,8,8]:List UInt8)[m]?=some (UInt8.ofNat (blen m)):=by decide +kernel
theorem By {m:Nat} (h:m<256):(UInt8.ofNat (blen m)).toNat=blen m:=by
 have:=(gl m 8).2 h;simp;omega
theorem rW (k k':IntKind) (a n:Nat) (hn:n<=k.bits):db .shr (.i k ((a:Nat):Int)) (.i k' ((n:Nat):Int))=some (.i k ((a / 2 ^ n:Nat):Int)):=by
 simp only[db];rw[if_neg (by omega),Int.toNat_natCast,Nat.min_eq_left hn]
 have:=ya a (2 ^ n);rw[show((2 ^ n:Nat):Int)=(2:Int) ^ n by simp] at this
 rw[this]
theorem gY (a:Nat) (k':IntKind):db .shr (.i .u64 ((a:Nat):Int)) (.i k' 32)=some (.i .u64 ((a / 4294967296:Nat):Int)):=rW .u64 k' a 32 (by decide)
theorem gX (a:Nat) (k':IntKind):db .shr (.i .u64 ((a:Nat):Int)) (.i k' 16)=some (.i .u64 ((a / 65536:Nat):Int)):=rW .u64 k' a 16 (by decide)
theorem jC (a:Nat) (k':IntKind):db .shr (.i .u64 ((a:Nat):Int)) (.i k' 8)=some (.i .u64 ((a / 256:Nat):Int)):=rW .u64 k' a 8 (by decide)
theorem OX:∀ a,a<256->(BitVec.ofNat 8 a ||| 128#8).toNat=128+a % 128:=by decide +kernel
theorem L3:∀ a,a<256->(BitVec.ofNat 8 a &&& 127#8).toNat=a % 128:=by decide +kernel
theorem Uo (a:Nat):db .or (.i .u8 ((a % 256:Nat):Int)) (.i .u8 128)=some (.i .u8 ((128+a % 128:Nat):Int)):=by
 simp only[db,ne_eq,not_true_eq_false,if_false];have h1:BitVec.ofInt 8 ((a % 256:Nat):Int)=BitVec.ofNat 8 (a % 256):=by
  apply BitVec.eq_of_toNat_eq;simp;omega
 rw[show IntKind.u8.bits=8 from rfl,h1,show BitVec.ofInt 8 128=128#8 from rfl,OX _ (by omega),iS]
 congr 3;omega
theorem N8 (a:Nat) (h:a<256):db .and (.i .u8 ((a:Nat):Int)) (.i .u8 127)=some (.i .u8 ((a % 128:Nat):Int)):=by
 simp only[db,ne_eq,not_true_eq_false,if_false];have h1:BitVec.ofInt 8 ((a:Nat):Int)=BitVec.ofNat 8 a:=by
  apply BitVec.eq_of_toNat_eq;simp
 rw[show IntKind.u8.bits=8 from rfl,h1,show BitVec.ofInt 8 127=127#8 from rfl,L3 _ h,iS]
 congr 3;omega
theorem QV (a b n:Nat) (ha:a<2 ^ n) (hb:b*2 ^ n+a<9223372036854775808):db .or (.i .i64 ((a:Nat):Int)) (.i .i64 ((b*2 ^ n:Nat):Int))=some (.i .i64 ((a+b*2 ^ n:Nat):Int)):=by
 simp only[db,ne_eq,not_true_eq_false,if_false];have h1:∀ x:Nat,x<9223372036854775808->BitVec.ofInt 64 ((x:Nat):Int)=BitVec.ofNat 64 x:=by
  intro x hx;apply BitVec.eq_of_toNat_eq;simp
 rw[show IntKind.i64.bits=64 from rfl,h1 _ (by omega),h1 _ (by omega)]
 have h2:(BitVec.ofNat 64 a ||| BitVec.ofNat 64 (b*2 ^ n)).toNat=a+b*2 ^ n:=by
  rw[BitVec.toNat_or,BitVec.toNat_ofNat,BitVec.toNat_ofNat,Nat.mod_eq_of_lt (by omega),Nat.mod_eq_of_lt (by omega),Nat.or_comm,<- Nat.shiftLeft_eq,<- Nat.shiftLeft_add_eq_or_of_lt ha,Nat.add_comm]
 rw[h2,gH (by omega)]
def xL (n k i:Nat):Nat:=if i<k then 128+n / 128 ^ i % 128 else 0
def putR (n m k:Nat):List (List D):=(List.range m).map fun i=>[D.i .u8 ((xL n k i:Nat):Int)]
theorem kG (n m k:Nat):(putR n m k).length=m:=by simp[putR]
theorem uI (n m:Nat):putR n m 0=List.replicate m [D.i .u8 0]:=by
 apply List.ext_getElem?;intro i;simp only[putR,List.getElem?_map,List.getElem?_replicate];by_cases h:i<m
 ·rw[List.getElem?_range h];simp[xL,h]
 ·rw[List.getElem?_eq_none (by simpa using h),if_neg h];rfl
theorem ka (n m k i:Nat) (h:i<m):(putR n m k)[i]?=some [D.i .u8 ((xL n k i:Nat):Int)]:=by
 simp only[putR,List.getElem?_map,List.getElem?_range h,Option.map_some]
theorem Hn (n m k:Nat) (h:k<m):(putR n m k).set k [D.i .u8 ((128+n / 128 ^ k % 128:Nat):Int)]=putR n m (k+1):=by
 apply List.ext_getElem?;intro i;rw[List.getElem?_set,kG];by_cases hi:k=i
 ·subst hi;rw[if_pos rfl,if_pos h,ka _ _ _ _ h];simp[xL]
 ·rw[if_neg hi];rcases Nat.lt_or_ge i m with him|him
  ·rw[ka _ _ _ _ him,ka _ _ _ _ him];have e:(i<k)=(i<k+1):=by rw[eq_iff_iff];omega
   simp only[xL,e]
  ·rw[List.getElem?_eq_none (by rw[kG];exact him),List.getElem?_eq_none (by rw[kG];exact him)]
theorem E5 (n k:Nat) (h:nd n=k+1):(putR n (k+1) (k+1)).set k [D.i .u8 ((n / 128 ^ k:Nat):Int)]=aw (ai n):=by
 have hlt:n / 128 ^ k<128:=by
  have:=((fq k n).1 h).1;rw[Nat.div_lt_iff_lt_mul (Nat.pow_pos (by decide))]
  rwa [Nat.pow_succ,Nat.mul_comm] at this
 rw[nX k n h];simp only[aw,List.map_append,List.map_map,List.map_cons,List.map_nil];apply List.ext_getElem?;intro i;rw[List.getElem?_set,kG,List.getElem?_append];simp only[List.length_map,List.length_range];by_cases hi:k=i
 ·subst hi;rw[if_pos rfl,if_pos (by omega),if_neg (by omega),Nat.sub_self,List.getElem?_cons_zero,dE (by omega)]
 ·rw[if_neg hi];rcases Nat.lt_or_ge i k with hik|hik
  ·rw[if_pos hik,ka _ _ _ _ (by omega)]
   simp only[List.getElem?_map,List.getElem?_range hik,Option.map_some,Function.comp,xL,if_pos (by omega:i<k+1)]
   congr 3
   have:n / 128 ^ i % 128<128:=Nat.mod_lt _ (by decide)
   rw[dE (by omega)]
  ·rw[if_neg (by omega),List.getElem?_eq_none (by rw[kG];omega),List.getElem?_eq_none (by simp;omega)]
def EE (p:List UInt8):Prop:=∀ c∈p,128<=c.toNat
theorem tw:∀ (p:List UInt8) (c:UInt8),EE p->c.toNat<128->oi (p++[c])=true
 | [],c,_,h=>by simp[oi,h]
 | [d],c,hp,h=>by
  have:=hp d (List.mem_cons_self ..);simp[oi,h,this]
 | d::e::r,c,hp,h=>by
  have h1:=hp d (List.mem_cons_self ..);have ih:=tw (e::r) c (fun x hx=>hp x (List.mem_cons_of_mem _ hx)) h
  simp only[List.cons_append] at ih ⊢;simp only[oi,h1,decide_true,Bool.true_and];exact ih
theorem oP:∀ (p:List UInt8) (c:UInt8),val (p++[c])=val p+c.toNat % 128*128 ^ p.length
 | [],c=>by simp[val]
 | d::r,c=>by
  simp only[List.cons_append,val,oP r c,List.length_cons,Nat.pow_succ];rw[Nat.mul_add,Nat.mul_comm (128 ^ r.length) 128,Nat.add_assoc];congr 2
  rw[<- Nat.mul_assoc,<- Nat.mul_assoc,Nat.mul_comm 128]
theorem Hg:∀ (p:List UInt8),val p<128 ^ p.length
 | []=>by simp[val]
 | d::r=>by
  have ih:=Hg r;simp only[val,List.length_cons,Nat.pow_succ];have:d.toNat % 128<128:=Nat.mod_lt _ (by decide)
  omega
theorem zn (p:List UInt8) (c:UInt8) (hp:EE p) (hc:c.toNat<128):ai (val p+c.toNat*128 ^ p.length)=p++[c]↔¬ (c.toNat=0∧0<p.length):=by
 have h:=yD (p++[c]) (tw p c hp hc);rw[oP,Nat.mod_eq_of_lt hc] at h;rw[h];simp
theorem FO (s:List UInt8) (a i:Nat) (h:a+i<s.length):(s.take (a+i+1)).drop a=(s.take (a+i)).drop a++[s[a+i]]:=by
 rw[gS s (a+i) h,List.drop_append_of_le_length (by simp;omega)]
theorem Kb (s:List UInt8) (a i:Nat) (h:a+i<=s.length):((s.take (a+i)).drop a).length=i:=by simp;omega
theorem CW:∀ (l p:List UInt8) (n k:Nat),EE p->p.length<=9->j8 l p.length (val p)=some (n,k)->p.length<k∧k<=p.length+l.length∧k<=9∧p++l.take (k-p.length)=ai n
 | [],p,n,k,_,_,h=>by cases h
 | c::l,p,n,k,hp,h9,h=>by
  simp only[j8] at h;split at h
  ·cases h
  ·split at h
   ·rename_i hn9 hc;have hb:EE (p++[c]):=by
     intro x hx;rcases List.mem_append.1 hx with hx|hx
     ·exact hp x hx
     ·simp at hx;subst hx;exact hc
    have hv:val (p++[c])=val p+c.toNat % 128*128 ^ p.length:=oP p c;have hl:(p++[c]).length=p.length+1:=by simp
    have ih:=CW l (p++[c]) n k hb (by omega) (by rw[hl,hv];exact h)
    rw[hl] at ih;obtain⟨i1,i2,i3,i4⟩:=ih;refine⟨by omega,by simp only[List.length_cons];omega,i3,?_⟩
    rw[<- i4,List.append_assoc];congr 1
    rw[show k-p.length=(k-(p.length+1))+1 by omega,List.take_succ_cons]
    rfl
   ·rename_i hn9 hc;split at h
    ·cases h
    ·rename_i h0;simp only[Option.some.injEq,Prod.mk.injEq] at h;obtain⟨h1,h2⟩:=h;have:=(zn p c hp (by omega)).2 h0
     refine⟨by omega,by simp only[List.length_cons];omega,by omega,?_⟩
     rw[<- h2,<- h1,this,Nat.add_sub_cancel_left];simp
theorem fC {l:List UInt8} {n k:Nat} (h:j8 l 0 0=some (n,k)):0<k∧k<=l.length∧k<=9∧l.take k=ai n:=by
 have:=CW l [] n k (fun c hc=>by cases hc) (by decide) h
 simpa using this
theorem Gf:∀ (r:List UInt8) (m i acc:Nat),i+nd m<=9->j8 (ai m++r) i acc=if m=0∧0<i then none else some (acc+m*128 ^ i,i+nd m)
 | r,m,i,acc,h=>by
  by_cases hm:m<128
  ·rw[iV hm,jg hm] at *;have h1:(UInt8.ofNat m).toNat=m:=dE (by omega)
   simp only[List.cons_append,List.nil_append,j8,h1];rw[if_neg (by omega),if_neg (by omega)]
  ·have hq:m / 128<m:=by omega
   rw[nV hm] at h;have ih:=Gf r (m / 128) (i+1) (acc+m % 128*128 ^ i) (by omega)
   have h1:(UInt8.ofNat (128+m % 128)).toNat=128+m % 128:=dE (by omega)
   rw[oX hm];simp only[List.cons_append,j8,h1];have hp:=fL (m / 128);rw[if_neg (by omega),if_pos (by omega)]
   have e:(128+m % 128) % 128=m % 128:=by omega
   rw[e,ih,if_neg (by omega),if_neg (by omega),nV hm]
   have e2:acc+m % 128*128 ^ i+m / 128*128 ^ (i+1)=acc+m*128 ^ i:=by
    rw[Nat.pow_succ,Nat.mul_comm (128 ^ i) 128,<- Nat.mul_assoc,Nat.add_assoc,<- Nat.add_mul];congr 2;omega
   rw[e2];congr 2;omega
termination_by r m=>m
theorem oK (m:Nat) (r:List UInt8) (h:m<9223372036854775808):j8 (ai m++r) 0 0=some (m,nd m):=by
 rw[Gf r m 0 0 (by have:=dD h;omega),if_neg (by omega)];simp
def kC (n:Nat):Bool:=decide (1<=n) && decide (n<=65536)
def aT (b:List UInt8):List UInt8:=ai b.length++iH (cr 0#32 (ai b.length++b))++b
def ky (l:List UInt8):Bool:=decide (l.length<=8) && l.all fun c=>decide (128<=c.toNat)
def yK (n:Int):Int:=if 1<=n∧n<=65536 then nd n.toNat+4+n else 0
def fY (s:List UInt8) (a:Nat):List UInt8 × Nat × Int :=
 if s.length<=a∨ky (s.drop a)=true then([],0,2)
 else match j8 (s.drop a) 0 0 with
  | none=>([],0,3)
  | some (n,k)=>if kC n=false then([],0,3)
   else if s.length<a+k+4+n then([],0,2)
   else if iH (cr 0#32 (ai n++(s.take (a+k+4+n)).drop (a+k+4)))=(s.take (a+k+4)).drop (a+k) then((s.take (a+k+4+n)).drop (a+k+4),a+k+4+n,0)
   else([],0,4)
theorem j5 {s:List UInt8} {a n k:Nat} (h:j8 (s.drop a) 0 0=some (n,k)):(s.take (a+k)).drop a=ai n∧a+k<=s.length∧0<k∧k<=9:=by
 obtain⟨h1,h2,h3,h4⟩:=fC h;have hl:(s.drop a).length=s.length-a:=by simp
 rw[List.drop_take];rw[show a+k-a=k by omega]
 exact⟨h4,by omega,h1,h3⟩
theorem ij (x:iM):(iH x).length=4:=rfl
theorem gy (b:List UInt8):(aT b).length=nd b.length+4+b.length:=by
 simp only[aT,List.length_append,ij];rfl
theorem GW {m:Nat} (r:List UInt8) (h:m<9223372036854775808):ky (ai m++r)=false:=by
 have hs:∃ c∈ai m,c.toNat<128:=by
  have hp:=fL m;obtain⟨k,hk⟩:∃ k,nd m=k+1:=⟨nd m-1,by omega⟩
  have hr:=((fq k m).1 hk).1;rw[nX k m hk];have hlt:m / 128 ^ k<128:=by
   rw[Nat.div_lt_iff_lt_mul (Nat.pow_pos (by decide))]
   rwa [Nat.pow_succ,Nat.mul_comm] at hr
  exact⟨_,List.mem_append_right _ (List.mem_singleton.2 rfl),by rw[dE (by omega)];exact hlt⟩
 obtain⟨c,hc,h1⟩:=hs;have:(ai m++r).all (fun c=>decide (128<=c.toNat))=false:=by
  rw[List.all_eq_false];exact⟨c,List.mem_append_left _ hc,by simp;omega⟩
 simp[ky,this]
theorem KO {α:Type} (p r:List α):(p++r).drop p.length=r:=by simp
theorem CG {α:Type} (p q r:List α) (n:Nat) (h:n=p.length+q.length):((p++(q++r)).take n).drop p.length=q:=by
 subst h;simp[List.take_append]
theorem zd (p b r:List UInt8) (h1:1<=b.length) (h2:b.length<=65536):fY (p++(aT b++r)) p.length=(b,p.length+(aT b).length,0):=by
 have hd:(p++(aT b++r)).drop p.length=ai b.length++(iH (cr 0#32 (ai b.length++b))++b++r):=by
  rw[KO];simp only[aT,List.append_assoc]
 have hl:=gy b;have hn:=fL b.length;unfold fY;rw[hd,if_neg,oK _ _ (by omega)]
 ·dsimp only
  have hf:kC b.length=true:=by simp[kC,h1,h2]
  rw[if_neg (by rw[hf];decide),if_neg (by simp;omega)]
  have hs:p++(aT b++r)=(p++ai b.length)++(iH (cr 0#32 (ai b.length++b))++(b++r)):=by simp only[aT,List.append_assoc]
  have hs2:p++(aT b++r)=(p++ai b.length++iH (cr 0#32 (ai b.length++b)))++(b++r):=by simp only[aT,List.append_assoc]
  have l1:(p++ai b.length).length=p.length+nd b.length:=by simp[nd]
  have l2:(p++ai b.length++iH (cr 0#32 (ai b.length++b))).length=p.length+nd b.length+4:=by rw[List.length_append,l1,ij]
  have t1:((p++(aT b++r)).take (p.length+nd b.length+4+b.length)).drop (p.length+nd b.length+4)=b:=by
   rw[hs2,<- l2];exact CG _ b r _ rfl
  have t2:((p++(aT b++r)).take (p.length+nd b.length+4)).drop (p.length+nd b.length)=iH (cr 0#32 (ai b.length++b)):=by
   rw[hs,<- l1];exact CG _ _ _ _ (by rw[ij])
  rw[t1,t2,if_pos rfl,hl];congr 2;omega
 ·rw[GW _ (by omega)]
  simp only[List.length_append,hl];simp;omega
theorem oD {s t:List UInt8} {a n:Nat} (h:fY s a=(t,n,0)):a<n∧n<=s.length:=by
 unfold fY at h;split at h
 ·simp at h
 ·split at h
  ·simp at h
  ·rename_i m k hr;obtain⟨_,q2,q3,_⟩:=j5 hr;split at h
   ·simp at h
   ·split at h
    ·simp at h
    ·split at h
     ·simp only[Prod.mk.injEq] at h;omega
     ·simp at h
theorem uF (b:List UInt8):0<(aT b).length:=by rw[gy];have:=fL b.length;omega
set_option linter.defProp false
theorem L.pure_of {x:L} (h:x.refs=[]):x.pure=true:=by
 cases x <;> first|rfl|(simp[L.refs] at h;done)|(simp only[L.refs] at h;subst h;rfl)
theorem Ls.pure_of {xs:List L} (h:xs.flatMap L.refs=[]):xs.all L.pure=true:=by
 rw[List.all_eq_true];intro x hx;refine L.pure_of ?_;rw[List.flatMap_eq_nil_iff] at h;exact h x hx
theorem V.pure_of {v:V} (h:v.refs=[]):v.pure=true:=by
 cases v with
 | one x=>exact L.pure_of h
 | agg xs=>exact Ls.pure_of h
 | any=>rfl
 | tup xs =>
  simp only[V.pure,List.all_eq_true];intro c hc;have:=(List.flatMap_eq_nil_iff.1 h) c hc;exact fun x hx=>(List.all_eq_true.1 (Ls.pure_of this)) x hx
theorem cd (fr:Fr):aA fr []=[]:=Eq.trans rfl rfl
theorem aJ {N n:Nat} {f:Fn} (l:List Nat) (h:n<N):aA (aa N f) (n::l)=(f n).refs++aA (aa N f) l:=by
 simp only[aA,List.flatMap_cons,bW h]
theorem SD {N n:Nat} {f:Fn} (h:n<N):xk (aa N f) (.t n)=bif (f n).refs.isEmpty then 0 else 1:=by
 simp only[xk,sL,pt h]
theorem SC (fr:Fr) (v:V):xk fr (.c v)=bif v.refs.isEmpty then 0 else 2:=rfl
def dP (H:Hp):Option (V × Hp)->Option (V × Hp)
 | none=>none
 | some (r,H1)=>some (r.ren (bZ [] H.length H1.length),H++H1.map (Box.ren (bZ [] H.length H1.length)))
theorem slot_pure {fr:Fr} {l:List Nat} (h:aA fr l=[]) {t:Nat} (ht:t∈l) {v:V} (hv:fr[t]?=some v):v.pure=true:=by
 refine V.pure_of ?_;have:=(List.flatMap_eq_nil_iff.1 h) t ht;rwa [hv] at this
theorem iso_pure {φ:cm} {o:AOp} {fr:Fr} {H:Hp} (h:aA fr o.slots=[]):aS φ o fr H=dP H (o.a.run φ fr []):=by
 have hi:aI o fr H=[]:=by rw[aI,h];rfl
 have hr:o.a.run φ ((aY o.slots fr).map (V.ren (aE []))) []=o.a.run φ fr []:=by
  refine qo fun t ht=>?_
  have ht':t∈o.slots:=by simp only[AOp.slots,List.mem_append];exact .inl ht
  rw[List.getElem?_map,bc ht'];cases hv:fr[t]? with
  | none=>rfl
  | some v=>simp only[Option.map_some,V.pure_ren (slot_pure h ht' hv)]
 simp only[aS,hi,aq,List.map_nil,hr];cases o.a.run φ fr [] with
 | none=>rfl
 | some q=>obtain⟨r,H1⟩:=q;simp[dP,bY]
theorem BK {H:Hp} {r:V} (h:r.pure=true):dP H (some (r,[]))=some (r,H):=by
 simp only[dP,V.pure_ren h,List.map_nil,List.append_nil]
theorem xi {H:Hp} {xs:List L} (h:xs.all L.pure=true):dP H (some (.one (.p 0 0),[.cells xs]))=some (.one (.p H.length 0),H++[.cells xs]):=by
 simp[dP,V.ren,L.ren,bZ,Box.ren,Ls.pure_ren h]
theorem Bc {H:Hp} {sz n s f:Nat} {rows:List (List D)}:dP H (some (.one (.sl 0 sz 0 n),[.arr s rows f]))=some (.one (.sl H.length sz 0 n),H++[.arr s rows f]):=by
 simp[dP,V.ren,L.ren,bZ,Box.ren]
theorem yH {H:Hp} {sz n s f:Nat} {rows:List (List D)}:dP H (some (.one (.sl 1 sz 0 n),[.dead,.arr s rows f]))=some (.one (.sl (H.length+1) sz 0 n),H++[.dead,.arr s rows f]):=by
 simp[dP,V.ren,L.ren,bZ,Box.ren]
theorem mM {H:Hp} {i:Nat} {b:Box} (hb:H[i]?=some b) (ha:alive b=true) (hr:b.refs=[]):aF H [i]=[i]:=by
 have:∀ n,aB H (n+1) [i] []=[i]:=by
  intro n;cases b with
  | dead=>cases ha
  | cells xs =>
   rw[mr H n i [] [] hb];have:xs.flatMap L.refs=[]:=hr;rw[this];cases n <;> rfl
  | arr sz rows fz=>rw[qt H n i [] [] hb];cases n <;> rfl
  | mp rows=>rw[sI H n i [] [] hb];cases n <;> rfl
 exact this 999
def oC (g:Option (Nat × Bool)):List Nat:=match g with|some (t,_)=>[t]|none=>[]
theorem Cy {H:Hp} {i j:Nat} {b c:Box} (hij:i≠j) (hb:H[i]?=some b) (ha:alive b=true) (hr:b.refs=[]) (hb2:H[j]?=some c) (ha2:alive c=true) (hr2:c.refs=[]):aF H [i,j]=[i,j]:=by
 have step:∀ (n k:Nat) (todo seen:List Nat) (x:Box),H[k]?=some x->alive x=true->x.refs=[]->aB H (n+1) (k::todo) seen=if seen.contains k then aB H n todo seen else aB H n todo (seen++[k]):=by
  intro n k todo seen x hx hax hrx;cases x with
  | dead=>cases hax
  | cells xs=>rw[mr H n k todo seen hx];have:xs.flatMap L.refs=[]:=hrx;rw[this];rfl
  | arr sz rows fz=>rw[qt H n k todo seen hx]
  | mp rows=>rw[sI H n k todo seen hx]
 have e:aF H [i,j]=aB H (998+1+1) [i,j] []:=rfl;rw[e,step _ i _ _ b hb ha hr,if_neg (by simp),step _ j _ _ c hb2 ha2 hr2,if_neg (by simp[Ne.symm hij])]
 rfl
theorem Jz {φ:cm} {d:Option Nat} {g:Option (Nat × Bool)} {p:List Nat} {str:Bool} {sz bytes s b z n z' fz N:Nat} {x:X} {xv:L} {rows:List (List D)} {f:Fn} {H:Hp} (hN:s<N) (hs:f s=.one (.sl b z 0 n)) (hx:x.ev (aa N f)=some (.one xv)) (hp:xv.refs=[])
  (hg:aA (aa N f) (oC g)=[]) (hH:H[b]?=some (.arr z' rows fz)) :
  aS φ ⟨d,.app str sz bytes (.t s) x,g,p,false⟩ (aa N f) H=(A.app str sz bytes (.t s) x).run φ (aa N f) H∧aI ⟨d,.app str sz bytes (.t s) x,g,p,false⟩ (aa N f) H=[b]:=by
 have hxs:aA (aa N f) x.slot=[]:=by
  cases x with
  | t y =>
   simp only[X.ev] at hx;simp only[X.slot,aA,List.flatMap_cons,List.flatMap_nil,hx,V.refs,hp,List.append_nil]
  | c v=>rfl
 have hsl:aA (aa N f) (AOp.slots ⟨d,.app str sz bytes (.t s) x,g,p,false⟩)=[b]:=by
  have e:AOp.slots ⟨d,.app str sz bytes (.t s) x,g,p,false⟩=[s]++(x.slot++[])++oC g:=rfl;rw[e,List.append_nil];have e2:aA (aa N f) ([s]++x.slot++oC g)=aA (aa N f) [s]++aA (aa N f) x.slot++aA (aa N f) (oC g):=by simp[aA]
  rw[e2,aJ _ hN,cd,hxs,hg,hs];rfl
 have hi:aI ⟨d,.app str sz bytes (.t s) x,g,p,false⟩ (aa N f) H=[b]:=by
  rw[aI,hsl];exact mM hH rfl rfl
 refine⟨?_,hi⟩;have es:X.ev ((aY (AOp.slots ⟨d,.app str sz bytes (.t s) x,g,p,false⟩) (aa N f)).map (V.ren (aE [b]))) (.t s)=some (.one (.sl 0 z 0 n)):=by
  simp only[X.ev,List.getElem?_map];rw[bc (by simp[AOp.slots,A.xs,X.slot]),bW hN,hs]
  simp[V.ren,L.ren,au]
 have ex:X.ev ((aY (AOp.slots ⟨d,.app str sz bytes (.t s) x,g,p,false⟩) (aa N f)).map (V.ren (aE [b]))) x=some (.one xv):=by
  cases x with
  | t y =>
   simp only[X.ev] at hx;simp only[X.ev,List.getElem?_map];rw[bc (by simp[AOp.slots,A.xs,X.slot]),hx]
   simp only[Option.map_some,V.pure_ren (V.pure_of (v:=.one xv) hp)]
  | c v=>exact hx
 have hc:aq H [b]=[.arr z' rows fz]:=by
  simp only[aq,List.map_cons,List.map_nil,List.getD,hH,Option.getD_some,Box.ren]
 have hrow:∀ H2:Hp,cD H2 sz xv=cD [] sz xv:=fun H2=>jX hp
 have es0:X.ev (aa N f) (.t s)=some (.one (.sl b z 0 n)):=by rw[pt hN,hs]
 simp only[aS,hi,hc,A.run,es,ex,es0,hx,hrow,List.getElem?_cons_zero,hH];cases str with
 | false =>
  simp only[cond_false];cases cD [] sz xv with
  | none=>rfl
  | some news =>
   simp only;by_cases h:((z'=sz∨(z'=0∧sz=1))∧n=rows.length∧(rows.length+news.length)*bytes<=140737488355328∧rows.length+news.length<=9223372036854775807∧aQ sz news=true)
   ·simp only[if_pos h];simp[V.ren,L.ren,bZ,Box.ren,bY]
   ·simp only[if_neg h]
 | true =>
  simp only[cond_true];cases xv with
  | d x =>
   cases x with
   | s l =>
    simp only;by_cases h:((z'=sz∨(z'=0∧sz=1))∧n=rows.length∧(rows.length+(aw l).length)*bytes<=140737488355328∧rows.length+(aw l).length<=9223372036854775807∧aQ sz (aw l)=true)
    ·simp only[if_pos h];simp[V.ren,L.ren,bZ,Box.ren,bY]
    ·simp only[if_neg h]
   | _=>rfl
  | _=>rfl
theorem GV {φ:cm} {d:Option Nat} {g:Option (Nat × Bool)} {p:List Nat} {sz bytes s b z n z' fz N y b2 z2 o2 n2 z3 fz2:Nat} {rows rows2:List (List D)} {f:Fn} {H:Hp} (hN:s<N∧y<N) (hs:f s=.one (.sl b z 0 n)) (hy:f y=.one (.sl b2 z2 o2 n2)) (hb:b≠b2)
  (hg:aA (aa N f) (oC g)=[]) (hH:H[b]?=some (.arr z' rows fz)) (hH2:H[b2]?=some (.arr z3 rows2 fz2)) :
  aS φ ⟨d,.app false sz bytes (.t s) (.t y),g,p,false⟩ (aa N f) H=(A.app false sz bytes (.t s) (.t y)).run φ (aa N f) H∧aI ⟨d,.app false sz bytes (.t s) (.t y),g,p,false⟩ (aa N f) H=[b,b2]:=by
 have hsl:aA (aa N f) (AOp.slots ⟨d,.app false sz bytes (.t s) (.t y),g,p,false⟩)=[b,b2]:=by
  have e:AOp.slots ⟨d,.app false sz bytes (.t s) (.t y),g,p,false⟩=[s,y]++oC g:=rfl;rw[e];have e2:aA (aa N f) ([s,y]++oC g)=aA (aa N f) [s,y]++aA (aa N f) (oC g):=by simp[aA]
  rw[e2,aJ _ hN.1,aJ _ hN.2,cd,hg,hs,hy];rfl
 have hi:aI ⟨d,.app false sz bytes (.t s) (.t y),g,p,false⟩ (aa N f) H=[b,b2]:=by
  rw[aI,hsl];exact Cy hb hH rfl rfl hH2 rfl rfl
 refine⟨?_,hi⟩;have es:X.ev ((aY (AOp.slots ⟨d,.app false sz bytes (.t s) (.t y),g,p,false⟩) (aa N f)).map (V.ren (aE [b,b2]))) (.t s)=some (.one (.sl 0 z 0 n)):=by
  simp only[X.ev,List.getElem?_map];rw[bc (by simp[AOp.slots,A.xs,X.slot]),bW hN.1,hs]
  simp[V.ren,L.ren,au]
 have ex:X.ev ((aY (AOp.slots ⟨d,.app false sz bytes (.t s) (.t y),g,p,false⟩) (aa N f)).map (V.ren (aE [b,b2]))) (.t y)=some (.one (.sl 1 z2 o2 n2)):=by
  simp only[X.ev,List.getElem?_map];rw[bc (by simp[AOp.slots,A.xs,X.slot]),bW hN.2,hy]
  simp[V.ren,L.ren,au,hb]
 have hc:aq H [b,b2]=[.arr z' rows fz,.arr z3 rows2 fz2]:=by
  simp only[aq,List.map_cons,List.map_nil,List.getD,hH,hH2,Option.getD_some,Box.ren]
 have es0:X.ev (aa N f) (.t s)=some (.one (.sl b z 0 n)):=by rw[pt hN.1,hs]
 have ex0:X.ev (aa N f) (.t y)=some (.one (.sl b2 z2 o2 n2)):=by rw[pt hN.2,hy]
 simp only[aS,hi,hc,A.run,es,ex,es0,ex0,cD,List.getElem?_cons_zero,List.getElem?_cons_succ,hH,hH2,cond_false];have e2:(H.set b Box.dead).set b2 (Box.arr z3 rows2 fz2)=H.set b Box.dead:=by
  apply List.ext_getElem?;intro k;by_cases hk:b2=k
  ·subst hk;have hlt:=(List.getElem?_eq_some_iff.1 hH2).1;rw[List.getElem?_set_self (by simpa using hlt),List.getElem?_set_ne hb,hH2]
  ·rw[List.getElem?_set_ne hk]
 by_cases h0:(z3=sz∨(z3=0∧sz=1)∨rows2=[])∧o2+n2<=rows2.length
 ·simp only[if_pos h0];by_cases h:((z'=sz∨(z'=0∧sz=1))∧n=rows.length∧(rows.length+((rows2.drop o2).take n2).length)*bytes<=140737488355328∧rows.length+((rows2.drop o2).take n2).length<=9223372036854775807∧aQ sz ((rows2.drop o2).take n2)=true)
  ·simp only[if_pos h];simp[V.ren,L.ren,bZ,Box.ren,bY,e2]
  ·simp only[if_neg h]
 ·simp only[if_neg h0]
theorem Do {φ:cm} {d:Option Nat} {g:Option (Nat × Bool)} {p:List Nat} {sz bytes s b z n z' fz N y b2 z2 o2 n2 z3 fz2:Nat} {rows rows2:List (List D)} {f:Fn} {H:Hp} (hN:s<N∧y<N) (hs:f s=.one (.sl b z 0 n)) (hy:f y=.one (.sl b2 z2 o2 n2)) (hb:b≠b2)
  (hg:aA (aa N f) (oC g)=[]) (hH:H[b]?=some (.arr z' rows fz)) (hH2:H[b2]?=some (.arr z3 rows2 fz2)) :
  aS φ ⟨d,.app true sz bytes (.t s) (.t y),g,p,false⟩ (aa N f) H=(A.app true sz bytes (.t s) (.t y)).run φ (aa N f) H:=by
 have hsl:aA (aa N f) (AOp.slots ⟨d,.app true sz bytes (.t s) (.t y),g,p,false⟩)=[b,b2]:=by
  have e:AOp.slots ⟨d,.app true sz bytes (.t s) (.t y),g,p,false⟩=[s,y]++oC g:=rfl;rw[e];have e2:aA (aa N f) ([s,y]++oC g)=aA (aa N f) [s,y]++aA (aa N f) (oC g):=by simp[aA]
  rw[e2,aJ _ hN.1,aJ _ hN.2,cd,hg,hs,hy];rfl
 have hi:aI ⟨d,.app true sz bytes (.t s) (.t y),g,p,false⟩ (aa N f) H=[b,b2]:=by
  rw[aI,hsl];exact Cy hb hH rfl rfl hH2 rfl rfl
 have es:X.ev ((aY (AOp.slots ⟨d,.app true sz bytes (.t s) (.t y),g,p,false⟩) (aa N f)).map (V.ren (aE [b,b2]))) (.t s)=some (.one (.sl 0 z 0 n)):=by
  simp only[X.ev,List.getElem?_map];rw[bc (by simp[AOp.slots,A.xs,X.slot]),bW hN.1,hs]
  simp[V.ren,L.ren,au]
 have ex:X.ev ((aY (AOp.slots ⟨d,.app true sz bytes (.t s) (.t y),g,p,false⟩) (aa N f)).map (V.ren (aE [b,b2]))) (.t y)=some (.one (.sl 1 z2 o2 n2)):=by
  simp only[X.ev,List.getElem?_map];rw[bc (by simp[AOp.slots,A.xs,X.slot]),bW hN.2,hy]
  simp[V.ren,L.ren,au,hb]
 have es0:X.ev (aa N f) (.t s)=some (.one (.sl b z 0 n)):=by rw[pt hN.1,hs]
 have ex0:X.ev (aa N f) (.t y)=some (.one (.sl b2 z2 o2 n2)):=by rw[pt hN.2,hy]
 simp only[aS,hi,A.run,es,ex,es0,ex0,cond_true]
theorem Jv (o:AOp) (fr:Fr) (H H1:Hp):touch 0 o fr H H1=⟨[],true,[]⟩:=rfl
theorem I0 (o:AOp) (fr:Fr) (H H1:Hp):touch 1 o fr H H1=⟨aA fr o.slots,true,[]⟩:=rfl
theorem JA (d:Option Nat) (a:A) (g:Option (Nat × Bool)) (p:List Nat) (z:Bool) (fr:Fr) (H H1:Hp):touch 2 ⟨d,a,g,p,z⟩ fr H H1=⟨aI ⟨d,a,g,p,z⟩ fr H,LW a.isN H H1,List.range' H.length (H1.length-H.length)⟩:=rfl
theorem PN (H H1:Hp):LW false H H1=false:=rfl
theorem PR (H H1:Hp) (h:H1.take H.length=H):LW true H H1=true:=by simp[LW,h]
theorem IF (d:Option Nat) (a:A) (g:Option (Nat × Bool)) (p:List Nat) (z:Bool):AOp.slots ⟨d,a,g,p,z⟩=a.xs.flatMap X.slot++oC g:=rfl
theorem G7:oC none=[]:=rfl
theorem Hw (t:Nat) (w:Bool):oC (some (t,w))=[t]:=rfl
theorem Nl {α:Type} {φ:cm} {m:Nat} {K:Ex->Fr->Hp->Option α} {fr:Fr} {H:Hp} {st:List KI} {o:AOp} {e:Log} {r:List AOp} {lg lg':List Log} (h:Fd o e lg=true):Su φ m K (Fd o e lg) r lg' fr H st=sW φ m K r lg' fr H st:=by rw[h];rfl
def dQ (φ:cm) (o:AOp) (fr:Fr) (H:Hp):Option (V × Hp):=aS φ o fr H
theorem qO {ids:List Nat} {q d:Nat}:∀ {l:List Nat},(∀ r∈l,r∈ids)->∃ js,jV (aE ids) l=some js∧jV (bZ ids q d) js=some l
 | [],_=>⟨[],rfl,rfl⟩
 | i::r,h=>by
  obtain⟨js,h1,h2⟩:=qO (q:=q) (d:=d) (l:=r) fun k hk=>h k (List.mem_cons_of_mem _ hk)
  obtain⟨j,hj⟩:∃ j,aE ids i=some j:=by
   cases hp:aE ids i with
   | some j=>exact⟨j,rfl⟩
   | none =>
    simp only[aE,List.findIdx?_eq_none_iff] at hp;have:=hp i (h i List.mem_cons_self);simp at this
  have hb:bZ ids q d j=some i:=by
   have:=kY hj;simp only[bZ];rw[if_pos (List.getElem?_eq_some_iff.1 this).1,this]
  exact⟨j::js,by simp only[jV,hj,h1],by simp only[jV,hb,h2]⟩
theorem eg {ids:List Nat} {q d i:Nat} (h:i∈ids):∃ j,aE ids i=some j∧bZ ids q d j=some i∧ids[j]?=some i:=by
 cases hp:aE ids i with
 | some j =>
  have:=kY hp;refine⟨j,rfl,?_,this⟩;simp only[bZ];rw[if_pos (List.getElem?_eq_some_iff.1 this).1,this]
 | none =>
  simp only[aE,List.findIdx?_eq_none_iff] at hp;have:=hp i h;simp at this
theorem L.ren_back {ids:List Nat} {q d:Nat} {x:L} (h:∀ r∈x.refs,r∈ids):(x.ren (aE ids)).ren (bZ ids q d)=x:=by
 cases x with
 | p i o=>obtain⟨j,h1,h2,_⟩:=eg (q:=q) (d:=d) (h i (by simp[L.refs]));simp only[L.ren,h1,h2]
 | ap i k o=>obtain⟨j,h1,h2,_⟩:=eg (q:=q) (d:=d) (h i (by simp[L.refs]));simp only[L.ren,h1,h2]
 | sl i z o n=>obtain⟨j,h1,h2,_⟩:=eg (q:=q) (d:=d) (h i (by simp[L.refs]));simp only[L.ren,h1,h2]
 | f fn caps=>obtain⟨js,h1,h2⟩:=qO (q:=q) (d:=d) (l:=caps) h;simp only[L.ren,h1,h2]
 | y i k=>obtain⟨j,h1,h2,_⟩:=eg (q:=q) (d:=d) (h i (by simp[L.refs]));simp only[L.ren,h1,h2]
 | sp i k=>obtain⟨j,h1,h2,_⟩:=eg (q:=q) (d:=d) (h i (by simp[L.refs]));simp only[L.ren,h1,h2]
 | m i=>obtain⟨j,h1,h2,_⟩:=eg (q:=q) (d:=d) (h i (by simp[L.refs]));simp only[L.ren,h1,h2]
 | _=>rfl
theorem Ls.ren_back {ids:List Nat} {q d:Nat}:∀ {xs:List L},(∀ r∈xs.flatMap L.refs,r∈ids)->(xs.map (L.ren (aE ids))).map (L.ren (bZ ids q d))=xs
 | [],_=>rfl
 | x::r,h=>by
  simp only[List.map_cons];rw[L.ren_back fun k hk=>h k (by rw[List.flatMap_cons];exact List.mem_append_left _ hk),Ls.ren_back fun k hk=>h k (by rw[List.flatMap_cons];exact List.mem_append_right _ hk)]
theorem Box.ren_back {ids:List Nat} {q d:Nat} {b:Box} (h:∀ r∈b.refs,r∈ids):(b.ren (aE ids)).ren (bZ ids q d)=b:=by
 cases b with
 | cells xs=>simp only[Box.ren,Ls.ren_back h]
 | _=>rfl
theorem V.cs_ren (ρ:Nat->Option Nat) (v:V):(v.ren ρ).cs=v.cs.map fun xs=>xs.map (L.ren ρ):=by cases v <;> rfl
def RH (n:Nat) (av:V) (cs:Option (List L)) (H:Hp) (ids:List Nat) (alt:Option (V × Hp)):Option (V × Hp):=match av,cs with
 | .one (.p i off),some ys=>(match H[i]? with
  | some (.cells xs)=>bif ids.contains i && ((ys.flatMap L.refs).all ids.contains && (ids.all (fun k=>(match H[k]? with|some b=>b.refs|none=>[]).all ids.contains) && (decide (ys.length=n) && decide (off+n<=xs.length)))) then some (.tup [],H.set i (.cells (xs.take off++ys++xs.drop (off+n)))) else alt
  | _=>alt)
 | _,_=>alt
theorem Pb {n i off:Nat} {ys:List L} {H:Hp} {ids:List Nat} {alt:Option (V × Hp)}:RH n (.one (.p i off)) (some ys) H ids alt=(match H[i]? with
  | some (.cells xs)=>bif ids.contains i && ((ys.flatMap L.refs).all ids.contains && (ids.all (fun k=>(match H[k]? with|some b=>b.refs|none=>[]).all ids.contains) && (decide (ys.length=n) && decide (off+n<=xs.length)))) then some (.tup [],H.set i (.cells (xs.take off++ys++xs.drop (off+n)))) else alt
  | _=>alt):=rfl
theorem Hh {φ:cm} {d:Option Nat} {g:Option (Nat × Bool)} {p:List Nat} {n a v N:Nat} {f:Fn} {H:Hp} (hN:a<N∧v<N) :
  aS φ ⟨d,.st n (.t a) (.t v),g,p,false⟩ (aa N f) H=RH n (f a) (f v).cs H (aF H (aA (aa N f) ([a,v]++oC g))) (dQ φ ⟨d,.st n (.t a) (.t v),g,p,false⟩ (aa N f) H):=by
 unfold RH;split
 ·rename_i i off ys ha hv;split
  ·rename_i xs hb;generalize hc:(List.contains _ i && _)=cc;cases cc with
   | false=>rfl
   | true =>
    simp only[Bool.and_eq_true,decide_eq_true_eq,List.all_eq_true,List.contains_iff_mem] at hc;obtain⟨c1,c2,c3,c4,c5⟩:=hc;have hids:aI ⟨d,.st n (.t a) (.t v),g,p,false⟩ (aa N f) H=aF H (aA (aa N f) ([a,v]++oC g)):=rfl;obtain⟨hn,hal⟩:=gD H (aA (aa N f) ([a,v]++oC g));simp only[aS,hids,cond_true];generalize aF H (aA (aa N f) ([a,v]++oC g))=ids at *;obtain⟨j,j1,j2,j3⟩:=eg (q:=H.length) (d:=ids.length-ids.length) c1;have hjl:j<ids.length:=(List.getElem?_eq_some_iff.1 j3).1;have ea:X.ev ((aY (AOp.slots ⟨d,.st n (.t a) (.t v),g,p,false⟩) (aa N f)).map (V.ren (aE ids))) (.t a)=some (.one (.p j off)):=by
     simp only[X.ev,List.getElem?_map];rw[bc (by simp[AOp.slots,A.xs,X.slot]),bW hN.1,ha]
     simp only[Option.map_some,V.ren,L.ren,j1]
    have ev:X.ev ((aY (AOp.slots ⟨d,.st n (.t a) (.t v),g,p,false⟩) (aa N f)).map (V.ren (aE ids))) (.t v)=some ((f v).ren (aE ids)):=by
     simp only[X.ev,List.getElem?_map];rw[bc (by simp[AOp.slots,A.xs,X.slot]),bW hN.2]
     rfl
    have hcj:(aq H ids)[j]?=some (.cells (xs.map (L.ren (aE ids)))):=by
     simp only[aq,List.getElem?_map,j3,Option.map_some,List.getD,hb,Option.getD_some,Box.ren]
    have hrun:(A.st n (.t a) (.t v)).run φ ((aY (AOp.slots ⟨d,.st n (.t a) (.t v),g,p,false⟩) (aa N f)).map (V.ren (aE ids))) (aq H ids)=some (.tup [],(aq H ids).set j (.cells ((xs.map (L.ren (aE ids))).take off++ys.map (L.ren (aE ids))++(xs.map (L.ren (aE ids))).drop (off+n)))):=by
     simp only[A.run,ea,ev,V.cs_ren,hv,Option.map_some,hcj,List.length_map,c4,c5,and_self,if_true]
    have hcl:(aq H ids).length=ids.length:=by simp[aq]
    simp only[hrun,List.length_set,hcl,V.ren,List.map_nil,Option.some.injEq,Prod.mk.injEq,true_and];have hdr:List.drop ids.length ((aq H ids).set j (.cells ((xs.map (L.ren (aE ids))).take off++ys.map (L.ren (aE ids))++(xs.map (L.ren (aE ids))).drop (off+n))))=[]:=List.drop_eq_nil_of_le (by simp[hcl])
    have htk:List.take ids.length ((aq H ids).set j (.cells ((xs.map (L.ren (aE ids))).take off++ys.map (L.ren (aE ids))++(xs.map (L.ren (aE ids))).drop (off+n))))=(aq H ids).set j (.cells ((xs.map (L.ren (aE ids))).take off++ys.map (L.ren (aE ids))++(xs.map (L.ren (aE ids))).drop (off+n))):=List.take_of_length_le (by simp[hcl])
    rw[hdr,htk,List.map_nil,List.append_nil];have hxs:∀ r∈xs.flatMap L.refs,r∈ids:=fun r hr=>c3 i c1 r (by rw[hb];exact hr)
    apply List.ext_getElem?;intro k;by_cases hk:k∈ids
    ·obtain⟨b0,hb0,_⟩:=hal k hk;have hkl:=(List.getElem?_eq_some_iff.1 hb0).1;obtain⟨t,ht,rfl⟩:=List.getElem_of_mem hk;rw[kv ids H _ t ids[t] hn (by simp[hcl]) (by simp[ht]) hkl,List.getElem?_map]
     by_cases htj:j=t
     ·subst htj;have hi:ids[j]=i:=by
       have:=List.getElem?_eq_getElem ht;rw[j3] at this;exact(Option.some.inj this).symm
      rw[List.getElem?_set_self (by rw[hcl];exact ht),hi,List.getElem?_set_self (by rw[<- hi];exact hkl)]
      simp only[Option.map_some,Box.ren,List.map_append];rw[<- List.map_take,<- List.map_drop,Ls.ren_back (fun r hr=>hxs r (by
        obtain⟨x,hx,hr⟩:=List.mem_flatMap.1 hr;exact List.mem_flatMap.2 ⟨x,List.mem_of_mem_take hx,hr⟩)),Ls.ren_back (fun r hr=>c2 r hr),Ls.ren_back (fun r hr=>hxs r (by
        obtain⟨x,hx,hr⟩:=List.mem_flatMap.1 hr;exact List.mem_flatMap.2 ⟨x,List.mem_of_mem_drop hx,hr⟩))]
     ·have hne:i≠ids[t]:=by
       intro e;exact htj (mS hn j3 (by rw[e];simp[ht]))
      rw[List.getElem?_set_ne htj,List.getElem?_set_ne hne,hb0];simp only[aq,List.getElem?_map,List.getElem?_eq_getElem ht,Option.map_some,List.getD,hb0,Option.getD_some];rw[Box.ren_back (fun r hr=>c3 ids[t] hk r (by rw[hb0];exact hr))]
    ·rw[eR _ _ _ _ hk,List.getElem?_set_ne (fun e=>hk (by rw[<- e];exact c1))]
  ·rfl
 ·rfl
def qT (b:Nat) (xv:V) (H:Hp) (run alt:Option (V × Hp)):Option (V × Hp):=match xv with
 | .one (.sl b2 _ _ _)=>(match H[b2]? with|some (.arr _ _ _)=>if b=b2 then alt else run|_=>alt)
 | .one (.d _)=>run | .one .ns=>run | .one (.cl _)=>run | .one (.nn _)=>run
 | _=>alt
def NJ (g:List Nat) (sv xv:V) (H:Hp) (run alt:Option (V × Hp)):Option (V × Hp):=match g with
 | []=>(match sv with
  | .one (.sl b _ 0 _)=>(match H[b]? with|some (.arr _ _ _)=>qT b xv H run alt|_=>alt)
  | _=>alt)
 | _=>alt
theorem FZ {b b2 z o n:Nat} {H:Hp} {run alt:Option (V × Hp)}:qT b (.one (.sl b2 z o n)) H run alt=match H[b2]? with|some (.arr _ _ _)=>if b=b2 then alt else run|_=>alt:=rfl
theorem KD {b:Nat} {x:D} {H:Hp} {run alt:Option (V × Hp)}:qT b (.one (.d x)) H run alt=run:=rfl
theorem FH {b:Nat} {H:Hp} {run alt:Option (V × Hp)}:qT b (.one .ns) H run alt=run:=rfl
theorem FD {b:Nat} {x:List (List D)} {H:Hp} {run alt:Option (V × Hp)}:qT b (.one (.cl x)) H run alt=run:=rfl
theorem FL {b:Nat} {x:List (List D)} {H:Hp} {run alt:Option (V × Hp)}:qT b (.one (.nn x)) H run alt=run:=rfl
theorem Ky {b z n:Nat} {xv:V} {H:Hp} {run alt:Option (V × Hp)}:NJ [] (.one (.sl b z 0 n)) xv H run alt=match H[b]? with|some (.arr _ _ _)=>qT b xv H run alt|_=>alt:=rfl
theorem z7 {φ:cm} {d:Option Nat} {g:Option (Nat × Bool)} {p:List Nat} {str:Bool} {sz bytes s y N:Nat} {f:Fn} {H:Hp} (hN:s<N∧y<N) :
  aS φ ⟨d,.app str sz bytes (.t s) (.t y),g,p,false⟩ (aa N f) H=NJ (aA (aa N f) (oC g)) (f s) (f y) H ((A.app str sz bytes (.t s) (.t y)).run φ (aa N f) H) (dQ φ ⟨d,.app str sz bytes (.t s) (.t y),g,p,false⟩ (aa N f) H):=by
 unfold NJ;split
 ·rename_i hg;split
  ·rename_i hs;split
   ·rename_i hb;have dat:∀ xv,f y=.one xv->xv.refs=[]->aS φ ⟨d,.app str sz bytes (.t s) (.t y),g,p,false⟩ (aa N f) H=(A.app str sz bytes (.t s) (.t y)).run φ (aa N f) H:=fun xv hy hr=>(Jz hN.1 hs (by rw[pt hN.2,hy]) hr hg hb).1
    unfold qT;split
    ·rename_i hy;split
     ·rename_i hb2;split
      ·rfl
      ·rename_i hne;cases str with
       | false=>exact(GV hN hs hy hne hg hb hb2).1
       | true=>exact Do hN hs hy hne hg hb hb2
     ·rfl
    ·rename_i hy;exact dat _ hy rfl
    ·rename_i hy;exact dat _ hy rfl
    ·rename_i hy;exact dat _ hy rfl
    ·rename_i hy;exact dat _ hy rfl
    ·rfl
   ·rfl
  ·rfl
 ·rfl
def pT (x:Option Box) (H:Hp) (n i:Nat) (todo seen:List Nat):List Nat:=match x with
 | some (.cells xs)=>bif seen.contains i then aB H n todo seen else aB H n (xs.flatMap L.refs++todo) (seen++[i])
 | some (.arr _ _ _)=>bif seen.contains i then aB H n todo seen else aB H n todo (seen++[i])
 | some (.mp _)=>bif seen.contains i then aB H n todo seen else aB H n todo (seen++[i])
 | _=>aB H n todo seen
theorem vI {xs:List L} {H:Hp} {n i:Nat} {todo seen:List Nat}:pT (some (.cells xs)) H n i todo seen=bif seen.contains i then aB H n todo seen else aB H n (xs.flatMap L.refs++todo) (seen++[i]):=rfl
theorem BJ {sz fz:Nat} {rows:List (List D)} {H:Hp} {n i:Nat} {todo seen:List Nat}:pT (some (.arr sz rows fz)) H n i todo seen=bif seen.contains i then aB H n todo seen else aB H n todo (seen++[i]):=rfl
theorem Eo {rows:List (List UInt8 × Bool)} {H:Hp} {n i:Nat} {todo seen:List Nat}:pT (some (.mp rows)) H n i todo seen=bif seen.contains i then aB H n todo seen else aB H n todo (seen++[i]):=rfl
theorem yX {H:Hp} {n i:Nat} {todo seen:List Nat}:pT (some .dead) H n i todo seen=aB H n todo seen:=rfl
theorem Jk (H:Hp) (n i:Nat) (todo seen:List Nat):aB H (n+1) (i::todo) seen=pT H[i]? H n i todo seen:=by
 unfold pT;split
 ·rename_i xs h;rw[mr H n i todo seen h];cases seen.contains i <;> rfl
 ·rename_i h;rw[qt H n i todo seen h];cases seen.contains i <;> rfl
 ·rename_i h;rw[sI H n i todo seen h];cases seen.contains i <;> rfl
 ·rename_i h1 h2 h3;cases hb:H[i]? with
  | none=>simp only[aB,hb]
  | some b =>
   cases b with
   | dead=>simp only[aB,hb]
   | cells xs=>exact absurd hb (h1 xs)
   | arr a b c=>exact absurd hb (h2 a b c)
   | mp a=>exact absurd hb (h3 a)
theorem PM (H:Hp) (l:List Nat):aF H l=aB H 1000 l []:=rfl
theorem ue {φ:cm} {d:Option Nat} {p:List Nat} {zs:List L} {fr:Fr} {H:Hp}:aS φ ⟨d,.alloc zs,none,p,false⟩ fr H=dP H (some (.one (.p 0 0),[.cells zs])):=iso_pure rfl
theorem w4 {φ:cm} {d:Option Nat} {p:List Nat} {sz:Nat} {fr:Fr} {H:Hp}:aS φ ⟨d,.own sz,none,p,false⟩ fr H=dP H (some (.one (.sl 0 sz 0 0),[.arr sz [] 0])):=iso_pure rfl
theorem jf {φ:cm} {o:AOp} {fr:Fr} {H:Hp}:aS φ o fr H=match aA fr o.slots with|[]=>dP H (o.a.run φ fr [])|_=>dQ φ o fr H:=by
 split
 ·rename_i h;exact iso_pure h
 ·rfl
theorem uz {φ:cm} {d:Option Nat} {g:Option (Nat × Bool)} {p:List Nat} {f:FuncId} {xs:List X} {fr:Fr} {H:Hp}:aS φ ⟨d,.call f xs,g,p,false⟩ fr H=match aA fr (xs.flatMap X.slot++oC g) with|[]=>dP H ((A.call f xs).run φ fr [])|_=>dQ φ ⟨d,.call f xs,g,p,false⟩ fr H:=jf
theorem wH {φ:cm} {d:Option Nat} {g:Option (Nat × Bool)} {p:List Nat} {sz:Nat} {z:List (List D)} {ps:List (Nat × X)} {fr:Fr} {H:Hp}:aS φ ⟨d,.bsl sz z ps,g,p,false⟩ fr H=match aA fr ((ps.map fun q=>q.2).flatMap X.slot++oC g) with|[]=>dP H ((A.bsl sz z ps).run φ fr [])|_=>dQ φ ⟨d,.bsl sz z ps,g,p,false⟩ fr H:=jf
theorem wR {φ:cm} {d:Option Nat} {g:Option (Nat × Bool)} {p:List Nat} {sz b:Nat} {z:List D} {l c:X} {fr:Fr} {H:Hp}:aS φ ⟨d,.mks sz b z l c,g,p,false⟩ fr H=match aA fr (l.slot++(c.slot++[])++oC g) with|[]=>dP H ((A.mks sz b z l c).run φ fr [])|_=>dQ φ ⟨d,.mks sz b z l c,g,p,false⟩ fr H:=jf
theorem wk {φ:cm} {d:Option Nat} {g:Option (Nat × Bool)} {p:List Nat} {x:X} {fr:Fr} {H:Hp}:aS φ ⟨d,.s2b x,g,p,false⟩ fr H=match aA fr (x.slot++[]++oC g) with|[]=>dP H ((A.s2b x).run φ fr [])|_=>dQ φ ⟨d,.s2b x,g,p,false⟩ fr H:=jf
theorem w8 {φ:cm} {d:Option Nat} {g:Option (Nat × Bool)} {p:List Nat} {x:X} {fr:Fr} {H:Hp}:aS φ ⟨d,.box x,g,p,false⟩ fr H=match aA fr (x.slot++[]++oC g) with|[]=>dP H ((A.box x).run φ fr [])|_=>dQ φ ⟨d,.box x,g,p,false⟩ fr H:=jf
theorem LJ (n:Nat):X.slot (.t n)=[n]:=rfl
theorem NW (v:V):X.slot (.c v)=[]:=rfl
theorem G4 (o:AOp) (fr:Fr) (H:Hp):aI o fr H=aF H (aA fr o.slots):=rfl
theorem Kf (n:Nat):List.range' n 0=[]:=rfl
theorem JJ (n:Nat):List.range' n 1=[n]:=rfl
theorem KY (n:Nat):List.range' n 2=[n,n+1]:=rfl
theorem H9 (x:L):V.refs (.one x)=x.refs:=rfl
theorem HO (xs:List L):V.refs (.agg xs)=xs.flatMap L.refs:=rfl
theorem GH (xs:List (Bool × List L)):V.refs (.tup xs)=xs.flatMap fun c=>c.2.flatMap L.refs:=rfl
theorem FP:V.refs .any=[]:=rfl
theorem LP (x:D):L.refs (.d x)=[]:=rfl
theorem Nf (i o:Nat):L.refs (.p i o)=[i]:=rfl
theorem Ku (i k o:Nat):L.refs (.ap i k o)=[i]:=rfl
theorem JR (i z o n:Nat):L.refs (.sl i z o n)=[i]:=rfl
theorem Ks (x:List D):L.refs (.ip x)=[]:=rfl
theorem I3 (x:List (List D)):L.refs (.cl x)=[]:=rfl
theorem KB (x:List (List D)):L.refs (.nn x)=[]:=rfl
theorem Km:L.refs .ns=[]:=rfl
theorem I6:L.refs .np=[]:=rfl
theorem KV:L.refs .nf=[]:=rfl
theorem LV (g:FuncId) (l:List Nat):L.refs (.f g l)=l:=rfl
theorem GG (xs:List D):(xs.map L.d).flatMap L.refs=[]:=Ls.pure_refs (Ls.pure_map xs)
theorem ur (xs:List L):Box.refs (.cells xs)=xs.flatMap L.refs:=rfl
theorem zo (sz:Nat) (rows:List (List D)) (fz:Nat):Box.refs (.arr sz rows fz)=[]:=rfl
theorem Bt (rows:List (List UInt8 × Bool)):Box.refs (.mp rows)=[]:=rfl
theorem L0 (i:Nat):L.refs (.m i)=[i]:=rfl
theorem Jn:L.refs .nm=[]:=rfl
theorem vQ:Box.refs .dead=[]:=rfl
theorem wt:([]:List Nat).isEmpty=true:=rfl
theorem ut (a:Nat) (l:List Nat):(a::l).isEmpty=false:=rfl
def gc:=And.intro @ur (And.intro @zo (And.intro @vQ (And.intro @go_draw (And.intro @Gv (And.intro @Er (And.intro @GI (And.intro @DL (And.intro @PB (And.intro @Pz (And.intro @N4 (And.intro @FU (And.intro @Nl (And.intro @PM (And.intro @qB (And.intro @Jk (And.intro @vI (And.intro @BJ (And.intro @Pb (And.intro @yX
 (And.intro @Hh (And.intro @z7 (And.intro @FZ (And.intro @KD (And.intro @FH (And.intro @FD (And.intro @FL (And.intro @Ky (And.intro @ue (And.intro @w4 (And.intro @uz (And.intro @wH (And.intro @wR (And.intro @wk (And.intro @w8 (And.intro @BK (And.intro @xi (And.intro @Bc (And.intro @yH (And.intro @cd (And.intro @aJ (And.intro @SD (And.intro @SC
 (And.intro @Jv (And.intro @I0 (And.intro @JA (And.intro @PN (And.intro @PR (And.intro @G4 (And.intro @IF (And.intro @G7 (And.intro @Hw (And.intro @LJ (And.intro @NW (And.intro @Kf (And.intro @JJ (And.intro @KY (And.intro @H9 (And.intro @HO (And.intro @GH (And.intro @FP (And.intro @LP (And.intro @Nf (And.intro @Ku (And.intro @JR (And.intro @Ks (And.intro @I3 (And.intro @KB (And.intro @Km (And.intro @I6 (And.intro @KV (And.intro @LV (And.intro @GG (And.intro @wt (And.intro @ut (And.intro @Nat.sub_self (And.intro @Bt (And.intro @L0 (And.intro @Jn (And.intro @Eo (And.intro @List.flatMap_append.{0,0} @List.map_append.{0,0}))))))))))))))))))))))))))))))))))))))))))))))))))))))))))))))))))))))))))))))))
theorem aD {φ:cm} {f:FuncId} {args args':List V} {H H' H1 H2:Hp} {ids:List Nat} {r r':V} (hi:aF H (args.flatMap V.refs)=ids) (ha:args.map (V.ren (aE ids))=args') (hH:aq H ids=H')
  (hr:φ f args' H'=some (r,H1)) (he:(r.ren (fun j=>if j<ids.length then ids[j]? else some (H.length+(j-ids.length))),bY H ids ((H1.take ids.length).map (Box.ren (fun j=>if j<ids.length then ids[j]? else some (H.length+(j-ids.length)))))++(H1.drop ids.length).map (Box.ren (fun j=>if j<ids.length then ids[j]? else some (H.length+(j-ids.length)))))=(r',H2)) :
  ak φ f args H=some (r',H2):=by
 subst hi;subst ha;subst hH;simp only[ak,hr];rw[he]
theorem BA {m N:Nat} {lv:List Nat} {vals:List V} {f:Fn} {H:Hp} (hs:(dU lv && lv.all (fun i=>Nat.blt i N))=true) (h:jQ lv vals f) :
  canon m lv (aa N f) H=(aa N (cX lv (vals.map (V.ren (aE (qq m H (vals.flatMap V.refs)))))),aq H (qq m H (vals.flatMap V.refs))):=by
 simp only[Bool.and_eq_true] at hs;have hr:(aa N (mj lv f)).flatMap V.refs=vals.flatMap V.refs:=by
  rw[jp h];have:=pO lv vals 0 N hs.1 (fun _ _=>Nat.zero_le _) (fun i hi=>by have:=(List.all_eq_true.1 hs.2) i hi;simpa using this) (qk h)
  rw[<- List.range_eq_range'] at this;exact this
 simp only[canon,ly,hr];refine Prod.ext ?_ rfl;simp only[aa,List.map_map,jp h];apply List.map_congr_left;intro n _;exact tD _ _ _ _
theorem ax {α σ:Type} {φ:cm} {m N:Nat} {lv:List Nat} {c:AC} {K:Ex->Fr->Hp->Option α} {st:List KI} (μ:σ->Nat) (P:σ->Prop) (vals:σ->List V) (heap:σ->Hp) (Z:σ->α)
  (hs:∀ s,P s->∀ R:Fr->Hp->Option α,(∀ s',μ s'<μ s->P s'->∀ f' H',canon m lv (aa N f') H'=(aa N (cX lv (vals s')),heap s')->R (aa N f') H'=some (Z s')) ->
   jH φ m (KL R (KS φ m K st)) c (aa N (cX lv (vals s))) (heap s) []=some (Z s)) :
  ∀ s,P s->∀ f H,canon m lv (aa N f) H=(aa N (cX lv (vals s)),heap s)->jH φ m K (.loop lv c) (aa N f) H st=some (Z s):=by
 intro s hP f H hc;refine pN (m:=m) (N:=N) μ (fun s f H=>P s∧canon m lv (aa N f) H=(aa N (cX lv (vals s)),heap s)) Z ?_ s f H ⟨hP,hc⟩
 rintro s f H ⟨hP,hc⟩ R hR;rw[hc];exact hs s hP R (fun s' hlt hP' f' H' hc'=>hR s' f' H' hlt ⟨hP',hc'⟩)
theorem at_headM {m N:Nat} {lv:List Nat} {vals0 vals:List V} {f:Fn} {H H':Hp} {ids:List Nat} (hs:(dU lv && lv.all (fun i=>Nat.blt i N))=true) (hv:lv.map f=vals0) (hi:qq m H (vals0.flatMap V.refs)=ids) (h1:vals0.map (V.ren (aE ids))=vals) (h2:aq H ids=H') :
  canon m lv (aa N f) H=(aa N (cX lv vals),H'):=by
 rw[BA hs (hv ▸ pQ lv f),hi,h1,h2]
set_option linter.defProp false
noncomputable def Fa {α:Type} (φ:cm) (ψ:ny) (m:Nat) (K:Ex->Fr->Hp->Option α):List KI->Ex->Fr->Hp->Option α
 | []=>K
 | .s b::st=>fun e fr H=>match e with | .normal=>bd φ ψ m b fr H (Fa φ ψ m K st)|e=>Fa φ ψ m K st e fr H
 | .k id::st=>fun e fr H=>match e with | .exit i=>if i=id then Fa φ ψ m K st .normal fr H else Fa φ ψ m K st (.exit i) fr H|e=>Fa φ ψ m K st e fr H
noncomputable def jy {α:Type} (φ:cm) (ψ:ny) (m:Nat) (K:Ex->Fr->Hp->Option α) (e:Ex) (fr:Fr) (H:Hp) (st:List KI):Option α:=Fa φ ψ m K st e fr H
noncomputable def oa {α:Type} (φ:cm) (ψ:ny) (m:Nat) (K:Ex->Fr->Hp->Option α) (c:AC) (fr:Fr) (H:Hp) (st:List KI):Option α:=bd φ ψ m c fr H (Fa φ ψ m K st)
noncomputable def nK {α:Type} (φ:cm) (ψ:ny) (m:Nat) (K:Ex->Fr->Hp->Option α) (ops:List AOp) (fr:Fr) (H:Hp) (st:List KI):Option α :=
 match bI φ ops fr H with|some (fr,H)=>jy φ ψ m K .normal fr H st|none=>none
noncomputable def AQ {α:Type} (φ:cm) (ψ:ny) (m:Nat) (K:Ex->Fr->Hp->Option α) (x:Option (V × Hp)) (d:Option Nat) (r:List AOp) (fr:Fr) (st:List KI):Option α :=
 match x with|some (v,H)=>nK φ ψ m K r (put fr d v) H st|none=>none
noncomputable def Cs {α:Type} (φ:cm) (ψ:ny) (m:Nat) (K:Ex->Fr->Hp->Option α) (x:Option (V × Hp)) (d:Option Nat) (r:List AOp) (fr:Fr) (st:List KI):Option α :=
 match x with|some (v,H)=>AQ φ ψ m K (nS v H) d r fr st|none=>none
noncomputable def J9 {α:Type} (φ:cm) (ψ:ny) (m:Nat) (K:Ex->Fr->Hp->Option α) (w:Option Bool) (d:Option Nat) (a:A) (r:List AOp) (fr:Fr) (H:Hp) (st:List KI):Option α :=
 match w with|none=>none|some true=>AQ φ ψ m K (a.run φ fr H) d r fr st|some false=>nK φ ψ m K r (put fr d (.tup [])) H st
noncomputable def Cf {α:Type} (φ:cm) (ψ:ny) (m:Nat) (K:Ex->Fr->Hp->Option α) (w:Option Bool) (d:Option Nat) (a:A) (r:List AOp) (fr:Fr) (H:Hp) (st:List KI):Option α :=
 match w with|none=>none|some true=>Cs φ ψ m K (a.run φ fr H) d r fr st|some false=>nK φ ψ m K r (put fr d (.tup [])) H st
noncomputable def K4 {α:Type} (φ:cm) (ψ:ny) (m:Nat) (K:Ex->Fr->Hp->Option α) (c:Option V) (a b:AC) (fr:Fr) (H:Hp) (st:List KI):Option α :=
 match c with|some (.one (.d (.b true)))=>oa φ ψ m K a fr H st|some (.one (.d (.b false)))=>oa φ ψ m K b fr H st|_=>none
noncomputable def t9 {α:Type} (φ:cm) (ψ:ny) (m:Nat) (K:Ex->Fr->Hp->Option α) (ops:List AOp) (lg:List Log) (fr:Fr) (H:Hp) (st:List KI):Option α :=
 match cJ φ ops lg fr H with|some (fr,H)=>jy φ ψ m K .normal fr H st|none=>none
noncomputable def Ng {α:Type} (φ:cm) (ψ:ny) (m:Nat) (K:Ex->Fr->Hp->Option α) (c:Bool) (r:List AOp) (lg:List Log) (fr:Fr) (H:Hp) (st:List KI):Option α :=
 match c with|true=>t9 φ ψ m K r lg fr H st|false=>none
noncomputable def wK {α:Type} (φ:cm) (ψ:ny) (m:Nat) (K:Ex->Fr->Hp->Option α) (k:Nat) (x:Option (V × Hp)) (o:AOp) (r:List AOp) (lg:List Log) (fr:Fr) (H:Hp) (st:List KI):Option α :=
 match x with|some (v,H1)=>Ng φ ψ m K (Fd o ⟨k,o.dst,o.slots,touch k o fr H H1⟩ lg) r (lg++[⟨k,o.dst,o.slots,touch k o fr H H1⟩]) (put fr o.dst v) H1 st|none=>none
noncomputable def DB {α:Type} (φ:cm) (ψ:ny) (m:Nat) (K:Ex->Fr->Hp->Option α) (k:Nat) (o:AOp) (r:List AOp) (lg:List Log) (fr:Fr) (H:Hp) (st:List KI):Option α :=
 wK φ ψ m K k (drawStep φ o k true fr H) o r lg fr H st
noncomputable def IQ {α:Type} (φ:cm) (ψ:ny) (m:Nat) (K:Ex->Fr->Hp->Option α) (w:Option Bool) (o:AOp) (r:List AOp) (lg:List Log) (fr:Fr) (H:Hp) (st:List KI):Option α :=
 match w with|none=>none|some true=>DB φ ψ m K (o.a.kind fr) o r lg fr H st|some false=>wK φ ψ m K 0 (some (.tup [],H)) o r lg fr H st
def OP {α:Type} (R:Fr->Hp->Option α) (k:Ex->Fr->Hp->Option α):Ex->Fr->Hp->Option α:=fun e fr H=>match e with | .normal=>R fr H|e=>k e fr H
section
variable {α:Type} {φ:cm} {ψ:ny} {m:Nat} {K:Ex->Fr->Hp->Option α} {fr:Fr} {H:Hp} {st:List KI}
theorem go_skipY:oa φ ψ m K .skip fr H st=jy φ ψ m K .normal fr H st:=rfl
theorem go_seqY (a b:AC):oa φ ψ m K (.seq a b) fr H st=oa φ ψ m K a fr H (.s b::st):=rfl
theorem go_regY (ops:List AOp):oa φ ψ m K (.reg ops false) fr H st=nK φ ψ m K ops fr H st:=rfl
theorem go_drawY (ops:List AOp) (h:ju ops []=false):oa φ ψ m K (.reg ops true) fr H st=t9 φ ψ m K ops [] fr H st:=by
 simp only[oa,bd,t9,cond_true,cS,h,cond_false];rfl
theorem Ev (lg:List Log):t9 φ ψ m K [] lg fr H st=jy φ ψ m K .normal fr H st:=rfl
theorem Bu (o:AOp) (r:List AOp) (lg:List Log):t9 φ ψ m K (o::r) lg fr H st=IQ φ ψ m K (wantedV fr o.g) o r lg fr H st:=by
 simp only[t9,cJ,IQ];cases wantedV fr o.g with
 | none=>rfl
 | some w =>
  cases w with
  | false =>
   simp only[wK,cond_false,drawStep,Fd];cases (!o.fz && (o.pre.all (fun j=>decide (j<lg.length)) && fF o.pre ⟨0,o.dst,o.slots,touch 0 o fr H H⟩ 0 lg)) <;> rfl
  | true =>
   simp only[DB,wK,cond_true];cases drawStep φ o (o.a.kind fr) true fr H with
   | none=>rfl
   | some q =>
    simp only[Fd];cases (!o.fz && (o.pre.all (fun j=>decide (j<lg.length)) && fF o.pre ⟨o.a.kind fr,o.dst,o.slots,touch (o.a.kind fr) o fr H q.2⟩ 0 lg)) <;> rfl
theorem Dy (o:AOp) (r:List AOp) (lg:List Log):IQ φ ψ m K (some true) o r lg fr H st=DB φ ψ m K (o.a.kind fr) o r lg fr H st:=rfl
theorem BN (o:AOp) (r:List AOp) (lg:List Log):IQ φ ψ m K (some false) o r lg fr H st=wK φ ψ m K 0 (some (.tup [],H)) o r lg fr H st:=rfl
theorem NO (o:AOp) (r:List AOp) (lg:List Log):DB φ ψ m K 0 o r lg fr H st=wK φ ψ m K 0 (o.a.run φ fr H) o r lg fr H st:=rfl
theorem Ni (o:AOp) (r:List AOp) (lg:List Log):DB φ ψ m K 1 o r lg fr H st=wK φ ψ m K 1 (o.a.run φ fr H) o r lg fr H st:=rfl
theorem Nj (o:AOp) (r:List AOp) (lg:List Log):DB φ ψ m K 2 o r lg fr H st=wK φ ψ m K 2 (aS φ o fr H) o r lg fr H st:=rfl
theorem DX (k:Nat) (v:V) (H1:Hp) (o:AOp) (r:List AOp) (lg:List Log):wK φ ψ m K k (some (v,H1)) o r lg fr H st =
  Ng φ ψ m K (Fd o ⟨k,o.dst,o.slots,touch k o fr H H1⟩ lg) r (lg++[⟨k,o.dst,o.slots,touch k o fr H H1⟩]) (put fr o.dst v) H1 st:=rfl
theorem go_condY (c:X) (a b:AC):oa φ ψ m K (.cond c a b) fr H st=K4 φ ψ m K (c.ev fr) a b fr H st:=by
 simp only[oa,bd,K4];rcases c.ev fr with _|v
 ·rfl
 ·cases v with
  | one x=>cases x with
   | d x=>cases x with
    | b b=>cases b <;> rfl
    | _=>rfl
   | _=>rfl
  | _=>rfl
theorem EY (a b:AC):K4 φ ψ m K (some (.one (.d (.b true)))) a b fr H st=oa φ ψ m K a fr H st:=rfl
theorem AE (a b:AC):K4 φ ψ m K (some (.one (.d (.b false)))) a b fr H st=oa φ ψ m K b fr H st:=rfl
theorem Ef (d:Option Nat) (r:List AOp) (v:V) (H1:Hp):AQ φ ψ m K (some (v,H1)) d r fr st=nK φ ψ m K r (put fr d v) H1 st:=rfl
theorem Bo (d:Option Nat) (r:List AOp) (v:V) (H1:Hp):Cs φ ψ m K (some (v,H1)) d r fr st=AQ φ ψ m K (nS v H1) d r fr st:=rfl
theorem DY (d:Option Nat) (a:A) (r:List AOp):J9 φ ψ m K (some true) d a r fr H st=AQ φ ψ m K (a.run φ fr H) d r fr st:=rfl
theorem AL (d:Option Nat) (a:A) (r:List AOp):J9 φ ψ m K (some false) d a r fr H st=nK φ ψ m K r (put fr d (.tup [])) H st:=rfl
theorem Ax (d:Option Nat) (a:A) (r:List AOp):Cf φ ψ m K (some true) d a r fr H st=Cs φ ψ m K (a.run φ fr H) d r fr st:=rfl
theorem x8 (d:Option Nat) (a:A) (r:List AOp):Cf φ ψ m K (some false) d a r fr H st=nK φ ψ m K r (put fr d (.tup [])) H st:=rfl
theorem go_blockY (id:Nat) (c:AC):oa φ ψ m K (.block id c) fr H st=oa φ ψ m K c fr H (.k id::st):=rfl
theorem go_exitY (id:Nat):oa φ ψ m K (.exit id) fr H st=jy φ ψ m K (.exit id) fr H st:=rfl
theorem go_retY:oa φ ψ m K .ret fr H st=jy φ ψ m K .ret fr H st:=rfl
theorem Hy (e:Ex):jy φ ψ m K e fr H []=K e fr H:=rfl
theorem Mv (b:AC):jy φ ψ m K .normal fr H (.s b::st)=oa φ ψ m K b fr H st:=rfl
theorem Jg (b:AC) (i:Nat):jy φ ψ m K (.exit i) fr H (.s b::st)=jy φ ψ m K (.exit i) fr H st:=rfl
theorem JT (b:AC):jy φ ψ m K .ret fr H (.s b::st)=jy φ ψ m K .ret fr H st:=rfl
theorem Nx (id:Nat):jy φ ψ m K .normal fr H (.k id::st)=jy φ ψ m K .normal fr H st:=rfl
theorem Kj (id i:Nat):jy φ ψ m K (.exit i) fr H (.k id::st)=if i=id then jy φ ψ m K .normal fr H st else jy φ ψ m K (.exit i) fr H st:=rfl
theorem K3 (id:Nat):jy φ ψ m K .ret fr H (.k id::st)=jy φ ψ m K .ret fr H st:=rfl
theorem Gm:nK φ ψ m K [] fr H st=jy φ ψ m K .normal fr H st:=rfl
theorem cW (d:Option Nat) (a:A) (g:Option (Nat × Bool)) (p:List Nat) (r:List AOp):nK φ ψ m K (⟨d,a,g,p,false⟩::r) fr H st =
  J9 φ ψ m K (wantedV fr g) d a r fr H st:=by
 simp only[nK,bI,AOp.step,J9,AQ];cases wantedV fr g with
 | none=>rfl
 | some w =>
  cases w with
  | false=>rfl
  | true =>
   simp only[cond_true,cond_false];cases a.run φ fr H with
   | none=>rfl
   | some q=>rfl
theorem cG (d:Option Nat) (a:A) (g:Option (Nat × Bool)) (p:List Nat) (r:List AOp):nK φ ψ m K (⟨d,a,g,p,true⟩::r) fr H st =
  Cf φ ψ m K (wantedV fr g) d a r fr H st:=by
 simp only[nK,bI,AOp.step,Cf,AQ,Cs];cases wantedV fr g with
 | none=>rfl
 | some w =>
  cases w with
  | false=>rfl
  | true =>
   simp only[cond_true,cond_false];cases a.run φ fr H with
   | none=>rfl
   | some q =>
    obtain⟨v,H1⟩:=q;simp only;cases nS v H1 with
    | none=>rfl
    | some q=>rfl
theorem AJ (R:Fr->Hp->Option α):OP R (Fa φ ψ m K st) .normal fr H=R fr H:=rfl
theorem Gu (R:Fr->Hp->Option α) (i:Nat):OP R (Fa φ ψ m K st) (.exit i) fr H=jy φ ψ m K (.exit i) fr H st:=rfl
theorem JO (R:Fr->Hp->Option α):OP R (Fa φ ψ m K st) .ret fr H=jy φ ψ m K .ret fr H st:=rfl
end
theorem Bj {α σ:Type} {φ:cm} {ψ:ny} {m N:Nat} {lv:List Nat} {c:AC} {K:Ex->Fr->Hp->Option α} {st:List KI} (μ:σ->Nat) (I:σ->Fn->Hp->Prop) (Z:σ->α)
  (hs:∀ s f H,I s f H->∀ R:Fr->Hp->Option α,(∀ s' f' H',μ s'<μ s->I s' f' H'->R (aa N f') H'=some (Z s')) ->
   oa φ ψ m (OP R (Fa φ ψ m K st)) c (canon m lv (aa N f) H).1 (canon m lv (aa N f) H).2 []=some (Z s)) :
  ∀ s f H,I s f H->oa φ ψ m K (.loop lv c) (aa N f) H st=some (Z s):=by
 have key:∀ k s f H,μ s<k->I s f H->oa φ ψ m K (.loop lv c) (aa N f) H st=some (Z s):=by
  intro k;induction k with
  | zero=>intro s f H h;omega
  | succ k ih =>
   intro s f H hk hi;simp only[oa,bd];apply xW;exact hs s f H hi _ (fun s' f' H' hlt hi'=>by have:=ih s' f' H' (by omega) hi';simpa only[oa,bd] using this)
 exact fun s f H hi=>key (μ s+1) s f H (Nat.lt_succ_self _) hi
theorem Di {α σ:Type} {φ:cm} {ψ:ny} {m N:Nat} {lv:List Nat} {c:AC} {K:Ex->Fr->Hp->Option α} {st:List KI} (μ:σ->Nat) (P:σ->Prop) (vals:σ->List V) (heap:σ->Hp) (Z:σ->α)
  (hs:∀ s,P s->∀ R:Fr->Hp->Option α,(∀ s',μ s'<μ s->P s'->∀ f' H',canon m lv (aa N f') H'=(aa N (cX lv (vals s')),heap s')->R (aa N f') H'=some (Z s')) ->
   oa φ ψ m (OP R (Fa φ ψ m K st)) c (aa N (cX lv (vals s))) (heap s) []=some (Z s)) :
  ∀ s,P s->∀ f H,canon m lv (aa N f) H=(aa N (cX lv (vals s)),heap s)->oa φ ψ m K (.loop lv c) (aa N f) H st=some (Z s):=by
 intro s hP f H hc;refine Bj (m:=m) (N:=N) μ (fun s f H=>P s∧canon m lv (aa N f) H=(aa N (cX lv (vals s)),heap s)) Z ?_ s f H ⟨hP,hc⟩
 rintro s f H ⟨hP,hc⟩ R hR;rw[hc];exact hs s hP R (fun s' hlt hP' f' H' hc'=>hR s' f' H' hlt ⟨hP',hc'⟩)
theorem IL {α:Type} {φ:cm} {ψ:ny} {m:Nat} {K:Ex->Fr->Hp->Option α} {fr:Fr} {H:Hp} {st:List KI} {o:AOp} {e:Log} {r:List AOp} {lg lg':List Log} (h:Fd o e lg=true):Ng φ ψ m K (Fd o e lg) r lg' fr H st=t9 φ ψ m K r lg' fr H st:=by rw[h];rfl
section
variable {α:Type} {φ:cm} {ψ:ny} {m:Nat} {K:Ex->Fr->Hp->Option α} {fr:Fr} {H:Hp} {st:List KI}
noncomputable def yC {α:Type} (φ:cm) (ψ:ny) (m:Nat) (K:Ex->Fr->Hp->Option α) (x:Option (Nat × Hp)) (q:Nat) (d:Option Nat) (o2:List AOp) (fr:Fr) (st:List KI):Option α :=
 match x with|some (k,H2)=>nK φ ψ m K o2 (put (put fr (some 0) (.one (.y q k))) d (.one (.d (.b (k == 0))))) H2 st|none=>none
noncomputable def yB {α:Type} (φ:cm) (ψ:ny) (m:Nat) (K:Ex->Fr->Hp->Option α) (h y:Option V) (vs:Option (List V)) (d:Option Nat) (o2:List AOp) (fr:Fr) (H:Hp) (st:List KI):Option α :=
 match h,y,vs with
 | some (.one (.y q 0)),some (.one (.y q' _)),some vs=>if q'=q then yC φ ψ m K (ψ vs H) q d o2 fr st else none
 | _,_,_=>none
noncomputable def yO {α:Type} (φ:cm) (ψ:ny) (m:Nat) (K:Ex->Fr->Hp->Option α) (d:Option Nat) (y:X) (xs:List X) (o2:List AOp) (o1:List AOp) (fr:Fr) (H:Hp) (st:List KI):Option α :=
 match bI φ o1 fr H with|some (fr,H)=>yB φ ψ m K fr.head? (y.ev fr) (mB fr xs) d o2 fr H st|none=>none
theorem go_yld (o1:List AOp) (d:Option Nat) (y:X) (xs:List X) (o2:List AOp):oa φ ψ m K (.yld o1 d y xs o2) fr H st=yO φ ψ m K d y xs o2 o1 fr H st:=by
 simp only[oa,bd,yO];cases bI φ o1 fr H with
 | none=>rfl
 | some p =>
  obtain⟨fr1,H1⟩:=p;simp only[yB];generalize fr1.head?=h1;generalize y.ev fr1=h2;generalize mB fr1 xs=h3;split
  ·rename_i q q' k vs;simp only;split
   ·simp only[yC];cases ψ vs H1 with
    | none=>rfl
    | some r =>
     obtain⟨k,H2⟩:=r;simp only[nK];rfl
   ·rfl
  ·rename_i hx;split
   ·rename_i q q' k vs;exact absurd rfl (hx q q' k vs rfl rfl)
   ·rfl
noncomputable def yS {α:Type} (φ:cm) (ψ:ny) (m:Nat) (K:Ex->Fr->Hp->Option α) (d:Option Nat) (y:X) (xs:List X) (o2:List AOp) (x:Option (Fr × Hp)) (r:List AOp) (st:List KI):Option α :=
 match x with|some (fr,H)=>yO φ ψ m K d y xs o2 r fr H st|none=>none
theorem NM (d:Option Nat) (y:X) (xs:List X) (o2:List AOp):yO φ ψ m K d y xs o2 [] fr H st=yB φ ψ m K fr.head? (y.ev fr) (mB fr xs) d o2 fr H st:=rfl
theorem I9 (d:Option Nat) (y:X) (xs:List X) (o2:List AOp) (o:AOp) (r:List AOp):yO φ ψ m K d y xs o2 (o::r) fr H st=yS φ ψ m K d y xs o2 (o.step φ fr H) r st:=by
 simp only[yO,bI,yS];cases o.step φ fr H with
 | none=>rfl
 | some p=>rfl
theorem KZ (d:Option Nat) (y:X) (xs:List X) (o2:List AOp) (r:List AOp):yS φ ψ m K d y xs o2 (some (fr,H)) r st=yO φ ψ m K d y xs o2 r fr H st:=rfl
theorem Ji (q q' k:Nat) (vs:List V) (d:Option Nat) (o2:List AOp):yB φ ψ m K (some (.one (.y q 0))) (some (.one (.y q' k))) (some vs) d o2 fr H st=if q'=q then yC φ ψ m K (ψ vs H) q d o2 fr st else none:=rfl
theorem Jq (k:Nat) (H2:Hp) (q:Nat) (d:Option Nat) (o2:List AOp):yC φ ψ m K (some (k,H2)) q d o2 fr st=nK φ ψ m K o2 (put (put fr (some 0) (.one (.y q k))) d (.one (.d (.b (k == 0))))) H2 st:=rfl
end
theorem nM {N:Nat} {f:Fn} (h:0<N):(aa N f).head?=some (f 0):=by
 cases N with
 | zero=>omega
 | succ N=>simp[aa,List.range_succ_eq_map]
theorem step_e (φ:cm) (d:Option Nat) (a:A) (p:List Nat) (fr:Fr) (H:Hp):AOp.step φ ⟨d,a,none,p,false⟩ fr H=match a.run φ fr H with|some (v,H1)=>some (put fr d v,H1)|none=>none:=by
 simp only[AOp.step,wantedV,cond_true,cond_false];cases a.run φ fr H <;> rfl
noncomputable def Sp:Ex->Fr->Hp->Option (Nat × Hp):=fun e _ H=>some (nA e,H)
noncomputable def KR (φ:cm) (m:Nat) (body:AC):Ex->Fr->Hp->Option (Nat × Hp):=fun e fr H=>match e with | .normal=>jH φ m Sp body fr H []|_=>none
theorem BX (φ:cm) (fr:Fr) (ps:List Nat) (asg body:AC) (args:List V) (H:Hp) (h:args.length=ps.length):fR φ fr ps asg body args H=jH φ H.length (KR φ H.length body) asg (nu ps args fr) H []:=by
 simp only[fR,if_pos h,jH];congr 1
theorem Et (φ:cm) (m:Nat) (body:AC) (fr:Fr) (H:Hp):KR φ m body .normal fr H=jH φ m Sp body fr H []:=rfl
theorem N7 (e:Ex) (fr:Fr) (H:Hp):Sp e fr H=some (nA e,H):=rfl
theorem FS:nA .normal=0:=rfl
theorem Ha:nA .ret=1:=rfl
theorem Fs (i:Nat):nA (.exit i)=i+2:=rfl
theorem Fl:lZ 0=.normal:=rfl
theorem HM:lZ 1=.ret:=rfl
theorem DT (vs:List V) (fr:Fr):nu [] vs fr=fr:=rfl
theorem Bq (t:Nat) (ts:List Nat) (v:V) (vs:List V) (N:Nat) (f:Fn):nu (t::ts) (v::vs) (aa N f)=nu ts vs (aa N (MC f t v)):=by
 have:=xT N t f v;simp only[put] at this;simp only[nu,this]
section
variable {α:Type} {φ:cm} {prog:FuncId->Option AF} {m:Nat} {K:Ex->Fr->Hp->Option α} {fr:Fr} {H:Hp}
noncomputable def O9 {α:Type} (φ:cm) (prog:FuncId->Option AF) (m:Nat) (K:Ex->Fr->Hp->Option α) (b:AC):Ex->Fr->Hp->Option α:=fun e fr H=>match e with | .normal=>bR φ prog m b fr H K|e=>K e fr H
def Qg {α:Type} (K:Ex->Fr->Hp->Option α) (id:Nat):Ex->Fr->Hp->Option α:=fun e fr H=>match e with | .exit i=>if i=id then K .normal fr H else K (.exit i) fr H|e=>K e fr H
theorem cP:∀ (c:AC),c.hasR=false->∀ (fr:Fr) (H:Hp) (K:Ex->Fr->Hp->Option α),bR φ prog m c fr H K=bD φ m c fr H K
 | .skip,_,_,_,_=>rfl
 | .reg _ _,_,_,_,_=>rfl
 | .exit _,_,_,_,_=>rfl
 | .ret,_,_,_,_=>rfl
 | .loop _ _,_,_,_,_=>rfl
 | .yld _ _ _ _ _,_,_,_,_=>rfl
 | .rng _ _ _ _,h,_,_,_=>by cases h
 | .seq a b,h,fr,H,K=>by
  simp only[AC.hasR,Bool.or_eq_false_iff] at h;simp only[bR,bD];rw[cP a h.1];congr 1
  funext e fr' H'
  cases e with
  | normal=>exact cP b h.2 _ _ _
  | exit i=>rfl
  | ret=>rfl
 | .cond c a b,h,fr,H,K=>by
  simp only[AC.hasR,Bool.or_eq_false_iff] at h;simp only[bR,bD,cP a h.1,cP b h.2]
 | .block id c,h,fr,H,K=>by
  simp only[AC.hasR] at h;simp only[bR,bD];rw[cP c h]
theorem L8 (a b:AC) (h:a.hasR=false):bR φ prog m (.seq a b) fr H K=jH φ m (O9 φ prog m K b) a fr H []:=by
 simp only[bR,jH];rw[cP a h];congr 1
theorem Ms (a b:AC) (h:a.hasR=true):bR φ prog m (.seq a b) fr H K=bR φ prog m a fr H (O9 φ prog m K b):=by
 simp only[bR];congr 1
theorem Ka (c:AC) (h:c.hasR=false):bR φ prog m c fr H K=jH φ m K c fr H []:=by rw[cP c h];rfl
theorem J2 (id:Nat) (c:AC) (h:c.hasR=true):bR φ prog m (.block id c) fr H K=bR φ prog m c fr H (Qg K id):=by
 simp only[bR];congr 1
theorem Ah (b:AC):O9 φ prog m K b .normal fr H=bR φ prog m b fr H K:=rfl
theorem IA (b:AC) (i:Nat):O9 φ prog m K b (.exit i) fr H=K (.exit i) fr H:=rfl
theorem Lc (b:AC):O9 φ prog m K b .ret fr H=K .ret fr H:=rfl
theorem AR (i:Nat):Qg K i .normal fr H=K .normal fr H:=rfl
theorem Lb (i:Nat):Qg K i .ret fr H=K .ret fr H:=rfl
theorem Gq (i j:Nat):Qg K i (.exit j) fr H=if j=i then K .normal fr H else K (.exit j) fr H:=rfl
theorem OQ {g:X} {ps:List Nat} {asg body:AC} {gf:FuncId} {caps:List Nat} {af:AF} (hg:g.ev fr=some (.one (.f gf caps))) (hp:prog gf=some af)
  (hc:(((af.res.isEmpty && af.body.zok) && (asg.nd && body.nd)) && Nat.ble (caps.length+1) af.ntmps)=true) :
  bR φ prog m (.rng g ps asg body) fr H K=oa φ (fR φ fr ps asg body) (H.length+1) (ml fr K) af.body (aa af.ntmps (tu (.one (.y H.length 0)::caps.map fun i=>V.one (.p i 0)))) (H++[Box.dead]) []:=by
 rw[Bool.and_eq_true] at hc;have e:=AG (args:=(V.one (.y H.length 0)::caps.map fun i=>V.one (.p i 0))) (N:=af.ntmps) (by simpa using hc.2)
 simp only[List.length_cons,List.length_map] at e;simp only[bR,rS,hg,hp,hc.1,cond_true,oa,e];rfl
theorem pJ {N:Nat} {f:Fn} {q k:Nat} (h:0<N) (hf:f 0=.one (.y q k)):ml fr K .ret (aa N f) H=K (lZ k) fr H:=by
 simp only[ml,nM h,hf]
theorem Gg {N:Nat} {f:Fn} {q k:Nat} (h:0<N) (hf:f 0=.one (.y q k)):ml fr K .normal (aa N f) H=K (lZ k) fr H:=by
 simp only[ml,nM h,hf]
end
theorem fT {α:Type} {φ:cm} {prog:FuncId->Option AF} {m:Nat}:∀ (c:AC) (fr:Fr) (H:Hp) (K:Ex->Fr->Hp->Option α),bR φ prog m c.bare fr H K=bR φ prog m c fr H K
 | .skip,_,_,_=>rfl
 | .reg ops dr,fr,H,K=>by
  have h:(AC.reg ops dr).bare.hasR=false:=by rw[eT];rfl
  rw[cP _ h,eY,<- cP (φ:=φ) (prog:=prog) (AC.reg ops dr) rfl]
 | .seq a b,fr,H,K=>by
  simp only[AC.bare,bR];rw[fT a];congr 1
  funext e fr' H'
  cases e with
  | normal=>exact fT b _ _ _
  | exit i=>rfl
  | ret=>rfl
 | .cond c a b,fr,H,K=>by simp only[AC.bare,bR,fT a,fT b]
 | .block id c,fr,H,K=>by
  simp only[AC.bare,bR];rw[fT c]
 | .loop lv c,fr,H,K=>by
  have e:=eY (φ:=φ) m (AC.loop lv c) fr H K;simp only[AC.bare] at e;simp only[AC.bare,bR,e]
 | .exit _,_,_,_=>rfl
 | .ret,_,_,_=>rfl
 | .yld _ _ _ _ _,_,_,_=>rfl
 | .rng _ _ _ _,_,_,_=>rfl
theorem fN {α:Type} {φ:cm} {ψ:ny} (m:Nat):∀ (c:AC) (fr:Fr) (H:Hp) (K:Ex->Fr->Hp->Option α),bd φ ψ m c.bare fr H K=bd φ ψ m c fr H K
 | .skip,_,_,_=>rfl
 | .reg ops dr,fr,H,K=>by
  simp only[AC.bare];cases dr with
  | false=>simp only[Bool.not_false,Bool.true_or,cond_true,bd,cond_false,gV]
  | true =>
   simp only[Bool.not_true,Bool.false_or];cases h:ju ops [] with
   | false=>rfl
   | true=>simp only[cond_true,bd,cond_false,gV,cS,h,kZ ops [] [] fr H rfl (fun j x x' hj=>by simp at hj) h]
 | .seq a b,fr,H,K=>by
  simp only[AC.bare,bd];rw[fN m a];congr 1
  funext e fr' H'
  cases e with
  | normal=>exact fN m b _ _ _
  | exit i=>rfl
  | ret=>rfl
 | .cond c a b,fr,H,K=>by simp only[AC.bare,bd,fN m a,fN m b]
 | .block id c,fr,H,K=>by
  simp only[AC.bare,bd];rw[fN m c]
 | .loop lv c,fr,H,K=>by
  simp only[AC.bare,bd];have:(bd (α:=α) φ ψ m c.bare)=bd φ ψ m c:=by
   funext fr' H' K'
   exact fN m c _ _ _
  rw[this]
 | .exit id,_,_,_=>rfl
 | .ret,_,_,_=>rfl
 | .yld _ _ _ _ _,_,_,_=>rfl
 | .rng _ _ _ _,_,_,_=>rfl
theorem Ea (ops:List AOp):qz (ops.map AOp.bare)=qz ops:=by simp[qz,AOp.bare,Function.comp_def]
theorem ja:∀ c:AC,c.bare.zok=c.zok
 | .reg ops dr=>by
  simp only[AC.bare];cases (!dr || ju ops []) with
  | true=>simp only[cond_true,AC.zok,Ea]
  | false=>rfl
 | .seq a b=>by simp only[AC.bare,AC.zok,ja a,ja b]
 | .cond c a b=>by simp only[AC.bare,AC.zok,ja a,ja b]
 | .block id c=>by simp only[AC.bare,AC.zok,ja c]
 | .loop lv c=>by simp only[AC.bare,AC.zok,ja c]
 | .skip=>rfl
 | .exit i=>rfl
 | .ret=>rfl
 | .yld _ _ _ _ _=>rfl
 | .rng _ _ _ _=>rfl
theorem iQ:∀ c:AC,kW c.bare=kW c
 | .reg ops dr=>by
  simp only[AC.bare];cases (!dr || ju ops []) <;> rfl
 | .seq a b=>by simp only[AC.bare,kW,iQ a,iQ b,eT]
 | .cond c a b=>by simp only[AC.bare,kW,iQ a,iQ b]
 | .block id c=>by simp only[AC.bare,kW,iQ c]
 | .loop lv c=>rfl
 | .skip=>rfl
 | .exit i=>rfl
 | .ret=>rfl
 | .yld _ _ _ _ _=>rfl
 | .rng _ _ _ _=>rfl
theorem zt {P:Program} {f:FuncId} {an:FuncId->Ann} {af:AF} (hf:compS P f (an f)=some af):∃ af0,de P an f=some af0∧af={ af0 with body:=af0.body.bare }:=by
 unfold compS at hf;cases ho:(an f).out with
 | true=>rw[ho] at hf;cases hf
 | false =>
  rw[ho] at hf;simp only[cond_false] at hf;split at hf
  ·rename_i af0 h0;cases hf;exact⟨af0,by simp only[de,ho,cond_false];exact h0,rfl⟩
  ·cases hf
theorem Mz {α:Type} {φ:cm} {P:Program} {an:FuncId->Ann} {m:Nat} {K:Ex->Fr->Hp->Option α} {fr:Fr} {H:Hp} {g:X} {ps:List Nat} {asg body:AC} {gf:FuncId} {caps:List Nat} {af:AF} (hg:g.ev fr=some (.one (.f gf caps))) (hp:compS P gf (an gf)=some af)
  (hc:(((af.res.isEmpty && af.body.zok) && (asg.nd && body.nd)) && Nat.ble (caps.length+1) af.ntmps)=true) :
  bR φ (de P an) m (.rng g ps asg body) fr H K=oa φ (fR φ fr ps asg body) (H.length+1) (ml fr K) af.body (aa af.ntmps (tu (.one (.y H.length 0)::caps.map fun i=>V.one (.p i 0)))) (H++[Box.dead]) []:=by
 obtain⟨af0,h0,rfl⟩:=zt hp;simp only[ja] at hc;rw[OQ hg h0 hc];simp only[oa,fN]
theorem Mi {P:Program} {an:FuncId->Ann} {pr:cm} {f:FuncId} {args:List V} {H:Hp} {z:V × Hp} {af:AF} (hf:compS P f (an f)=some af) (hl:(Nat.ble args.length af.ntmps && (af.body.hasR && kW af.body))=true)
  (h:bR (dJ (de P an) pr) (de P an) H.length af.body (aa af.ntmps (tu args)) H (Ar af.res af.keep H.length)=some z):dJ (de P an) pr f args H=some z:=by
 obtain⟨af0,h0,rfl⟩:=zt hf;simp only[eT,iQ,Bool.and_eq_true] at hl;refine xc h0 (by rw[hl.2.1,hl.2.2];rfl) ?_
 simp only[fT] at h;rw[AG (Nat.le_of_ble_eq_true hl.1),vx];exact h
def i6:=And.intro @Ef (And.intro @Bo (And.intro @DY (And.intro @AL (And.intro @Ax (And.intro @x8 (And.intro @EY (And.intro @AE (And.intro @go_skipY (And.intro @go_seqY (And.intro @go_regY (And.intro @go_condY (And.intro @go_blockY (And.intro @go_exitY (And.intro @go_retY (And.intro @Hy (And.intro @Mv (And.intro @Jg (And.intro @JT (And.intro @Nx (And.intro @Kj (And.intro @K3 (And.intro @Gm (And.intro @AJ (And.intro @Gu (And.intro @JO (And.intro @go_drawY (And.intro @Ev (And.intro @Bu (And.intro @Dy (And.intro @BN (And.intro @NO (And.intro @Ni (And.intro @Nj (And.intro @DX (And.intro @IL (And.intro @go_yld (And.intro @NM (And.intro @I9 (And.intro @KZ (And.intro @Ji (And.intro @Jq (And.intro @nM (And.intro @step_e (And.intro @BX (And.intro @Et (And.intro @N7 (And.intro @FS (And.intro @Ha (And.intro @Fs (And.intro @Fl (And.intro @HM (And.intro @DT (@Bq)))))))))))))))))))))))))))))))))))))))))))))))))))))
def ux:=And.intro @L8 (And.intro @Ms (And.intro @Ka (And.intro @J2 (And.intro @Ah (And.intro @IA (And.intro @Lc (And.intro @AR (And.intro @Lb (@Gq)))))))))
def Fc (run alt:Option (V × Hp)):Option (V × Hp):=match run with|some (r,H1)=>(match r.pure with|true=>some (r,H1)|false=>alt)|none=>alt
def NX (sv:V) (H:Hp) (run alt:Option (V × Hp)):Option (V × Hp):=match sv with
 | .one (.sl b _ _ _)=>(match H[b]? with|some (.arr _ _ _)=>Fc run alt|_=>alt)
 | _=>alt
theorem cu {r:V} {H1:Hp} {alt:Option (V × Hp)} (h:r.pure=true):Fc (some (r,H1)) alt=some (r,H1):=by simp only[Fc,h]
theorem fj {b z o n:Nat} {H:Hp} {run alt:Option (V × Hp)}:NX (.one (.sl b z o n)) H run alt=match H[b]? with|some (.arr _ _ _)=>Fc run alt|_=>alt:=rfl
theorem Dw {φ:cm} {d:Option Nat} {p:List Nat} {fn:FuncId} {s b z off n z' fz N:Nat} {rows:List (List D)} {f:Fn} {H H1:Hp} {r:V} (hN:s<N) (hs:f s=.one (.sl b z off n)) (hH:H[b]?=some (.arr z' rows fz))
  (hr:(A.callz fn [.t s]).run φ (aa N f) H=some (r,H1)) (hp:r.pure=true) :
  aS φ ⟨d,.callz fn [.t s],none,p,false⟩ (aa N f) H=some (r,H1):=by
 have hsl:aA (aa N f) (AOp.slots ⟨d,.callz fn [.t s],none,p,false⟩)=[b]:=by
  have e:AOp.slots ⟨d,.callz fn [.t s],none,p,false⟩=[s]:=rfl;rw[e,aJ _ hN,cd,hs];rfl
 have hi:aI ⟨d,.callz fn [.t s],none,p,false⟩ (aa N f) H=[b]:=by
  rw[aI,hsl];exact mM hH rfl rfl
 have es:X.ev ((aY (AOp.slots ⟨d,.callz fn [.t s],none,p,false⟩) (aa N f)).map (V.ren (aE [b]))) (.t s)=some (.one (.sl 0 z off n)):=by
  simp only[X.ev,List.getElem?_map];rw[bc (by simp[AOp.slots,A.xs,X.slot]),bW hN,hs]
  simp[V.ren,L.ren,au]
 have hc:aq H [b]=[.arr z' rows fz]:=by
  simp only[aq,List.map_cons,List.map_nil,List.getD,hH,Option.getD_some,Box.ren]
 have es0:X.ev (aa N f) (.t s)=some (.one (.sl b z off n)):=by rw[pt hN,hs]
 simp only[A.run,mB,es0,nU,nS,ui,hH] at hr;simp only[aS,hi,hc,A.run,mB,es,nU,nS,ui,List.getElem?_cons_zero];by_cases h:off+n<=rows.length
 ·simp only[if_pos h] at hr ⊢;simp only[fk,V.data,L.data,dj] at hr ⊢;cases hφ:φ fn [.one (.d (.l ((rows.drop off).take n)))] [] with
  | none=>rw[hφ] at hr;cases hr
  | some q =>
   obtain⟨r1,G⟩:=q;rw[hφ] at hr;cases G with
   | nil =>
    simp only[Option.some.injEq,Prod.mk.injEq] at hr;obtain⟨rfl,rfl⟩:=hr;simp only[V.pure_ren hp];simp[bY,Box.ren]
   | cons a G=>cases hr
 ·simp only[if_neg h] at hr;cases hr
theorem jN {φ:cm} {d:Option Nat} {p:List Nat} {fn:FuncId} {s N:Nat} {f:Fn} {H:Hp} (hN:s<N) :
  aS φ ⟨d,.callz fn [.t s],none,p,false⟩ (aa N f) H=NX (f s) H ((A.callz fn [.t s]).run φ (aa N f) H) (dQ φ ⟨d,.callz fn [.t s],none,p,false⟩ (aa N f) H):=by
 unfold NX;split
 ·rename_i hs;split
  ·rename_i hb;unfold Fc;split
   ·rename_i r H1 hr;split
    ·rename_i hp;exact Dw hN hs hb hr hp
    ·rfl
   ·rfl
  ·rfl
 ·rfl
def QB (sv xv:V) (H:Hp) (run alt:Option (V × Hp)):Option (V × Hp):=match sv with
 | .one .ns=>(match xv with | .one (.sl b _ _ _)=>(match H[b]? with|some (.arr _ _ _)=>run|_=>alt)|_=>alt)
 | _=>alt
theorem MU {b z o n:Nat} {H:Hp} {run alt:Option (V × Hp)}:QB (.one .ns) (.one (.sl b z o n)) H run alt=match H[b]? with|some (.arr _ _ _)=>run|_=>alt:=rfl
theorem E7 {φ:cm} {d:Option Nat} {p:List Nat} {sz bytes s y b z off n z' fz N:Nat} {rows:List (List D)} {f:Fn} {H:Hp} (hN:s<N∧y<N) (hs:f s=.one .ns) (hy:f y=.one (.sl b z off n)) (hH:H[b]?=some (.arr z' rows fz)) :
  aS φ ⟨d,.app false sz bytes (.t s) (.t y),none,p,false⟩ (aa N f) H=(A.app false sz bytes (.t s) (.t y)).run φ (aa N f) H:=by
 have hsl:aA (aa N f) (AOp.slots ⟨d,.app false sz bytes (.t s) (.t y),none,p,false⟩)=[b]:=by
  have e:AOp.slots ⟨d,.app false sz bytes (.t s) (.t y),none,p,false⟩=[s,y]:=rfl;rw[e,aJ _ hN.1,aJ _ hN.2,cd,hs,hy];rfl
 have hi:aI ⟨d,.app false sz bytes (.t s) (.t y),none,p,false⟩ (aa N f) H=[b]:=by
  rw[aI,hsl];exact mM hH rfl rfl
 have es:X.ev ((aY (AOp.slots ⟨d,.app false sz bytes (.t s) (.t y),none,p,false⟩) (aa N f)).map (V.ren (aE [b]))) (.t s)=some (.one .ns):=by
  simp only[X.ev,List.getElem?_map];rw[bc (by simp[AOp.slots,A.xs,X.slot]),bW hN.1,hs]
  simp[V.ren,L.ren]
 have ey:X.ev ((aY (AOp.slots ⟨d,.app false sz bytes (.t s) (.t y),none,p,false⟩) (aa N f)).map (V.ren (aE [b]))) (.t y)=some (.one (.sl 0 z off n)):=by
  simp only[X.ev,List.getElem?_map];rw[bc (by simp[AOp.slots,A.xs,X.slot]),bW hN.2,hy]
  simp[V.ren,L.ren,au]
 have hc:aq H [b]=[.arr z' rows fz]:=by
  simp only[aq,List.map_cons,List.map_nil,List.getD,hH,Option.getD_some,Box.ren]
 have es0:X.ev (aa N f) (.t s)=some (.one .ns):=by rw[pt hN.1,hs]
 have ey0:X.ev (aa N f) (.t y)=some (.one (.sl b z off n)):=by rw[pt hN.2,hy]
 have hset:H.set b (.arr z' rows fz)=H:=by
  obtain⟨hlt,hg⟩:=List.getElem?_eq_some_iff.1 hH;rw[<- hg];exact List.set_getElem_self hlt
 simp only[aS,hi,hc,A.run,es,ey,es0,ey0,cond_false,cD,List.getElem?_cons_zero,hH];by_cases h1:(z'=sz∨(z'=0∧sz=1)∨rows=[])∧off+n<=rows.length
 ·simp only[if_pos h1];by_cases h2:((rows.drop off).take n).length*bytes<=140737488355328∧((rows.drop off).take n).length<=9223372036854775807∧aQ sz ((rows.drop off).take n)=true
  ·simp only[if_pos h2];simp[V.ren,L.ren,bZ,Box.ren,bY,hset]
  ·simp only[if_neg h2]
 ·simp only[if_neg h1]
theorem yq {φ:cm} {d:Option Nat} {p:List Nat} {sz bytes s y N:Nat} {f:Fn} {H:Hp} (hN:s<N∧y<N) :
  aS φ ⟨d,.app false sz bytes (.t s) (.t y),none,p,false⟩ (aa N f) H=QB (f s) (f y) H ((A.app false sz bytes (.t s) (.t y)).run φ (aa N f) H) (dQ φ ⟨d,.app false sz bytes (.t s) (.t y),none,p,false⟩ (aa N f) H):=by
 unfold QB;split
 ·rename_i hs;split
  ·rename_i hy;split
   ·rename_i hH;exact E7 hN hs hy hH
   ·rfl
  ·rfl
 ·rfl
def ND (n:Nat) (av:V) (cs:Option (List L)) (H:Hp) (ids:List Nat) (alt:Option (V × Hp)):Option (V × Hp):=match av,cs with
 | .one (.p i off),some ys=>(match H[i]? with
  | some (.cells xs)=>bif ids.contains i && ((ys.flatMap L.refs).all ids.contains && (ids.all (fun k=>decide (k=i) || (match H[k]? with|some b=>b.refs|none=>[]).all ids.contains) && (((xs.take off).flatMap L.refs).all ids.contains && (((xs.drop (off+n)).flatMap L.refs).all ids.contains && (decide (ys.length=n) && decide (off+n<=xs.length)))))) then some (.tup [],H.set i (.cells (xs.take off++ys++xs.drop (off+n)))) else alt
  | _=>alt)
 | _,_=>alt
theorem ww {n i off:Nat} {ys:List L} {H:Hp} {ids:List Nat} {alt:Option (V × Hp)}:ND n (.one (.p i off)) (some ys) H ids alt=(match H[i]? with
  | some (.cells xs)=>bif ids.contains i && ((ys.flatMap L.refs).all ids.contains && (ids.all (fun k=>decide (k=i) || (match H[k]? with|some b=>b.refs|none=>[]).all ids.contains) && (((xs.take off).flatMap L.refs).all ids.contains && (((xs.drop (off+n)).flatMap L.refs).all ids.contains && (decide (ys.length=n) && decide (off+n<=xs.length)))))) then some (.tup [],H.set i (.cells (xs.take off++ys++xs.drop (off+n)))) else alt
  | _=>alt):=rfl
theorem mL {φ:cm} {d:Option Nat} {g:Option (Nat × Bool)} {p:List Nat} {n a v N:Nat} {f:Fn} {H:Hp} (hN:a<N∧v<N) :
  aS φ ⟨d,.st n (.t a) (.t v),g,p,false⟩ (aa N f) H=ND n (f a) (f v).cs H (aF H (aA (aa N f) ([a,v]++oC g))) (dQ φ ⟨d,.st n (.t a) (.t v),g,p,false⟩ (aa N f) H):=by
 unfold ND;split
 ·rename_i i off ys ha hv;split
  ·rename_i xs hb;generalize hc:(List.contains _ i && _)=cc;cases cc with
   | false=>rfl
   | true =>
    simp only[Bool.and_eq_true,decide_eq_true_eq,List.all_eq_true,List.contains_iff_mem] at hc;obtain⟨c1,c2,c3,c6,c7,c4,c5⟩:=hc;have hids:aI ⟨d,.st n (.t a) (.t v),g,p,false⟩ (aa N f) H=aF H (aA (aa N f) ([a,v]++oC g)):=rfl;obtain⟨hn,hal⟩:=gD H (aA (aa N f) ([a,v]++oC g));simp only[aS,hids,cond_true];generalize aF H (aA (aa N f) ([a,v]++oC g))=ids at *;have c3':∀ k∈ids,k≠i->∀ r∈(match H[k]? with|some b=>b.refs|none=>[]),r∈ids:=fun k hk hne r hr=>by
     have:=c3 k hk;simp only[Bool.or_eq_true,decide_eq_true_eq,List.all_eq_true,List.contains_iff_mem] at this;exact this.resolve_left hne r hr
    obtain⟨j,j1,j2,j3⟩:=eg (q:=H.length) (d:=ids.length-ids.length) c1;have hjl:j<ids.length:=(List.getElem?_eq_some_iff.1 j3).1;have ea:X.ev ((aY (AOp.slots ⟨d,.st n (.t a) (.t v),g,p,false⟩) (aa N f)).map (V.ren (aE ids))) (.t a)=some (.one (.p j off)):=by
     simp only[X.ev,List.getElem?_map];rw[bc (by simp[AOp.slots,A.xs,X.slot]),bW hN.1,ha]
     simp only[Option.map_some,V.ren,L.ren,j1]
    have ev:X.ev ((aY (AOp.slots ⟨d,.st n (.t a) (.t v),g,p,false⟩) (aa N f)).map (V.ren (aE ids))) (.t v)=some ((f v).ren (aE ids)):=by
     simp only[X.ev,List.getElem?_map];rw[bc (by simp[AOp.slots,A.xs,X.slot]),bW hN.2]
     rfl
    have hcj:(aq H ids)[j]?=some (.cells (xs.map (L.ren (aE ids)))):=by
     simp only[aq,List.getElem?_map,j3,Option.map_some,List.getD,hb,Option.getD_some,Box.ren]
    have hrun:(A.st n (.t a) (.t v)).run φ ((aY (AOp.slots ⟨d,.st n (.t a) (.t v),g,p,false⟩) (aa N f)).map (V.ren (aE ids))) (aq H ids)=some (.tup [],(aq H ids).set j (.cells ((xs.map (L.ren (aE ids))).take off++ys.map (L.ren (aE ids))++(xs.map (L.ren (aE ids))).drop (off+n)))):=by
     simp only[A.run,ea,ev,V.cs_ren,hv,Option.map_some,hcj,List.length_map,c4,c5,and_self,if_true]
    have hcl:(aq H ids).length=ids.length:=by simp[aq]
    simp only[hrun,List.length_set,hcl,V.ren,List.map_nil,Option.some.injEq,Prod.mk.injEq,true_and];have hdr:List.drop ids.length ((aq H ids).set j (.cells ((xs.map (L.ren (aE ids))).take off++ys.map (L.ren (aE ids))++(xs.map (L.ren (aE ids))).drop (off+n))))=[]:=List.drop_eq_nil_of_le (by simp[hcl])
    have htk:List.take ids.length ((aq H ids).set j (.cells ((xs.map (L.ren (aE ids))).take off++ys.map (L.ren (aE ids))++(xs.map (L.ren (aE ids))).drop (off+n))))=(aq H ids).set j (.cells ((xs.map (L.ren (aE ids))).take off++ys.map (L.ren (aE ids))++(xs.map (L.ren (aE ids))).drop (off+n))):=List.take_of_length_le (by simp[hcl])
    rw[hdr,htk,List.map_nil,List.append_nil];apply List.ext_getElem?;intro k;by_cases hk:k∈ids
    ·obtain⟨b0,hb0,_⟩:=hal k hk;have hkl:=(List.getElem?_eq_some_iff.1 hb0).1;obtain⟨t,ht,rfl⟩:=List.getElem_of_mem hk;rw[kv ids H _ t ids[t] hn (by simp[hcl]) (by simp[ht]) hkl,List.getElem?_map]
     by_cases htj:j=t
     ·subst htj;have hi:ids[j]=i:=by
       have:=List.getElem?_eq_getElem ht;rw[j3] at this;exact(Option.some.inj this).symm
      rw[List.getElem?_set_self (by rw[hcl];exact ht),hi,List.getElem?_set_self (by rw[<- hi];exact hkl)]
      simp only[Option.map_some,Box.ren,List.map_append];rw[<- List.map_take,<- List.map_drop,Ls.ren_back c6,Ls.ren_back c2,Ls.ren_back c7]
     ·have hne:i≠ids[t]:=by
       intro e;exact htj (mS hn j3 (by rw[e];simp[ht]))
      rw[List.getElem?_set_ne htj,List.getElem?_set_ne hne,hb0];simp only[aq,List.getElem?_map,List.getElem?_eq_getElem ht,Option.map_some,List.getD,hb0,Option.getD_some];rw[Box.ren_back (fun r hr=>c3' ids[t] hk (fun e=>hne e.symm) r (by rw[hb0];exact hr))]
    ·rw[eR _ _ _ _ hk,List.getElem?_set_ne (fun e=>hk (by rw[<- e];exact c1))]
  ·rfl
 ·rfl
end Go.Vi
