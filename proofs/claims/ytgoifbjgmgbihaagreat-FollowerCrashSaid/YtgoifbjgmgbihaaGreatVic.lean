import Derived.Test.YtgoifbjgmgbihaaGreatVib
import Derived.ProofKit
import Derived.OpenShut
set_option linter.unusedSimpArgs false
set_option linter.unusedVariables false
set_option maxRecDepth 20000
set_option maxHeartbeats 16000000
/- An interpreter of values: what it answers the program answers. -/
namespace Go.Vi
set_option linter.unusedSimpArgs false
set_option linter.unusedVariables false
section
variable {P:Program} {φ:FuncId->List V->Hp->Option (V × Hp)}
theorem tJ (fr:Fr) (d:Option Nat) (v:V) (t:Nat):(put fr d v)[t]?=if d=some t then(if t<fr.length then some v else none) else fr[t]?:=by
 cases d with
 | none=>simp[put]
 | some d =>
  simp only[put,List.getElem?_set,Option.some.injEq];by_cases h:d=t
  ·subst h;simp
  ·simp[h]
theorem vF (fr:Fr) (d:Option Nat) (v:V):(put fr d v).length=fr.length:=by cases d <;> simp[put]
theorem kC (a:Act) (d:Option Tmp) (x:Value) (t:Nat):(a.put d x).tmps[t]?=if d=some t then(if t<a.tmps.size then some x else none) else a.tmps[t]?:=by
 cases d with
 | none=>simp[Act.put]
 | some d =>
  simp only[Act.put,Array.getElem?_setIfInBounds,Option.some.injEq];by_cases h:d=t
  ·subst h;simp
  ·simp[h]
theorem mh (a:Act) (d:Option Tmp) (x:Value):(a.put d x).tmps.size=a.tmps.size:=by cases d <;> simp[Act.put]
variable {F:Nat->Fr} {G:Nat->Hp} {E:Nat->Log} {L:List AOp}
theorem kR (hS:∀ k o,L[k]?=some o->StepAt φ F G E k o) {t:Nat}:∀ (b a:Nat),a<=b->b<=L.length->(∀ k,a<=k->k<b->(E k).dst≠some t)->(F a)[t]?=(F b)[t]?
 | 0,a,h,_,_=>by rw[show a=0 by omega]
 | b+1,a,h,hb,hn=>by
  rcases Nat.lt_or_ge a (b+1) with h1|h1
  ·rw[kR hS b a (by omega) (by omega) (fun k h2 h3=>hn k h2 (by omega))]
   have hs:=hS b L[b] (by simp)
   obtain⟨⟨bb,v,x1,x2,x3,x4⟩,_,y1,_⟩:=hs;have:=hn b (by omega) (by omega)
   rw[y1] at this;rw[x3,tJ,if_neg this]
  ·rw[show a=b+1 by omega]
theorem lA (hS:∀ k o,L[k]?=some o->StepAt φ F G E k o):∀ k,k<=L.length->(F k).length=(F 0).length
 | 0,_=>rfl
 | k+1,h=>by
  obtain⟨⟨bb,v,x1,x2,x3,x4⟩,_,y1,_⟩:=hS k L[k] (by simp)
  rw[x3,vF,lA hS k (by omega)]
theorem nJ (hS:∀ k o,L[k]?=some o->StepAt φ F G E k o):∀ (b a:Nat),a<=b->b<=L.length->(G a).length<=(G b).length
 | 0,a,h,_=>by rw[show a=0 by omega];exact Nat.le_refl _
 | b+1,a,h,hb=>by
  rcases Nat.lt_or_ge a (b+1) with h1|h1
  ·exact Nat.le_trans (nJ hS b a (by omega) (by omega)) (step_len (hS b L[b] (by simp)))
  ·rw[show a=b+1 by omega];exact Nat.le_refl _
theorem nN (hS:∀ k o,L[k]?=some o->StepAt φ F G E k o) {x:Nat}:∀ (b a:Nat),a<=b->b<=L.length->(∀ k,a<=k->k<b->¬ wr E k x)->(G a)[x]?=(G b)[x]?
 | 0,a,h,_,_=>by rw[show a=0 by omega]
 | b+1,a,h,hb,hn=>by
  rcases Nat.lt_or_ge a (b+1) with h1|h1
  ·rw[nN hS b a (by omega) (by omega) (fun k h2 h3=>hn k h2 (by omega))]
   exact(step_get (hS b L[b] (by simp)) (hn b (by omega) (by omega))).symm
  ·rw[show a=b+1 by omega]
def Dn (listed:Array Bool) (i:Nat):Prop:=listed.getD i false=true
structure Half (n:Nat) (F:Nat->Fr) (G:Nat->Hp) (E:Nat->Log) (TB:Nat->Prop) (listed:Array Bool) (mu:Mu) (S:St) (w:World) (a:Act):Prop where
 heap:∃ X:Hp,X.length=(G n).length∧Inv mu S TB w X∧∀ b,∃ m,m<=n∧(∀ k,k<m->wr E k b->Dn listed k)∧(∀ k,m<=k->k<n->wr E k b->¬ Dn listed k) ∧
  (b<(G m).length->X[b]?=(G m)[b]?)∧((G m).length<=b->mu b=none)
 size:a.tmps.size=(F 0).length
 slot:∀ t,∃ m,m<=n∧(∀ k,k<m->(E k).dst=some t->Dn listed k)∧(∀ k,m<=k->k<n->(E k).dst=some t->¬ Dn listed k) ∧
  ∀ v,(F m)[t]?=some v->∃ x,a.tmps[t]?=some x∧RelV mu S w v x
theorem y7 {listed:Array Bool} {i k:Nat} (hi:i<listed.size):Dn (listed.setIfInBounds i true) k↔k=i∨Dn listed k:=by
 unfold Dn;by_cases h:i=k
 ·subst h;simp[hi]
 ·rw[getD_set_ne false h];constructor
  ·exact .inr
  ·rintro(h1|h1)
   ·exact absurd h1.symm h
   ·exact h1
theorem oJ {fr:Fr} {lv:List Nat} {g:Option (Nat × Bool)} {b:Bool} (h:wantedV fr g=some b) (hl:∀ t w,g=some (t,w)->t∈lv):wantedV (bf lv fr) g=some b:=by
 cases g with
 | none=>exact h
 | some p =>
  obtain⟨t,w⟩:=p;have ht:=hl t w rfl;have:(bf lv fr)[t]?=fr[t]?:=by
   simp only[bf,List.getElem?_mapIdx];cases fr[t]? with
   | none=>rfl
   | some v=>simp[ht]
  simp only[wantedV,this] at h ⊢;exact h
theorem bn {fr:Fr} {lv:List Nat} {t:Nat} (ht:t∈lv):(bf lv fr)[t]?=fr[t]?:=by
 simp only[bf,List.getElem?_mapIdx];cases fr[t]? with
 | none=>rfl
 | some v=>simp[ht]
theorem nH {X H:Hp} {mu:Mu} {S:St} {TB:Nat->Prop} {w:World} (hi:Inv mu S TB w X):∀ (n:Nat) (todo seen:List Nat),(∀ i∈todo,(mu i).isSome=true)->(∀ i∈seen,(mu i).isSome=true) ->
  (∀ i∈aD H n todo seen,X[i]?=H[i]?)->∀ i∈aD H n todo seen,(mu i).isSome=true
 | 0,todo,seen,h1,h2,_=>by cases todo <;> exact h2
 | n+1,[],seen,h1,h2,_=>h2
 | n+1,i::todo,seen,h1,h2,hX=>by
  have h1':∀ i∈todo,(mu i).isSome=true:=fun k hk=>h1 k (List.mem_cons_of_mem _ hk)
  have h0:=h1 i List.mem_cons_self;obtain⟨l,hl⟩:=Option.isSome_iff_exists.1 h0;simp only[aD] at hX ⊢;split at hX
  ·exact nH hi n todo seen h1' h2 hX
  ·exact nH hi n todo seen h1' h2 hX
  ·rename_i b hne hb;by_cases hc:seen.contains i=true
   ·rw[if_pos hc] at hX ⊢;exact nH hi n todo seen h1' h2 hX
   ·rw[if_neg hc] at hX ⊢;have hin:i∈aD H n (b.refs++todo) (seen++[i]):=by
     have:∀ (n:Nat) (t s:List Nat),i∈s->i∈aD H n t s:=by
      intro n;induction n with
      | zero=>intro t s h;cases t <;> exact h
      | succ n ih =>
       intro t s h;cases t with
       | nil=>exact h
       | cons j t =>
        simp only[aD];split
        ·exact ih t s h
        ·exact ih t s h
        ·split
         ·exact ih t s h
         ·exact ih _ _ (List.mem_append_left _ h)
     exact this _ _ _ (List.mem_append_right _ (List.mem_singleton_self _))
    have hXi:=hX i hin;refine nH hi n _ _ (fun k hk=>?_) (fun k hk=>?_) hX
    ·rcases List.mem_append.1 hk with h|h
     ·exact(hi.box i b l (by rw[hXi,hb]) hl).refs k h
     ·exact h1' k h
    ·rcases List.mem_append.1 hk with h|h
     ·exact h2 k h
     ·simp at h;subst h;exact h0
theorem xR {X H:Hp} {ids:List Nat} (h:∀ i∈ids,X[i]?=H[i]?):aw X ids=aw H ids:=by
 simp only[aw];apply List.map_congr_left;intro i hi;simp only[List.getD,h i hi]
theorem Gp (hg:Good P φ) {TB:Nat->Prop} {an:Nat->Nat} {ops:Array Oper} {ps:List (List Nat)} (hc:eF P an ops ps 0 ops.toList=some L)
  (hS:∀ k o,L[k]?=some o->StepAt φ F G E k o) {listed:Array Bool} {mu:Mu} {S:St} {w:World} {a:Act} (hsz:listed.size=L.length)
  (hcl:∀ k,Dn listed k->∀ o,L[k]?=some o->∀ j∈o.pre,Dn listed j)
  {i:Nat} (hi:i<L.length) (hnd:¬ Dn listed i) (hpre:∀ o,L[i]?=some o->∀ j∈o.pre,Dn listed j)
  (hh:Half L.length F G E TB listed mu S w a) {K:Act->World->Prop} {Q:Exit->Act->World->Prop}
  (hk:∀ a' w' mu' S',Ext TB mu S w mu' S' w'->Half L.length F G E TB (listed.setIfInBounds i true) mu' S' w' a'->a'.defers=a.defers->K a' w'):wpOp P ops Q i K a w:=by
 obtain⟨hl,hget⟩:=fo hc;have hio:i<ops.size:=by rw[hl] at hi;simpa using hi
 obtain⟨g1,g2,g3,g4⟩:=hget i ops[i] L[i] (by simp[hio]) (by simp[hi])
 have hst:=hS i L[i] (by simp[hi])
 obtain⟨⟨b,v,x1,x2,x3,x4⟩,yt,y1,y2,y3,y4,y5⟩:=hst;have hp:=hpre L[i] (by simp[hi])
 have before:∀ k,k<i->¬ Dn listed k->(E k).free (E i)=true:=fun k hki hk=>(y5 k hki).resolve_left fun h=>hk (hp k h)
 have after:∀ k,i<k->k<L.length->Dn listed k->(E i).free (E k)=true:=fun k hik hkn hk=>by
  obtain⟨_,_,_,_,_,_,z5⟩:=hS k L[k] (by simp[hkn])
  exact(z5 i hik).resolve_left fun h=>hnd (hcl k hk L[k] (by simp[hkn]) i h)
 have hfree:∀ x y:Log,x.free y=true->(∀ d,x.dst=some d->d ∉ y.rds∧y.dst≠some d)∧(∀ d,y.dst=some d->d ∉ x.rds∧x.dst≠some d)∧(x.kind=0∨y.kind=0∨(x.kind=1∧y.kind=1)∨((∀ b,b∈x.tch.all->b ∉ y.tch.chg)∧∀ b,b∈x.tch.chg->b ∉ y.tch.all)):=by
  intro x y h;simp only[Log.free,Bool.and_eq_true,Bool.or_eq_true,beq_iff_eq] at h;obtain⟨⟨h1,h2⟩,h3⟩:=h;have e1:∀ d,x.dst=some d->d ∉ y.rds∧y.dst≠some d:=by
   intro d hd;rw[hd] at h1;simpa using h1
  refine⟨e1,fun d hd=>?_,?_⟩
  ·rw[hd] at h2;refine⟨by simpa using h2,fun hx=>(e1 d hx).2 hd⟩
  ·rcases h3 with((h3|h3)|h3)|h3
   ·exact .inl h3
   ·exact .inr (.inl h3)
   ·exact .inr (.inr (.inl h3))
   ·refine .inr (.inr (.inr ⟨fun b hb hb2=>?_,fun b hb hb2=>?_⟩))
    ·have:=(List.all_eq_true.1 h3.1) b hb;simp[hb2] at this
    ·have:=(List.all_eq_true.1 h3.2) b hb;simp[hb2] at this
 have disB:∀ k b,k<i->wr E k b->(E i).kind≠0->b∈(E i).tch.all->Dn listed k:=fun k b hki hw hk0 hbt=>Classical.byContradiction fun hnk=>by
  rcases(hfree _ _ (before k hki hnk)).2.2 with h|h|h|h
  ·have:=hw.1;omega
  ·exact hk0 h
  ·have:=hw.1;omega
  ·exact h.2 b hw.2 hbt
 have disA:∀ k b,i<k->k<L.length->wr E k b->(E i).kind≠0->b∈(E i).tch.all->¬ Dn listed k:=fun k b hik hkn hw hk0 hbt hdk=>by
  rcases(hfree _ _ (after k hik hkn hdk)).2.2 with h|h|h|h
  ·exact hk0 h
  ·have:=hw.1;omega
  ·have:=hw.1;omega
  ·exact h.1 b hbt hw.2
 have hslots:∀ t∈L[i].slots,∀ v,(F i)[t]?=some v->∃ x,a.tmps[t]?=some x∧RelV mu S w v x:=by
  intro t ht v hv;obtain⟨m,hm,m1,m2,m3⟩:=hh.slot t;apply m3;rw[<- hv];rcases Nat.le_total m i with hmi|hmi
  ·refine kR hS i m hmi (by omega) fun k h1 h2 h3=>?_
   have:=(hfree _ _ (before k h2 (m2 k h1 (by omega) h3))).1 t h3
   exact this.1 (y2 ▸ ht)
  ·refine(kR hS m i hmi hm fun k h1 h2 h3=>?_).symm
   have hd:=m1 k h2 h3;rcases Nat.lt_or_ge i k with h4|h4
   ·have:=(hfree _ _ (after k h4 (by omega) hd)).2.1 t h3
    exact this.1 (y2 ▸ ht)
   ·exact hnd (by rwa [show i=k by omega])
 have hfr:RelFr mu S w (bf L[i].slots (F i)) a:=by
  refine⟨by rw[hh.size];simp[bf,lA hS i (by omega)],fun t v ht=>?_⟩
  by_cases hts:t∈L[i].slots
  ·rw[bn hts] at ht;exact hslots t hts v ht
  ·simp only[bf,List.getElem?_mapIdx,Option.map_eq_some_iff] at ht;obtain⟨u,hu,rfl⟩:=ht;have hlt:t<a.tmps.size:=by
    rw[hh.size,<- lA hS i (by omega)]
    rcases Nat.lt_or_ge t (F i).length with h|h
    ·exact h
    ·rw[List.getElem?_eq_none h] at hu;cases hu
   refine⟨a.tmps[t],by simp[hlt],?_⟩
   rw[if_neg (by simpa using hts)]
   trivial
 obtain⟨X,hXl,hinv,hX⟩:=hh.heap;have hXi:∀ x,(E i).kind≠0->x∈(E i).tch.all->x<(G i).length->X[x]?=(G i)[x]?:=by
  intro x hk0 hx hlt;obtain⟨m,hm,m1,m2,m3,m4⟩:=hX x;have he:(G m)[x]?=(G i)[x]?:=by
   rcases Nat.le_total m i with hmi|hmi
   ·exact nN hS i m hmi (by omega) fun k h1 h2 h3=>m2 k h1 (by omega) h3 (disB k x h2 h3 hk0 hx)
   ·refine(nN hS m i hmi hm fun k h1 h2 h3=>?_).symm
    have hd:=m1 k h2 h3;rcases Nat.lt_or_ge i k with h4|h4
    ·exact disA k x h4 (by omega) h3 hk0 hx hd
    ·exact hnd (by rwa [show i=k by omega])
  have hlm:x<(G m).length:=by
   rw[List.getElem?_eq_getElem hlt] at he;exact(List.getElem?_eq_some_iff.1 he).1
  rw[m3 hlm,he]
 have hset:∀ k,Dn (listed.setIfInBounds i true) k↔k=i∨Dn listed k:=fun k=>y7 (by omega)
 have fslot:∀ (x:Value) (w':World) (mu':Mu) (S':St),Ext TB mu S w mu' S' w'->RelV mu' S' w' v x->∀ t,∃ m,m<=L.length∧(∀ k,k<m->(E k).dst=some t->Dn (listed.setIfInBounds i true) k) ∧
   (∀ k,m<=k->k<L.length->(E k).dst=some t->¬ Dn (listed.setIfInBounds i true) k)∧∀ v,(F m)[t]?=some v->∃ y,(a.put ops[i].dst x).tmps[t]?=some y∧RelV mu' S' w' v y:=by
  intro x w' mu' S' ex rx t;by_cases ht:(E i).dst=some t
  ·have hdt:ops[i].dst=some t:=by rw[<- g3,<- y1];exact ht
   refine⟨i+1,by omega,fun k hk1 hk2=>(hset k).2 ?_,fun k hk1 hkn hk2 hd=>?_,fun u hu=>?_⟩
   ·rcases Nat.lt_or_ge k i with h|h
    ·refine .inr (Classical.byContradiction fun hnk=>?_)
     exact((hfree _ _ (before k h hnk)).1 t hk2).2 ht
    ·exact .inl (by omega)
   ·rcases(hset k).1 hd with h|h
    ·omega
    ·exact((hfree _ _ (after k (by omega) hkn h)).1 t ht).2 hk2
   ·rw[x3,tJ,if_pos (by rw[<- y1];exact ht)] at hu
    split at hu
    ·rename_i hlt;cases hu;refine⟨x,?_,rx⟩;rw[kC,if_pos hdt,if_pos];rw[hh.size,<- lA hS i (by omega)];exact hlt
    ·cases hu
  ·have hdt:ops[i].dst≠some t:=by rw[<- g3,<- y1];exact ht
   obtain⟨q,hq,q1,q2,q3⟩:=hh.slot t;refine⟨q,hq,fun k hk1 hk2=>(hset k).2 (.inr (q1 k hk1 hk2)),fun k hk1 hkn hk2 hd=>?_,fun u hu=>?_⟩
   ·rcases(hset k).1 hd with h|h
    ·subst h;exact ht hk2
    ·exact q2 k hk1 hkn hk2 h
   ·obtain⟨y,hy,hr⟩:=q3 u hu;refine⟨y,?_,hr.ext ex⟩;rw[kC,if_neg hdt];exact hy
 have fin01:∀ (x:Value) (w':World) (S':St),(E i).kind≠2->Ext TB mu S w mu S' w'->Inv mu S' TB w' X->RelV mu S' w' v x->K (a.put ops[i].dst x) w':=by
  intro x w' S' h2 ex i1 rx;refine hk _ _ mu S' ex ⟨⟨X,hXl,i1,fun b=>?_⟩,by rw[mh];exact hh.size,fslot x w' mu S' ex rx⟩ (fF _ _ _)
  obtain⟨m,hm,m1,m2,m3,m4⟩:=hX b;refine⟨m,hm,fun k hk1 hk2=>(hset k).2 (.inr (m1 k hk1 hk2)),fun k hk1 hkn hk2 hd=>?_,m3,m4⟩
  rcases(hset k).1 hd with h|h
  ·subst h;exact h2 hk2.1
  ·exact m2 k hk1 hkn hk2 h
 have hwk:wantedV (bf L[i].slots (F i)) L[i].g=some b:=oJ x1 fun t w hgw=>by
  simp only[AOp.slots,hgw,List.mem_append];exact .inr (List.mem_singleton_self _)
 unfold wpOp;simp only[show ops[i]?=some ops[i] by simp[hio]]
 rw[n6 g2 hfr hwk];cases b with
 | false =>
  rw[if_neg (by simp)]
  simp only[cond_false] at x2;simp only[drawStep,Option.some.injEq,Prod.mk.injEq] at x4;obtain⟨rfl,hG⟩:=x4;exact fin01 undef w S (by omega) (.refl _ _ _ _) hinv iz
 | true =>
  simp only[if_true];left
  simp only[cond_true] at x2;rw[y3] at *;have g1':bQ P (if an (0+i)=2 then 0 else an (0+i)) ops[i].op=some L[i].a:=g1
  by_cases h2:(E i).kind=2
  ·
   rw[h2] at x4;have hiso:aY φ L[i] (F i) (G i)=some (v,G (i+1)):=x4;obtain⟨r,H1,e1,e2,e3,e4,e5,e6⟩:=ri hiso;obtain⟨hnd2,hal2⟩:(aM L[i] (F i) (G i)).Nodup∧∀ j∈aM L[i] (F i) (G i),∃ b,(G i)[j]?=some b∧alive b=true:=iy (G i) _;have hk0:(E i).kind≠0:=by omega
   have ytt:(E i).tch.all=aM L[i] (F i) (G i)++List.range' (G i).length ((G (i+1)).length-(G i).length):=by rw[yt,h2];rfl
   have hil:∀ j∈aM L[i] (F i) (G i),j<(G i).length:=fun j hj=>by obtain⟨b,hb,_⟩:=hal2 j hj;exact(List.getElem?_eq_some_iff.1 hb).1
   have hXids:∀ j∈aM L[i] (F i) (G i),X[j]?=(G i)[j]?:=fun j hj=>hXi j hk0 (by rw[ytt];exact List.mem_append_left _ hj) (hil j hj)
   have hmu:∀ j∈aM L[i] (F i) (G i),(mu j).isSome=true:=by
    refine nH hinv 1000 _ [] (fun k hk=>?_) (by simp) hXids
    simp only[aB,List.mem_flatMap] at hk;obtain⟨t,ht,hk⟩:=hk;cases hv:(F i)[t]? with
    | none=>rw[hv] at hk;simp at hk
    | some u =>
     rw[hv] at hk;obtain⟨x,_,hx⟩:=hslots t ht u hv;exact hx.refs k hk
   have hGin:(G i).length<=(G L.length).length:=nJ hS _ _ (by omega) (Nat.le_refl _)
   have hGi1:(G (i+1)).length<=(G L.length).length:=nJ hS _ _ (by omega) (Nat.le_refl _)
   have hnew:∀ j,(G i).length<=j->j<(G i).length+(H1.length-(aM L[i] (F i) (G i)).length)->wr E i j:=fun j h1 h3=>by
    refine⟨h2,?_⟩;rw[yt,h2];refine List.mem_append_right _ ?_;simp only[touch];rw[List.mem_range'_1];omega
   have hq:∀ j,(G i).length<=j->j<(G i).length+(H1.length-(aM L[i] (F i) (G i)).length)->mu j=none:=by
    intro j h1 h3;have hwi:=hnew j h1 h3;obtain⟨m,hm,m1,m2,m3,m4⟩:=hX j;apply m4;have hmi:m<=i:=by
     rcases Nat.lt_or_ge i m with h|h
     ·exact absurd (m1 i h hwi) hnd
     ·exact h
    exact Nat.le_trans (nJ hS i m hmi (by omega)) h1
   let X2:Hp:=X.mapIdx fun j x=>if(E i).tch.all.contains j then(G (i+1)).getD j .dead else x
   have hX2l:X2.length=X.length:=by simp[X2]
   have hX2in:∀ j,j∈(E i).tch.all->X2[j]?=(G (i+1))[j]?:=by
    intro j hj;have hjl:j<(G (i+1)).length:=by
     have hle:=step_len (hS i L[i] (by simp[hi]))
     rw[ytt,List.mem_append,List.mem_range'_1] at hj;rcases hj with h|h
     ·have:=hil j h;omega
     ·omega
    have hjx:j<X.length:=by omega
    simp only[X2,List.getElem?_mapIdx,List.getElem?_eq_getElem hjx,Option.map_some];rw[if_pos (by simpa using hj)]
    simp only[List.getD,List.getElem?_eq_getElem hjl,Option.getD_some]
   have hX2o:∀ j,j ∉ (E i).tch.all->X2[j]?=X[j]?:=by
    intro j hj;simp only[X2,List.getElem?_mapIdx];cases X[j]? with
    | none=>rfl
    | some x=>simp only[Option.map_some];rw[if_neg (by simpa using hj)]
   have hX2out:∀ j,j ∉ (E i).tch.chg->X2[j]?=X[j]?:=by
    intro j hj;by_cases ha:j∈(E i).tch.all
    ·have hlt:j<(G i).length:=by
      rw[ytt,List.mem_append] at ha;rcases ha with h|h
      ·exact hil j h
      ·exact absurd (by rw[yt,h2];exact List.mem_append_right _ h) hj
     rw[hX2in j ha,step_get (hS i L[i] (by simp[hi])) (fun hw=>hj hw.2),hXi j hk0 ha hlt]
    ·exact hX2o j ha
   have hcan:aw X (aM L[i] (F i) (G i))=aw (G i) (aM L[i] (F i) (G i)):=xR hXids;refine P7 hg g1' hinv hfr hnd2 (fun j hj=>?_) hmu (by rw[hcan];exact e1) hq (fun j hj=>.inl (hil j hj)) hX2l (by omega) (fun hm j k hjk=>?_) (fun hm t ht=>?_) (fun j hj hr=>?_) K Q fun x w' mu1 S' ex i1 rx=>?_
   ·have:=hil j hj;omega
   ·rw[hX2in k (by rw[ytt];exact List.mem_append_left _ (List.mem_of_getElem? hjk))];exact e5 hm j k hjk
   ·rw[hX2in _ (by rw[ytt];exact List.mem_append_right _ (by rw[List.mem_range'_1];omega))];exact e6 hm t ht
   ·refine hX2o j fun hj2=>?_
    rw[ytt,List.mem_append,List.mem_range'_1] at hj2;rcases hj2 with h|h
    ·exact hj h
    ·omega
   ·rw[<- e2] at rx;refine hk _ _ _ S' ex ⟨⟨X2,by rw[hX2l,hXl],i1,fun j=>?_⟩,by rw[mh];exact hh.size,fslot x w' _ S' ex rx⟩ (fF _ _ _)
    by_cases hj:j∈(E i).tch.chg
    ·refine⟨i+1,by omega,fun k hk1 hk2=>(hset k).2 ?_,fun k hk1 hkn hk2 hd=>?_,fun _=>hX2in j (tP hj),fun hge=>?_⟩
     ·rcases Nat.lt_or_ge k i with h|h
      ·exact .inr (disB k j h hk2 hk0 (tP hj))
      ·exact .inl (by omega)
     ·rcases(hset k).1 hd with h|h
      ·omega
      ·exact disA k j (by omega) hkn hk2 hk0 (tP hj) h
     ·have:=QT (hS i L[i] (by simp[hi])) ⟨h2,hj⟩
      omega
    ·obtain⟨m,hm,m1,m2,m3,m4⟩:=hX j;refine⟨m,hm,fun k hk1 hk2=>(hset k).2 (.inr (m1 k hk1 hk2)),fun k hk1 hkn hk2 hd=>?_,fun h=>by rw[hX2out j hj];exact m3 h,fun h=>?_⟩
     ·rcases(hset k).1 hd with h|h
      ·subst h;exact hj hk2.2
      ·exact m2 k hk1 hkn hk2 h
     ·have h0:=m4 h;simp only[zu];rw[if_neg (fun hc=>hj (hnew j hc.1 hc.2).2)]
      exact h0
  ·have hrun:L[i].a.run φ (F i) (G i)=some (v,G (i+1)):=by rw[pP h2] at x4;exact x4
   have hkk:L[i].a.kind (F i)≠2:=by rw[<- x2];exact h2
   have hcg:∀ H,L[i].a.run φ (bf L[i].slots (F i)) H=L[i].a.run φ (F i) H:=fun H=>rD fun t ht=>bn (by
    simp only[AOp.slots,List.mem_append];exact .inl ht)
   have hrX:L[i].a.run φ (F i) X=some (v,X):=by
    by_cases h0:L[i].a.kind (F i)=0
    ·exact(nY h0 hrun).2 X
    ·have h1:L[i].a.kind (F i)=1:=by have:=Br (F i) L[i].a;omega
     refine wU h1 hrun fun b hb hlt=>hXi b (by rw[x2];exact h0) ?_ hlt
     rw[yt,x2,h1];simp only[touch,Tc.all,aB,AOp.slots,List.flatMap_append,List.mem_append];exact .inl (.inl hb)
   have hkk2:L[i].a.kind (bf L[i].slots (F i))≠2:=by
    rw[Cu (fr2:=F i) fun t ht=>bn (by simp only[AOp.slots,List.mem_append];exact .inl ht)]
    exact hkk
   exact Hm hg g1' hinv hfr hkk2 (by rw[hcg];exact hrX) K Q fun x w' S' ex i1 rx=>fin01 x w' S' h2 ex i1 rx
end
section
variable {P:Program} {φ:FuncId->List V->Hp->Option (V × Hp)}
variable {F:Nat->Fr} {G:Nat->Hp} {E:Nat->Log} {L:List AOp}
theorem Jr (hg:Good P φ) {TB:Nat->Prop} {an:Nat->Nat} {ops:Array Oper} (hc:eF P an ops (fE ops.toList []) 0 ops.toList=some L)
  (hS:∀ k o,L[k]?=some o->StepAt φ F G E k o) {Q:Exit->Act->World->Prop} {mu:Mu} {S:St} {w:World} {a:Act}
  (hQ:∀ a' w' mu' S',Ext TB mu S w mu' S' w'->Inv mu' S' TB w' (G L.length)->RelFr mu' S' w' (F L.length) a'->a'.defers=a.defers->Q .normal a' w') :
  ∀ (fuel:Nat) (listed:Array Bool) (mu1:Mu) (S1:St) (w1:World) (a1:Act),listed.size=L.length->listed.toList.count false<=fuel ->
   (∀ k,Dn listed k->∀ o,L[k]?=some o->∀ j∈o.pre,Dn listed j)->Half L.length F G E TB listed mu1 S1 w1 a1->Ext TB mu S w mu1 S1 w1->a1.defers=a.defers ->
   wpAny P .any ops Q fuel listed a1 w1:=by
 obtain⟨hl,hget⟩:=fo hc;have hsz:L.length=ops.size:=by simpa using hl
 have hready:∀ (listed:Array Bool) (i:Nat),listed.size=L.length->(∀ k,Dn listed k->∀ o,L[k]?=some o->∀ j∈o.pre,Dn listed j)->i∈Region.ready .any ops listed ->
   i<L.length∧¬ Dn listed i∧∀ o,L[i]?=some o->∀ j∈o.pre,Dn listed j:=by
  intro listed i hls hcl hi;rw[mem_ready] at hi;obtain⟨h0,o,ho,hall⟩:=hi;have hio:i<ops.size:=by
   rcases Nat.lt_or_ge i ops.size with h|h
   ·exact h
   ·rw[Array.getElem?_eq_none h] at ho;cases ho
  refine⟨by omega,?_,fun ao hao j hj=>?_⟩
  ·unfold Dn;have:i<listed.size:=by omega
   simp only[Array.getD,this,dite_true] at h0 ⊢;rw[h0];simp
  ·obtain⟨_,_,_,g4⟩:=hget i o ao (by simpa using ho) hao
   rw[g4,Nat.zero_add,kP (o:=o) (by simpa using ho)] at hj
   obtain⟨e,he,hb,hx⟩:=hj;have hd:=hall e (by simpa using he) hb
   rcases hx with rfl|⟨hlt,hx⟩
   ·exact hd
   ·have hen:e.on<L.length:=by omega
    obtain⟨_,_,_,g4'⟩:=hget e.on ops[e.on] L[e.on] (by simp <;> omega) (by simp[hen])
    refine hcl e.on hd L[e.on] (by simp[hen]) j ?_
    rw[g4',Nat.zero_add];exact hx
 have hdone:∀ listed:Array Bool,listed.size=L.length->Region.ready .any ops listed=[]->∀ k,k<L.length->Dn listed k:=by
  intro listed hls hr k;induction k using Nat.strongRecOn with
  | ind k ih =>
   intro hk;apply Classical.byContradiction;intro hnd;have:k∈Region.ready .any ops listed:=by
    rw[mem_ready];have hks:k<listed.size:=by omega
    refine⟨?_,ops[k]'(by omega),by simp <;> omega,fun e he hb=>?_⟩
    ·unfold Dn at hnd;simp only[Array.getD,hks,dite_true] at hnd ⊢;simpa using hnd
    ·obtain⟨_,_,_,g4⟩:=hget k (ops[k]'(by omega)) L[k] (by simp <;> omega) (by simp[hk])
     obtain⟨_,_,_,_,_,z4,_⟩:=hS k L[k] (by simp[hk])
     have hm:e.on∈L[k].pre:=by
      rw[g4,Nat.zero_add,kP (o:=ops[k]'(by omega)) (by simp <;> omega)]
      exact⟨e,by simpa using he,hb,.inl rfl⟩
     have:=z4 _ hm;exact ih e.on this (by omega)
   rw[hr] at this;cases this
 have hend:∀ (listed:Array Bool) (mu1:Mu) (S1:St) (w1:World) (a1:Act),listed.size=L.length->Region.ready .any ops listed=[]->Half L.length F G E TB listed mu1 S1 w1 a1 ->
   Ext TB mu S w mu1 S1 w1->a1.defers=a.defers->Q .normal a1 w1:=by
  intro listed mu1 S1 w1 a1 hls hr hh ex hdf;have hd:=hdone listed hls hr;obtain⟨X,hXl,hinv,hX⟩:=hh.heap;have hGm:X=G L.length:=by
   apply List.ext_getElem?;intro x;obtain⟨m,hm,m1,m2,m3,m4⟩:=hX x;have he:(G m)[x]?=(G L.length)[x]?:=nN hS L.length m hm (Nat.le_refl _) fun k h1 h2 h3=>m2 k h1 h2 h3 (hd k h2)
   rcases Nat.lt_or_ge x (G L.length).length with hx|hx
   ·have hxm:x<(G m).length:=by
     rw[List.getElem?_eq_getElem hx] at he;exact(List.getElem?_eq_some_iff.1 he).1
    rw[m3 hxm,he]
   ·rw[List.getElem?_eq_none hx,List.getElem?_eq_none (by omega)]
  refine hQ a1 w1 mu1 S1 ex (hGm ▸ hinv) ⟨by rw[hh.size,lA hS L.length (Nat.le_refl _)],fun t v ht=>?_⟩ hdf
  obtain⟨q,hq,q1,q2,q3⟩:=hh.slot t;apply q3;rw[<- ht];exact kR hS L.length q hq (Nat.le_refl _) fun k h1 h2 h3=>q2 k h1 h2 h3 (hd k h2)
 intro fuel;induction fuel with
 | zero =>
  intro listed mu1 S1 w1 a1 hls hcnt hcl hh ex hdf;have hr:Region.ready .any ops listed=[]:=by
   apply List.eq_nil_iff_forall_not_mem.2;intro i hi;obtain⟨h1,h2,_⟩:=hready listed i hls hcl hi;have hz:listed.toList.count false=0:=by omega
   rw[List.count_eq_zero] at hz;apply h2;have his:i<listed.size:=by omega
   unfold Dn;simp only[Array.getD,his,dite_true];cases hv:listed[i] with
   | true=>exact hv
   | false=>exact absurd (by rw[<- hv];simp) hz
  exact⟨hr,hend listed mu1 S1 w1 a1 hls hr hh ex hdf⟩
 | succ fuel ih =>
  intro listed mu1 S1 w1 a1 hls hcnt hcl hh ex hdf;refine⟨fun hr=>hend listed mu1 S1 w1 a1 hls hr hh ex hdf,fun i hi=>?_⟩
  obtain⟨h1,h2,h3⟩:=hready listed i hls hcl hi;refine Gp hg hc hS hls hcl h1 h2 h3 hh fun a' w' mu' S' ex' hh' hdf'=>?_
  have his:i<listed.size:=by omega
  refine ih _ mu' S' w' a' (by simp[hls]) ?_ (fun k hk o ho j hj=>?_) hh' (ex.trans ex') (hdf'.trans hdf)
  ·have hv:listed[i]=false:=by
    unfold Dn at h2;simp only[Array.getD,his,dite_true] at h2;simpa using h2
   rw[Array.toList_setIfInBounds,List.count_set (by simpa using his)]
   have:(listed.toList[i]'(by simpa using his))=false:=by simpa using hv
   rw[this,if_pos (by decide:(false == false)=true),if_neg (by decide:¬ ((true == false)=true))]
   omega
  ·rw[y7 his] at hk ⊢;rcases hk with rfl|hk
   ·exact .inr (h3 o ho j hj)
   ·exact .inr (hcl k hk o ho j hj)
def SO (P:Program) (φ:FuncId->List V->Hp->Option (V × Hp)):Prop :=
 ∀ (TB:Nat->Prop) (an:Nat->Nat) (ops:Array Oper) (id:Nat) (L:List AOp),eF P an ops (fE ops.toList []) 0 ops.toList=some L ->
  ∀ (mu:Mu) (S:St) (w:World) (H H':Hp) (fr fr':Fr) (a:Act) (Q:Exit->Act->World->Prop),cX φ L [] fr H=some (fr',H')->Inv mu S TB w H->RelFr mu S w fr a ->
   (∀ a' w' mu' S',Ext TB mu S w mu' S' w'->Inv mu' S' TB w' H'->RelFr mu' S' w' fr' a'->a'.defers=a.defers->Q .normal a' w')->(Code.region id ops true).wp P Q a w
theorem J8 (hm:P.follows .mixedOrders=true) (hg:Good P φ):SO P φ:=by
 intro TB an ops id L hc mu S w H H' fr fr' a Q hrun hi hf hQ;obtain⟨F,G,E,hF,hG,hF',hG',_,hS⟩:=Am L [] fr H hrun;simp only[List.length_nil,Nat.zero_add] at hF hG hF' hG' hS;obtain⟨hl,hget⟩:=fo hc;have hsz:L.length=ops.size:=by simpa using hl
 apply wp_region_any hm;have hd0:∀ k,¬ Dn (Array.replicate ops.size false) k:=by
  intro k h;unfold Dn at h;simp only[Array.getD] at h;split at h <;> simp at h
 have ex0:Ext TB mu S w mu S { w with drawn:=w.drawn+1 }:=⟨fun _ _ h=>h,fun _ _ h=>h,fun _ _ _ h=>h,fun _ _ _=>rfl,fun _ _=>rfl,Nat.le_refl _,rfl,rfl,rfl⟩
 have hi0:Inv mu S TB { w with drawn:=w.drawn+1 } H:=by
  refine⟨fun i b l hb hl=>?_,hi.dom,hi.old,hi.sl,hi.tl,hi.one⟩
  have:=hi.box i b l hb hl;cases b with
  | dead=>trivial
  | mp rows=>exact this
  | cells xs =>
   obtain⟨l,B,cur,e,h1,h2,h3,h4,h5,h6⟩:=this;exact⟨l,B,cur,e,h1,h2,h3,h4.ext ex0,h5,h6⟩
  | arr sz rows fz =>
   obtain⟨l,h1,h2,h3,h4,h5,h6⟩:=this;refine⟨l,h1,h2,h3,h4,h5,?_⟩;cases hbk:l.blk with
   | none=>rw[hbk] at h6;exact h6
   | some B =>
    rw[hbk] at h6;obtain⟨cur,e,ff,k1,k2,k3,k4,k5,k6,k7,k8⟩:=h6;exact⟨cur,e,ff,k1,k2,k3,k4,k5,fun k j r d hr hd=>by obtain⟨v,hv,hrel⟩:=k6 k j r d hr hd;exact⟨v,hv,hrel.ext ex0⟩,k7,k8⟩
 refine Jr hg hc hS (mu:=mu) (S:=S) (w:=w) (a:=a) (fun a' w' mu' S' ex i1 f1 hdf=>hQ a' w' mu' S' ex (hG' ▸ i1) (hF' ▸ f1) hdf) ops.size _ mu S _ a (by simp[hsz]) ?_ (fun k hk=>absurd hk (hd0 k)) ?_ ex0 rfl
 ·simp[List.count_replicate]
 ·have hpad:∀ x,x<(G 0).length->(G 0++List.replicate ((G L.length).length-(G 0).length) Box.dead)[x]?=(G 0)[x]?:=fun x hx=>by rw[List.getElem?_append_left hx]
  have hlen:(G 0).length<=(G L.length).length:=nJ hS _ _ (Nat.zero_le _) (Nat.le_refl _);refine⟨⟨G 0++List.replicate ((G L.length).length-(G 0).length) .dead,by simp;omega,?_,fun b=>⟨0,Nat.zero_le _,fun k h=>by omega,fun k _ _ _=>hd0 k,fun h=>hpad b h,fun h=>?_⟩⟩,by rw[hF];exact hf.size,fun t=>⟨0,Nat.zero_le _,fun k h=>by omega,fun k _ _ _=>hd0 k,fun v hv=>?_⟩⟩
  ·rw[hG] at hpad ⊢;have hb:∀ {i:Nat} {b:Box} {l:Loc},(H++List.replicate ((G L.length).length-H.length) Box.dead)[i]?=some b->mu i=some l->H[i]?=some b:=fun {i b l} h1 h2=>by rw[<- hpad i (hi0.dom i l h2)];exact h1
   exact⟨fun i b l h1 h2=>hi0.box i b l (hb h1 h2) h2,fun i l h=>by have:=hi0.dom i l h;simp;omega,hi0.old,hi0.sl,hi0.tl,fun i j bi bj li lj B hij h1 h2 h3 h4 h5 h6=>hi0.one i j bi bj li lj B hij (hb h1 h5) (hb h2 h6) h3 h4 h5 h6⟩
  ·rw[hG] at h;cases hm:mu b with
   | none=>rfl
   | some l=>have:=hi0.dom b l hm;omega
  rw[hF] at hv;obtain⟨x,hx,hr⟩:=hf.rel t v hv;exact⟨x,hx,hr.ext ex0⟩
end
section
variable {P:Program} {φ:FuncId->List V->Hp->Option (V × Hp)}
structure StepAt0 (φ:FuncId->List V->Hp->Option (V × Hp)) (F:Nat->Fr) (G:Nat->Hp) (E:Nat->Log0) (k:Nat) (o:AOp):Prop where
 ex:∃ (b:Bool) (v:V),wantedV (F k) o.g=some b∧(E k).kind=(bif b then o.a.kind (F k) else 0)∧F (k+1)=put (F k) o.dst v ∧
  (b=true->o.a.run φ (F k) (G k)=some (v,G (k+1)))∧(b=false->v=.tup []∧G (k+1)=G k)
 dst:(E k).dst=o.dst
 rds:(E k).rds=o.slots
 fz:o.fz=false
 pre:∀ j∈o.pre,j<k
 free:∀ j,j<k->j∈o.pre∨(E j).free (E k)=true
theorem oy {pre:List Nat} {e:Log0}:∀ {l:List Log0} {i:Nat},kh pre e i l=true->∀ (j:Nat) (x:Log0),l[j]?=some x->(i+j)∈pre∨x.free e=true
 | [],i,h,j,x,hx=>by simp at hx
 | y::r,i,h,j,x,hx=>by
  simp only[kh,Bool.and_eq_true,Bool.or_eq_true] at h;cases j with
  | zero =>
   simp at hx;subst hx;rcases h.1 with h1|h1
   ·exact .inl (by simpa using h1)
   ·exact .inr h1
  | succ j =>
   have:=oy h.2 j x (by simpa using hx)
   rwa [show i+1+j=i+(j+1) by omega] at this
theorem wK {fr':Fr} {H':Hp}:∀ (r:List AOp) (lg:List Log0) (fr:Fr) (H:Hp),dx φ r lg fr H=some (fr',H') ->
  ∃ (F:Nat->Fr) (G:Nat->Hp) (E:Nat->Log0),F lg.length=fr∧G lg.length=H∧F (lg.length+r.length)=fr'∧G (lg.length+r.length)=H' ∧
   (∀ (j:Nat) (l:Log0),lg[j]?=some l->E j=l)∧∀ (k:Nat) (o:AOp),r[k]?=some o->StepAt0 φ F G E (lg.length+k) o
 | [],lg,fr,H,h=>by
  simp only[dx] at h;cases h;exact⟨fun _=>fr',fun _=>H',fun j=>lg.getD j ⟨0,none,[]⟩,rfl,rfl,rfl,rfl,fun j l hj=>by simp[List.getD,hj],fun k o hk=>by simp at hk⟩
 | o::r,lg,fr,H,h=>by
  simp only[dx] at h;split at h
  ·cases h
  ·rename_i b hb;split at h
   ·rename_i hchk;simp only[Bool.and_eq_true,Bool.not_eq_true'] at hchk;obtain⟨hfz,hpre,hfree⟩:=hchk;split at h
    ·rename_i v H1 hrun;obtain⟨F,G,E,hF,hG,hF',hG',hE,hS⟩:=wK r _ _ _ h;simp only[List.length_append,List.length_cons,List.length_nil] at hF hG hF' hG' hS;have hEk:E lg.length=⟨bif b then o.a.kind fr else 0,o.dst,o.slots⟩:=hE lg.length _ (by simp)
     refine⟨fun j=>if j=lg.length then fr else F j,fun j=>if j=lg.length then H else G j,E,by simp,by simp,?_,?_,fun j l hj=>hE j l ?_,?_⟩
     ·show(if lg.length+(o::r).length=lg.length then fr else F (lg.length+(o::r).length))=fr'
      rw[if_neg (by simp only[List.length_cons];omega),<- hF',show lg.length+(o::r).length=lg.length+(0+1)+r.length by simp only[List.length_cons];omega]
     ·show(if lg.length+(o::r).length=lg.length then H else G (lg.length+(o::r).length))=H'
      rw[if_neg (by simp only[List.length_cons];omega),<- hG',show lg.length+(o::r).length=lg.length+(0+1)+r.length by simp only[List.length_cons];omega]
     ·have hj':j<lg.length:=by
       rcases Nat.lt_or_ge j lg.length with h|h
       ·exact h
       ·rw[List.getElem?_eq_none h] at hj;cases hj
      rw[List.getElem?_append_left hj'];exact hj
     ·intro k o' hk;cases k with
      | zero =>
       simp at hk;subst hk;refine⟨⟨b,v,by simpa using hb,by simp[hEk],?_,?_,?_⟩,by simp[hEk],by simp[hEk],hfz,?_,?_⟩
       ·simp[hF]
       ·intro hbt;subst hbt;simpa[hG] using hrun
       ·intro hbf;subst hbf;simp at hrun;simp[hG,hrun]
       ·intro j hj;have:=(List.all_eq_true.1 hpre) j hj;simpa using this
       ·intro j hj;have hj':j<lg.length:=by simpa using hj
        have hx:=oy hfree j lg[j] (by simp[hj'])
        rw[Nat.zero_add] at hx;have hEj:E j=lg[j]:=hE j _ (by rw[List.getElem?_append_left hj'];simp[hj'])
        rw[Nat.add_zero,hEk,hEj];exact hx
      | succ k =>
       have hs:=hS k o' (by simpa using hk)
       rw[show lg.length+1+k=lg.length+(k+1) by omega] at hs
       obtain⟨⟨b',v',x1,x2,x3,x4,x5⟩,y1,y2,y3,y4,y5⟩:=hs;have e1:¬ (lg.length+(k+1)=lg.length):=by omega
       have e2:¬ (lg.length+(k+1)+1=lg.length):=by omega
       exact⟨⟨b',v',by simpa only[if_neg e1] using x1,by simpa only[if_neg e1] using x2,by simpa only[if_neg e1,if_neg e2] using x3,
        by simpa only[if_neg e1,if_neg e2] using x4,by simpa only[if_neg e1,if_neg e2] using x5⟩,y1,y2,y3,y4,y5⟩
    ·cases h
   ·cases h
variable {F:Nat->Fr} {G:Nat->Hp} {E:Nat->Log0} {L:List AOp}
theorem jt (hS:∀ k o,L[k]?=some o->StepAt0 φ F G E k o) {t:Nat}:∀ (b a:Nat),a<=b->b<=L.length->(∀ k,a<=k->k<b->(E k).dst≠some t)->(F a)[t]?=(F b)[t]?
 | 0,a,h,_,_=>by rw[show a=0 by omega]
 | b+1,a,h,hb,hn=>by
  rcases Nat.lt_or_ge a (b+1) with h1|h1
  ·rw[jt hS b a (by omega) (by omega) (fun k h2 h3=>hn k h2 (by omega))]
   have hs:=hS b L[b] (by simp)
   obtain⟨⟨bb,v,x1,x2,x3,x4,x5⟩,y1,_⟩:=hs;have:=hn b (by omega) (by omega)
   rw[y1] at this;rw[x3,tJ,if_neg this]
  ·rw[show a=b+1 by omega]
theorem jY (hS:∀ k o,L[k]?=some o->StepAt0 φ F G E k o):∀ k,k<=L.length->(F k).length=(F 0).length
 | 0,_=>rfl
 | k+1,h=>by
  obtain⟨⟨bb,v,x1,x2,x3,x4,x5⟩,y1,_⟩:=hS k L[k] (by simp)
  rw[x3,vF,jY hS k (by omega)]
theorem kF (hS:∀ k o,L[k]?=some o->StepAt0 φ F G E k o):∀ (b a:Nat),a<=b->b<=L.length->(∀ k,a<=k->k<b->(E k).kind≠2)->G a=G b
 | 0,a,h,_,_=>by rw[show a=0 by omega]
 | b+1,a,h,hb,hn=>by
  rcases Nat.lt_or_ge a (b+1) with h1|h1
  ·rw[kF hS b a (by omega) (by omega) (fun k h2 h3=>hn k h2 (by omega))]
   obtain⟨⟨bb,v,x1,x2,x3,x4,x5⟩,y1,_⟩:=hS b L[b] (by simp)
   have:=hn b (by omega) (by omega)
   rw[x2] at this;cases bb with
   | true=>exact(ue this (x4 rfl)).symm
   | false=>exact(x5 rfl).2.symm
  ·rw[show a=b+1 by omega]
structure Half0 (n:Nat) (F:Nat->Fr) (G:Nat->Hp) (E:Nat->Log0) (TB:Nat->Prop) (listed:Array Bool) (mu:Mu) (S:St) (w:World) (a:Act):Prop where
 heap:∃ m,m<=n∧(∀ k,k<m->(E k).kind=2->Dn listed k)∧(∀ k,m<=k->k<n->(E k).kind=2->¬ Dn listed k)∧Inv mu S TB w (G m)
 size:a.tmps.size=(F 0).length
 slot:∀ t,∃ m,m<=n∧(∀ k,k<m->(E k).dst=some t->Dn listed k)∧(∀ k,m<=k->k<n->(E k).dst=some t->¬ Dn listed k) ∧
  ∀ v,(F m)[t]?=some v->∃ x,a.tmps[t]?=some x∧RelV mu S w v x
theorem Dh (hg:Good P φ) {TB:Nat->Prop} {an:Nat->Nat} {ops:Array Oper} {ps:List (List Nat)} (hc:eF P an ops ps 0 ops.toList=some L)
  (hS:∀ k o,L[k]?=some o->StepAt0 φ F G E k o) {listed:Array Bool} {mu:Mu} {S:St} {w:World} {a:Act} (hsz:listed.size=L.length)
  (hcl:∀ k,Dn listed k->∀ o,L[k]?=some o->∀ j∈o.pre,Dn listed j)
  {i:Nat} (hi:i<L.length) (hnd:¬ Dn listed i) (hpre:∀ o,L[i]?=some o->∀ j∈o.pre,Dn listed j)
  (hh:Half0 L.length F G E TB listed mu S w a) {K:Act->World->Prop} {Q:Exit->Act->World->Prop}
  (hk:∀ a' w' mu' S',Ext TB mu S w mu' S' w'->Half0 L.length F G E TB (listed.setIfInBounds i true) mu' S' w' a'->a'.defers=a.defers->K a' w'):wpOp P ops Q i K a w:=by
 obtain⟨hl,hget⟩:=fo hc;have hio:i<ops.size:=by rw[hl] at hi;simpa using hi
 obtain⟨g1,g2,g3,g4⟩:=hget i ops[i] L[i] (by simp[hio]) (by simp[hi])
 obtain⟨⟨b,v,x1,x2,x3,x4,x5⟩,y1,y2,y3,y4,y5⟩:=hS i L[i] (by simp[hi])
 have hp:=hpre L[i] (by simp[hi])
 have before:∀ k,k<i->¬ Dn listed k->(E k).free (E i)=true:=fun k hki hk=>(y5 k hki).resolve_left fun h=>hk (hp k h)
 have after:∀ k,i<k->k<L.length->Dn listed k->(E i).free (E k)=true:=fun k hik hkn hk=>by
  obtain⟨_,_,_,_,_,z5⟩:=hS k L[k] (by simp[hkn])
  exact(z5 i hik).resolve_left fun h=>hnd (hcl k hk L[k] (by simp[hkn]) i h)
 have hfree:∀ x y:Log0,x.free y=true->(∀ d,x.dst=some d->d ∉ y.rds∧y.dst≠some d)∧(∀ d,y.dst=some d->d ∉ x.rds∧x.dst≠some d)∧(x.kind=0∨y.kind=0∨(x.kind=1∧y.kind=1)):=by
  intro x y h;simp only[Log0.free,Bool.and_eq_true,Bool.or_eq_true,beq_iff_eq] at h;obtain⟨⟨h1,h2⟩,h3⟩:=h;have e1:∀ d,x.dst=some d->d ∉ y.rds∧y.dst≠some d:=by
   intro d hd;rw[hd] at h1;simpa using h1
  refine⟨e1,fun d hd=>?_,?_⟩
  ·rw[hd] at h2;refine⟨by simpa using h2,fun hx=>(e1 d hx).2 hd⟩
  ·rcases h3 with(h3|h3)|h3
   ·exact .inl h3
   ·exact .inr (.inl h3)
   ·exact .inr (.inr h3)
 have hslots:∀ t∈L[i].slots,∀ v,(F i)[t]?=some v->∃ x,a.tmps[t]?=some x∧RelV mu S w v x:=by
  intro t ht v hv;obtain⟨m,hm,m1,m2,m3⟩:=hh.slot t;apply m3;rw[<- hv];rcases Nat.le_total m i with hmi|hmi
  ·refine jt hS i m hmi (by omega) fun k h1 h2 h3=>?_
   have:=(hfree _ _ (before k h2 (m2 k h1 (by omega) h3))).1 t h3
   exact this.1 (y2 ▸ ht)
  ·refine(jt hS m i hmi hm fun k h1 h2 h3=>?_).symm
   have hd:=m1 k h2 h3;rcases Nat.lt_or_ge i k with h4|h4
   ·have:=(hfree _ _ (after k h4 (by omega) hd)).2.1 t h3
    exact this.1 (y2 ▸ ht)
   ·exact hnd (by rwa [show i=k by omega])
 have hfr:RelFr mu S w (bf L[i].slots (F i)) a:=by
  refine⟨by rw[hh.size];simp[bf,jY hS i (by omega)],fun t v ht=>?_⟩
  by_cases hts:t∈L[i].slots
  ·rw[bn hts] at ht;exact hslots t hts v ht
  ·simp only[bf,List.getElem?_mapIdx,Option.map_eq_some_iff] at ht;obtain⟨u,hu,rfl⟩:=ht;have hlt:t<a.tmps.size:=by
    rw[hh.size,<- jY hS i (by omega)]
    rcases Nat.lt_or_ge t (F i).length with h|h
    ·exact h
    ·rw[List.getElem?_eq_none h] at hu;cases hu
   refine⟨a.tmps[t],by simp[hlt],?_⟩
   rw[if_neg (by simpa using hts)]
   trivial
 obtain⟨m,hm,m1,m2,hinv⟩:=hh.heap;have hheap:(E i).kind≠0->G i=G m:=by
  intro hk0;have hb1:∀ k,k<i->(E k).kind=2->Dn listed k:=fun k hki hk2=>Classical.byContradiction fun hnk=>by
   have:=(hfree _ _ (before k hki hnk)).2.2;rw[hk2] at this;omega
  have hb2:∀ k,i<k->k<L.length->(E k).kind=2->¬ Dn listed k:=fun k hik hkn hk2 hdk=>by
   have:=(hfree _ _ (after k hik hkn hdk)).2.2;rw[hk2] at this;omega
  rcases Nat.le_total m i with hmi|hmi
  ·exact(kF hS i m hmi (by omega) fun k h1 h2 h3=>m2 k h1 (by omega) h3 (hb1 k h2 h3)).symm
  ·refine kF hS m i hmi hm fun k h1 h2 h3=>?_
   have hd:=m1 k h2 h3;rcases Nat.lt_or_ge i k with h4|h4
   ·exact hb2 k h4 (by omega) h3 hd
   ·exact hnd (by rwa [show i=k by omega])
 have hset:∀ k,Dn (listed.setIfInBounds i true) k↔k=i∨Dn listed k:=fun k=>y7 (by omega)
 have wA:∀ (x:Value) (w':World) (mu':Mu) (S':St) (H1:Hp),Ext TB mu S w mu' S' w'->Inv mu' S' TB w' H1->RelV mu' S' w' v x->((E i).kind=2->H1=G (i+1))->((E i).kind≠2->H1=G m) ->
   K (a.put ops[i].dst x) w':=by
  intro x w' mu' S' H1 ex i1 rx hH2 hH0;refine hk _ _ mu' S' ex ⟨?_,by rw[mh];exact hh.size,fun t=>?_⟩ (fF _ _ _)
  ·by_cases h2:(E i).kind=2
   ·refine⟨i+1,by omega,fun k hk1 hk2=>(hset k).2 ?_,fun k hk1 hkn hk2 hd=>?_,hH2 h2 ▸ i1⟩
    ·rcases Nat.lt_or_ge k i with h|h
     ·refine .inr (Classical.byContradiction fun hnk=>?_)
      have:=(hfree _ _ (before k h hnk)).2.2;omega
     ·exact .inl (by omega)
    ·rcases(hset k).1 hd with h|h
     ·omega
     ·have:=(hfree _ _ (after k (by omega) hkn h)).2.2
      omega
   ·refine⟨m,hm,fun k hk1 hk2=>(hset k).2 (.inr (m1 k hk1 hk2)),fun k hk1 hkn hk2 hd=>?_,hH0 h2 ▸ i1⟩
    rcases(hset k).1 hd with h|h
    ·subst h;exact h2 hk2
    ·exact m2 k hk1 hkn hk2 h
  ·by_cases ht:(E i).dst=some t
   ·have hdt:ops[i].dst=some t:=by rw[<- g3,<- y1];exact ht
    refine⟨i+1,by omega,fun k hk1 hk2=>(hset k).2 ?_,fun k hk1 hkn hk2 hd=>?_,fun u hu=>?_⟩
    ·rcases Nat.lt_or_ge k i with h|h
     ·refine .inr (Classical.byContradiction fun hnk=>?_)
      exact((hfree _ _ (before k h hnk)).1 t hk2).2 ht
     ·exact .inl (by omega)
    ·rcases(hset k).1 hd with h|h
     ·omega
     ·exact((hfree _ _ (after k (by omega) hkn h)).1 t ht).2 hk2
    ·rw[x3,tJ,if_pos (by rw[<- y1];exact ht)] at hu
     split at hu
     ·rename_i hlt;cases hu;refine⟨x,?_,rx⟩;rw[kC,if_pos hdt,if_pos];rw[hh.size,<- jY hS i (by omega)];exact hlt
     ·cases hu
   ·have hdt:ops[i].dst≠some t:=by rw[<- g3,<- y1];exact ht
    obtain⟨q,hq,q1,q2,q3⟩:=hh.slot t;refine⟨q,hq,fun k hk1 hk2=>(hset k).2 (.inr (q1 k hk1 hk2)),fun k hk1 hkn hk2 hd=>?_,fun u hu=>?_⟩
    ·rcases(hset k).1 hd with h|h
     ·subst h;exact ht hk2
     ·exact q2 k hk1 hkn hk2 h
    ·obtain⟨y,hy,hr⟩:=q3 u hu;refine⟨y,?_,hr.ext ex⟩;rw[kC,if_neg hdt];exact hy
 have hwk:wantedV (bf L[i].slots (F i)) L[i].g=some b:=oJ x1 fun t w hgw=>by
  simp only[AOp.slots,hgw,List.mem_append];exact .inr (List.mem_singleton_self _)
 unfold wpOp;simp only[show ops[i]?=some ops[i] by simp[hio]]
 rw[n6 g2 hfr hwk];cases b with
 | true =>
  simp only[if_true];left
  have hrun:∃ H1,L[i].a.run φ (bf L[i].slots (F i)) (G m)=some (v,H1)∧((E i).kind=2->H1=G (i+1))∧((E i).kind≠2->H1=G m):=by
   have hcg:∀ H,L[i].a.run φ (bf L[i].slots (F i)) H=L[i].a.run φ (F i) H:=fun H=>rD fun t ht=>bn (by
    simp only[AOp.slots,List.mem_append];exact .inl ht)
   simp only[hcg];simp only[cond_true] at x2;have hr:=x4 rfl;by_cases h0:(E i).kind=0
   ·obtain⟨_,h2⟩:=nY (by rw[<- x2];exact h0) hr
    exact⟨G m,h2 _,fun h=>by omega,fun _=>rfl⟩
   ·rw[<- hheap h0];refine⟨G (i+1),hr,fun _=>rfl,fun h=>ue (by rw[<- x2];exact h) hr⟩
  obtain⟨H1,hr,hH2,hH0⟩:=hrun;rw[y3] at *;have g1':bQ P (if an (0+i)=2 then 0 else an (0+i)) ops[i].op=some L[i].a:=g1
  exact BY hg g1' hinv hfr hr K Q fun x w' mu' S' ex i1 rx=>wA x w' mu' S' H1 ex i1 rx hH2 hH0
 | false =>
  rw[if_neg (by simp)]
  obtain⟨rfl,hG⟩:=x5 rfl;simp only[cond_false] at x2;exact wA undef w mu S (G m) (.refl _ _ _ _) hinv iz (fun h=>by omega) (fun _=>rfl)
theorem FF (hg:Good P φ) {TB:Nat->Prop} {an:Nat->Nat} {ops:Array Oper} (hc:eF P an ops (fE ops.toList []) 0 ops.toList=some L)
  (hS:∀ k o,L[k]?=some o->StepAt0 φ F G E k o) {Q:Exit->Act->World->Prop} {mu:Mu} {S:St} {w:World} {a:Act}
  (hQ:∀ a' w' mu' S',Ext TB mu S w mu' S' w'->Inv mu' S' TB w' (G L.length)->RelFr mu' S' w' (F L.length) a'->a'.defers=a.defers->Q .normal a' w') :
  ∀ (fuel:Nat) (listed:Array Bool) (mu1:Mu) (S1:St) (w1:World) (a1:Act),listed.size=L.length->listed.toList.count false<=fuel ->
   (∀ k,Dn listed k->∀ o,L[k]?=some o->∀ j∈o.pre,Dn listed j)->Half0 L.length F G E TB listed mu1 S1 w1 a1->Ext TB mu S w mu1 S1 w1->a1.defers=a.defers ->
   wpAny P .any ops Q fuel listed a1 w1:=by
 obtain⟨hl,hget⟩:=fo hc;have hsz:L.length=ops.size:=by simpa using hl
 have hready:∀ (listed:Array Bool) (i:Nat),listed.size=L.length->(∀ k,Dn listed k->∀ o,L[k]?=some o->∀ j∈o.pre,Dn listed j)->i∈Region.ready .any ops listed ->
   i<L.length∧¬ Dn listed i∧∀ o,L[i]?=some o->∀ j∈o.pre,Dn listed j:=by
  intro listed i hls hcl hi;rw[mem_ready] at hi;obtain⟨h0,o,ho,hall⟩:=hi;have hio:i<ops.size:=by
   rcases Nat.lt_or_ge i ops.size with h|h
   ·exact h
   ·rw[Array.getElem?_eq_none h] at ho;cases ho
  refine⟨by omega,?_,fun ao hao j hj=>?_⟩
  ·unfold Dn;have:i<listed.size:=by omega
   simp only[Array.getD,this,dite_true] at h0 ⊢;rw[h0];simp
  ·obtain⟨_,_,_,g4⟩:=hget i o ao (by simpa using ho) hao
   rw[g4,Nat.zero_add,kP (o:=o) (by simpa using ho)] at hj
   obtain⟨e,he,hb,hx⟩:=hj;have hd:=hall e (by simpa using he) hb
   rcases hx with rfl|⟨hlt,hx⟩
   ·exact hd
   ·have hen:e.on<L.length:=by omega
    obtain⟨_,_,_,g4'⟩:=hget e.on ops[e.on] L[e.on] (by simp <;> omega) (by simp[hen])
    refine hcl e.on hd L[e.on] (by simp[hen]) j ?_
    rw[g4',Nat.zero_add];exact hx
 have hdone:∀ listed:Array Bool,listed.size=L.length->Region.ready .any ops listed=[]->∀ k,k<L.length->Dn listed k:=by
  intro listed hls hr k;induction k using Nat.strongRecOn with
  | ind k ih =>
   intro hk;apply Classical.byContradiction;intro hnd;have:k∈Region.ready .any ops listed:=by
    rw[mem_ready];have hks:k<listed.size:=by omega
    refine⟨?_,ops[k]'(by omega),by simp <;> omega,fun e he hb=>?_⟩
    ·unfold Dn at hnd;simp only[Array.getD,hks,dite_true] at hnd ⊢;simpa using hnd
    ·obtain⟨_,_,_,g4⟩:=hget k (ops[k]'(by omega)) L[k] (by simp <;> omega) (by simp[hk])
     obtain⟨_,_,_,_,z4,_⟩:=hS k L[k] (by simp[hk])
     have hm:e.on∈L[k].pre:=by
      rw[g4,Nat.zero_add,kP (o:=ops[k]'(by omega)) (by simp <;> omega)]
      exact⟨e,by simpa using he,hb,.inl rfl⟩
     have:=z4 _ hm;exact ih e.on this (by omega)
   rw[hr] at this;cases this
 have hend:∀ (listed:Array Bool) (mu1:Mu) (S1:St) (w1:World) (a1:Act),listed.size=L.length->Region.ready .any ops listed=[]->Half0 L.length F G E TB listed mu1 S1 w1 a1 ->
   Ext TB mu S w mu1 S1 w1->a1.defers=a.defers->Q .normal a1 w1:=by
  intro listed mu1 S1 w1 a1 hls hr hh ex hdf;have hd:=hdone listed hls hr;obtain⟨m,hm,m1,m2,hinv⟩:=hh.heap;have hGm:G m=G L.length:=kF hS L.length m hm (Nat.le_refl _) fun k h1 h2 h3=>m2 k h1 h2 h3 (hd k h2)
  refine hQ a1 w1 mu1 S1 ex (hGm ▸ hinv) ⟨by rw[hh.size,jY hS L.length (Nat.le_refl _)],fun t v ht=>?_⟩ hdf
  obtain⟨q,hq,q1,q2,q3⟩:=hh.slot t;apply q3;rw[<- ht];exact jt hS L.length q hq (Nat.le_refl _) fun k h1 h2 h3=>q2 k h1 h2 h3 (hd k h2)
 intro fuel;induction fuel with
 | zero =>
  intro listed mu1 S1 w1 a1 hls hcnt hcl hh ex hdf;have hr:Region.ready .any ops listed=[]:=by
   apply List.eq_nil_iff_forall_not_mem.2;intro i hi;obtain⟨h1,h2,_⟩:=hready listed i hls hcl hi;have hz:listed.toList.count false=0:=by omega
   rw[List.count_eq_zero] at hz;apply h2;have his:i<listed.size:=by omega
   unfold Dn;simp only[Array.getD,his,dite_true];cases hv:listed[i] with
   | true=>exact hv
   | false=>exact absurd (by rw[<- hv];simp) hz
  exact⟨hr,hend listed mu1 S1 w1 a1 hls hr hh ex hdf⟩
 | succ fuel ih =>
  intro listed mu1 S1 w1 a1 hls hcnt hcl hh ex hdf;refine⟨fun hr=>hend listed mu1 S1 w1 a1 hls hr hh ex hdf,fun i hi=>?_⟩
  obtain⟨h1,h2,h3⟩:=hready listed i hls hcl hi;refine Dh hg hc hS hls hcl h1 h2 h3 hh fun a' w' mu' S' ex' hh' hdf'=>?_
  have his:i<listed.size:=by omega
  refine ih _ mu' S' w' a' (by simp[hls]) ?_ (fun k hk o ho j hj=>?_) hh' (ex.trans ex') (hdf'.trans hdf)
  ·have hv:listed[i]=false:=by
    unfold Dn at h2;simp only[Array.getD,his,dite_true] at h2;simpa using h2
   rw[Array.toList_setIfInBounds,List.count_set (by simpa using his)]
   have:(listed.toList[i]'(by simpa using his))=false:=by simpa using hv
   rw[this,if_pos (by decide:(false == false)=true),if_neg (by decide:¬ ((true == false)=true))]
   omega
  ·rw[y7 his] at hk ⊢;rcases hk with rfl|hk
   ·exact .inr (h3 o ho j hj)
   ·exact .inr (hcl k hk o ho j hj)
def Sm (P:Program) (φ:FuncId->List V->Hp->Option (V × Hp)):Prop :=
 ∀ (TB:Nat->Prop) (an:Nat->Nat) (ops:Array Oper) (id:Nat) (L:List AOp),eF P an ops (fE ops.toList []) 0 ops.toList=some L ->
  ∀ (mu:Mu) (S:St) (w:World) (H H':Hp) (fr fr':Fr) (a:Act) (Q:Exit->Act->World->Prop),dx φ L [] fr H=some (fr',H')->Inv mu S TB w H->RelFr mu S w fr a ->
   (∀ a' w' mu' S',Ext TB mu S w mu' S' w'->Inv mu' S' TB w' H'->RelFr mu' S' w' fr' a'->a'.defers=a.defers->Q .normal a' w')->(Code.region id ops true).wp P Q a w
theorem JL (hm:P.follows .mixedOrders=true) (hg:Good P φ):Sm P φ:=by
 intro TB an ops id L hc mu S w H H' fr fr' a Q hrun hi hf hQ;obtain⟨F,G,E,hF,hG,hF',hG',_,hS⟩:=wK L [] fr H hrun;simp only[List.length_nil,Nat.zero_add] at hF hG hF' hG' hS;obtain⟨hl,hget⟩:=fo hc;have hsz:L.length=ops.size:=by simpa using hl
 apply wp_region_any hm;have hd0:∀ k,¬ Dn (Array.replicate ops.size false) k:=by
  intro k h;unfold Dn at h;simp only[Array.getD] at h;split at h <;> simp at h
 have ex0:Ext TB mu S w mu S { w with drawn:=w.drawn+1 }:=⟨fun _ _ h=>h,fun _ _ h=>h,fun _ _ _ h=>h,fun _ _ _=>rfl,fun _ _=>rfl,Nat.le_refl _,rfl,rfl,rfl⟩
 have hi0:Inv mu S TB { w with drawn:=w.drawn+1 } H:=by
  refine⟨fun i b l hb hl=>?_,hi.dom,hi.old,hi.sl,hi.tl,hi.one⟩
  have:=hi.box i b l hb hl;cases b with
  | dead=>trivial
  | mp rows=>exact this
  | cells xs =>
   obtain⟨l,B,cur,e,h1,h2,h3,h4,h5,h6⟩:=this;exact⟨l,B,cur,e,h1,h2,h3,h4.ext ex0,h5,h6⟩
  | arr sz rows fz =>
   obtain⟨l,h1,h2,h3,h4,h5,h6⟩:=this;refine⟨l,h1,h2,h3,h4,h5,?_⟩;cases hbk:l.blk with
   | none=>rw[hbk] at h6;exact h6
   | some B =>
    rw[hbk] at h6;obtain⟨cur,e,ff,k1,k2,k3,k4,k5,k6,k7,k8⟩:=h6;exact⟨cur,e,ff,k1,k2,k3,k4,k5,fun k j r d hr hd=>by obtain⟨v,hv,hrel⟩:=k6 k j r d hr hd;exact⟨v,hv,hrel.ext ex0⟩,k7,k8⟩
 refine FF hg hc hS (mu:=mu) (S:=S) (w:=w) (a:=a) (fun a' w' mu' S' ex i1 f1 hdf=>hQ a' w' mu' S' ex (hG' ▸ i1) (hF' ▸ f1) hdf) ops.size _ mu S _ a (by simp[hsz]) ?_ (fun k hk=>absurd hk (hd0 k)) ?_ ex0 rfl
 ·simp[List.count_replicate]
 ·refine⟨⟨0,Nat.zero_le _,fun k h=>by omega,fun k _ _ _=>hd0 k,by rw[hG];exact hi0⟩,by rw[hF];exact hf.size,fun t=>⟨0,Nat.zero_le _,fun k h=>by omega,fun k _ _ _=>hd0 k,fun v hv=>?_⟩⟩
  rw[hF] at hv;obtain⟨x,hx,hr⟩:=hf.rel t v hv;exact⟨x,hx,hr.ext ex0⟩
end
theorem Ey {P:Program} {φ:FuncId->List V->Hp->Option (V × Hp)} (hm:P.follows .mixedOrders=true) (hg:Good P φ):iv P φ:=by
 intro TB an ops id L hc mu S w H H' fr fr' a Q hrun hi hf hQ;simp only[dk] at hrun;cases hs:jN L [] with
 | true=>rw[hs] at hrun;exact JL hm hg TB an ops id L hc mu S w H H' fr fr' a Q hrun hi hf hQ
 | false=>rw[hs] at hrun;exact J8 hm hg TB an ops id L hc mu S w H H' fr fr' a Q hrun hi hf hQ
def RelQ (S:St) (w:World) (ds:List D) (cs:List Value):Prop:=cs.length=ds.length∧∀ (j:Nat) (d:D),ds[j]?=some d->∃ v,cs[j]?=some v∧RelD S w d v
def jQ (W:TypeId->List D->Prop) (sz:TypeId->Nat):List TypeId->List D->Prop
 | [],ds=>ds=[]
 | f::fs,ds=>∃ p r,ds=p++r∧p.length=sz f∧W f p∧jQ W sz fs r
def zt (P:Program):Nat->TypeId->List D->Prop
 | 0,_,_=>False
 | n+1,t,ds=>match P.underlying t with
  | some .bool=>∃ b,ds=[.b b]
  | some (.int k)=>∃ x,ds=[.i k x]∧(Lit.int k x).wf=true
  | some .string=>∃ l:List UInt8,ds=[.s l]∧l.length<=maxLen
  | some (.slice e)=>∃ rows,ds=[.l rows]∧rows.length<=maxLen∧∀ r∈rows,r.length=P.cellsOf e∧zt P n e r
  | some (.struct fs)=>jQ (zt P n) P.cellsOf (fs.toList.map (·.type)) ds
  | some (.array m e)=>jQ (zt P n) P.cellsOf (List.replicate m e) ds
  | _=>False
def Ao (sz:TypeId->Nat):Nat->List Field->Nat->Bool
 | off,[],total=>off == total
 | off,f::fs,total=>f.offset == off && Ao sz (off+sz f.type) fs total
def ik (P:Program):Nat->TypeId->Bool
 | 0,_=>false
 | n+1,t=>match P.underlying t with
  | some .bool=>true
  | some (.int _)=>true
  | some .string=>true
  | some (.slice e)=>ik P n e && decide (0<P.cellsOf e)
  | some (.struct fs)=>Ao P.cellsOf 0 fs.toList (P.cellsOf t) && fs.toList.all fun f=>ik P n f.type
  | some (.array m e)=>ik P n e && P.cellsOf t == m*P.cellsOf e
  | _=>false
theorem E2 {β:Type} {p:Nat->β->Prop}:∀ {n:Nat},(∀ i,i<n->∃ r,p i r)->∃ l:List β,l.length=n∧∀ (i:Nat) (r:β),l[i]?=some r->p i r
 | 0,_=>⟨[],rfl,fun i r h=>by simp at h⟩
 | n+1,h=>by
  obtain⟨l,hl,hp⟩:=E2 (n:=n) (fun i hi=>h i (by omega))
  obtain⟨r,hr⟩:=h n (by omega)
  refine⟨l++[r],by simp[hl],fun i x hx=>?_⟩
  rcases Nat.lt_or_ge i n with hi|hi
  ·rw[List.getElem?_append_left (by omega)] at hx;exact hp i x hx
  ·rw[List.getElem?_append_right (by omega)] at hx
   have:i=n:=by
    have:=(List.getElem?_eq_some_iff.1 hx).1;simp at this;omega
   subst this;simp[hl] at hx;subst hx;exact hr
theorem RelQ.append {S:St} {w:World} {d1 d2:List D} {c1 c2:List Value} (h1:RelQ S w d1 c1) (h2:RelQ S w d2 c2):RelQ S w (d1++d2) (c1++c2):=by
 refine⟨by simp[h1.1,h2.1],fun j d hj=>?_⟩
 rcases Nat.lt_or_ge j d1.length with h|h
 ·rw[List.getElem?_append_left h] at hj;rw[List.getElem?_append_left (by rw[h1.1];exact h)]
  exact h1.2 j d hj
 ·rw[List.getElem?_append_right h] at hj;rw[List.getElem?_append_right (by rw[h1.1];exact h),h1.1]
  exact h2.2 _ d hj
theorem RelQ.one {S:St} {w:World} {d:D} {v:Value} (h:RelD S w d v):RelQ S w [d] [v]:=by
 refine⟨rfl,fun j x hj=>?_⟩
 cases j with
 | zero=>simp at hj;subst hj;exact⟨v,rfl,h⟩
 | succ j=>simp at hj
section
variable {H:Type} {enc:TypeId × Value->H} {P:Program} {w:World} {spare:Nat->Bool} {held:Bool}
theorem sX {n:Nat} {cs:List Value} {total:Nat} (ht:cs.length=total)
  (ih:∀ t,ik P n t=true->∀ cs' x fuel,DataW.trod enc P w 0 spare held fuel t cs'=some x->∃ ds,RelQ (fun b _=>b<w.heap.size) w ds cs'∧zt P n t ds) (fuel:Nat) :
  ∀ (fs:List Field) (off:Nat),Ao P.cellsOf off fs total=true->(∀ f∈fs,ik P n f.type=true)->(∀ f∈fs,∃ x,DataW.trod enc P w 0 spare held fuel f.type ((cs.drop f.offset).take (P.cellsOf f.type))=some x)->off<=total ->
   ∃ ds,RelQ (fun b _=>b<w.heap.size) w ds (cs.drop off)∧jQ (zt P n) P.cellsOf (fs.map (·.type)) ds
 | [],off,hs,hp,hx,hle=>by
  simp only[Ao,beq_iff_eq] at hs;refine⟨[],⟨by simp;omega,fun j d hj=>by simp at hj⟩,rfl⟩
 | f::fs,off,hs,hp,hx,hle=>by
  simp only[Ao,Bool.and_eq_true,beq_iff_eq] at hs;obtain⟨hf,hs⟩:=hs;have hle2:off+P.cellsOf f.type<=total:=by
   have key:∀ (fs:List Field) (a:Nat),Ao P.cellsOf a fs total=true->a<=total:=by
    intro fs;induction fs with
    | nil=>intro a h;simp only[Ao,beq_iff_eq] at h;omega
    | cons g gs ihg=>intro a h;simp only[Ao,Bool.and_eq_true,beq_iff_eq] at h;have:=ihg _ h.2;omega
   exact key fs _ hs
  obtain⟨x,hx1⟩:=hx f (List.mem_cons_self ..);rw[hf] at hx1;obtain⟨d1,r1,w1⟩:=ih f.type (hp f (List.mem_cons_self ..)) _ _ _ hx1;obtain⟨d2,r2,w2⟩:=sX ht ih fuel fs _ hs (fun g hg=>hp g (List.mem_cons_of_mem _ hg)) (fun g hg=>hx g (List.mem_cons_of_mem _ hg)) hle2
  refine⟨d1++d2,?_,d1,d2,rfl,?_,w1,w2⟩
  ·have:=r1.append r2;rwa [<- List.drop_drop,List.take_append_drop] at this
  ·rw[<- r1.1];simp;omega
theorem AR {n:Nat} {e:TypeId} {cs:List Value}
  (ih:∀ cs' x fuel,DataW.trod enc P w 0 spare held fuel e cs'=some x->∃ ds,RelQ (fun b _=>b<w.heap.size) w ds cs'∧zt P n e ds) (fuel:Nat) :
  ∀ (m k:Nat),cs.length=(k+m)*P.cellsOf e->(∀ i,i<k+m->∃ x,DataW.trod enc P w 0 spare held fuel e ((cs.drop (i*P.cellsOf e)).take (P.cellsOf e))=some x) ->
   ∃ ds,RelQ (fun b _=>b<w.heap.size) w ds (cs.drop (k*P.cellsOf e))∧jQ (zt P n) P.cellsOf (List.replicate m e) ds
 | 0,k,hl,hx=>⟨[],⟨by simp[hl],fun j d hj=>by simp at hj⟩,rfl⟩
 | m+1,k,hl,hx=>by
  obtain⟨x,hx1⟩:=hx k (by omega)
  obtain⟨d1,r1,w1⟩:=ih _ _ _ hx1;obtain⟨d2,r2,w2⟩:=AR ih fuel m (k+1) (by rw[hl];congr 1;omega) (fun i hi=>hx i (by omega))
  refine⟨d1++d2,?_,d1,d2,rfl,?_,w1,w2⟩
  ·have:=r1.append r2;rwa [Nat.add_mul,Nat.one_mul,<- List.drop_drop,List.take_append_drop] at this
  ·rw[<- r1.1];have:(k+1)*P.cellsOf e<=(k+(m+1))*P.cellsOf e:=Nat.mul_le_mul_right _ (by omega)
   rw[Nat.add_mul] at this;simp;omega
theorem nM {a:Addr} {n:Nat} {ci:List Value} (h:w.cells? 0 a n=some ci):ci.length=n∧∀ j,j<n->∃ v,ci[j]?=some v∧w.cell? (a.add j)=some v:=by
 unfold World.cells? at h;rw[if_pos (Nat.zero_le _)] at h;have key:∀ (l:List Nat) (r:List Value),l.mapM (fun i=>w.cell? (a.add i))=some r->r.length=l.length∧∀ (j i:Nat),l[j]?=some i->∃ v,r[j]?=some v∧w.cell? (a.add i)=some v:=by
  intro l;induction l with
  | nil=>intro r hr;simp at hr;subst hr;exact⟨rfl,fun j i hj=>by simp at hj⟩
  | cons b l ih =>
   intro r hr;rw[List.mapM_cons] at hr;cases hb:w.cell? (a.add b) with
   | none=>rw[hb] at hr;simp at hr
   | some v =>
    rw[hb] at hr;cases hl:l.mapM (fun i=>w.cell? (a.add i)) with
    | none=>rw[hl] at hr;simp at hr
    | some vs =>
     rw[hl] at hr;simp at hr;subst hr;obtain⟨e1,e2⟩:=ih vs hl;refine⟨by simp[e1],fun j i hj=>?_⟩
     cases j with
     | zero=>simp at hj;subst hj;exact⟨v,rfl,hb⟩
     | succ j=>simpa using e2 j i (by simpa using hj)
 obtain⟨e1,e2⟩:=key _ _ h;refine⟨by simpa using e1,fun j hj=>e2 j j (by simp[hj])⟩
theorem wM:∀ (n:Nat) (t:TypeId),ik P n t=true->∀ (cs:List Value) (x:DataW H × List MemPlace) (fuel:Nat),DataW.trod enc P w 0 spare held fuel t cs=some x->∃ ds,RelQ (fun b _=>b<w.heap.size) w ds cs∧zt P n t ds
 | 0,t,hp,_,_,_,_=>by simp[ik] at hp
 | n+1,t,hp,cs,x,fuel,hx=>by
  have ih:=fun t hp cs x fuel hx=>wM n t hp cs x fuel hx
  unfold zt;unfold ik at hp;cases hu:P.underlying t with
  | none=>rw[hu] at hp;simp at hp
  | some u =>
   rw[hu] at hp;cases u;case bool =>
    obtain⟨b,rfl,_⟩:=DataW.trod_bool hu hx;exact⟨[.b b],.one (.b b),b,rfl⟩
   case int k =>
    obtain⟨m,rfl,_,hw⟩:=DataW.trod_int hu hx;exact⟨[.i k m],.one (.i k m),m,rfl,hw⟩
   case string =>
    obtain⟨s,rfl,_,hw⟩:=DataW.trod_string hu hx;refine⟨[.s s.data.toList],.one ?_,_,rfl,by rw[Array.length_toList];exact hw⟩
    have e:(⟨s.data.toList.toArray⟩:ByteArray)=s:=by rw[Array.toArray_toList]
    have:=RelD.s (S:=fun b _=>b<w.heap.size) (w:=w) s.data.toList
    rwa [e] at this
   case slice e =>
    simp only[Bool.and_eq_true,decide_eq_true_eq] at hp;rcases DataW.trod_slice hu hx with⟨rfl,_⟩|⟨a,len,cap,elems,rest,m,rfl,rfl,_,_,hlc,hcm,hel,hget,_⟩
    ·exact⟨[.l []],.one (.nil none 0 (fun _=>rfl)),[],rfl,Nat.zero_le _,fun r hr=>by cases hr⟩
    ·rcases Nat.eq_zero_or_pos len with h0|h0
     ·subst h0;exact⟨[.l []],.one (.nil _ _ (fun he=>by cases he)),[],rfl,Nat.zero_le _,fun r hr=>by cases hr⟩
     ·have hrow:∀ i,i<len->∃ r:List D,r.length=P.cellsOf e∧zt P n e r∧∃ ci,w.cells? 0 (a.add (i*P.cellsOf e)) (P.cellsOf e)=some ci∧RelQ (fun b _=>b<w.heap.size) w r ci:=by
       intro i hi;have h1:=hget i hi;rw[List.getElem?_eq_getElem (by omega)] at h1
       simp only[Option.bind_eq_some_iff] at h1;obtain⟨ci,hci,htr⟩:=h1;obtain⟨ds,hr,hw⟩:=ih e hp.1 ci _ _ htr;exact⟨ds,by rw[<- hr.1];exact(nM hci).1,hw,ci,hci,hr⟩
      obtain⟨rows,hrl,hrp⟩:=E2 hrow;have hsp:a.spot=none:=by
       obtain⟨r,_,_,ci,hci,_⟩:=hrow 0 h0;obtain⟨v,_,hv⟩:=(nM hci).2 0 hp.2;rw[Nat.zero_mul] at hv;simp only[Addr.add,if_true,World.cell?] at hv;split at hv
       ·split at hv
        ·cases hv
        ·rename_i h;simpa using h
       ·cases hv
      obtain⟨B,off,sp⟩:=a;simp only at hsp;subst hsp;have hadd:∀ i j:Nat,((⟨B,off,none⟩:Addr).add (i*P.cellsOf e)).add j=⟨B,off+i*P.cellsOf e+j,none⟩:=by
       intro i j;simp only[fP]
      have hcell:∀ i j,i<len->j<P.cellsOf e->∃ v,w.cell? ⟨B,off+i*P.cellsOf e+j,none⟩=some v:=by
       intro i j hi hj;obtain⟨r,_,_,ci,hci,_⟩:=hrow i hi;obtain⟨v,_,hv⟩:=(nM hci).2 j hj;rw[hadd] at hv;exact⟨v,hv⟩
      have hblk:B<w.heap.size:=by
       obtain⟨v,hv⟩:=hcell 0 0 h0 hp.2;simp only[World.cell?] at hv;split at hv
       ·rename_i hb;exact(Array.getElem?_eq_some_iff.1 hb).1
       ·cases hv
      refine⟨[.l rows],.one ?_,rows,rfl,by omega,fun r hr=>?_⟩
      ·rw[<- hrl];refine .l rows (P.cellsOf e) B off cap (fun i j=>(w.cell? ⟨B,off+i*P.cellsOf e+j,none⟩).getD (.bool false)) (by omega) (fun r hr=>?_) (fun i j _ _=>hblk) (fun i j hi hj=>?_) (fun i j r d hr hd=>?_)
       ·obtain⟨i,hi,rfl⟩:=List.getElem_of_mem hr;exact(hrp i _ (List.getElem?_eq_getElem hi)).1
       ·obtain⟨v,hv⟩:=hcell i j (by omega) hj
        rw[hv];rfl
       ·obtain⟨hl,_,ci,hci,hq⟩:=hrp i r hr;have hj:j<P.cellsOf e:=by rw[<- hl];exact(List.getElem?_eq_some_iff.1 hd).1
        obtain⟨v,hv,hv2⟩:=(nM hci).2 j hj;obtain⟨v',hv',hrel⟩:=hq.2 j d hd;rw[hv] at hv';cases hv';rw[hadd] at hv2;simp only[hv2,Option.getD_some];exact hrel
      ·obtain⟨i,hi,rfl⟩:=List.getElem_of_mem hr;obtain⟨h1,h2,_⟩:=hrp i _ (List.getElem?_eq_getElem hi);exact⟨h1,h2⟩
   case struct fs =>
    simp only[Bool.and_eq_true,List.all_eq_true] at hp;obtain⟨xs,m,rfl,_,hl,hxl,hf⟩:=DataW.trod_struct hu hx;have:=sX (n:=n) hl (fun t hp cs x fuel hx=>ih t hp cs x fuel hx) m fs.toList 0 hp.1 (fun f hf=>hp.2 f hf) (fun f hfm=>by
     obtain⟨i,hi,rfl⟩:=List.getElem_of_mem hfm;have h1:=hf i (fs.toList[i]) (by simp)
     have hi':i<fs.size:=by simpa using hi
     rw[List.getElem?_eq_getElem (by omega)] at h1
     exact⟨_,h1⟩) (Nat.zero_le _)
    rwa [List.drop_zero] at this
   case array k e =>
    simp only[Bool.and_eq_true,beq_iff_eq] at hp;obtain⟨xs,m,rfl,_,hl,hxl,hf⟩:=DataW.trod_array hu hx;have:=AR (n:=n) (fun cs x fuel hx=>ih e hp.1 cs x fuel hx) m k 0 (by rw[hl,hp.2];simp) (fun i hi=>by
     have h1:=hf i (by omega)
     rw[List.getElem?_eq_getElem (by omega)] at h1
     exact⟨_,h1⟩)
    rwa [Nat.zero_mul,List.drop_zero] at this
   all_goals simp at hp
end
open Go.ChangeShapes Go.WideShapes Go.ChangeAt Go.RowKit
def AI (P:Program) (n:Nat) (t:TypeId) (v:V):Prop:=match P.underlying t with
 | some (.struct _)=>∃ ds:List D,v=.agg (ds.map .d)∧zt P n t ds
 | some (.array _ _)=>∃ ds:List D,v=.agg (ds.map .d)∧zt P n t ds
 | _=>∃ d,v=.one (.d d)∧zt P n t [d]
def uh (P:Program) (n:Nat):List TypeId->List V->Prop
 | [],[]=>True
 | t::ts,v::vs=>AI P n t v∧uh P n ts vs
 | _,_=>False
section
variable {H:Type} {enc:TypeId × Value->H} {P:Program} {w:World} {spare:Nat->Bool} {held:Bool}
theorem RelQ.agg {mu:Mu} {S:St} {ds:List D} {cs:Array Value} (h:RelQ S w ds cs.toList):RelV mu S w (.agg (ds.map .d)) (.agg cs):=by
 refine⟨cs,rfl,by simp[<- h.1],fun j x hj=>?_⟩
 rw[List.getElem?_map,Option.map_eq_some_iff] at hj;obtain⟨d,hd,rfl⟩:=hj;exact h.2 j d hd
theorem RelQ.single {S:St} {ds:List D} {v:Value} (h:RelQ S w ds [v]):∃ d,ds=[d]∧RelD S w d v:=by
 obtain⟨h1,h2⟩:=h;match ds,h1 with
 | [d],_ =>
  obtain⟨x,hx,hr⟩:=h2 0 d rfl;simp at hx;subst hx;exact⟨d,rfl,hr⟩
theorem JX {n:Nat} {t:TypeId} (hp:ik P n t=true) {base:Nat} {v:Value} {d:DataW H} {ps:List MemPlace} (hval:Value.okWide P w .any base t v) (hd:DataW.Trod enc P w 0 spare held t v d ps) :
  ∃ x:V,AI P n t x∧RelV (fun _=>none) (fun b _=>b<w.heap.size) w x v:=by
 cases n with
 | zero=>simp[ik] at hp
 | succ n =>
 obtain⟨fuel,hf⟩:=hd;obtain⟨ds,hq,hw⟩:=wM (n+1) t hp _ _ _ hf;unfold AI;have hp':=hp;unfold ik at hp';cases hu:P.underlying t with
 | none=>rw[hu] at hp';simp at hp'
 | some u =>
  rw[hu] at hp';have flat1:v.cells = #[v]->∃ x:V,(∃ d,x=.one (.d d)∧zt P (n+1) t [d])∧RelV (fun _=>none) (fun b _=>b<w.heap.size) w x v:=by
   intro hc;rw[hc] at hq;obtain⟨d,rfl,hr⟩:=hq.single;exact⟨_,⟨d,rfl,hw⟩,hr⟩
  cases u;case bool=>obtain⟨b,rfl⟩:=okWide_bool hu hval;exact flat1 rfl
  case int k=>obtain⟨b,rfl⟩:=okWide_int hu hval;exact flat1 rfl
  case string=>obtain⟨b,rfl⟩:=okWide_string hu hval;exact flat1 rfl
  case slice e=>obtain⟨a,l,c,rfl⟩:=okWide_slice hu hval;exact flat1 rfl
  case struct fs =>
   simp only[Value.okWide,hu] at hval;obtain⟨cs,rfl,_,_⟩:=hval;exact⟨_,⟨ds,rfl,hw⟩,RelQ.agg hq⟩
  case array k e =>
   simp only[Value.okWide,hu] at hval;obtain⟨cs,rfl,_,_⟩:=hval;exact⟨_,⟨ds,rfl,hw⟩,RelQ.agg hq⟩
  all_goals simp at hp'
theorem xn {n:Nat} {base:Nat}:∀ (ts:List TypeId) (vs:List Value) (ds:List (DataW H)) (ps:List MemPlace),ts.all (ik P n)=true ->
  (∀ (j:Nat) t v,ts[j]?=some t->vs[j]?=some v->Value.okWide P w .any base t v)->DataW.TrodAll enc P w 0 spare held ts vs ds ps ->
  ∃ xs:List V,uh P n ts xs∧ArgsRel (fun _=>none) (fun b _=>b<w.heap.size) w xs vs
 | [],[],ds,ps,_,_,h=>⟨[],trivial,rfl,fun j v hj=>by simp at hj⟩
 | t::ts,v::vs,[],ps,_,_,h=>by cases h
 | t::ts,v::vs,d::ds,ps,hp,hv,h=>by
  obtain⟨p,q,h1,h2,_⟩:=h;simp only[List.all_cons,Bool.and_eq_true] at hp;obtain⟨x,wx,rx⟩:=JX hp.1 (hv 0 t v rfl rfl) h1;obtain⟨xs,wxs,rl,rxs⟩:=xn ts vs ds q hp.2 (fun j t' v' ht hv'=>hv (j+1) t' v' (by simpa using ht) (by simpa using hv')) h2
  refine⟨x::xs,⟨wx,wxs⟩,by simp[rl],fun j y hj=>?_⟩
  cases j with
  | zero=>simp at hj;subst hj;exact⟨v,rfl,rx⟩
  | succ j=>simpa using rxs j y (by simpa using hj)
 | [],v::vs,ds,ps,_,_,h=>by cases ds <;> cases h
 | t::ts,[],ds,ps,_,_,h=>by cases ds <;> cases h
theorem uG {W W':World} (hl:laidOutB P=true) (hb:Below W.heap.size W W'):∀ (ts:List TypeId) (vs:List Value) (ds:List (DataW H)) (ps:List MemPlace),
  (∀ t∈ts,P.readableRec t=true∧t<P.types.size)->(∀ p∈ps,p.block<W.heap.size)->DataW.TrodAll enc P W 0 (fun _=>true) true ts vs ds ps ->
  DataW.TrodAll enc P W' 0 (fun b=>decide (b<W.heap.size)) true ts vs ds ps
 | [],[],[],ps,_,_,h=>h
 | [],[],_::_,ps,_,_,h=>by cases h
 | [],_::_,ds,ps,_,_,h=>by cases ds <;> cases h
 | t::ts,[],ds,ps,_,_,h=>by cases ds <;> cases h
 | t::ts,v::vs,[],ps,_,_,h=>by cases h
 | t::ts,v::vs,d::ds,ps,hr,hlt,h=>by
  obtain⟨p,q,h1,h2,rfl⟩:=h;refine⟨p,q,?_,uG hl hb ts vs ds q (fun u hu=>hr u (List.mem_cons_of_mem _ hu)) (fun x hx=>hlt x (List.mem_append_right _ hx)) h2,rfl⟩
  obtain⟨r1,r2⟩:=hr t (List.mem_cons_self ..);exact Below.trod hl r1 r2 h1 hb (fun x hx=>hlt x (List.mem_append_left _ hx))
theorem wm {W W':World} (hb:Below W.heap.size W W') (may:MemPlace->Prop):W.keptBut W' may:=by
 refine⟨hb.os,hb.output,fun i hi=>?_⟩
 rw[hb.block i hi];cases W.heap[i]? with
 | none=>trivial
 | some o=>cases o <;> first|exact⟨rfl,rfl,rfl,fun _ _=>rfl⟩|exact .inr ⟨rfl,rfl⟩|rfl
theorem I8 {φ:cI} (hg:Good P φ) (hl:laidOutB P=true) {f:FuncId} {fn:Func} {s:ChangeSpec} {n tb:Nat} {W:World} {base:Nat} {args:Array Value} {ds gs:List (DataW H)} {before:List MemPlace}
  (hpl:fn.params.toList.all (ik P n)=true) (hrd:fn.params.toList.all (fun t=>P.readableRec t && decide (t<P.types.size))=true)
  (hres:fn.resultTypes = #[tb]) (hb:P.underlying tb=some .bool) (hsv:s.vars=[])
  (hfn:∀ ds:List (DataW H),ds.length=fn.params.size->s.fn H ds={ results:=[.lit (.bool true)],args:=ds })
  (hlaw:∀ xs,uh P n fn.params.toList xs->φ f xs []=some (.one (.d (.b true)),[]))
  (hval:∀ (j:Nat) t v,fn.params[j]?=some t->args[j]?=some v->Value.okWide P W .any base t v)
  (hW:DataW.Whole enc P fn.params.toList s.vars false W args.toList ds gs before) :
  Calls P f args W fun e W'=>∃ v,e=.returned v∧s.post enc P fn false true false false W args v W':=by
 have hlt:=hW.lt;have hW':=hW;obtain⟨p,q,hA,hV,rfl,hz,hap⟩:=hW;rw[hsv] at hV;obtain⟨xs,wx,rx⟩:=xn (base:=base) _ _ _ _ hpl (fun j t v ht hv=>hval j t v (by simpa using ht) (by simpa using hv)) hA
 have hgs:gs=[]∧q=[]:=by
  cases gs with
  | nil=>exact⟨rfl,hV⟩
  | cons a b=>cases hV
 obtain⟨rfl,rfl⟩:=hgs;have hi:Inv (fun _=>none) (fun b _=>b<W.heap.size) (fun b=>b<W.heap.size) W [] :=
  { box:=fun i b l h=>by simp at h,dom:=fun i l h=>(by cases h),old:=fun i l B h=>(by cases h),sl:=fun b o h=>h,tl:=fun b h=>h,one:=fun i j bi bj li lj B _ h=>by simp at h }
 have hc:=hg.ok _ _ _ _ _ (hlaw xs wx) _ _ _ W args.toList hi rx;rw[Array.toArray_toList] at hc;refine hc.mono fun e W' he=>?_
 obtain⟨v,mu',S',rfl,ex,_,hr⟩:=he;have hv:v=.bool true:=by cases hr;rfl
 subst hv;have hbl:Below W.heap.size W W':=⟨ex.os,ex.tape,ex.output,ex.size,fun k hk=>ex.blk k hk⟩
 have hdl:ds.length=fn.params.size:=by
  have key:∀ (ts:List TypeId) (vs:List Value) (ds:List (DataW H)) (ps:List MemPlace),DataW.TrodAll enc P W 0 (fun _=>true) true ts vs ds ps->ds.length=ts.length:=by
   intro ts;induction ts with
   | nil=>intro vs ds ps h;cases vs <;> cases ds <;> first|rfl|cases h
   | cons t ts ih =>
    intro vs ds ps h;cases vs with
    | nil=>cases ds <;> cases h
    | cons v vs =>
     cases ds with
     | nil=>cases h
     | cons d ds=>obtain⟨_,_,_,h2,_⟩:=h;simp[ih vs ds _ h2]
  simpa using key _ _ _ _ hA
 have hf:=hfn (ds++[]) (by simpa using hdl)
 refine⟨_,rfl,ds,[],p++[],[],p,[],hW',?_,?_,?_,wm hbl _,fun h=>by cases h⟩
 ·rw[hf,hres];exact trodAll_mk1 (shut_bool hb true)
 ·rw[hf];simp only[List.append_nil];have:=uG hl hbl _ _ _ _ (fun t ht=>by have:=(List.all_eq_true.1 hrd) t ht;simpa using this) (fun x hx=>hlt x (by simpa using hx)) hA
  exact this
 ·rw[hf,hsv];rfl
end
theorem Ca (fr:Fr) (x:X):xk fr x<=QK x:=by
 cases x with
 | t n=>simp only[xk,QK];cases (vj fr (.t n)).isEmpty <;> decide
 | c v=>exact Nat.le_refl _
theorem Mz (fr:Fr) (a:A):a.kind fr<=a.kindS:=by
 cases a <;> simp only[A.kind,A.kindS] <;> (try omega)
 case ld ag x=>exact Ca _ _
 case b2s x=>exact Ca _ _
 case app st s b x y =>
  split
  ·have:=Ca fr y;cases y <;> simp only[QK] at this <;> (try omega);rename_i v;revert this;cases v.refs.isEmpty <;> simp only[cond_true,cond_false] <;> omega
  ·omega
def Log0.le (x y:Log0):Prop:=x.kind<=y.kind∧x.dst=y.dst∧x.rds=y.rds
theorem wk {x y x' y':Log0} (hx:x.le x') (hy:y.le y') (h:x'.freeS y'=true):x.free y=true:=by
 obtain⟨hx1,hx2,hx3⟩:=hx;obtain⟨hy1,hy2,hy3⟩:=hy;simp only[Log0.freeS,Log0.free,Bool.and_eq_true,Bool.or_eq_true,beq_iff_eq,decide_eq_true_eq] at h ⊢;rw[hx2,hx3,hy2,hy3];refine⟨h.1,?_⟩;rcases h.2 with(h2|h2)|h2 <;> omega
theorem pR {pre:List Nat} {e e':Log0} (he:e.le e'):∀ {l l':List Log0} {i:Nat},l.length=l'.length->(∀ (j:Nat) (x x':Log0),l[j]?=some x->l'[j]?=some x'->x.le x')->qx pre e' i l'=true->kh pre e i l=true
 | [],[],i,_,_,_=>rfl
 | [],y::r,i,h,_,_=>by cases h
 | x::r,[],i,h,_,_=>by cases h
 | x::r,x'::r',i,hl,hr,h=>by
  simp only[qx,kh,Bool.and_eq_true,Bool.or_eq_true] at h ⊢;refine⟨?_,pR he (by simpa using hl) (fun j y y' h1 h2=>hr (j+1) y y' (by simpa using h1) (by simpa using h2)) h.2⟩
  rcases h.1 with h1|h1
  ·exact .inl h1
  ·exact .inr (wk (hr 0 x x' rfl rfl) he h1)
def AOp.bare (o:AOp):AOp:={ o with pre:=[] }
def AC.bare:AC->AC
 | .reg ops dr=>bif !dr || jN ops [] then .reg (ops.map AOp.bare) false else .reg ops true
 | .seq a b=>.seq a.bare b.bare
 | .cond c a b=>.cond c a.bare b.bare
 | .block id c=>.block id c.bare
 | .loop lv c=>.loop lv c.bare
 | .skip=>.skip
 | .exit i=>.exit i
 | .ret=>.ret
 | .yld a d y xs b=>.yld a d y xs b
 | .rng g ps a b=>.rng g ps a b
section
variable {φ:cI}
theorem iL:∀ (ops:List AOp) (fr:Fr) (H:Hp),bP φ (ops.map AOp.bare) fr H=bP φ ops fr H
 | [],_,_=>rfl
 | o::r,fr,H=>by
  simp only[List.map_cons,bP];have:o.bare.step φ fr H=o.step φ fr H:=rfl;rw[this];cases o.step φ fr H with
  | none=>rfl
  | some q=>exact iL r _ _
theorem mr:∀ (ops:List AOp) (lg lgS:List Log0) (fr0:Fr) (H:Hp),lg.length=lgS.length->(∀ (j:Nat) (x x':Log0),lg[j]?=some x->lgS[j]?=some x'->x.le x')->jN ops lgS=true ->
  dx φ ops lg fr0 H=bP φ ops fr0 H
 | [],_,_,_,_,_,_,_=>rfl
 | o::r,lg,lgS,fr0,H,hl,hr,h=>by
  simp only[jN,Bool.and_eq_true,Bool.not_eq_true'] at h;obtain⟨⟨hfz,hpre,hfree⟩,hrest⟩:=h;simp only[dx,bP,AOp.step];cases hw:wantedV fr0 o.g with
  | none=>rfl
  | some w =>
   simp only;have hle:Log0.le ⟨bif w then o.a.kind fr0 else 0,o.dst,o.slots⟩ o.logS:=by
    refine⟨?_,rfl,rfl⟩;cases w with
    | true=>exact Mz fr0 o.a
    | false=>exact Nat.zero_le _
   have hchk:(!o.fz && (o.pre.all (fun j=>decide (j<lg.length)) && kh o.pre ⟨bif w then o.a.kind fr0 else 0,o.dst,o.slots⟩ 0 lg))=true:=by
    rw[hfz,hl,hpre,pR hle hl hr hfree];rfl
   rw[if_pos hchk];have ih:∀ fr H,dx φ r (lg++[⟨bif w then o.a.kind fr0 else 0,o.dst,o.slots⟩]) fr H=bP φ r fr H:=fun fr' H' =>
    mr r _ (lgS++[o.logS]) fr' H' (by simp[hl]) (fun j x x' h1 h2=>by
     rcases Nat.lt_or_ge j lg.length with hj|hj
     ·rw[List.getElem?_append_left hj] at h1;rw[List.getElem?_append_left (by omega)] at h2
      exact hr j x x' h1 h2
     ·rw[List.getElem?_append_right hj] at h1;rw[List.getElem?_append_right (by omega)] at h2
      have h0:j-lg.length=0:=by
       have:=(List.getElem?_eq_some_iff.1 h1).1;simpa using this
      have h0':j-lgS.length=0:=by omega
      rw[h0] at h1;rw[h0'] at h2;simp at h1 h2;subst h1;subst h2;exact hle) hrest
   cases w with
   | true =>
    simp only[cond_true,hfz,cond_false] at ih ⊢;cases o.a.run φ fr0 H with
    | none=>rfl
    | some q=>exact ih _ _
   | false =>
    simp only[cond_false] at ih ⊢;exact ih _ _
theorem fN {α:Type} (m:Nat):∀ (c:AC) (fr:Fr) (H:Hp) (K:Ex->Fr->Hp->Option α),bJ φ m c.bare fr H K=bJ φ m c fr H K
 | .skip,_,_,_=>rfl
 | .reg ops dr,fr,H,K=>by
  simp only[AC.bare];cases dr with
  | false=>simp only[Bool.not_false,Bool.true_or,cond_true,bJ,cond_false,iL]
  | true =>
   simp only[Bool.not_true,Bool.false_or];cases h:jN ops [] with
   | false=>rfl
   | true=>simp only[cond_true,bJ,cond_false,iL,dk,h,mr ops [] [] fr H rfl (fun j x x' hj=>by simp at hj) h]
 | .seq a b,fr,H,K=>by
  simp only[AC.bare,bJ];rw[fN m a];congr 1
  funext e fr' H'
  cases e with
  | normal=>exact fN m b _ _ _
  | exit i=>rfl
  | ret=>rfl
 | .cond c a b,fr,H,K=>by
  simp only[AC.bare,bJ];simp only[fN m a,fN m b]
 | .block id c,fr,H,K=>by
  simp only[AC.bare,bJ];rw[fN m c]
 | .loop lv c,fr,H,K=>by
  simp only[AC.bare,bJ];have:(bJ (α:=α) φ m c.bare)=bJ φ m c:=by
   funext fr' H' K'
   exact fN m c _ _ _
  rw[this]
 | .exit id,_,_,_=>rfl
 | .ret,_,_,_=>rfl
 | .yld _ _ _ _ _,_,_,_=>rfl
 | .rng _ _ _ _,_,_,_=>rfl
end
def compS (P:Program) (f:FuncId) (an:Ann):Option AF:=bif an.out then none else match oI P f an with
 | some af=>some { af with body:=af.body.bare }
 | none=>none
def dG (P:Program) (an:FuncId->Ann) (f:FuncId):Option AF:=bif (an f).out then none else oI P f (an f)
theorem sB (P:Program) (an:FuncId->Ann):FU P (dG P an):=fun f af h=>by
 unfold dG at h;cases ho:(an f).out with
 | true=>rw[ho] at h;cases h
 | false=>rw[ho] at h;exact⟨an f,h⟩
theorem oV {P:Program} {an:FuncId->Ann} {f:FuncId} (h:(an f).out=true):dG P an f=none:=by simp only[dG,h,cond_true]
def tv:List (Nat × Ann)->FuncId->Ann
 | [],_=>{}
 | (k,a)::r,f=>if f=k then a else tv r f
theorem fO:∀ c:AC,c.bare.hasR=c.hasR
 | .reg ops dr=>by
  simp only[AC.bare];cases (!dr || jN ops []) <;> rfl
 | .seq a b=>by simp only[AC.bare,AC.hasR,fO a,fO b]
 | .cond c a b=>by simp only[AC.bare,AC.hasR,fO a,fO b]
 | .block id c=>by simp only[AC.bare,AC.hasR,fO c]
 | .loop lv c=>rfl
 | .skip=>rfl
 | .exit i=>rfl
 | .ret=>rfl
 | .yld _ _ _ _ _=>rfl
 | .rng _ _ _ _=>rfl
theorem ae {P:Program} {an:FuncId->Ann} {pr:cI} {f:FuncId} {args:List V} {H:Hp} {z:V × Hp} {af:AF} (hf:compS P f (an f)=some af) (hl:(Nat.ble args.length af.ntmps && !af.body.hasR)=true)
  (h:kU (eB (dG P an) pr) H.length (Cn af.res af.keep H.length) af.body (aa af.ntmps (uH args)) H []=some z):eB (dG P an) pr f args H=some z:=by
 unfold compS at hf;cases ho:(an f).out with
 | true=>rw[ho] at hf;cases hf
 | false =>
  rw[ho] at hf;simp only[cond_false] at hf;split at hf
  ·rename_i af0 h0;cases hf;rw[Bool.and_eq_true,Bool.not_eq_true'] at hl;refine enter (af:=af0) (by simp only[dG,ho,cond_false];exact h0) (by have:=hl.2;simp only[fO] at this;exact this) hl.1 ?_
   simp only[kU] at h ⊢;rwa [fN H.length af0.body] at h
  ·cases hf
def dE:List Nat->List V->Fn
 | i::is,v::vs=>fun n=>if n=i then v else dE is vs n
 | _,_=>fun _=>.any
def kJ:List Nat->List V->Fn->Prop
 | i::is,v::vs,f=>f i=v∧kJ is vs f
 | [],[],_=>True
 | _,_,_=>False
theorem Hy (i:Nat) (is:List Nat) (v:V) (vs:List V):dE (i::is) (v::vs) i=v:=by simp[dE]
theorem Lq (i:Nat) (is:List Nat) (v:V) (vs:List V) {n:Nat} (h:n≠i):dE (i::is) (v::vs) n=dE is vs n:=by simp[dE,h]
theorem GC (f:Fn):kJ [] [] f=True:=Eq.trans rfl rfl
theorem Do (i:Nat) (is:List Nat) (v:V) (vs:List V) (f:Fn):kJ (i::is) (v::vs) f=(f i=v∧kJ is vs f):=Eq.trans rfl rfl
theorem agree_pure {lv:List Nat} {vals:List V} {f:Fn} (h:kJ lv vals f) (hp:vals.all V.pure=true):lv.all (fun i=>(f i).pure)=true:=by
 induction lv generalizing vals with
 | nil=>rfl
 | cons i is ih =>
  cases vals with
  | nil=>exact h.elim
  | cons v vs =>
   obtain⟨h1,h2⟩:=h;simp only[List.all_cons,Bool.and_eq_true] at hp ⊢;exact⟨by rw[h1];exact hp.1,ih h2 hp.2⟩
theorem j5 {lv:List Nat} {vals:List V} {f:Fn} (h:kJ lv vals f):ny lv f=dE lv vals:=by
 induction lv generalizing vals with
 | nil =>
  cases vals with
  | nil=>funext n;simp[ny,dE]
  | cons v vs=>exact h.elim
 | cons i is ih =>
  cases vals with
  | nil=>exact h.elim
  | cons v vs =>
   obtain⟨h1,h2⟩:=h;have e:=ih h2;funext n
   have en:=congrFun e n;simp only[ny,dE,List.contains_cons,Bool.or_eq_true,beq_iff_eq] at en ⊢;by_cases c:n=i
   ·subst c;simp[h1]
   ·simp only[c,false_or,if_false];exact en
theorem io {α σ:Type} {φ:cI} {N:Nat} {lv:List Nat} {c:AC} {K:Ex->Fr->Hp->Option α} {st:List KI} (μ:σ->Nat) (P:σ->Prop) (vals:σ->List V) (Z:σ->α)
  (hp:∀ s,(vals s).all V.pure=true)
  (hs:∀ s,P s->∀ R:Fr->Hp->Option α,(∀ s',μ s'<μ s->P s'->∀ f',kJ lv (vals s') f'->R (aa N f') []=some (Z s')) ->
   kU φ 0 (KL R (KS φ 0 K st)) c (aa N (dE lv (vals s))) [] []=some (Z s)) :
  ∀ s,P s->∀ f,kJ lv (vals s) f->kU φ 0 K (.loop lv c) (aa N f) [] st=some (Z s):=by
 intro s hP f hf;refine rk (m:=0) (N:=N) μ (fun s f H=>H=[]∧P s∧kJ lv (vals s) f) Z ?_ s f [] ⟨rfl,hP,hf⟩
 rintro s f H ⟨rfl,hP,hf⟩ R hR;rw[D2 (agree_pure hf (hp s)),j5 hf];exact hs s hP R (fun s' hlt hP' f' hf'=>hR s' f' [] hlt ⟨rfl,hP',hf'⟩)
inductive Ty where
 | b|i (k:IntKind)|s|l (row:List Ty)
 deriving Inhabited
mutual
def KT:Ty->D->Prop
 | .b,d=>∃ x,d=.b x
 | .i k,d=>∃ n,d=.i k n∧k.min<=n∧n<=k.max
 | .s,d=>∃ l:List UInt8,d=.s l∧l.length<=9223372036854775807
 | .l row,d=>∃ rows:List (List D),d=.l rows∧rows.length<=9223372036854775807∧∀ r∈rows,du row r
def du:List Ty->List D->Prop
 | [],ds=>ds=[]
 | t::ts,ds=>∃ d r,ds=d::r∧KT t d∧du ts r
end
def Cz:List (Option (List Ty))->Option (List Ty)
 | []=>some []
 | some x::r=>match Cz r with|some y=>some (x++y)|none=>none
 | none::_=>none
def tA (P:Program):Nat->TypeId->Option (List Ty)
 | 0,_=>none
 | n+1,t=>match P.underlying t with
  | some .bool=>some [.b]
  | some (.int k)=>some [.i k]
  | some .string=>some [.s]
  | some (.slice e)=>match tA P n e with|some row=>some [.l row]|none=>none
  | some (.struct fs)=>Cz (fs.toList.map fun f=>tA P n f.type)
  | some (.array m e)=>Cz ((List.replicate m e).map (tA P n))
  | _=>none
theorem yw {a b:List Ty} {x y:List D} (h:du a x) (k:du b y):du (a++b) (x++y):=by
 induction a generalizing x with
 | nil=>simp only[du] at h;subst h;exact k
 | cons t ts ih =>
  simp only[du] at h;obtain⟨d,r,rfl,h1,h2⟩:=h;simp only[List.cons_append,du];exact⟨d,_,rfl,h1,ih h2⟩
theorem C7 {W:TypeId->List D->Prop} {sz:TypeId->Nat} {g:TypeId->Option (List Ty)} (hW:∀ t ts ds,g t=some ts->W t ds->du ts ds) :
  ∀ (l:List TypeId) (ts:List Ty) (ds:List D),Cz (l.map g)=some ts->jQ W sz l ds->du ts ds
 | [],ts,ds,h,hd=>by cases h;simpa[jQ,du] using hd
 | t::l,ts,ds,h,hd=>by
  simp only[List.map_cons] at h;cases hg:g t with
  | none=>rw[hg] at h;cases h
  | some x =>
   rw[hg] at h;simp only[Cz] at h;cases hc:Cz (l.map g) with
   | none=>rw[hc] at h;cases h
   | some y =>
    rw[hc] at h;cases h;obtain⟨p,r,rfl,_,h1,h2⟩:=hd;exact yw (hW t x p hg h1) (C7 hW l y r hc h2)
theorem N7 {P:Program}:∀ (n:Nat) (t:TypeId) (ts:List Ty) (ds:List D),tA P n t=some ts->zt P n t ds->du ts ds:=by
 intro n;induction n with
 | zero=>intro t ts ds h;cases h
 | succ n ih =>
  intro t ts ds h hd;unfold tA at h;unfold zt at hd;cases hu:P.underlying t with
  | none=>rw[hu] at h;cases h
  | some u =>
   rw[hu] at h hd;cases u;case bool=>cases h;obtain⟨b,rfl⟩:=hd;simp[du,KT]
   case int k =>
    cases h;obtain⟨x,rfl,hx⟩:=hd;simp only[Lit.wf,Bool.and_eq_true,decide_eq_true_eq] at hx;simp[du,KT,hx]
   case string=>cases h;obtain⟨l,rfl,hl⟩:=hd;simp only[du,KT];exact⟨_,_,rfl,⟨l,rfl,hl⟩,rfl⟩
   case slice e =>
    simp only at h hd;cases hr:tA P n e with
    | none=>rw[hr] at h;cases h
    | some row =>
     rw[hr] at h;cases h;obtain⟨rows,rfl,hl,hall⟩:=hd;simp only[du,KT];exact⟨_,_,rfl,⟨rows,rfl,hl,fun r hr'=>ih e row r hr (hall r hr').2⟩,rfl⟩
   case struct fs =>
    simp only at h hd;have:Cz ((fs.toList.map (·.type)).map (tA P n))=some ts:=by rw[List.map_map];exact h
    exact C7 (fun t ts ds=>ih t ts ds) _ _ _ this hd
   case array m e =>
    simp only at h hd;exact C7 (fun t ts ds=>ih t ts ds) _ _ _ h hd
   all_goals cases h
def Tk (P:Program) (n:Nat) (t:TypeId):Option (Bool × List Ty):=match P.underlying t with
 | some (.struct _)=>(tA P n t).map (true,·)
 | some (.array _ _)=>(tA P n t).map (true,·)
 | _=>(tA P n t).map (false,·)
def Sf:Bool × List Ty->V->Prop
 | (true,ts),v=>∃ ds:List D,v=.agg (ds.map .d)∧du ts ds
 | (false,ts),v=>∃ d,v=.one (.d d)∧du ts [d]
def PZ:List (Bool × List Ty)->List V->Prop
 | [],vs=>vs=[]
 | t::ts,vs=>∃ v r,vs=v::r∧Sf t v∧PZ ts r
def MV (P:Program) (n:Nat):List TypeId->Option (List (Bool × List Ty))
 | []=>some []
 | t::ts=>match Tk P n t,MV P n ts with|some x,some xs=>some (x::xs)|_,_=>none
theorem OF {P:Program} {n:Nat} {t:TypeId} {a:Bool × List Ty} {v:V} (h:Tk P n t=some a) (hv:AI P n t v):Sf a v:=by
 unfold Tk at h;unfold AI at hv;have one:(tA P n t).map (false,·)=some a->(∃ d,v=.one (.d d)∧zt P n t [d])->Sf a v:=by
  intro h ⟨d,hd,hw⟩;obtain⟨ts,hts,rfl⟩:=Option.map_eq_some_iff.1 h;exact⟨d,hd,N7 n t ts _ hts hw⟩
 have agg:(tA P n t).map (true,·)=some a->(∃ ds:List D,v=.agg (ds.map .d)∧zt P n t ds)->Sf a v:=by
  intro h ⟨d,hd,hw⟩;obtain⟨ts,hts,rfl⟩:=Option.map_eq_some_iff.1 h;exact⟨d,hd,N7 n t ts _ hts hw⟩
 cases hu:P.underlying t with
 | none=>rw[hu] at h hv;exact one h hv
 | some u =>
  rw[hu] at h hv;cases u;case struct fs=>exact agg h hv
  case array m e=>exact agg h hv
  all_goals exact one h hv
theorem Ep {P:Program} {n:Nat}:∀ {ts:List TypeId} {al:List (Bool × List Ty)} {vs:List V},MV P n ts=some al->uh P n ts vs->PZ al vs
 | [],al,[],h,hv=>by cases h;rfl
 | [],al,_::_,h,hv=>hv.elim
 | t::ts,al,[],h,hv=>hv.elim
 | t::ts,al,v::vs,h,hv=>by
  simp only[MV] at h;cases h1:Tk P n t with
  | none=>rw[h1] at h;cases h
  | some x =>
   cases h2:MV P n ts with
   | none=>rw[h1,h2] at h;cases h
   | some xs =>
    rw[h1,h2] at h;cases h;exact⟨v,vs,rfl,OF h1 hv.1,Ep h2 hv.2⟩
theorem qq {α:Type} {enc:α->List D} {ok:α->Prop} {row:List Ty} (h:∀ r,du row r->∃ x,r=enc x∧ok x):∀ rows:List (List D),(∀ r∈rows,du row r)->∃ q:List α,rows=q.map enc∧∀ x∈q,ok x
 | [],_=>⟨[],rfl,fun x hx=>by cases hx⟩
 | r::rows,hr=>by
  obtain⟨x,rfl,hx⟩:=h r (hr r (List.mem_cons_self ..));obtain⟨q,rfl,hq⟩:=qq h rows (fun r hr'=>hr r (List.mem_cons_of_mem _ hr'))
  exact⟨x::q,rfl,fun y hy=>by rcases List.mem_cons.1 hy with rfl|hy;exact hx;exact hq y hy⟩
theorem SH {a b:Int} (h:a<b):decide (a<b)=true:=by simp[h]
theorem RI {a b:Int} (h:b<=a):decide (a<b)=false:=by simp;omega
theorem Rt {a b:Int} (h:a<=b):decide (a<=b)=true:=by simp[h]
theorem SD {a b:Int} (h:b<a):decide (a<=b)=false:=by simp;omega
theorem Sc {a b:Int} (h:a=b):(a == b)=true:=by simp[h]
theorem Rg {a b:Int} (h:a≠b):(a == b)=false:=by simp[h]
theorem R1 {a b:Int} (h:a≠b):(a != b)=true:=by simp[h]
theorem RT {a b:Int} (h:a=b):(a != b)=false:=by simp[h]
theorem ir {n:Int} (h : -9223372036854775808<=n∧n<9223372036854775808):IntKind.i64.wrap n=n:=FG h.1 h.2
theorem NB {α β:Type} (g:α->β) (q:List α) (n:Int) (h:n.toNat<q.length):(q.map g)[n.toNat]?=some (g (q[n.toNat]'h)):=by simp[h]
theorem IT {α β:Type} (g:α->β) (q:List α) (k:Nat) (h:k<q.length):(q.map g)[k]?=some (g (q[k]'h)):=by simp[h]
set_option linter.defProp false
def UI:=And.intro @IN (And.intro @Hq (And.intro @Kh (And.intro @FP (And.intro @Hf (And.intro @DS (And.intro @Ku (And.intro @Gc (And.intro @Hy (And.intro @Lq (And.intro @GC (And.intro @Do (And.intro @Bd (And.intro @go_skip (And.intro @go_seq (And.intro @go_reg (And.intro @go_cond (And.intro @go_block (And.intro @go_exit (And.intro @go_ret
 (And.intro @Lo (And.intro @Q6 (And.intro @PC (And.intro @Py (And.intro @Q9 (And.intro @Pw (And.intro @OR (And.intro @LI (And.intro @GF (And.intro @Mb (And.intro @PS (And.intro @JS (And.intro @At
 (And.intro @PJ (And.intro @K0 (And.intro @Tt (And.intro @Ub (And.intro @Kc (And.intro @IR (And.intro @HX (And.intro @H8 (And.intro @FC (And.intro @JF (And.intro @Ks (And.intro @AZ (And.intro @qk (And.intro @Ul (And.intro @As (And.intro @HW (And.intro @JU (And.intro @Ph (And.intro @Bu
 (And.intro @cd (And.intro @trim_pure (And.intro @V.pure_one (And.intro @V.pure_agg (And.intro @V.pure_tup (And.intro @V.pure_any (And.intro @L.pure_d (And.intro @L.pure_ip (And.intro @L.pure_cl (And.intro @L.pure_ns (And.intro @L.pure_np (And.intro @L.pure_nf (And.intro @L.pure_f @Ls.pure_map))))))))))))))))))))))))))))))))))))))))))))))))))))))))))))))))
def P1:=And.intro @List.length_nil.{0} (And.intro @cond_false.{1} (And.intro @cond_true.{1} (And.intro @List.contains_cons.{0} (And.intro @List.contains_nil.{0} (And.intro Bool.or_true (And.intro Bool.true_or (And.intro Bool.or_false (And.intro not_false_eq_true
 (And.intro @List.getD_cons_zero.{0} (And.intro @List.getD_cons_succ.{0} (And.intro @List.map_cons.{0,0} (And.intro @List.map_nil.{0,0} (And.intro @List.nil_append.{0} (And.intro @List.append_nil.{0} (And.intro @List.length_cons.{0} (And.intro @List.length_map.{0,0}
 (And.intro @List.getElem?_cons_zero.{0} (And.intro @List.getElem?_cons_succ.{0} (And.intro not_true_eq_false (And.intro @List.all_cons.{0} (And.intro @List.all_nil.{0} (And.intro Bool.and_true (And.intro Bool.and_self (And.intro @beq_self_eq_true.{0}
 (And.intro Bool.true_eq_false (And.intro Bool.false_eq_true (And.intro @beq_true (And.intro @beq_false (And.intro Bool.not_true (And.intro Bool.not_false (And.intro decide_true (And.intro decide_false (And.intro and_self (And.intro true_and (And.intro and_true
 (And.intro @Int.natCast_nonneg @Int.toNat_natCast))))))))))))))))))))))))))))))))))))
theorem Se {a b:Nat} (h:a<=b):(a<=b)=True:=by simp[h]
theorem Sd {a b:Nat} (h:a<b):(a<b)=True:=by simp[h]
theorem Sv {a b:Int} (h:a<=b):(a<=b)=True:=by simp[h]
theorem R8 {a b:Int} (h:a<b):(a<b)=True:=by simp[h]
theorem vG (sz:Nat):aV sz []=true:=Eq.trans rfl rfl
theorem sD (sz:Nat) (r:List D) (l:List (List D)):aV sz (r::l)=(r.length == sz && aV sz l):=Eq.trans rfl rfl
theorem oH (sz:Nat) (l m:List (List D)):aV sz (l++m)=(aV sz l && aV sz m):=by simp[aV]
theorem By {α:Type} (H:List α) (b:α):(H++[b])[H.length]?=some b:=by simp
theorem ux:∀ (ds:List D) (H:Hp),gU (ds.map .d) H=some (ds.map .d,H)
 | [],_=>rfl
 | d::ds,H=>by simp only[List.map_cons,gU,v6,ux ds H]
theorem BT:∀ ds:List D,ow (ds.map .d)=some ds
 | []=>rfl
 | d::ds=>by simp only[List.map_cons,ow,QA,BT ds]
theorem GB (p:Prop):(True∨p)=True:=by simp
theorem FE (p:Prop):(p∨True)=True:=by simp
theorem xT {α β:Type} (g:α->β) (q:List α):(q.map g).take q.length=q.map g:=List.take_of_length_le (by simp)
theorem Pj (b:Bool):(b != true) = !b:=by cases b <;> rfl
theorem OM (b:Bool):(b != false)=b:=by cases b <;> rfl
theorem xQ {α β:Type} (g:α->β) (q:List α) (i:Nat) (x:α):((q.set i x).map g).take q.length=(q.set i x).map g:=List.take_of_length_le (by simp)
theorem yY {α:Type} (q:List α) (i:Nat) (x:α):(q.set i x).take q.length=q.set i x:=List.take_of_length_le (by simp)
def Qm:=And.intro Nat.mul_one (And.intro Nat.zero_mul (And.intro Int.toNat_zero (And.intro @List.length_set.{0} (And.intro @xQ (And.intro @yY (And.intro @Pj (And.intro @OM (And.intro @List.take_length.{0} (And.intro @xT (And.intro @ux (And.intro @BT (And.intro @List.set_cons_zero.{0} (And.intro @List.set_cons_succ.{0} (And.intro @GB (And.intro @FE (And.intro @List.take_nil.{0} (And.intro @List.drop_nil.{0} (And.intro Nat.zero_add (And.intro Nat.add_zero
 (And.intro @vG (And.intro @sD (And.intro @oH (And.intro @List.length_append.{0} (And.intro @List.cons_append.{0} (And.intro @List.flatMap_cons.{0,0} (And.intro @List.flatMap_nil.{0,0} (And.intro Bool.true_and Bool.and_true)))))))))))))))))))))))))))
theorem SQ (n:Nat):cS n n none none none=some (0,n,n):=by simp[cS]
theorem Qx {n:Nat} {x:Int} (h:0<=x∧x<=(n:Int)):cS n n (some x) none none=some (x.toNat,n,n):=by simp[cS,h]
theorem O9 {n:Nat} {x:Int} (h:0<=x∧x<=(n:Int)):cS n n none (some x) none=some (0,x.toNat,n):=by simp[cS,h]
theorem OH {n:Nat} {x y:Int} (h:0<=x∧x<=y∧y<=(n:Int)):cS n n (some x) (some y) none=some (x.toNat,y.toNat,n):=by
 have h1:0<=y∧y<=(n:Int):=by omega
 have h2:0<=x∧x<=((y.toNat:Nat):Int):=by omega
 simp only[cS,h1,h2,and_self,if_true]
theorem Pi {n:Nat} {x y:Int} (h:0<=x∧x<=y∧y<=(n:Int)):cS n n none (some x) (some y)=some (0,x.toNat,y.toNat):=by
 have h1:0<=y∧y<=(n:Int):=by omega
 have h2:0<=x∧x<=((y.toNat:Nat):Int):=by omega
 simp only[cS,h1,h2,and_self,if_true]
theorem LT {n:Nat} {z x y:Int} (h:0<=z∧z<=x∧x<=y∧y<=(n:Int)):cS n n (some z) (some x) (some y)=some (z.toNat,x.toNat,y.toNat):=by
 have h1:0<=y∧y<=(n:Int):=by omega
 have h2:0<=x∧x<=((y.toNat:Nat):Int):=by omega
 have h3:0<=z∧z<=((x.toNat:Nat):Int):=by omega
 simp only[cS,h1,h2,h3,and_self,if_true]
theorem DZ (k:Nat):((k:Int)+1).toNat=k+1:=rfl
theorem tH {n:Int} (h:0<=n∧n<256):IntKind.u8.wrap n=n:=by
 simp[IntKind.wrap,IntKind.bits,IntKind.signed];omega
theorem Ix {n:Int} (h:0<=n∧n<65536):IntKind.u16.wrap n=n:=by
 simp[IntKind.wrap,IntKind.bits,IntKind.signed];omega
theorem vV {n:Int} (h:0<=n∧n<4294967296):IntKind.u32.wrap n=n:=by
 simp[IntKind.wrap,IntKind.bits,IntKind.signed];omega
theorem pV {n:Int} (h:0<=n∧n<18446744073709551616):IntKind.u64.wrap n=n:=by
 simp[IntKind.wrap,IntKind.bits,IntKind.signed];omega
def aO:=And.intro @tH (And.intro @Ix (And.intro @vV (And.intro @pV (And.intro @SQ (And.intro @Qx (And.intro @O9 (And.intro @OH (And.intro @Pi (And.intro @LT (And.intro @DZ (And.intro @aZ (And.intro @Se (And.intro @Sd (And.intro @Sv (And.intro @R8 (And.intro @vG (And.intro @sD (And.intro @oH (And.intro @By (And.intro @SH (And.intro @RI (And.intro @Rt (And.intro @SD (And.intro @Sc (And.intro @Rg (And.intro @R1 (And.intro @RT (And.intro @ir (And.intro @NB @IT)))))))))))))))))))))))))))))
def am:=And.intro @V.pure_one (And.intro @V.pure_agg (And.intro @V.pure_tup (And.intro @List.all_cons.{0} (And.intro @List.all_nil.{0} (And.intro Bool.and_true (And.intro Bool.and_self (And.intro @V.pure_any (And.intro @L.pure_d (And.intro @L.pure_ip (And.intro @L.pure_cl
 (And.intro @L.pure_ns (And.intro @L.pure_np (And.intro @L.pure_nf (And.intro @L.pure_f @Ls.pure_map))))))))))))))
def OI:cI:=fun _ _ _=>none
theorem Gz (P:Program):Good P OI:=by
 constructor <;> (intro f args H r H' h;cases h)
def cloneAF (sz bytes:Nat):AF:=⟨8,
 (.seq
  (rg [
    o 2 (.mv (kx (.ns)))])
  (.seq
   (.seq
    (rg [
      o 3 (.mv (.t 0)),
      o 4 (.nilc 0 false (.t 3))])
    (.cond (.t 4)
     (.seq
      (rg [
        o 2 (.mv (kx (.ns)))])
      .ret)
     .skip))
   (.seq
    (rg [
      o 5 (.bsl sz [] []),
      o 6 (.mv (.t 0)),
      o 7 (.app false sz bytes (.t 5) (.t 6)),
      o 2 (.mv (.t 7))])
    .ret))),
 [.t 2],true⟩
theorem H0 {P:Program} {an:FuncId->Ann} {pr:cI} {f:FuncId} {sz bytes:Nat} (hf:compS P f (an f)=some (cloneAF sz bytes)) (rows:List (List D)) (h1:aV sz rows=true) (h2:rows.length*bytes<=140737488355328) (h3:rows.length<=9223372036854775807) :
  eB (dG P an) pr f [.one (.nn rows)] []=some (.one (.sl 1 sz 0 rows.length),[.dead,.arr sz rows 0]):=by
 apply ae hf rfl;have h4:(0+rows.length)*bytes<=140737488355328:=by simpa using h2
 have h5:0+rows.length<=9223372036854775807:=by simpa using h3
 simp only[cloneAF,h1,h2,h3,UI,P1,Qm,kO,cO,ow,QA,↓ui,↓sf,DH,gU,rg,rd,o,oz,kc,kb,ks,kx,on,og,od,T4,A.run,G0,i7,mW,HN,uH,V.cs,dy,pj,v6,f7,dK,V.data,L.data,Om,nc,List.take_succ_cons,List.take_zero,List.drop_succ_cons,List.drop_zero,List.cons_append,ne_eq,Nat.reduceLT,Nat.reduceBEq,↓reduceIte,Nat.reduceEqDiff,Nat.reduceAdd,Nat.reduceMul,Nat.reduceSub,Int.reduceToNat,Nat.reduceLeDiff,Int.reduceNeg,Int.reduceEq,Int.reduceLT,Int.reduceLE,Int.reduceBEq,Int.reduceBNe,Int.reduceToNat,kO,cO,true_or];simp[trim,V.refs,L.refs]
theorem H6 {P:Program} {an:FuncId->Ann} {pr:cI} {f:FuncId} {sz bytes:Nat} (hf:compS P f (an f)=some (cloneAF sz bytes)) :
  eB (dG P an) pr f [.one .ns] []=some (.one .ns,[]):=by
 apply ae hf rfl;simp only[cloneAF,UI,P1,Qm,kO,cO,ow,QA,↓ui,↓sf,DH,gU,rg,rd,o,oz,kc,kb,ks,kx,on,og,od,T4,A.run,G0,i7,mW,HN,uH,V.cs,dy,pj,v6,f7,dK,V.data,L.data,Om,nc,List.take_succ_cons,List.take_zero,List.drop_succ_cons,List.drop_zero,List.cons_append,ne_eq,Nat.reduceLT,Nat.reduceBEq,↓reduceIte,Nat.reduceEqDiff,Nat.reduceAdd,Nat.reduceMul,Nat.reduceSub,Int.reduceToNat,Nat.reduceLeDiff,Int.reduceNeg,Int.reduceEq,Int.reduceLT,Int.reduceLE,Int.reduceBEq,Int.reduceBNe,Int.reduceToNat,kO,cO]
def nZ (l:List (Nat × Nat × Nat)):cI:=fun f args H=>match l.lookup f,args,H with
 | some (sz,bytes),[.one (.d (.l rows))],[]=>if aV sz rows=true∧rows.length*bytes<=140737488355328∧rows.length<=9223372036854775807 then some (.one (.sl 1 sz 0 rows.length),[.dead,.arr sz rows 0]) else none
 | _,_,_=>none
theorem La {P:Program} {φ:cI} (hg:Good P φ) {f:FuncId} {sz:Nat} {rows:List (List D)} (hsz:0<sz)
  (h1:φ f [.one (.nn rows)] []=some (.one (.sl 1 sz 0 rows.length),[.dead,.arr sz rows 0])) (h2:φ f [.one .ns] []=some (.one .ns,[])) :
  CallOK P f [.one (.d (.l rows))] [] (.one (.sl 1 sz 0 rows.length)) [.dead,.arr sz rows 0]:=by
 intro mu S TB w vs hi ha;obtain⟨hl,hrel⟩:=ha;obtain⟨x,hx,hr⟩:=hrel 0 _ rfl;match vs,hl,hx with
 | [y],_,hx =>
  simp at hx;subst hx;have hsh:∃ ad n c,y=.slice ad n c∧(ad=none->n=0∧c=0∧rows=[]):=by
   cases hr with
   | nil a c hz=>exact⟨a,0,c,rfl,fun h=>⟨rfl,hz h,rfl⟩⟩
   | l _ _ B off c u=>exact⟨_,_,_,rfl,fun h=>by cases h⟩
  obtain⟨ad,n,c,rfl,hnil⟩:=hsh;cases ad with
  | none =>
   obtain⟨rfl,rfl,rfl⟩:=hnil rfl;refine(hg.ok _ _ _ _ _ h2 mu S TB w [.slice none 0 0] hi ⟨rfl,fun j v hj=>?_⟩).mono fun e w' he=>?_
   ·cases j with
    | zero=>simp at hj;subst hj;exact⟨_,rfl,rfl⟩
    | succ j=>simp at hj
   ·obtain⟨x,mu1,S1,rfl,ex,i1,rx⟩:=he;have hx:x=.slice none 0 0:=rx;subst hx;have i2:Inv mu1 S1 TB w' [.dead]:=by
     refine⟨fun i b l hb hl=>?_,fun i l hl=>by have:=i1.dom i l hl;simp at this,i1.old,i1.sl,i1.tl,fun i j bi bj li lj B _ hi' _ hai=>?_⟩
     ·have:=i1.dom i l hl;simp at this
     ·cases i with
      | zero=>simp at hi';subst hi';cases hai
      | succ i=>simp at hi'
    obtain⟨mu2,e2,i3,r3⟩:=i2.new_nil sz;exact⟨_,mu2,S1,rfl,ex.trans e2,i3,r3⟩
  | some A =>
   refine(hg.ok _ _ _ _ _ h1 mu S TB w [.slice (some A) n c] hi ⟨rfl,fun j v hj=>?_⟩).mono fun e w' he=>he
   cases j with
   | zero=>simp at hj;subst hj;exact⟨_,rfl,⟨_,_,_,rfl⟩,hr⟩
   | succ j=>simp at hj
theorem Dm {l:List (Nat × Nat × Nat)} {f:Nat} {x:Nat × Nat} (h:l.lookup f=some x):(f,x)∈l:=by
 induction l with
 | nil=>cases h
 | cons c r ih =>
  obtain⟨k,y⟩:=c;simp only[List.lookup] at h;split at h
  ·rename_i e;cases h;rw[eq_of_beq e];exact List.mem_cons_self ..
  ·exact List.mem_cons_of_mem _ (ih h)
theorem yZ {P:Program} (hd:∀ φ,Good P φ->iv P φ) (l:List (Nat × Nat × Nat)) (h:∀ f sz bytes,(f,sz,bytes)∈l->0<sz∧∃ an,compS P f an=some (cloneAF sz bytes)):Good P (nZ l):=by
 have key:∀ f args H r H',nZ l f args H=some (r,H')->CallOK P f args H r H'∧callable P f=true:=by
  intro f args H r H' hc;unfold nZ at hc;split at hc
  ·rename_i sz bytes rows hlk;split at hc
   ·rename_i hcond;cases hc;obtain⟨hsz,an,han⟩:=h f sz bytes (Dm hlk);have hg:Good P (eB (dG P fun _=>an) OI):=u6 hd (sB _ _) (Gz P)
    have h1:=H0 (P:=P) (an:=fun _=>an) (pr:=OI) (f:=f) han rows hcond.1 hcond.2.1 hcond.2.2
    exact⟨La hg hsz h1 (H6 (an:=fun _=>an) han),hg.can _ _ _ _ _ h1⟩
   ·cases hc
  ·cases hc
 exact⟨fun f args H r H' hc=>(key f args H r H' hc).1,fun f args H r H' hc=>(key f args H r H' hc).2⟩
theorem AW {φ:cI} {f:FuncId} {args:List V} {H H1:Hp} {r:V} (h:args.all V.pure=true) (hr:φ f args []=some (r,H1)) :
  ak φ f args H=some (r.ren (fun j=>some (H.length+j)),H++H1.map (Box.ren (fun j=>some (H.length+j)))):=by
 have e:(fun j:Nat=>if j<0 then([]:List Nat)[j]? else some (H.length+(j-0)))=fun j=>some (H.length+j):=by funext j;simp
 simp only[ak,aI,refs_pure h,qW,aw,List.map_nil,ren_pure h,hr,List.length_nil,List.take_zero,List.drop_zero,cu,e]
theorem gd {α:Type} (q:List α) (k:Nat) (h:k<q.length):q.take (k+1)=q.take k++[q[k]]:=by
 rw[List.take_add_one,List.getElem?_eq_getElem h];rfl
def fb:List Nat->Bool
 | a::b::r=>Nat.blt a b && fb (b::r)
 | _=>true
theorem vf (ρ:Nat->Option Nat):∀ (lv:List Nat) (vals:List V) (n:Nat),(dE lv vals n).ren ρ=dE lv (vals.map (V.ren ρ)) n
 | [],vals,n=>by cases vals <;> rfl
 | i::is,[],n=>rfl
 | i::is,v::vs,n=>by
  simp only[List.map_cons,dE];split
  ·rfl
  ·exact vf ρ is vs n
theorem Ew:∀ (lv:List Nat) (vals:List V) (n k:Nat),fb (k::lv)=true->n<=k->dE lv vals n=.any
 | [],vals,n,k,_,_=>by cases vals <;> rfl
 | i::is,[],n,k,_,_=>rfl
 | i::is,v::vs,n,k,h,hn=>by
  simp only[fb,Bool.and_eq_true,Nat.blt_eq] at h;simp only[dE];rw[if_neg (by omega)]
  exact Ew is vs n i h.2 (by omega)
theorem qQ:∀ (lv:List Nat) (vals:List V) (a N:Nat),fb lv=true->(∀ i∈lv,a<=i)->(∀ i∈lv,i<a+N)->lv.length=vals.length->((List.range' a N).map (dE lv vals)).flatMap V.refs=vals.flatMap V.refs
 | [],[],a,N,_,_,_,_=>by
  have:∀ N a,((List.range' a N).map (dE [] [])).flatMap V.refs=[]:=by
   intro N;induction N with
   | zero=>intro a;rfl
   | succ N ih=>intro a;rw[List.range'_succ,List.map_cons,List.flatMap_cons,ih];rfl
  simpa using this N a
 | [],v::vs,a,N,_,_,_,h=>by simp at h
 | i::is,[],a,N,_,_,_,h=>by simp at h
 | i::is,v::vs,a,N,hs,ha,hN,hl=>by
  have hia:=ha i (List.mem_cons_self ..);have hiN:=hN i (List.mem_cons_self ..);have hlow:∀ (is:List Nat) (i k:Nat),fb (i::is)=true->k∈is->i<k:=by
   intro is;induction is with
   | nil=>intro i k _ hk;cases hk
   | cons j js ih =>
    intro i k h hk;simp only[fb,Bool.and_eq_true,Nat.blt_eq] at h;rcases List.mem_cons.1 hk with rfl|hk
    ·exact h.1
    ·exact Nat.lt_trans h.1 (ih j k h.2 hk)
  have hs':fb is=true:=by
   cases is with
   | nil=>rfl
   | cons j js=>simp only[fb,Bool.and_eq_true] at hs;exact hs.2
  have hsplit:List.range' a N=List.range' a (i-a)++i::List.range' (i+1) (N-(i-a)-1):=by
   obtain⟨q,rfl⟩:∃ q,i=a+q:=⟨i-a,by omega⟩
   obtain⟨r,rfl⟩:∃ r,N=q+(r+1):=⟨N-q-1,by omega⟩
   have e1:a+q-a=q:=by omega
   have e2:q+(r+1)-q-1=r:=by omega
   rw[e1,e2,<- List.range'_append_1,List.range'_succ]
  have h0:∀ M b,b+M<=i->((List.range' b M).map (dE (i::is) (v::vs))).flatMap V.refs=[]:=by
   intro M;induction M with
   | zero=>intro b _;rfl
   | succ M ih =>
    intro b hb;rw[List.range'_succ,List.map_cons,List.flatMap_cons,ih (b+1) (by omega)]
    have:dE (i::is) (v::vs) b=.any:=by
     simp only[dE];rw[if_neg (by omega)]
     exact Ew is vs b i hs (by omega)
    rw[this];rfl
  rw[hsplit,List.map_append,List.flatMap_append,h0 (i-a) a (by omega),List.nil_append,List.map_cons,List.flatMap_cons]
  have e1:dE (i::is) (v::vs) i=v:=by simp[dE]
  rw[e1,List.flatMap_cons];congr 1
  have e2:(List.range' (i+1) (N-(i-a)-1)).map (dE (i::is) (v::vs))=(List.range' (i+1) (N-(i-a)-1)).map (dE is vs):=by
   apply List.map_congr_left;intro n hn;rw[List.mem_range'_1] at hn;simp only[dE];rw[if_neg (by omega)]
  rw[e2];exact qQ is vs (i+1) _ hs' (fun k hk=>hlow is i k hs hk) (fun k hk=>by have:=hN k (List.mem_cons_of_mem _ hk);omega) (by simpa using hl)
theorem rN:∀ {lv:List Nat} {vals:List V} {f:Fn},kJ lv vals f->lv.length=vals.length
 | [],[],_,_=>rfl
 | [],_::_,_,h=>h.elim
 | _::_,[],_,h=>h.elim
 | _::is,_::vs,f,h=>by simp[rN h.2]
theorem Fy {N:Nat} {lv:List Nat} {vals:List V} {f:Fn} {H:Hp} (hs:(fb lv && lv.all (fun i=>Nat.blt i N))=true) (h:kJ lv vals f) :
  canon 0 lv (aa N f) H=(aa N (dE lv (vals.map (V.ren (aG (aI H (vals.flatMap V.refs)))))),aw H (aI H (vals.flatMap V.refs))):=by
 simp only[Bool.and_eq_true] at hs;have hr:(aa N (ny lv f)).flatMap V.refs=vals.flatMap V.refs:=by
  rw[j5 h];have:=qQ lv vals 0 N hs.1 (fun _ _=>Nat.zero_le _) (fun i hi=>by have:=(List.all_eq_true.1 hs.2) i hi;simpa using this) (rN h)
  rw[<- List.range_eq_range'] at this;exact this
 simp only[canon,mf,sr,Nat.zero_min,List.range_zero,List.flatMap_nil,List.nil_append,hr];refine Prod.ext ?_ rfl;simp only[aI,aa,List.map_map,j5 h];apply List.map_congr_left;intro n _;exact vf _ _ _ _
theorem ka {α σ:Type} {φ:cI} {N:Nat} {lv:List Nat} {c:AC} {K:Ex->Fr->Hp->Option α} {st:List KI} (μ:σ->Nat) (P:σ->Prop) (vals:σ->List V) (heap:σ->Hp) (Z:σ->α)
  (hs:∀ s,P s->∀ R:Fr->Hp->Option α,(∀ s',μ s'<μ s->P s'->∀ f' H',canon 0 lv (aa N f') H'=(aa N (dE lv (vals s')),heap s')->R (aa N f') H'=some (Z s')) ->
   kU φ 0 (KL R (KS φ 0 K st)) c (aa N (dE lv (vals s))) (heap s) []=some (Z s)) :
  ∀ s,P s->∀ f H,canon 0 lv (aa N f) H=(aa N (dE lv (vals s)),heap s)->kU φ 0 K (.loop lv c) (aa N f) H st=some (Z s):=by
 intro s hP f H hc;refine rk (m:=0) (N:=N) μ (fun s f H=>P s∧canon 0 lv (aa N f) H=(aa N (dE lv (vals s)),heap s)) Z ?_ s f H ⟨hP,hc⟩
 rintro s f H ⟨hP,hc⟩ R hR;rw[hc];exact hs s hP R (fun s' hlt hP' f' H' hc'=>hR s' f' H' hlt ⟨hP',hc'⟩)
theorem at_head {N:Nat} {lv:List Nat} {vals0 vals:List V} {f:Fn} {H H':Hp} (hs:(fb lv && lv.all (fun i=>Nat.blt i N))=true) (h:kJ lv vals0 f) (h1:vals0.map (V.ren (aG (aI H (vals0.flatMap V.refs))))=vals) (h2:aw H (aI H (vals0.flatMap V.refs))=H') :
  canon 0 lv (aa N f) H=(aa N (dE lv vals),H'):=by
 rw[Fy hs h,h1,h2]
theorem sj:∀ (lv:List Nat) (f:Fn),kJ lv (lv.map f) f
 | [],_=>trivial
 | _::is,f=>⟨rfl,sj is f⟩
theorem at_head2 {N:Nat} {lv:List Nat} {vals0 vals:List V} {f:Fn} {H H':Hp} (hs:(fb lv && lv.all (fun i=>Nat.blt i N))=true) (hv:lv.map f=vals0) (h1:vals0.map (V.ren (aG (aI H (vals0.flatMap V.refs))))=vals) (h2:aw H (aI H (vals0.flatMap V.refs))=H') :
  canon 0 lv (aa N f) H=(aa N (dE lv vals),H'):=at_head hs (hv ▸ sj lv f) h1 h2
theorem aE (i:Nat):aG [] i=none:=Eq.trans rfl rfl
theorem ax (i j:Nat) (r:List Nat):aG (j::r) i=if j=i then some 0 else(aG r i).map (· + 1):=by
 simp only[aG,List.findIdx?_cons];by_cases h:j=i <;> simp[h]
theorem rY (H:Hp) (n i:Nat) (todo seen:List Nat) {sz fz:Nat} {rows:List (List D)} (h:H[i]?=some (.arr sz rows fz)):aD H (n+1) (i::todo) seen=if seen.contains i then aD H n todo seen else aD H n todo (seen++[i]):=by
 simp only[aD,h,Box.refs,List.nil_append]
theorem uI (H:Hp) (n i:Nat) (todo seen:List Nat) {rows:List (List UInt8 × Bool)} (h:H[i]?=some (.mp rows)):aD H (n+1) (i::todo) seen=if seen.contains i then aD H n todo seen else aD H n todo (seen++[i]):=by
 simp only[aD,h,Box.refs,List.nil_append]
theorem ni (H:Hp) (n i:Nat) (todo seen:List Nat) {xs:List L} (h:H[i]?=some (.cells xs)):aD H (n+1) (i::todo) seen=if seen.contains i then aD H n todo seen else aD H n (xs.flatMap L.refs++todo) (seen++[i]):=by
 simp only[aD,h,Box.refs]
abbrev jn:=BitVec 32
def crcP:jn:=0x82f63b78#32
def lW (x:jn):jn:=if x.getLsbD 0 then(x >>> 1) ^^^ crcP else x >>> 1
def fY:Nat->jn->jn
 | 0,x=>x
 | n+1,x=>fY n (lW x)
def qC (x:jn) (c:UInt8):jn:=fY 8 (x ^^^ BitVec.ofNat 32 c.toNat)
def cr (sum:jn) (s:List UInt8):jn := ~~~(s.foldl qC (~~~sum))
def HO (b:Bool) (x:jn):jn:=if b then x else 0#32
theorem nS (x:jn):lW x=(x >>> 1) ^^^ HO (x.getLsbD 0) crcP:=by
 unfold lW HO;split <;> simp
theorem Ni (b:Bool) (x:jn) (i:Nat):(HO b x).getLsbD i=(b && x.getLsbD i):=by cases b <;> simp[HO]
theorem Gy (b:Bool) (x:jn) (n:Nat):(HO b x) >>> n=HO b (x >>> n):=by cases b <;> simp[HO]
theorem lF (x:jn) (i:Nat) (hp:crcP.getLsbD i=false):(lW x).getLsbD i=x.getLsbD (1+i):=by
 rw[nS];simp only[BitVec.getLsbD_xor,BitVec.getLsbD_ushiftRight,Ni,hp,Bool.and_false,Bool.xor_false]
theorem SB (x:jn):fY 4 x=(x >>> 4) ^^^ (HO (x.getLsbD 0) (crcP >>> 3) ^^^ (HO (x.getLsbD 1) (crcP >>> 2) ^^^ (HO (x.getLsbD 2) (crcP >>> 1) ^^^ HO (x.getLsbD 3) crcP))):=by
 have p0:crcP.getLsbD 0=false:=by decide
 have p1:crcP.getLsbD 1=false:=by decide
 have p2:crcP.getLsbD 2=false:=by decide
 simp only[fY];have b1:=lF x 0 p0;have b2:=lF x 1 p1;have b3:=lF x 2 p2;have c1:=lF (lW x) 0 p0;have c2:=lF (lW x) 1 p1;have d1:=lF (lW (lW x)) 0 p0;simp only[Nat.reduceAdd] at b1 b2 b3 c1 c2 d1;rw[nS (lW (lW (lW x))),d1,c2,b3,nS (lW (lW x)),c1,b2,nS (lW x),b1,nS x];simp only[BitVec.ushiftRight_xor_distrib,Gy,<- BitVec.shiftRight_add,Nat.reduceAdd,BitVec.xor_assoc]
theorem RM (x:jn):fY 4 x=(x >>> 4) ^^^ fY 4 (x &&& 15#32):=by
 rw[SB x,SB (x &&& 15#32)];have h:∀ i,i<4->(x &&& 15#32).getLsbD i=x.getLsbD i:=by
  intro i hi;rw[BitVec.getLsbD_and];have:(15#32:jn).getLsbD i=true:=by
   match i,hi with
   | 0,_=>decide
   | 1,_=>decide
   | 2,_=>decide
   | 3,_=>decide
  rw[this,Bool.and_true]
 have h0:(x &&& 15#32) >>> 4=0#32:=by
  rw[BitVec.ushiftRight_and_distrib];have:(15#32:jn) >>> 4=0#32:=by decide
  rw[this,BitVec.and_zero]
 rw[h 0 (by decide),h 1 (by decide),h 2 (by decide),h 3 (by decide),h0,BitVec.zero_xor]
theorem qN:∀ (a b:Nat) (x:jn),fY (a+b) x=fY b (fY a x)
 | 0,b,x=>by simp[fY]
 | a+1,b,x=>by rw[show a+1+b=(a+b)+1 by omega];simp only[fY];exact qN a b _
theorem Mn (x:jn) (c:UInt8):qC x c=(let y:=x ^^^ BitVec.ofNat 32 c.toNat;let z:=(y >>> 4) ^^^ fY 4 (y &&& 15#32);(z >>> 4) ^^^ fY 4 (z &&& 15#32)):=by
 simp only[qC];rw[show(8:Nat)=4+4 from rfl,qN,RM (fY 4 _),RM (x ^^^ _)]
def ah (n:Nat):List UInt8:=if n<128 then[UInt8.ofNat n] else UInt8.ofNat (128+n % 128)::ah (n / 128)
termination_by n
decreasing_by omega
theorem jH {n:Nat} (h:n<128):ah n=[UInt8.ofNat n]:=by rw[ah,if_pos h]
theorem qB {n:Nat} (h:¬ n<128):ah n=UInt8.ofNat (128+n % 128)::ah (n / 128):=by rw[ah,if_neg h]
def nd (n:Nat):Nat:=(ah n).length
theorem jR {n:Nat} (h:n<128):nd n=1:=by unfold nd;rw[jH h];rfl
theorem oT {n:Nat} (h:¬ n<128):nd n=nd (n / 128)+1:=by unfold nd;rw[qB h];rfl
theorem gt (n:Nat):1<=nd n:=by
 by_cases h:n<128
 ·rw[jR h];exact Nat.le_refl _
 ·rw[oT h];omega
theorem gh:∀ (k n:Nat),nd n=k+1↔(n<128 ^ (k+1)∧(k=0∨128 ^ k<=n))
 | 0,n=>by
  by_cases h:n<128
  ·simp[jR h,h]
  ·simp only[oT h,true_or,and_true,Nat.zero_add,Nat.pow_one];have:=gt (n / 128);omega
 | k+1,n=>by
  by_cases h:n<128
  ·rw[jR h];have:128<=128 ^ (k+1):=by rw[Nat.pow_succ];have:=Nat.pow_pos (n:=k) (by decide:0<128);omega
   omega
  ·rw[oT h];have ih:=gh k (n / 128);have e1:n / 128<128 ^ (k+1)↔n<128 ^ (k+2):=by rw[Nat.div_lt_iff_lt_mul (by decide),<- Nat.pow_succ]
   have e2:128 ^ k<=n / 128↔128 ^ (k+1)<=n:=by rw[Nat.le_div_iff_mul_le (by decide),<- Nat.pow_succ]
   constructor
   ·intro hh;obtain⟨h1,h2⟩:=ih.1 (by omega)
    refine⟨e1.1 h1,.inr ?_⟩;rcases h2 with h2|h2
    ·subst h2;simpa using Nat.le_of_not_lt h
    ·exact e2.1 h2
   ·rintro⟨h1,h2⟩;have h2':128 ^ (k+1)<=n:=by
     rcases h2 with h2|h2
     ·omega
     ·exact h2
    have:=ih.2 ⟨e1.2 h1,.inr (e2.2 h2')⟩;omega
theorem eC {n:Nat} (h:n<9223372036854775808):nd n<=9:=by
 have hp:=gt n;have:=(gh (nd n-1) n).1 (by omega)
 rcases this.2 with h0|h0
 ·omega
 ·rcases Nat.lt_or_ge (nd n-1) 9 with h9|h9
  ·omega
  ·have:128 ^ 9<=128 ^ (nd n-1):=Nat.pow_le_pow_right (by decide) h9
   have e:(128:Nat) ^ 9=9223372036854775808:=by decide
   omega
theorem ma:∀ (k n:Nat),nd n=k+1->ah n=(List.range k).map (fun i=>UInt8.ofNat (128+n / 128 ^ i % 128))++[UInt8.ofNat (n / 128 ^ k)]
 | 0,n,h=>by
  have:=((gh 0 n).1 h).1;rw[jH (by simpa using this)];simp
 | k+1,n,h=>by
  have hb:¬ n<128:=by
   intro hs;rw[jR hs] at h;omega
  rw[oT hb] at h;rw[qB hb,ma k (n / 128) (by omega),List.range_succ_eq_map]
  simp only[List.map_cons,List.map_map,Nat.pow_zero,Nat.div_one,List.cons_append];congr 2
  ·apply List.map_congr_left;intro i _;simp only[Function.comp,Nat.succ_eq_add_one];rw[Nat.div_div_eq_div_mul,Nat.pow_succ,Nat.mul_comm 128]
  ·rw[Nat.div_div_eq_div_mul,Nat.pow_succ,Nat.mul_comm 128]
def val:List UInt8->Nat
 | []=>0
 | c::r=>c.toNat % 128+128*val r
def kA:List UInt8->Nat->Nat->Option (Nat × Nat)
 | [],_,_=>none
 | c::r,i,n=>if 9<=i then none else if 128<=c.toNat then kA r (i+1) (n+c.toNat % 128*128 ^ i) else if c.toNat=0∧0<i then none else some (n+c.toNat*128 ^ i,i+1)
def pY:List UInt8->Bool
 | []=>false
 | [c]=>decide (c.toNat<128)
 | c::d::r=>decide (128<=c.toNat) && pY (d::r)
theorem dF {n:Nat} (h:n<256):(UInt8.ofNat n).toNat=n:=by simp;omega
theorem yf:∀ (l:List UInt8),pY l=true->((l.getLast?.map UInt8.toNat≠some 0∨l.length=1)->ah (val l)=l)∧(l.getLast?.map UInt8.toNat=some 0->val l=0∨∃ k,0<k∧val l<128 ^ (l.length-1))
 | [],h=>by cases h
 | [c],h=>by
  simp only[pY,decide_eq_true_eq] at h;refine⟨fun _=>?_,fun h0=>.inl ?_⟩
  ·simp only[val,Nat.mul_zero,Nat.add_zero];rw[Nat.mod_eq_of_lt h,jH h];simp
  ·simp at h0;simp[val,h0]
 | c::d::r,h=>by
  simp only[pY,Bool.and_eq_true,decide_eq_true_eq] at h;obtain⟨h1,h2⟩:=h;have hc:=c.toNat_lt;have ih:=yf (d::r) h2;have hl:(c::d::r).getLast?=(d::r).getLast?:=by simp[List.getLast?_cons_cons]
  rw[hl];refine⟨fun h0=>?_,fun h0=>?_⟩
  ·rcases h0 with h0|h0
   ·have ihv:=ih.1 (.inl h0);have hv:val (c::d::r)=c.toNat % 128+128*val (d::r):=rfl;have hpos:0<val (d::r):=by
     rcases Nat.eq_zero_or_pos (val (d::r)) with hz|hz
     ·rw[hz,jH (by decide)] at ihv
      rw[<- ihv] at h0;simp at h0
     ·exact hz
    rw[hv,qB (by omega)]
    have e1:(c.toNat % 128+128*val (d::r)) % 128=c.toNat % 128:=by omega
    have e2:(c.toNat % 128+128*val (d::r)) / 128=val (d::r):=by omega
    rw[e1,e2,ihv];congr 1
    apply UInt8.toNat_inj.1;rw[dF (by omega)];omega
   ·simp at h0
  ·rcases ih.2 h0 with hz|⟨k,hk,hlt⟩
   ·refine .inr ⟨1,by decide,?_⟩
    simp only[val,List.length_cons] at hz ⊢;rw[hz];have:128<=128 ^ (r.length+1+1-1):=by
     rw[show r.length+1+1-1=r.length+1 by omega,Nat.pow_succ]
     have:=Nat.pow_pos (n:=r.length) (by decide:0<128)
     omega
    omega
   ·refine .inr ⟨1,by decide,?_⟩
    simp only[List.length_cons] at hlt ⊢;have hv:val (c::d::r)=c.toNat % 128+128*val (d::r):=rfl;rw[hv];have e:128 ^ (r.length+1+1-1)=128 ^ (r.length+1-1)*128:=by rw[<- Nat.pow_succ];congr 1
    rw[e];omega
theorem z8 (l:List UInt8) (h:pY l=true):ah (val l)=l↔¬ (l.getLast?.map UInt8.toNat=some 0∧1<l.length):=by
 have hne:l≠[]:=by intro e;subst e;cases h
 have hlen:0<l.length:=List.length_pos_iff.2 hne;constructor
 ·rintro he ⟨h0,h1⟩;have hn:nd (val l)=l.length:=by unfold nd;rw[he]
  rcases(yf l h).2 h0 with hz|⟨k,_,hlt⟩
  ·rw[hz,jR (by decide)] at hn;omega
  ·have:=(gh (l.length-1) (val l)).1 (by omega)
   rcases this.2 with h3|h3 <;> omega
 ·intro hh;apply(yf l h).1;by_cases h0:l.getLast?.map UInt8.toNat=some 0
  ·exact .inr (by have:¬ 1<l.length:=fun h1=>hh ⟨h0,h1⟩;omega)
  ·exact .inl h0
set_option linter.defProp false
theorem j8 (n:Nat) (x:BitVec n):BitVec.ofInt n ((x.toNat:Nat):Int)=x:=by
 apply BitVec.eq_of_toNat_eq;simp
theorem lN (x:jn):IntKind.u32.wrap ((x.toNat:Nat):Int)=((x.toNat:Nat):Int):=vV (by have:=x.isLt;omega)
theorem N1 (x y:jn):dy .xor (.i .u32 ((x.toNat:Nat):Int)) (.i .u32 ((y.toNat:Nat):Int))=some (.i .u32 (((x ^^^ y).toNat:Nat):Int)):=by
 simp only[dy,ne_eq,not_true_eq_false,if_false];rw[show IntKind.u32.bits=32 from rfl,j8,j8,lN]
theorem OQ (x:jn):dy .xor (.i .u32 ((x.toNat:Nat):Int)) (.i .u32 2197175160)=some (.i .u32 (((x ^^^ crcP).toNat:Nat):Int)):=N1 x crcP
theorem QH (x:jn):dy .and (.i .u32 ((x.toNat:Nat):Int)) (.i .u32 15)=some (.i .u32 (((x &&& 15#32).toNat:Nat):Int)):=by
 simp only[dy,ne_eq,not_true_eq_false,if_false];rw[show IntKind.u32.bits=32 from rfl,j8,show BitVec.ofInt 32 15=15#32 from rfl,lN]
theorem TN (x:jn):dy .and (.i .u32 ((x.toNat:Nat):Int)) (.i .u32 1)=some (.i .u32 (((x &&& 1#32).toNat:Nat):Int)):=by
 simp only[dy,ne_eq,not_true_eq_false,if_false];rw[show IntKind.u32.bits=32 from rfl,j8,show BitVec.ofInt 32 1=1#32 from rfl,lN]
theorem QG (x:jn):Om .xor (.i .u32 ((x.toNat:Nat):Int))=some (.i .u32 (((~~~x).toNat:Nat):Int)):=by
 simp only[Om];rw[show IntKind.u32.bits=32 from rfl,show IntKind.u32.signed=false from rfl,j8]
 have:BitVec.ofInt 32 (if false=true then -1 else IntKind.u32.max)=BitVec.allOnes 32:=by decide
 rw[this,BitVec.allOnes_xor,lN]
theorem B6 (a b:Nat):((a:Nat):Int).fdiv ((b:Nat):Int)=((a / b:Nat):Int):=by
 rw[Int.fdiv_eq_ediv_of_nonneg _ (by omega)];simp
theorem Bx (x:jn) (n:Nat) (hn:n<=32) (k:IntKind):dy .shr (.i .u32 ((x.toNat:Nat):Int)) (.i k ((n:Nat):Int))=some (.i .u32 (((x >>> n).toNat:Nat):Int)):=by
 simp only[dy];rw[if_neg (by omega),show IntKind.u32.bits=32 from rfl,Int.toNat_natCast,Nat.min_eq_left hn]
 have:=B6 x.toNat (2 ^ n);rw[show((2 ^ n:Nat):Int)=(2:Int) ^ n by simp] at this
 rw[this,BitVec.toNat_ushiftRight,Nat.shiftRight_eq_div_pow]
theorem MO (x:jn) (k:IntKind):dy .shr (.i .u32 ((x.toNat:Nat):Int)) (.i k 1)=some (.i .u32 (((x >>> 1).toNat:Nat):Int)):=Bx x 1 (by decide) k
theorem MI (x:jn) (k:IntKind):dy .shr (.i .u32 ((x.toNat:Nat):Int)) (.i k 4)=some (.i .u32 (((x >>> 4).toNat:Nat):Int)):=Bx x 4 (by decide) k
theorem Nn (x:jn) (k:IntKind):dy .shr (.i .u32 ((x.toNat:Nat):Int)) (.i k 8)=some (.i .u32 (((x >>> 8).toNat:Nat):Int)):=Bx x 8 (by decide) k
theorem Ld (x:jn) (k:IntKind):dy .shr (.i .u32 ((x.toNat:Nat):Int)) (.i k 16)=some (.i .u32 (((x >>> 16).toNat:Nat):Int)):=Bx x 16 (by decide) k
theorem JZ (x:jn) (k:IntKind):dy .shr (.i .u32 ((x.toNat:Nat):Int)) (.i k 24)=some (.i .u32 (((x >>> 24).toNat:Nat):Int)):=Bx x 24 (by decide) k
theorem NI (x:jn):dy .quo (.i .u32 ((x.toNat:Nat):Int)) (.i .u32 2)=some (.i .u32 (((x >>> 1).toNat:Nat):Int)):=by
 simp only[dy,ne_eq,not_true_eq_false,if_false];rw[if_neg (by decide),Int.tdiv_eq_ediv_of_nonneg (by omega)]
 have:((x.toNat:Nat):Int) / (2:Int)=(((x >>> 1).toNat:Nat):Int):=by
  rw[BitVec.toNat_ushiftRight,Nat.shiftRight_eq_div_pow];omega
 rw[this,lN]
theorem NH (x:jn):dy .rem (.i .u32 ((x.toNat:Nat):Int)) (.i .u32 2)=some (.i .u32 (bif x.getLsbD 0 then 1 else 0)):=by
 simp only[dy,ne_eq,not_true_eq_false,if_false];rw[if_neg (by decide),Int.tmod_eq_emod_of_nonneg (by omega)]
 have:x.getLsbD 0=decide (x.toNat % 2=1):=by
  rw[BitVec.getLsbD,Nat.testBit_zero]
 rw[this];by_cases h:x.toNat % 2=1
 ·have e:((x.toNat:Nat):Int) % 2=1:=by omega
  simp[h,e]
 ·have e:((x.toNat:Nat):Int) % 2=0:=by omega
  have e':¬ x.toNat % 2=1:=h;simp[e',e]
theorem vY (c:UInt8):IntKind.u32.wrap ((c.toNat:Nat):Int)=(((BitVec.ofNat 32 c.toNat).toNat:Nat):Int):=by
 have:=c.toNat_lt;rw[vV (by omega)]
 simp
theorem jI (n:Nat):IntKind.u8.wrap ((n:Nat):Int)=((n % 256:Nat):Int):=by
 simp[IntKind.wrap,IntKind.bits,IntKind.signed]
theorem vo (n:Nat):UInt8.ofNat (n % 256)=UInt8.ofNat n:=by
 apply UInt8.toNat_inj.1;simp
theorem kX:gk []=some []:=Eq.trans rfl rfl
theorem gR (n:Int) (r:List (List D)):gk ([.i .u8 n]::r)=match gk r with|some bs=>some (UInt8.ofNat n.toNat::bs)|none=>none:=Eq.trans rfl rfl
theorem mn:∀ l:List UInt8,gk (ay l)=some l
 | []=>rfl
 | c::l=>by
  have e:ay (c::l)=[.i .u8 ((c.toNat:Nat):Int)]::ay l:=rfl;rw[e,gR,mn l];simp
theorem qm (l:List UInt8):aV 1 (ay l)=true:=by simp[aV,ay]
theorem dP (l:List UInt8):(ay l).length=l.length:=by simp[ay]
def dN (x:jn):List UInt8:=[UInt8.ofNat x.toNat,UInt8.ofNat (x >>> 8).toNat,UInt8.ofNat (x >>> 16).toNat,UInt8.ofNat (x >>> 24).toNat]
theorem nT (l:List UInt8) (k:Nat) (h:k<l.length):l[k]?=some (l[k]'h):=by simp[h]
def kD:=And.intro @N1 (And.intro @OQ (And.intro @QH (And.intro @QG (And.intro @MO (And.intro @MI (And.intro @Nn (And.intro @Ld (And.intro @JZ (And.intro @NI @NH)))))))))
def tabW:List L:=(List.range 16).map fun i=>L.d (.i .u32 (((fY 4 (BitVec.ofNat 32 i)).toNat:Nat):Int))
def ju (k:Nat):List L:=(List.range 16).map fun i=>L.d (.i .u32 (if i<k then(((fY 4 (BitVec.ofNat 32 i)).toNat:Nat):Int) else 0))
theorem nC (k:Nat):(ju k).length=16:=by simp[ju]
theorem xV:ju 16=tabW:=by
 unfold ju tabW;apply List.map_congr_left;intro i hi;rw[if_pos (by simpa using hi)]
theorem Ia:ju 0=List.replicate 16 (L.d (.i .u32 0)):=by rfl
theorem JI (k:Nat) (hk:k<16):(ju k).take k++[L.d (.i .u32 (((fY 4 (BitVec.ofNat 32 k)).toNat:Nat):Int))]++(ju k).drop (k+1)=ju (k+1):=by
 have e:(ju k).take k++[L.d (.i .u32 (((fY 4 (BitVec.ofNat 32 k)).toNat:Nat):Int))]++(ju k).drop (k+1)=(ju k).set k (L.d (.i .u32 (((fY 4 (BitVec.ofNat 32 k)).toNat:Nat):Int))):=by
  rw[List.set_eq_take_append_cons_drop,if_pos (by rw[nC];exact hk)];simp
 rw[e];apply List.ext_getElem?;intro i;rw[List.getElem?_set,nC];by_cases h:k=i
 ·subst h;simp[ju,hk]
 ·rw[if_neg h];simp only[ju,List.getElem?_map];rcases Nat.lt_or_ge i 16 with hi|hi
  ·rw[List.getElem?_range hi];simp only[Option.map_some];have:(i<k)=(i<k+1):=by rw[eq_iff_iff];omega
   simp only[this]
  ·rw[List.getElem?_eq_none (by simpa using hi)];rfl
theorem Ho (x:jn):dy .and (.i .u32 2197175160) (.i .u32 (IntKind.u32.wrap (0-(((x &&& 1#32).toNat:Nat):Int))))=some (.i .u32 (((HO (x.getLsbD 0) crcP).toNat:Nat):Int)):=by
 have h1:(x &&& 1#32).toNat=if x.getLsbD 0=true then 1 else 0:=by
  have:x &&& 1#32=if x.getLsbD 0=true then 1#32 else 0#32:=by
   apply BitVec.eq_of_getLsbD_eq;intro i hi;rw[BitVec.getLsbD_and];cases i with
   | zero=>cases hx:x.getLsbD 0 <;> simp
   | succ i =>
    have:(1#32:jn).getLsbD (i+1)=false:=by simp
    rw[this,Bool.and_false];split <;> simp
  rw[this];split <;> rfl
 rw[h1];cases hx:x.getLsbD 0 with
 | true=>rfl
 | false=>rfl
theorem MN (x:jn):tabW[(x &&& 15#32).toNat]?=some (.d (.i .u32 (((fY 4 (x &&& 15#32)).toNat:Nat):Int))):=by
 have h:(x &&& 15#32).toNat<16:=by
  rw[BitVec.toNat_and];exact Nat.lt_of_le_of_lt Nat.and_le_right (by decide)
 simp only[tabW,List.getElem?_map,List.getElem?_range h,Option.map_some];rw[BitVec.ofNat_toNat,BitVec.setWidth_eq]
theorem z7 (x:jn):(x &&& 15#32).toNat<16:=by
 rw[BitVec.toNat_and];exact Nat.lt_of_le_of_lt Nat.and_le_right (by decide)
theorem uN:tabW.length=16:=by simp[tabW]
theorem ij (k:Nat):(ju k).flatMap L.refs=[]:=by
 rw[List.flatMap_eq_nil_iff];intro x hx;simp only[ju,List.mem_map] at hx;obtain⟨i,_,rfl⟩:=hx;rfl
theorem ko (k:Nat) (ρ:Nat->Option Nat):(ju k).map (L.ren ρ)=ju k:=by
 conv=>rhs;rw[<- List.map_id (ju k)]
 apply List.map_congr_left;intro x hx;simp only[ju,List.mem_map] at hx;obtain⟨i,_,rfl⟩:=hx;rfl
theorem om:tabW.flatMap L.refs=[]:=by rw[<- xV];exact ij 16
theorem pZ (ρ:Nat->Option Nat):tabW.map (L.ren ρ)=tabW:=by rw[<- xV];exact ko 16 ρ
theorem tabW_pure:tabW.all L.pure=true:=by
 rw[List.all_eq_true];intro x hx;simp only[tabW,List.mem_map] at hx;obtain⟨i,_,rfl⟩:=hx;rfl
theorem NJ (H:Hp):gU tabW H=some (tabW,H):=by
 have:tabW=((List.range 16).map fun i=>(D.i .u32 (((fY 4 (BitVec.ofNat 32 i)).toNat:Nat):Int))).map L.d:=by simp only[tabW,List.map_map];rfl
 rw[this];exact ux _ H
def blen (n:Nat):Nat:=if n=0 then 0 else Nat.log2 n+1
theorem gW (n j:Nat):blen n<=j↔n<2 ^ j:=by
 unfold blen;by_cases h:n=0
 ·subst h;simp[Nat.pow_pos]
 ·rw[if_neg h,Nat.succ_le_iff,Nat.log2_lt h]
theorem gw (n j:Nat) (h:2 ^ j<=n):blen n=blen (n / 2 ^ j)+j:=by
 apply Nat.le_antisymm
 ·rw[gW,Nat.pow_add];have:=(gW (n / 2 ^ j) (blen (n / 2 ^ j))).1 (Nat.le_refl _);rwa [Nat.div_lt_iff_lt_mul (Nat.pow_pos (by decide))] at this
 ·have h0:j<blen n:=by
   have:=(not_congr (gW n j)).2 (by omega);omega
  have:blen (n / 2 ^ j)<=blen n-j:=by
   rw[gW,Nat.div_lt_iff_lt_mul (Nat.pow_pos (by decide)),<- Nat.pow_add]
   have:=(gW n (blen n)).1 (Nat.le_refl _);rwa [Nat.sub_add_cancel (by omega)]
  omega
theorem MS (n:Nat):max 1 ((blen n+6) / 7)=nd n:=by
 have hp:=gt n;obtain⟨k,hk⟩:∃ k,nd n=k+1:=⟨nd n-1,by omega⟩
 obtain⟨h1,h2⟩:=(gh k n).1 hk;have e:∀ j,(128:Nat) ^ j=2 ^ (7*j):=fun j=>by rw[Nat.pow_mul]
 have u:blen n<=7*(k+1):=by rw[gW,<- e];exact h1
 rcases h2 with h2|h2
 ·omega
 ·have l:¬ blen n<=7*k:=by rw[gW,<- e];omega
  omega
theorem jb:∀ m,m<256->([0,1,2,2,3,3,3,3,4,4,4,4,4,4,4,4,5,5,5,5,5,5,5,5,5,5,5,5,5,5,5,5,6,6,6,6,6,6,6,6,6,6,6,6,6,6,6,6,6,6,6,6,6,6,6,6,6,6,6,6,6,6,6,6,7,7,7,7,7,7,7,7,7,7,7,7,7,7,7,7,7,7,7,7,7,7,7,7,7,7,7,7,7,7,7,7,7,7,7,7,7,7,7,7,7,7,7,7,7,7,7,7,7,7,7,7,7,7,7,7,7,7,7,7,7,7,7,7,8,8,8,8,8,8,8,8,8,8,8,8,8,8,8,8,8,8,8,8,8,8,8,8,8,8,8,8,8,8,8,8,8,8,8,8,8,8,8,8,8,8,8,8,8,8,8,8,8,8,8,8,8,8,8,8,8,8,8,8,8,8,8,8,8,8,8,8,8,8,8,8,8,8,8,8,8,8,8,8,8,8,8,8,8,8,8,8,8,8,8,8,8,8,8,8,8,8,8,8,8,8,8,8,8,8,8,8,8,8,8,8,8,8,8,8,8,8,8,8,8,8,8,8,8,8,8,8]:List UInt8)[m]?=some (UInt8.ofNat (blen m)):=by decide +kernel
theorem Di {m:Nat} (h:m<256):(UInt8.ofNat (blen m)).toNat=blen m:=by
 have:=(gW m 8).2 h;simp;omega
theorem tW (k k':IntKind) (a n:Nat) (hn:n<=k.bits):dy .shr (.i k ((a:Nat):Int)) (.i k' ((n:Nat):Int))=some (.i k ((a / 2 ^ n:Nat):Int)):=by
 simp only[dy];rw[if_neg (by omega),Int.toNat_natCast,Nat.min_eq_left hn]
 have:=B6 a (2 ^ n);rw[show((2 ^ n:Nat):Int)=(2:Int) ^ n by simp] at this
 rw[this]
theorem iQ (a:Nat) (k':IntKind):dy .shr (.i .u64 ((a:Nat):Int)) (.i k' 32)=some (.i .u64 ((a / 4294967296:Nat):Int)):=tW .u64 k' a 32 (by decide)
theorem i6 (a:Nat) (k':IntKind):dy .shr (.i .u64 ((a:Nat):Int)) (.i k' 16)=some (.i .u64 ((a / 65536:Nat):Int)):=tW .u64 k' a 16 (by decide)
theorem kK (a:Nat) (k':IntKind):dy .shr (.i .u64 ((a:Nat):Int)) (.i k' 8)=some (.i .u64 ((a / 256:Nat):Int)):=tW .u64 k' a 8 (by decide)
theorem SA:∀ a,a<256->(BitVec.ofNat 8 a ||| 128#8).toNat=128+a % 128:=by decide +kernel
theorem Pf:∀ a,a<256->(BitVec.ofNat 8 a &&& 127#8).toNat=a % 128:=by decide +kernel
theorem WH (a:Nat):dy .or (.i .u8 ((a % 256:Nat):Int)) (.i .u8 128)=some (.i .u8 ((128+a % 128:Nat):Int)):=by
 simp only[dy,ne_eq,not_true_eq_false,if_false];have h1:BitVec.ofInt 8 ((a % 256:Nat):Int)=BitVec.ofNat 8 (a % 256):=by
  apply BitVec.eq_of_toNat_eq;simp;omega
 rw[show IntKind.u8.bits=8 from rfl,h1,show BitVec.ofInt 8 128=128#8 from rfl,SA _ (by omega),jI]
 congr 3;omega
theorem Rp (a:Nat) (h:a<256):dy .and (.i .u8 ((a:Nat):Int)) (.i .u8 127)=some (.i .u8 ((a % 128:Nat):Int)):=by
 simp only[dy,ne_eq,not_true_eq_false,if_false];have h1:BitVec.ofInt 8 ((a:Nat):Int)=BitVec.ofNat 8 a:=by
  apply BitVec.eq_of_toNat_eq;simp
 rw[show IntKind.u8.bits=8 from rfl,h1,show BitVec.ofInt 8 127=127#8 from rfl,Pf _ h,jI]
 congr 3;omega
theorem UT (a b n:Nat) (ha:a<2 ^ n) (hb:b*2 ^ n+a<9223372036854775808):dy .or (.i .i64 ((a:Nat):Int)) (.i .i64 ((b*2 ^ n:Nat):Int))=some (.i .i64 ((a+b*2 ^ n:Nat):Int)):=by
 simp only[dy,ne_eq,not_true_eq_false,if_false];have h1:∀ x:Nat,x<9223372036854775808->BitVec.ofInt 64 ((x:Nat):Int)=BitVec.ofNat 64 x:=by
  intro x hx;apply BitVec.eq_of_toNat_eq;simp
 rw[show IntKind.i64.bits=64 from rfl,h1 _ (by omega),h1 _ (by omega)]
 have h2:(BitVec.ofNat 64 a ||| BitVec.ofNat 64 (b*2 ^ n)).toNat=a+b*2 ^ n:=by
  rw[BitVec.toNat_or,BitVec.toNat_ofNat,BitVec.toNat_ofNat,Nat.mod_eq_of_lt (by omega),Nat.mod_eq_of_lt (by omega),Nat.or_comm,<- Nat.shiftLeft_eq,<- Nat.shiftLeft_add_eq_or_of_lt ha,Nat.add_comm]
 rw[h2,ir (by omega)]
def AH (n k i:Nat):Nat:=if i<k then 128+n / 128 ^ i % 128 else 0
def putR (n m k:Nat):List (List D):=(List.range m).map fun i=>[D.i .u8 ((AH n k i:Nat):Int)]
theorem lJ (n m k:Nat):(putR n m k).length=m:=by simp[putR]
theorem xy (n m:Nat):putR n m 0=List.replicate m [D.i .u8 0]:=by
 apply List.ext_getElem?;intro i;simp only[putR,List.getElem?_map,List.getElem?_replicate];by_cases h:i<m
 ·rw[List.getElem?_range h];simp[AH,h]
 ·rw[List.getElem?_eq_none (by simpa using h),if_neg h];rfl
theorem lH (n m k i:Nat) (h:i<m):(putR n m k)[i]?=some [D.i .u8 ((AH n k i:Nat):Int)]:=by
 simp only[putR,List.getElem?_map,List.getElem?_range h,Option.map_some]
theorem JD (n m k:Nat) (h:k<m):(putR n m k).set k [D.i .u8 ((128+n / 128 ^ k % 128:Nat):Int)]=putR n m (k+1):=by
 apply List.ext_getElem?;intro i;rw[List.getElem?_set,lJ];by_cases hi:k=i
 ·subst hi;rw[if_pos rfl,if_pos h,lH _ _ _ _ h];simp[AH]
 ·rw[if_neg hi];rcases Nat.lt_or_ge i m with him|him
  ·rw[lH _ _ _ _ him,lH _ _ _ _ him];have e:(i<k)=(i<k+1):=by rw[eq_iff_iff];omega
   simp only[AH,e]
  ·rw[List.getElem?_eq_none (by rw[lJ];exact him),List.getElem?_eq_none (by rw[lJ];exact him)]
theorem GQ (n k:Nat) (h:nd n=k+1):(putR n (k+1) (k+1)).set k [D.i .u8 ((n / 128 ^ k:Nat):Int)]=ay (ah n):=by
 have hlt:n / 128 ^ k<128:=by
  have:=((gh k n).1 h).1;rw[Nat.div_lt_iff_lt_mul (Nat.pow_pos (by decide))]
  rwa [Nat.pow_succ,Nat.mul_comm] at this
 rw[ma k n h];simp only[ay,List.map_append,List.map_map,List.map_cons,List.map_nil];apply List.ext_getElem?;intro i;rw[List.getElem?_set,lJ,List.getElem?_append];simp only[List.length_map,List.length_range];by_cases hi:k=i
 ·subst hi;rw[if_pos rfl,if_pos (by omega),if_neg (by omega),Nat.sub_self,List.getElem?_cons_zero,dF (by omega)]
 ·rw[if_neg hi];rcases Nat.lt_or_ge i k with hik|hik
  ·rw[if_pos hik,lH _ _ _ _ (by omega)]
   simp only[List.getElem?_map,List.getElem?_range hik,Option.map_some,Function.comp,AH,if_pos (by omega:i<k+1)]
   congr 3
   have:n / 128 ^ i % 128<128:=Nat.mod_lt _ (by decide)
   rw[dF (by omega)]
  ·rw[if_neg (by omega),List.getElem?_eq_none (by rw[lJ];omega),List.getElem?_eq_none (by simp;omega)]
def G5 (p:List UInt8):Prop:=∀ c∈p,128<=c.toNat
theorem uo:∀ (p:List UInt8) (c:UInt8),G5 p->c.toNat<128->pY (p++[c])=true
 | [],c,_,h=>by simp[pY,h]
 | [d],c,hp,h=>by
  have:=hp d (List.mem_cons_self ..);simp[pY,h,this]
 | d::e::r,c,hp,h=>by
  have h1:=hp d (List.mem_cons_self ..);have ih:=uo (e::r) c (fun x hx=>hp x (List.mem_cons_of_mem _ hx)) h
  simp only[List.cons_append] at ih ⊢;simp only[pY,h1,decide_true,Bool.true_and];exact ih
theorem pN:∀ (p:List UInt8) (c:UInt8),val (p++[c])=val p+c.toNat % 128*128 ^ p.length
 | [],c=>by simp[val]
 | d::r,c=>by
  simp only[List.cons_append,val,pN r c,List.length_cons,Nat.pow_succ];rw[Nat.mul_add,Nat.mul_comm (128 ^ r.length) 128,Nat.add_assoc];congr 2
  rw[<- Nat.mul_assoc,<- Nat.mul_assoc,Nat.mul_comm 128]
theorem Ig:∀ (p:List UInt8),val p<128 ^ p.length
 | []=>by simp[val]
 | d::r=>by
  have ih:=Ig r;simp only[val,List.length_cons,Nat.pow_succ];have:d.toNat % 128<128:=Nat.mod_lt _ (by decide)
  omega
theorem Aw (p:List UInt8) (c:UInt8) (hp:G5 p) (hc:c.toNat<128):ah (val p+c.toNat*128 ^ p.length)=p++[c]↔¬ (c.toNat=0∧0<p.length):=by
 have h:=z8 (p++[c]) (uo p c hp hc);rw[pN,Nat.mod_eq_of_lt hc] at h;rw[h];simp
theorem Iu (s:List UInt8) (a i:Nat) (h:a+i<s.length):(s.take (a+i+1)).drop a=(s.take (a+i)).drop a++[s[a+i]]:=by
 rw[gd s (a+i) h,List.drop_append_of_le_length (by simp;omega)]
theorem Ml (s:List UInt8) (a i:Nat) (h:a+i<=s.length):((s.take (a+i)).drop a).length=i:=by simp;omega
theorem Eo:∀ (l p:List UInt8) (n k:Nat),G5 p->p.length<=9->kA l p.length (val p)=some (n,k)->p.length<k∧k<=p.length+l.length∧k<=9∧p++l.take (k-p.length)=ah n
 | [],p,n,k,_,_,h=>by cases h
 | c::l,p,n,k,hp,h9,h=>by
  simp only[kA] at h;split at h
  ·cases h
  ·split at h
   ·rename_i hn9 hc;have hb:G5 (p++[c]):=by
     intro x hx;rcases List.mem_append.1 hx with hx|hx
     ·exact hp x hx
     ·simp at hx;subst hx;exact hc
    have hv:val (p++[c])=val p+c.toNat % 128*128 ^ p.length:=pN p c;have hl:(p++[c]).length=p.length+1:=by simp
    have ih:=Eo l (p++[c]) n k hb (by omega) (by rw[hl,hv];exact h)
    rw[hl] at ih;obtain⟨i1,i2,i3,i4⟩:=ih;refine⟨by omega,by simp only[List.length_cons];omega,i3,?_⟩
    rw[<- i4,List.append_assoc];congr 1
    rw[show k-p.length=(k-(p.length+1))+1 by omega,List.take_succ_cons]
    rfl
   ·rename_i hn9 hc;split at h
    ·cases h
    ·rename_i h0;simp only[Option.some.injEq,Prod.mk.injEq] at h;obtain⟨h1,h2⟩:=h;have:=(Aw p c hp (by omega)).2 h0
     refine⟨by omega,by simp only[List.length_cons];omega,by omega,?_⟩
     rw[<- h2,<- h1,this,Nat.add_sub_cancel_left];simp
theorem fA {l:List UInt8} {n k:Nat} (h:kA l 0 0=some (n,k)):0<k∧k<=l.length∧k<=9∧l.take k=ah n:=by
 have:=Eo l [] n k (fun c hc=>by cases hc) (by decide) h
 simpa using this
theorem JK:∀ (r:List UInt8) (m i acc:Nat),i+nd m<=9->kA (ah m++r) i acc=if m=0∧0<i then none else some (acc+m*128 ^ i,i+nd m)
 | r,m,i,acc,h=>by
  by_cases hm:m<128
  ·rw[jH hm,jR hm] at *;have h1:(UInt8.ofNat m).toNat=m:=dF (by omega)
   simp only[List.cons_append,List.nil_append,kA,h1];rw[if_neg (by omega),if_neg (by omega)]
  ·have hq:m / 128<m:=by omega
   rw[oT hm] at h;have ih:=JK r (m / 128) (i+1) (acc+m % 128*128 ^ i) (by omega)
   have h1:(UInt8.ofNat (128+m % 128)).toNat=128+m % 128:=dF (by omega)
   rw[qB hm];simp only[List.cons_append,kA,h1];have hp:=gt (m / 128);rw[if_neg (by omega),if_pos (by omega)]
   have e:(128+m % 128) % 128=m % 128:=by omega
   rw[e,ih,if_neg (by omega),if_neg (by omega),oT hm]
   have e2:acc+m % 128*128 ^ i+m / 128*128 ^ (i+1)=acc+m*128 ^ i:=by
    rw[Nat.pow_succ,Nat.mul_comm (128 ^ i) 128,<- Nat.mul_assoc,Nat.add_assoc,<- Nat.add_mul];congr 2;omega
   rw[e2];congr 2;omega
termination_by r m=>m
theorem kN (m:Nat) (r:List UInt8) (h:m<9223372036854775808):kA (ah m++r) 0 0=some (m,nd m):=by
 rw[JK r m 0 0 (by have:=eC h;omega),if_neg (by omega)];simp
def jZ (n:Nat):Bool:=decide (1<=n) && decide (n<=65536)
def aJ (b:List UInt8):List UInt8:=ah b.length++dN (cr 0#32 (ah b.length++b))++b
def jW (l:List UInt8):Bool:=decide (l.length<=8) && l.all fun c=>decide (128<=c.toNat)
def B5 (n:Int):Int:=if 1<=n∧n<=65536 then nd n.toNat+4+n else 0
def dV (s:List UInt8) (a:Nat):List UInt8 × Nat × Int :=
 if s.length<=a∨jW (s.drop a)=true then([],0,2)
 else match kA (s.drop a) 0 0 with
  | none=>([],0,3)
  | some (n,k)=>if jZ n=false then([],0,3)
   else if s.length<a+k+4+n then([],0,2)
   else if dN (cr 0#32 (ah n++(s.take (a+k+4+n)).drop (a+k+4)))=(s.take (a+k+4)).drop (a+k) then((s.take (a+k+4+n)).drop (a+k+4),a+k+4+n,0)
   else([],0,4)
theorem lu {s:List UInt8} {a n k:Nat} (h:kA (s.drop a) 0 0=some (n,k)):(s.take (a+k)).drop a=ah n∧a+k<=s.length∧0<k∧k<=9:=by
 obtain⟨h1,h2,h3,h4⟩:=fA h;have hl:(s.drop a).length=s.length-a:=by simp
 rw[List.drop_take];rw[show a+k-a=k by omega]
 exact⟨h4,by omega,h1,h3⟩
theorem d9 (x:jn):(dN x).length=4:=rfl
theorem gu (b:List UInt8):(aJ b).length=nd b.length+4+b.length:=by
 simp only[aJ,List.length_append,d9];rfl
theorem BC {m:Nat} (r:List UInt8) (h:m<9223372036854775808):jW (ah m++r)=false:=by
 have hs:∃ c∈ah m,c.toNat<128:=by
  have hp:=gt m;obtain⟨k,hk⟩:∃ k,nd m=k+1:=⟨nd m-1,by omega⟩
  have hr:=((gh k m).1 hk).1;rw[ma k m hk];have hlt:m / 128 ^ k<128:=by
   rw[Nat.div_lt_iff_lt_mul (Nat.pow_pos (by decide))]
   rwa [Nat.pow_succ,Nat.mul_comm] at hr
  exact⟨_,List.mem_append_right _ (List.mem_singleton.2 rfl),by rw[dF (by omega)];exact hlt⟩
 obtain⟨c,hc,h1⟩:=hs;have:(ah m++r).all (fun c=>decide (128<=c.toNat))=false:=by
  rw[List.all_eq_false];exact⟨c,List.mem_append_left _ hc,by simp;omega⟩
 simp[jW,this]
theorem zc {m i:Nat} (h:i+1<nd m):∀ c,(ah m)[i]?=some c->128<=c.toNat:=by
 intro c hc;obtain⟨k,hk⟩:∃ k,nd m=k+1:=⟨nd m-1,by omega⟩
 rw[ma k m hk,List.getElem?_append_left (by simp;omega),List.getElem?_map,List.getElem?_range (by omega)] at hc
 simp only[Option.map_some,Option.some.injEq] at hc;rw[<- hc,dF (by have:=Nat.mod_lt (m / 128 ^ i) (by decide:0<128);omega)]
 omega
theorem E9 {α:Type} (p r:List α):(p++r).drop p.length=r:=by simp
theorem Em {α:Type} (p q r:List α) (n:Nat) (h:n=p.length+q.length):((p++(q++r)).take n).drop p.length=q:=by
 subst h;simp[List.take_append]
theorem sN (p b r:List UInt8) (h1:1<=b.length) (h2:b.length<=65536):dV (p++(aJ b++r)) p.length=(b,p.length+(aJ b).length,0):=by
 have hd:(p++(aJ b++r)).drop p.length=ah b.length++(dN (cr 0#32 (ah b.length++b))++b++r):=by
  rw[E9];simp only[aJ,List.append_assoc]
 have hl:=gu b;have hn:=gt b.length;unfold dV;rw[hd,if_neg,kN _ _ (by omega)]
 ·dsimp only
  have hf:jZ b.length=true:=by simp[jZ,h1,h2]
  rw[if_neg (by rw[hf];decide),if_neg (by simp;omega)]
  have hs:p++(aJ b++r)=(p++ah b.length)++(dN (cr 0#32 (ah b.length++b))++(b++r)):=by simp only[aJ,List.append_assoc]
  have hs2:p++(aJ b++r)=(p++ah b.length++dN (cr 0#32 (ah b.length++b)))++(b++r):=by simp only[aJ,List.append_assoc]
  have l1:(p++ah b.length).length=p.length+nd b.length:=by simp[nd]
  have l2:(p++ah b.length++dN (cr 0#32 (ah b.length++b))).length=p.length+nd b.length+4:=by rw[List.length_append,l1,d9]
  have t1:((p++(aJ b++r)).take (p.length+nd b.length+4+b.length)).drop (p.length+nd b.length+4)=b:=by
   rw[hs2,<- l2];exact Em _ b r _ rfl
  have t2:((p++(aJ b++r)).take (p.length+nd b.length+4)).drop (p.length+nd b.length)=dN (cr 0#32 (ah b.length++b)):=by
   rw[hs,<- l1];exact Em _ _ _ _ (by rw[d9])
  rw[t1,t2,if_pos rfl,hl];congr 2;omega
 ·rw[BC _ (by omega)]
  simp only[List.length_append,hl];simp;omega
theorem FO (p b:List UInt8) (m:Nat) (h1:1<=b.length) (h2:b.length<=65536) (hm:0<m) (hm2:m<(aJ b).length):dV (p++(aJ b).take m) p.length=([],0,2):=by
 have hl:=gu b;have hlm:((aJ b).take m).length=m:=by simp;omega
 unfold dV;rw[E9];have h9:=eC (n:=b.length) (by omega)
 rcases Nat.lt_or_ge m (nd b.length) with hk|hk
 ·have ho:jW ((aJ b).take m)=true:=by
   unfold jW;rw[hlm,decide_eq_true (by omega),Bool.true_and,List.all_eq_true]
   intro c hc;obtain⟨i,hi,rfl⟩:=List.getElem_of_mem hc;rw[hlm] at hi;rw[decide_eq_true_eq];refine zc (m:=b.length) (i:=i) (by omega) _ ?_
   have e:(aJ b)[i]?=(ah b.length)[i]?:=by
    unfold aJ;rw[List.append_assoc,List.getElem?_append_left (by show i<nd b.length;omega)]
   rw[<- e,List.getElem_take];simp
  rw[if_pos (.inr ho)]
 ·have hsp:(aJ b).take m=ah b.length++(dN (cr 0#32 (ah b.length++b))++b).take (m-nd b.length):=by
   unfold aJ;rw[List.append_assoc,List.take_append,List.take_of_length_le (by show nd b.length<=m;exact hk)]
   rfl
  rw[hsp,if_neg,kN _ _ (by omega)]
  ·dsimp only
   have hf:jZ b.length=true:=by simp[jZ,h1,h2]
   rw[if_neg (by rw[hf];decide),if_pos]
   rw[List.length_append,<- hsp,hlm];omega
  ·rw[BC _ (by omega),List.length_append,<- hsp,hlm]
   simp;omega
theorem pE {s t:List UInt8} {a n:Nat} (h:dV s a=(t,n,0)):a<n∧n<=s.length:=by
 unfold dV at h;split at h
 ·simp at h
 ·split at h
  ·simp at h
  ·rename_i m k hr;obtain⟨_,q2,q3,_⟩:=lu hr;split at h
   ·simp at h
   ·split at h
    ·simp at h
    ·split at h
     ·simp only[Prod.mk.injEq] at h;omega
     ·simp at h
theorem xr (b:List UInt8):0<(aJ b).length:=by rw[gu];have:=gt b.length;omega
theorem IV (x:jn):x.toNat=(dN x)[0]!.toNat+256*(dN x)[1]!.toNat+65536*(dN x)[2]!.toNat+16777216*(dN x)[3]!.toNat:=by
 have hx:=x.isLt;have e0:(dN x)[0]!.toNat=x.toNat % 256:=by simp[dN]
 have e1:(dN x)[1]!.toNat=x.toNat / 256 % 256:=by
  show(UInt8.ofNat (x >>> 8).toNat).toNat=_;rw[BitVec.toNat_ushiftRight,Nat.shiftRight_eq_div_pow];simp
 have e2:(dN x)[2]!.toNat=x.toNat / 65536 % 256:=by
  show(UInt8.ofNat (x >>> 16).toNat).toNat=_;rw[BitVec.toNat_ushiftRight,Nat.shiftRight_eq_div_pow];simp
 have e3:(dN x)[3]!.toNat=x.toNat / 16777216 % 256:=by
  show(UInt8.ofNat (x >>> 24).toNat).toNat=_;rw[BitVec.toNat_ushiftRight,Nat.shiftRight_eq_div_pow];simp
 rw[e0,e1,e2,e3];omega
set_option linter.defProp false
theorem L.pure_of {x:L} (h:x.refs=[]):x.pure=true:=by
 cases x <;> first|rfl|(simp[L.refs] at h;done)|(simp only[L.refs] at h;subst h;rfl)
theorem Ls.pure_of {xs:List L} (h:xs.flatMap L.refs=[]):xs.all L.pure=true:=by
 rw[List.all_eq_true];intro x hx;refine L.pure_of ?_;rw[List.flatMap_eq_nil_iff] at h;exact h x hx
theorem V.pure_of {v:V} (h:v.refs=[]):v.pure=true:=by
 cases v with
 | one x=>exact L.pure_of h
 | agg xs=>exact Ls.pure_of h
 | any=>rfl
 | tup xs =>
  simp only[V.pure,List.all_eq_true];intro c hc;have:=(List.flatMap_eq_nil_iff.1 h) c hc;exact fun x hx=>(List.all_eq_true.1 (Ls.pure_of this)) x hx
theorem cA (fr:Fr):aB fr []=[]:=Eq.trans rfl rfl
theorem aN {N n:Nat} {f:Fn} (l:List Nat) (h:n<N):aB (aa N f) (n::l)=(f n).refs++aB (aa N f) l:=by
 simp only[aB,List.flatMap_cons,cd h]
theorem Uk {N n:Nat} {f:Fn} (h:n<N):xk (aa N f) (.t n)=bif (f n).refs.isEmpty then 0 else 1:=by
 simp only[xk,vj,qk h]
theorem TA (fr:Fr) (v:V):xk fr (.c v)=bif v.refs.isEmpty then 0 else 2:=rfl
def eO (H:Hp):Option (V × Hp)->Option (V × Hp)
 | none=>none
 | some (r,H1)=>some (r.ren (ct [] H.length H1.length),H++H1.map (Box.ren (ct [] H.length H1.length)))
theorem slot_pure {fr:Fr} {l:List Nat} (h:aB fr l=[]) {t:Nat} (ht:t∈l) {v:V} (hv:fr[t]?=some v):v.pure=true:=by
 refine V.pure_of ?_;have:=(List.flatMap_eq_nil_iff.1 h) t ht;rwa [hv] at this
theorem iso_pure {φ:cI} {o:AOp} {fr:Fr} {H:Hp} (h:aB fr o.slots=[]):aY φ o fr H=eO H (o.a.run φ fr []):=by
 have hi:aM o fr H=[]:=by rw[aM,h];rfl
 have hr:o.a.run φ ((bf o.slots fr).map (V.ren (aG []))) []=o.a.run φ fr []:=by
  refine rD fun t ht=>?_
  have ht':t∈o.slots:=by simp only[AOp.slots,List.mem_append];exact .inl ht
  rw[List.getElem?_map,bn ht'];cases hv:fr[t]? with
  | none=>rfl
  | some v=>simp only[Option.map_some,V.pure_ren (slot_pure h ht' hv)]
 simp only[aY,hi,aw,List.map_nil,hr];cases o.a.run φ fr [] with
 | none=>rfl
 | some q=>obtain⟨r,H1⟩:=q;simp[eO,cu]
theorem DB {H:Hp} {r:V} (h:r.pure=true):eO H (some (r,[]))=some (r,H):=by
 simp only[eO,V.pure_ren h,List.map_nil,List.append_nil]
theorem xN {H:Hp} {xs:List L} (h:xs.all L.pure=true):eO H (some (.one (.p 0 0),[.cells xs]))=some (.one (.p H.length 0),H++[.cells xs]):=by
 simp[eO,V.ren,L.ren,ct,Box.ren,Ls.pure_ren h]
theorem D8 {H:Hp} {sz n s f:Nat} {rows:List (List D)}:eO H (some (.one (.sl 0 sz 0 n),[.arr s rows f]))=some (.one (.sl H.length sz 0 n),H++[.arr s rows f]):=by
 simp[eO,V.ren,L.ren,ct,Box.ren]
theorem BF {H:Hp} {sz n s f:Nat} {rows:List (List D)}:eO H (some (.one (.sl 1 sz 0 n),[.dead,.arr s rows f]))=some (.one (.sl (H.length+1) sz 0 n),H++[.dead,.arr s rows f]):=by
 simp[eO,V.ren,L.ren,ct,Box.ren]
theorem nR {H:Hp} {i:Nat} {b:Box} (hb:H[i]?=some b) (ha:alive b=true) (hr:b.refs=[]):aI H [i]=[i]:=by
 have:∀ n,aD H (n+1) [i] []=[i]:=by
  intro n;cases b with
  | dead=>cases ha
  | cells xs =>
   rw[ni H n i [] [] hb];have:xs.flatMap L.refs=[]:=hr;rw[this];cases n <;> rfl
  | arr sz rows fz=>rw[rY H n i [] [] hb];cases n <;> rfl
  | mp rows=>rw[uI H n i [] [] hb];cases n <;> rfl
 exact this 999
def pX (g:Option (Nat × Bool)):List Nat:=match g with|some (t,_)=>[t]|none=>[]
theorem EH {H:Hp} {i j:Nat} {b c:Box} (hij:i≠j) (hb:H[i]?=some b) (ha:alive b=true) (hr:b.refs=[]) (hb2:H[j]?=some c) (ha2:alive c=true) (hr2:c.refs=[]):aI H [i,j]=[i,j]:=by
 have step:∀ (n k:Nat) (todo seen:List Nat) (x:Box),H[k]?=some x->alive x=true->x.refs=[]->aD H (n+1) (k::todo) seen=if seen.contains k then aD H n todo seen else aD H n todo (seen++[k]):=by
  intro n k todo seen x hx hax hrx;cases x with
  | dead=>cases hax
  | cells xs=>rw[ni H n k todo seen hx];have:xs.flatMap L.refs=[]:=hrx;rw[this];rfl
  | arr sz rows fz=>rw[rY H n k todo seen hx]
  | mp rows=>rw[uI H n k todo seen hx]
 have e:aI H [i,j]=aD H (998+1+1) [i,j] []:=rfl;rw[e,step _ i _ _ b hb ha hr,if_neg (by simp),step _ j _ _ c hb2 ha2 hr2,if_neg (by simp[Ne.symm hij])]
 rfl
theorem Mr {φ:cI} {d:Option Nat} {g:Option (Nat × Bool)} {p:List Nat} {str:Bool} {sz bytes s b z n z' fz N:Nat} {x:X} {xv:L} {rows:List (List D)} {f:Fn} {H:Hp} (hN:s<N) (hs:f s=.one (.sl b z 0 n)) (hx:x.ev (aa N f)=some (.one xv)) (hp:xv.refs=[])
  (hg:aB (aa N f) (pX g)=[]) (hH:H[b]?=some (.arr z' rows fz)) :
  aY φ ⟨d,.app str sz bytes (.t s) x,g,p,false⟩ (aa N f) H=(A.app str sz bytes (.t s) x).run φ (aa N f) H∧aM ⟨d,.app str sz bytes (.t s) x,g,p,false⟩ (aa N f) H=[b]:=by
 have hxs:aB (aa N f) x.slot=[]:=by
  cases x with
  | t y =>
   simp only[X.ev] at hx;simp only[X.slot,aB,List.flatMap_cons,List.flatMap_nil,hx,V.refs,hp,List.append_nil]
  | c v=>rfl
 have hsl:aB (aa N f) (AOp.slots ⟨d,.app str sz bytes (.t s) x,g,p,false⟩)=[b]:=by
  have e:AOp.slots ⟨d,.app str sz bytes (.t s) x,g,p,false⟩=[s]++(x.slot++[])++pX g:=rfl;rw[e,List.append_nil];have e2:aB (aa N f) ([s]++x.slot++pX g)=aB (aa N f) [s]++aB (aa N f) x.slot++aB (aa N f) (pX g):=by simp[aB]
  rw[e2,aN _ hN,cA,hxs,hg,hs];rfl
 have hi:aM ⟨d,.app str sz bytes (.t s) x,g,p,false⟩ (aa N f) H=[b]:=by
  rw[aM,hsl];exact nR hH rfl rfl
 refine⟨?_,hi⟩;have es:X.ev ((bf (AOp.slots ⟨d,.app str sz bytes (.t s) x,g,p,false⟩) (aa N f)).map (V.ren (aG [b]))) (.t s)=some (.one (.sl 0 z 0 n)):=by
  simp only[X.ev,List.getElem?_map];rw[bn (by simp[AOp.slots,A.xs,X.slot]),cd hN,hs]
  simp[V.ren,L.ren,ax]
 have ex:X.ev ((bf (AOp.slots ⟨d,.app str sz bytes (.t s) x,g,p,false⟩) (aa N f)).map (V.ren (aG [b]))) x=some (.one xv):=by
  cases x with
  | t y =>
   simp only[X.ev] at hx;simp only[X.ev,List.getElem?_map];rw[bn (by simp[AOp.slots,A.xs,X.slot]),hx]
   simp only[Option.map_some,V.pure_ren (V.pure_of (v:=.one xv) hp)]
  | c v=>exact hx
 have hc:aw H [b]=[.arr z' rows fz]:=by
  simp only[aw,List.map_cons,List.map_nil,List.getD,hH,Option.getD_some,Box.ren]
 have hrow:∀ H2:Hp,cO H2 sz xv=cO [] sz xv:=fun H2=>lz hp
 have es0:X.ev (aa N f) (.t s)=some (.one (.sl b z 0 n)):=by rw[qk hN,hs]
 simp only[aY,hi,hc,A.run,es,ex,es0,hx,hrow,List.getElem?_cons_zero,hH];cases str with
 | false =>
  simp only[cond_false];cases cO [] sz xv with
  | none=>rfl
  | some news =>
   simp only;by_cases h:((z'=sz∨(z'=0∧sz=1))∧n=rows.length∧(rows.length+news.length)*bytes<=140737488355328∧rows.length+news.length<=9223372036854775807∧aV sz news=true)
   ·simp only[if_pos h];simp[V.ren,L.ren,ct,Box.ren,cu]
   ·simp only[if_neg h]
 | true =>
  simp only[cond_true];cases xv with
  | d x =>
   cases x with
   | s l =>
    simp only;by_cases h:((z'=sz∨(z'=0∧sz=1))∧n=rows.length∧(rows.length+(ay l).length)*bytes<=140737488355328∧rows.length+(ay l).length<=9223372036854775807∧aV sz (ay l)=true)
    ·simp only[if_pos h];simp[V.ren,L.ren,ct,Box.ren,cu]
    ·simp only[if_neg h]
   | _=>rfl
  | _=>rfl
theorem HY {φ:cI} {d:Option Nat} {g:Option (Nat × Bool)} {p:List Nat} {sz bytes s b z n z' fz N y b2 z2 o2 n2 z3 fz2:Nat} {rows rows2:List (List D)} {f:Fn} {H:Hp} (hN:s<N∧y<N) (hs:f s=.one (.sl b z 0 n)) (hy:f y=.one (.sl b2 z2 o2 n2)) (hb:b≠b2)
  (hg:aB (aa N f) (pX g)=[]) (hH:H[b]?=some (.arr z' rows fz)) (hH2:H[b2]?=some (.arr z3 rows2 fz2)) :
  aY φ ⟨d,.app false sz bytes (.t s) (.t y),g,p,false⟩ (aa N f) H=(A.app false sz bytes (.t s) (.t y)).run φ (aa N f) H∧aM ⟨d,.app false sz bytes (.t s) (.t y),g,p,false⟩ (aa N f) H=[b,b2]:=by
 have hsl:aB (aa N f) (AOp.slots ⟨d,.app false sz bytes (.t s) (.t y),g,p,false⟩)=[b,b2]:=by
  have e:AOp.slots ⟨d,.app false sz bytes (.t s) (.t y),g,p,false⟩=[s,y]++pX g:=rfl;rw[e];have e2:aB (aa N f) ([s,y]++pX g)=aB (aa N f) [s,y]++aB (aa N f) (pX g):=by simp[aB]
  rw[e2,aN _ hN.1,aN _ hN.2,cA,hg,hs,hy];rfl
 have hi:aM ⟨d,.app false sz bytes (.t s) (.t y),g,p,false⟩ (aa N f) H=[b,b2]:=by
  rw[aM,hsl];exact EH hb hH rfl rfl hH2 rfl rfl
 refine⟨?_,hi⟩;have es:X.ev ((bf (AOp.slots ⟨d,.app false sz bytes (.t s) (.t y),g,p,false⟩) (aa N f)).map (V.ren (aG [b,b2]))) (.t s)=some (.one (.sl 0 z 0 n)):=by
  simp only[X.ev,List.getElem?_map];rw[bn (by simp[AOp.slots,A.xs,X.slot]),cd hN.1,hs]
  simp[V.ren,L.ren,ax]
 have ex:X.ev ((bf (AOp.slots ⟨d,.app false sz bytes (.t s) (.t y),g,p,false⟩) (aa N f)).map (V.ren (aG [b,b2]))) (.t y)=some (.one (.sl 1 z2 o2 n2)):=by
  simp only[X.ev,List.getElem?_map];rw[bn (by simp[AOp.slots,A.xs,X.slot]),cd hN.2,hy]
  simp[V.ren,L.ren,ax,hb]
 have hc:aw H [b,b2]=[.arr z' rows fz,.arr z3 rows2 fz2]:=by
  simp only[aw,List.map_cons,List.map_nil,List.getD,hH,hH2,Option.getD_some,Box.ren]
 have es0:X.ev (aa N f) (.t s)=some (.one (.sl b z 0 n)):=by rw[qk hN.1,hs]
 have ex0:X.ev (aa N f) (.t y)=some (.one (.sl b2 z2 o2 n2)):=by rw[qk hN.2,hy]
 simp only[aY,hi,hc,A.run,es,ex,es0,ex0,cO,List.getElem?_cons_zero,List.getElem?_cons_succ,hH,hH2,cond_false];have e2:(H.set b Box.dead).set b2 (Box.arr z3 rows2 fz2)=H.set b Box.dead:=by
  apply List.ext_getElem?;intro k;by_cases hk:b2=k
  ·subst hk;have hlt:=(List.getElem?_eq_some_iff.1 hH2).1;rw[List.getElem?_set_self (by simpa using hlt),List.getElem?_set_ne hb,hH2]
  ·rw[List.getElem?_set_ne hk]
 by_cases h0:(z3=sz∨(z3=0∧sz=1)∨rows2=[])∧o2+n2<=rows2.length
 ·simp only[if_pos h0];by_cases h:((z'=sz∨(z'=0∧sz=1))∧n=rows.length∧(rows.length+((rows2.drop o2).take n2).length)*bytes<=140737488355328∧rows.length+((rows2.drop o2).take n2).length<=9223372036854775807∧aV sz ((rows2.drop o2).take n2)=true)
  ·simp only[if_pos h];simp[V.ren,L.ren,ct,Box.ren,cu,e2]
  ·simp only[if_neg h]
 ·simp only[if_neg h0]
theorem Hk {φ:cI} {d:Option Nat} {g:Option (Nat × Bool)} {p:List Nat} {sz bytes s b z n z' fz N y b2 z2 o2 n2 z3 fz2:Nat} {rows rows2:List (List D)} {f:Fn} {H:Hp} (hN:s<N∧y<N) (hs:f s=.one (.sl b z 0 n)) (hy:f y=.one (.sl b2 z2 o2 n2)) (hb:b≠b2)
  (hg:aB (aa N f) (pX g)=[]) (hH:H[b]?=some (.arr z' rows fz)) (hH2:H[b2]?=some (.arr z3 rows2 fz2)) :
  aY φ ⟨d,.app true sz bytes (.t s) (.t y),g,p,false⟩ (aa N f) H=(A.app true sz bytes (.t s) (.t y)).run φ (aa N f) H:=by
 have hsl:aB (aa N f) (AOp.slots ⟨d,.app true sz bytes (.t s) (.t y),g,p,false⟩)=[b,b2]:=by
  have e:AOp.slots ⟨d,.app true sz bytes (.t s) (.t y),g,p,false⟩=[s,y]++pX g:=rfl;rw[e];have e2:aB (aa N f) ([s,y]++pX g)=aB (aa N f) [s,y]++aB (aa N f) (pX g):=by simp[aB]
  rw[e2,aN _ hN.1,aN _ hN.2,cA,hg,hs,hy];rfl
 have hi:aM ⟨d,.app true sz bytes (.t s) (.t y),g,p,false⟩ (aa N f) H=[b,b2]:=by
  rw[aM,hsl];exact EH hb hH rfl rfl hH2 rfl rfl
 have es:X.ev ((bf (AOp.slots ⟨d,.app true sz bytes (.t s) (.t y),g,p,false⟩) (aa N f)).map (V.ren (aG [b,b2]))) (.t s)=some (.one (.sl 0 z 0 n)):=by
  simp only[X.ev,List.getElem?_map];rw[bn (by simp[AOp.slots,A.xs,X.slot]),cd hN.1,hs]
  simp[V.ren,L.ren,ax]
 have ex:X.ev ((bf (AOp.slots ⟨d,.app true sz bytes (.t s) (.t y),g,p,false⟩) (aa N f)).map (V.ren (aG [b,b2]))) (.t y)=some (.one (.sl 1 z2 o2 n2)):=by
  simp only[X.ev,List.getElem?_map];rw[bn (by simp[AOp.slots,A.xs,X.slot]),cd hN.2,hy]
  simp[V.ren,L.ren,ax,hb]
 have es0:X.ev (aa N f) (.t s)=some (.one (.sl b z 0 n)):=by rw[qk hN.1,hs]
 have ex0:X.ev (aa N f) (.t y)=some (.one (.sl b2 z2 o2 n2)):=by rw[qk hN.2,hy]
 simp only[aY,hi,A.run,es,ex,es0,ex0,cond_true]
theorem Nr (o:AOp) (fr:Fr) (H H1:Hp):touch 0 o fr H H1=⟨[],true,[]⟩:=rfl
theorem LX (o:AOp) (fr:Fr) (H H1:Hp):touch 1 o fr H H1=⟨aB fr o.slots,true,[]⟩:=rfl
theorem MX (d:Option Nat) (a:A) (g:Option (Nat × Bool)) (p:List Nat) (z:Bool) (fr:Fr) (H H1:Hp):touch 2 ⟨d,a,g,p,z⟩ fr H H1=⟨aM ⟨d,a,g,p,z⟩ fr H,PH a.isN H H1,List.range' H.length (H1.length-H.length)⟩:=rfl
theorem Sr (H H1:Hp):PH false H H1=false:=rfl
theorem RK (H H1:Hp) (h:H1.take H.length=H):PH true H H1=true:=by simp[PH,h]
theorem Jx (d:Option Nat) (a:A) (g:Option (Nat × Bool)) (p:List Nat) (z:Bool):AOp.slots ⟨d,a,g,p,z⟩=a.xs.flatMap X.slot++pX g:=rfl
theorem Is:pX none=[]:=rfl
theorem H9 (t:Nat) (w:Bool):pX (some (t,w))=[t]:=rfl
theorem Ql {α:Type} {φ:cI} {m:Nat} {K:Ex->Fr->Hp->Option α} {fr:Fr} {H:Hp} {st:List KI} {o:AOp} {e:Log} {r:List AOp} {lg lg':List Log} (h:HJ o e lg=true):T3 φ m K (HJ o e lg) r lg' fr H st=vI φ m K r lg' fr H st:=by rw[h];rfl
def eY (φ:cI) (o:AOp) (fr:Fr) (H:Hp):Option (V × Hp):=aY φ o fr H
theorem sx {ids:List Nat} {q d:Nat}:∀ {l:List Nat},(∀ r∈l,r∈ids)->∃ js,lh (aG ids) l=some js∧lh (ct ids q d) js=some l
 | [],_=>⟨[],rfl,rfl⟩
 | i::r,h=>by
  obtain⟨js,h1,h2⟩:=sx (q:=q) (d:=d) (l:=r) fun k hk=>h k (List.mem_cons_of_mem _ hk)
  obtain⟨j,hj⟩:∃ j,aG ids i=some j:=by
   cases hp:aG ids i with
   | some j=>exact⟨j,rfl⟩
   | none =>
    simp only[aG,List.findIdx?_eq_none_iff] at hp;have:=hp i (h i List.mem_cons_self);simp at this
  have hb:ct ids q d j=some i:=by
   have:=md hj;simp only[ct];rw[if_pos (List.getElem?_eq_some_iff.1 this).1,this]
  exact⟨j::js,by simp only[lh,hj,h1],by simp only[lh,hb,h2]⟩
theorem fp {ids:List Nat} {q d i:Nat} (h:i∈ids):∃ j,aG ids i=some j∧ct ids q d j=some i∧ids[j]?=some i:=by
 cases hp:aG ids i with
 | some j =>
  have:=md hp;refine⟨j,rfl,?_,this⟩;simp only[ct];rw[if_pos (List.getElem?_eq_some_iff.1 this).1,this]
 | none =>
  simp only[aG,List.findIdx?_eq_none_iff] at hp;have:=hp i h;simp at this
theorem L.ren_back {ids:List Nat} {q d:Nat} {x:L} (h:∀ r∈x.refs,r∈ids):(x.ren (aG ids)).ren (ct ids q d)=x:=by
 cases x with
 | p i o=>obtain⟨j,h1,h2,_⟩:=fp (q:=q) (d:=d) (h i (by simp[L.refs]));simp only[L.ren,h1,h2]
 | ap i k o=>obtain⟨j,h1,h2,_⟩:=fp (q:=q) (d:=d) (h i (by simp[L.refs]));simp only[L.ren,h1,h2]
 | sl i z o n=>obtain⟨j,h1,h2,_⟩:=fp (q:=q) (d:=d) (h i (by simp[L.refs]));simp only[L.ren,h1,h2]
 | f fn caps=>obtain⟨js,h1,h2⟩:=sx (q:=q) (d:=d) (l:=caps) h;simp only[L.ren,h1,h2]
 | y i k=>obtain⟨j,h1,h2,_⟩:=fp (q:=q) (d:=d) (h i (by simp[L.refs]));simp only[L.ren,h1,h2]
 | sp i k=>obtain⟨j,h1,h2,_⟩:=fp (q:=q) (d:=d) (h i (by simp[L.refs]));simp only[L.ren,h1,h2]
 | m i=>obtain⟨j,h1,h2,_⟩:=fp (q:=q) (d:=d) (h i (by simp[L.refs]));simp only[L.ren,h1,h2]
 | _=>rfl
theorem Ls.ren_back {ids:List Nat} {q d:Nat}:∀ {xs:List L},(∀ r∈xs.flatMap L.refs,r∈ids)->(xs.map (L.ren (aG ids))).map (L.ren (ct ids q d))=xs
 | [],_=>rfl
 | x::r,h=>by
  simp only[List.map_cons];rw[L.ren_back fun k hk=>h k (by rw[List.flatMap_cons];exact List.mem_append_left _ hk),Ls.ren_back fun k hk=>h k (by rw[List.flatMap_cons];exact List.mem_append_right _ hk)]
theorem Box.ren_back {ids:List Nat} {q d:Nat} {b:Box} (h:∀ r∈b.refs,r∈ids):(b.ren (aG ids)).ren (ct ids q d)=b:=by
 cases b with
 | cells xs=>simp only[Box.ren,Ls.ren_back h]
 | _=>rfl
theorem V.cs_ren (ρ:Nat->Option Nat) (v:V):(v.ren ρ).cs=v.cs.map fun xs=>xs.map (L.ren ρ):=by cases v <;> rfl
def T7 (n:Nat) (av:V) (cs:Option (List L)) (H:Hp) (ids:List Nat) (alt:Option (V × Hp)):Option (V × Hp):=match av,cs with
 | .one (.p i off),some ys=>(match H[i]? with
  | some (.cells xs)=>bif ids.contains i && ((ys.flatMap L.refs).all ids.contains && (ids.all (fun k=>(match H[k]? with|some b=>b.refs|none=>[]).all ids.contains) && (decide (ys.length=n) && decide (off+n<=xs.length)))) then some (.tup [],H.set i (.cells (xs.take off++ys++xs.drop (off+n)))) else alt
  | _=>alt)
 | _,_=>alt
theorem Rv {n i off:Nat} {ys:List L} {H:Hp} {ids:List Nat} {alt:Option (V × Hp)}:T7 n (.one (.p i off)) (some ys) H ids alt=(match H[i]? with
  | some (.cells xs)=>bif ids.contains i && ((ys.flatMap L.refs).all ids.contains && (ids.all (fun k=>(match H[k]? with|some b=>b.refs|none=>[]).all ids.contains) && (decide (ys.length=n) && decide (off+n<=xs.length)))) then some (.tup [],H.set i (.cells (xs.take off++ys++xs.drop (off+n)))) else alt
  | _=>alt):=rfl
theorem Kr {φ:cI} {d:Option Nat} {g:Option (Nat × Bool)} {p:List Nat} {n a v N:Nat} {f:Fn} {H:Hp} (hN:a<N∧v<N) :
  aY φ ⟨d,.st n (.t a) (.t v),g,p,false⟩ (aa N f) H=T7 n (f a) (f v).cs H (aI H (aB (aa N f) ([a,v]++pX g))) (eY φ ⟨d,.st n (.t a) (.t v),g,p,false⟩ (aa N f) H):=by
 unfold T7;split
 ·rename_i i off ys ha hv;split
  ·rename_i xs hb;generalize hc:(List.contains _ i && _)=cc;cases cc with
   | false=>rfl
   | true =>
    simp only[Bool.and_eq_true,decide_eq_true_eq,List.all_eq_true,List.contains_iff_mem] at hc;obtain⟨c1,c2,c3,c4,c5⟩:=hc;have hids:aM ⟨d,.st n (.t a) (.t v),g,p,false⟩ (aa N f) H=aI H (aB (aa N f) ([a,v]++pX g)):=rfl;obtain⟨hn,hal⟩:=iy H (aB (aa N f) ([a,v]++pX g));simp only[aY,hids,cond_true];generalize aI H (aB (aa N f) ([a,v]++pX g))=ids at *;obtain⟨j,j1,j2,j3⟩:=fp (q:=H.length) (d:=ids.length-ids.length) c1;have hjl:j<ids.length:=(List.getElem?_eq_some_iff.1 j3).1;have ea:X.ev ((bf (AOp.slots ⟨d,.st n (.t a) (.t v),g,p,false⟩) (aa N f)).map (V.ren (aG ids))) (.t a)=some (.one (.p j off)):=by
     simp only[X.ev,List.getElem?_map];rw[bn (by simp[AOp.slots,A.xs,X.slot]),cd hN.1,ha]
     simp only[Option.map_some,V.ren,L.ren,j1]
    have ev:X.ev ((bf (AOp.slots ⟨d,.st n (.t a) (.t v),g,p,false⟩) (aa N f)).map (V.ren (aG ids))) (.t v)=some ((f v).ren (aG ids)):=by
     simp only[X.ev,List.getElem?_map];rw[bn (by simp[AOp.slots,A.xs,X.slot]),cd hN.2]
     rfl
    have hcj:(aw H ids)[j]?=some (.cells (xs.map (L.ren (aG ids)))):=by
     simp only[aw,List.getElem?_map,j3,Option.map_some,List.getD,hb,Option.getD_some,Box.ren]
    have hrun:(A.st n (.t a) (.t v)).run φ ((bf (AOp.slots ⟨d,.st n (.t a) (.t v),g,p,false⟩) (aa N f)).map (V.ren (aG ids))) (aw H ids)=some (.tup [],(aw H ids).set j (.cells ((xs.map (L.ren (aG ids))).take off++ys.map (L.ren (aG ids))++(xs.map (L.ren (aG ids))).drop (off+n)))):=by
     simp only[A.run,ea,ev,V.cs_ren,hv,Option.map_some,hcj,List.length_map,c4,c5,and_self,if_true]
    have hcl:(aw H ids).length=ids.length:=by simp[aw]
    simp only[hrun,List.length_set,hcl,V.ren,List.map_nil,Option.some.injEq,Prod.mk.injEq,true_and];have hdr:List.drop ids.length ((aw H ids).set j (.cells ((xs.map (L.ren (aG ids))).take off++ys.map (L.ren (aG ids))++(xs.map (L.ren (aG ids))).drop (off+n))))=[]:=List.drop_eq_nil_of_le (by simp[hcl])
    have htk:List.take ids.length ((aw H ids).set j (.cells ((xs.map (L.ren (aG ids))).take off++ys.map (L.ren (aG ids))++(xs.map (L.ren (aG ids))).drop (off+n))))=(aw H ids).set j (.cells ((xs.map (L.ren (aG ids))).take off++ys.map (L.ren (aG ids))++(xs.map (L.ren (aG ids))).drop (off+n))):=List.take_of_length_le (by simp[hcl])
    rw[hdr,htk,List.map_nil,List.append_nil];have hxs:∀ r∈xs.flatMap L.refs,r∈ids:=fun r hr=>c3 i c1 r (by rw[hb];exact hr)
    apply List.ext_getElem?;intro k;by_cases hk:k∈ids
    ·obtain⟨b0,hb0,_⟩:=hal k hk;have hkl:=(List.getElem?_eq_some_iff.1 hb0).1;obtain⟨t,ht,rfl⟩:=List.getElem_of_mem hk;rw[lS ids H _ t ids[t] hn (by simp[hcl]) (by simp[ht]) hkl,List.getElem?_map]
     by_cases htj:j=t
     ·subst htj;have hi:ids[j]=i:=by
       have:=List.getElem?_eq_getElem ht;rw[j3] at this;exact(Option.some.inj this).symm
      rw[List.getElem?_set_self (by rw[hcl];exact ht),hi,List.getElem?_set_self (by rw[<- hi];exact hkl)]
      simp only[Option.map_some,Box.ren,List.map_append];rw[<- List.map_take,<- List.map_drop,Ls.ren_back (fun r hr=>hxs r (by
        obtain⟨x,hx,hr⟩:=List.mem_flatMap.1 hr;exact List.mem_flatMap.2 ⟨x,List.mem_of_mem_take hx,hr⟩)),Ls.ren_back (fun r hr=>c2 r hr),Ls.ren_back (fun r hr=>hxs r (by
        obtain⟨x,hx,hr⟩:=List.mem_flatMap.1 hr;exact List.mem_flatMap.2 ⟨x,List.mem_of_mem_drop hx,hr⟩))]
     ·have hne:i≠ids[t]:=by
       intro e;exact htj (nX hn j3 (by rw[e];simp[ht]))
      rw[List.getElem?_set_ne htj,List.getElem?_set_ne hne,hb0];simp only[aw,List.getElem?_map,List.getElem?_eq_getElem ht,Option.map_some,List.getD,hb0,Option.getD_some];rw[Box.ren_back (fun r hr=>c3 ids[t] hk r (by rw[hb0];exact hr))]
    ·rw[fJ _ _ _ _ hk,List.getElem?_set_ne (fun e=>hk (by rw[<- e];exact c1))]
  ·rfl
 ·rfl
def sW (b:Nat) (xv:V) (H:Hp) (run alt:Option (V × Hp)):Option (V × Hp):=match xv with
 | .one (.sl b2 _ _ _)=>(match H[b2]? with|some (.arr _ _ _)=>if b=b2 then alt else run|_=>alt)
 | .one (.d _)=>run | .one .ns=>run | .one (.cl _)=>run | .one (.nn _)=>run
 | _=>alt
def OG (g:List Nat) (sv xv:V) (H:Hp) (run alt:Option (V × Hp)):Option (V × Hp):=match g with
 | []=>(match sv with
  | .one (.sl b _ 0 _)=>(match H[b]? with|some (.arr _ _ _)=>sW b xv H run alt|_=>alt)
  | _=>alt)
 | _=>alt
theorem IQ {b b2 z o n:Nat} {H:Hp} {run alt:Option (V × Hp)}:sW b (.one (.sl b2 z o n)) H run alt=match H[b2]? with|some (.arr _ _ _)=>if b=b2 then alt else run|_=>alt:=rfl
theorem L7 {b:Nat} {x:D} {H:Hp} {run alt:Option (V × Hp)}:sW b (.one (.d x)) H run alt=run:=rfl
theorem JV {b:Nat} {H:Hp} {run alt:Option (V × Hp)}:sW b (.one .ns) H run alt=run:=rfl
theorem Ih {b:Nat} {x:List (List D)} {H:Hp} {run alt:Option (V × Hp)}:sW b (.one (.cl x)) H run alt=run:=rfl
theorem Ky {b:Nat} {x:List (List D)} {H:Hp} {run alt:Option (V × Hp)}:sW b (.one (.nn x)) H run alt=run:=rfl
theorem NA {b z n:Nat} {xv:V} {H:Hp} {run alt:Option (V × Hp)}:OG [] (.one (.sl b z 0 n)) xv H run alt=match H[b]? with|some (.arr _ _ _)=>sW b xv H run alt|_=>alt:=rfl
theorem DP {φ:cI} {d:Option Nat} {g:Option (Nat × Bool)} {p:List Nat} {str:Bool} {sz bytes s y N:Nat} {f:Fn} {H:Hp} (hN:s<N∧y<N) :
  aY φ ⟨d,.app str sz bytes (.t s) (.t y),g,p,false⟩ (aa N f) H=OG (aB (aa N f) (pX g)) (f s) (f y) H ((A.app str sz bytes (.t s) (.t y)).run φ (aa N f) H) (eY φ ⟨d,.app str sz bytes (.t s) (.t y),g,p,false⟩ (aa N f) H):=by
 unfold OG;split
 ·rename_i hg;split
  ·rename_i hs;split
   ·rename_i hb;have dat:∀ xv,f y=.one xv->xv.refs=[]->aY φ ⟨d,.app str sz bytes (.t s) (.t y),g,p,false⟩ (aa N f) H=(A.app str sz bytes (.t s) (.t y)).run φ (aa N f) H:=fun xv hy hr=>(Mr hN.1 hs (by rw[qk hN.2,hy]) hr hg hb).1
    unfold sW;split
    ·rename_i hy;split
     ·rename_i hb2;split
      ·rfl
      ·rename_i hne;cases str with
       | false=>exact(HY hN hs hy hne hg hb hb2).1
       | true=>exact Hk hN hs hy hne hg hb hb2
     ·rfl
    ·rename_i hy;exact dat _ hy rfl
    ·rename_i hy;exact dat _ hy rfl
    ·rename_i hy;exact dat _ hy rfl
    ·rename_i hy;exact dat _ hy rfl
    ·rfl
   ·rfl
  ·rfl
 ·rfl
def rF (x:Option Box) (H:Hp) (n i:Nat) (todo seen:List Nat):List Nat:=match x with
 | some (.cells xs)=>bif seen.contains i then aD H n todo seen else aD H n (xs.flatMap L.refs++todo) (seen++[i])
 | some (.arr _ _ _)=>bif seen.contains i then aD H n todo seen else aD H n todo (seen++[i])
 | some (.mp _)=>bif seen.contains i then aD H n todo seen else aD H n todo (seen++[i])
 | _=>aD H n todo seen
theorem yK {xs:List L} {H:Hp} {n i:Nat} {todo seen:List Nat}:rF (some (.cells xs)) H n i todo seen=bif seen.contains i then aD H n todo seen else aD H n (xs.flatMap L.refs++todo) (seen++[i]):=rfl
theorem Dz {sz fz:Nat} {rows:List (List D)} {H:Hp} {n i:Nat} {todo seen:List Nat}:rF (some (.arr sz rows fz)) H n i todo seen=bif seen.contains i then aD H n todo seen else aD H n todo (seen++[i]):=rfl
theorem G7 {rows:List (List UInt8 × Bool)} {H:Hp} {n i:Nat} {todo seen:List Nat}:rF (some (.mp rows)) H n i todo seen=bif seen.contains i then aD H n todo seen else aD H n todo (seen++[i]):=rfl
theorem Bm {H:Hp} {n i:Nat} {todo seen:List Nat}:rF (some .dead) H n i todo seen=aD H n todo seen:=rfl
theorem Ll (H:Hp) (n i:Nat) (todo seen:List Nat):aD H (n+1) (i::todo) seen=rF H[i]? H n i todo seen:=by
 unfold rF;split
 ·rename_i xs h;rw[ni H n i todo seen h];cases seen.contains i <;> rfl
 ·rename_i h;rw[rY H n i todo seen h];cases seen.contains i <;> rfl
 ·rename_i h;rw[uI H n i todo seen h];cases seen.contains i <;> rfl
 ·rename_i h1 h2 h3;cases hb:H[i]? with
  | none=>simp only[aD,hb]
  | some b =>
   cases b with
   | dead=>simp only[aD,hb]
   | cells xs=>exact absurd hb (h1 xs)
   | arr a b c=>exact absurd hb (h2 a b c)
   | mp a=>exact absurd hb (h3 a)
theorem Rh (H:Hp) (l:List Nat):aI H l=aD H 1000 l []:=rfl
theorem uM {φ:cI} {d:Option Nat} {p:List Nat} {zs:List L} {fr:Fr} {H:Hp}:aY φ ⟨d,.alloc zs,none,p,false⟩ fr H=eO H (some (.one (.p 0 0),[.cells zs])):=iso_pure rfl
theorem yI {φ:cI} {d:Option Nat} {p:List Nat} {sz:Nat} {fr:Fr} {H:Hp}:aY φ ⟨d,.own sz,none,p,false⟩ fr H=eO H (some (.one (.sl 0 sz 0 0),[.arr sz [] 0])):=iso_pure rfl
theorem ki {φ:cI} {o:AOp} {fr:Fr} {H:Hp}:aY φ o fr H=match aB fr o.slots with|[]=>eO H (o.a.run φ fr [])|_=>eY φ o fr H:=by
 split
 ·rename_i h;exact iso_pure h
 ·rfl
theorem wo {φ:cI} {d:Option Nat} {g:Option (Nat × Bool)} {p:List Nat} {f:FuncId} {xs:List X} {fr:Fr} {H:Hp}:aY φ ⟨d,.call f xs,g,p,false⟩ fr H=match aB fr (xs.flatMap X.slot++pX g) with|[]=>eO H ((A.call f xs).run φ fr [])|_=>eY φ ⟨d,.call f xs,g,p,false⟩ fr H:=ki
theorem xK {φ:cI} {d:Option Nat} {g:Option (Nat × Bool)} {p:List Nat} {sz:Nat} {z:List (List D)} {ps:List (Nat × X)} {fr:Fr} {H:Hp}:aY φ ⟨d,.bsl sz z ps,g,p,false⟩ fr H=match aB fr ((ps.map fun q=>q.2).flatMap X.slot++pX g) with|[]=>eO H ((A.bsl sz z ps).run φ fr [])|_=>eY φ ⟨d,.bsl sz z ps,g,p,false⟩ fr H:=ki
theorem yH {φ:cI} {d:Option Nat} {g:Option (Nat × Bool)} {p:List Nat} {sz b:Nat} {z:List D} {l c:X} {fr:Fr} {H:Hp}:aY φ ⟨d,.mks sz b z l c,g,p,false⟩ fr H=match aB fr (l.slot++(c.slot++[])++pX g) with|[]=>eO H ((A.mks sz b z l c).run φ fr [])|_=>eY φ ⟨d,.mks sz b z l c,g,p,false⟩ fr H:=ki
theorem yu {φ:cI} {d:Option Nat} {g:Option (Nat × Bool)} {p:List Nat} {x:X} {fr:Fr} {H:Hp}:aY φ ⟨d,.s2b x,g,p,false⟩ fr H=match aB fr (x.slot++[]++pX g) with|[]=>eO H ((A.s2b x).run φ fr [])|_=>eY φ ⟨d,.s2b x,g,p,false⟩ fr H:=ki
theorem ya {φ:cI} {d:Option Nat} {g:Option (Nat × Bool)} {p:List Nat} {x:X} {fr:Fr} {H:Hp}:aY φ ⟨d,.box x,g,p,false⟩ fr H=match aB fr (x.slot++[]++pX g) with|[]=>eO H ((A.box x).run φ fr [])|_=>eY φ ⟨d,.box x,g,p,false⟩ fr H:=ki
theorem Pa (n:Nat):X.slot (.t n)=[n]:=rfl
theorem PM (v:V):X.slot (.c v)=[]:=rfl
theorem J5 (o:AOp) (fr:Fr) (H:Hp):aM o fr H=aI H (aB fr o.slots):=rfl
theorem LE (n:Nat):List.range' n 0=[]:=rfl
theorem M2 (n:Nat):List.range' n 1=[n]:=rfl
theorem Mo (n:Nat):List.range' n 2=[n,n+1]:=rfl
theorem Kv (x:L):V.refs (.one x)=x.refs:=rfl
theorem Ik (xs:List L):V.refs (.agg xs)=xs.flatMap L.refs:=rfl
theorem Kf (xs:List (Bool × List L)):V.refs (.tup xs)=xs.flatMap fun c=>c.2.flatMap L.refs:=rfl
theorem HV:V.refs .any=[]:=rfl
theorem Oz (x:D):L.refs (.d x)=[]:=rfl
theorem Ot (i o:Nat):L.refs (.p i o)=[i]:=rfl
theorem Mc (i k o:Nat):L.refs (.ap i k o)=[i]:=rfl
theorem MG (i z o n:Nat):L.refs (.sl i z o n)=[i]:=rfl
theorem Ma (x:List D):L.refs (.ip x)=[]:=rfl
theorem Mm (x:List (List D)):L.refs (.cl x)=[]:=rfl
theorem Lw (x:List (List D)):L.refs (.nn x)=[]:=rfl
theorem Mf:L.refs .ns=[]:=rfl
theorem Lk:L.refs .np=[]:=rfl
theorem Lt:L.refs .nf=[]:=rfl
theorem Qr (g:FuncId) (l:List Nat):L.refs (.f g l)=l:=rfl
theorem IU (xs:List D):(xs.map L.d).flatMap L.refs=[]:=Ls.pure_refs (Ls.pure_map xs)
theorem wq (xs:List L):Box.refs (.cells xs)=xs.flatMap L.refs:=rfl
theorem BA (sz:Nat) (rows:List (List D)) (fz:Nat):Box.refs (.arr sz rows fz)=[]:=rfl
theorem D6 (rows:List (List UInt8 × Bool)):Box.refs (.mp rows)=[]:=rfl
theorem OA (i:Nat):L.refs (.m i)=[i]:=rfl
theorem MZ:L.refs .nm=[]:=rfl
theorem x9:Box.refs .dead=[]:=rfl
theorem yM:([]:List Nat).isEmpty=true:=rfl
theorem wn (a:Nat) (l:List Nat):(a::l).isEmpty=false:=rfl
def gL:=And.intro @wq (And.intro @BA (And.intro @x9 (And.intro @go_draw (And.intro @Jc (And.intro @Hb (And.intro @H5 (And.intro @GJ (And.intro @Ru (And.intro @Q7 (And.intro @Rm (And.intro @Ka (And.intro @Ql (And.intro @Rh (And.intro @qW (And.intro @Ll (And.intro @yK (And.intro @Dz (And.intro @Rv (And.intro @Bm
 (And.intro @Kr (And.intro @DP (And.intro @IQ (And.intro @L7 (And.intro @JV (And.intro @Ih (And.intro @Ky (And.intro @NA (And.intro @uM (And.intro @yI (And.intro @wo (And.intro @xK (And.intro @yH (And.intro @yu (And.intro @ya (And.intro @DB (And.intro @xN (And.intro @D8 (And.intro @BF (And.intro @cA (And.intro @aN (And.intro @Uk (And.intro @TA
 (And.intro @Nr (And.intro @LX (And.intro @MX (And.intro @Sr (And.intro @RK (And.intro @J5 (And.intro @Jx (And.intro @Is (And.intro @H9 (And.intro @Pa (And.intro @PM (And.intro @LE (And.intro @M2 (And.intro @Mo (And.intro @Kv (And.intro @Ik (And.intro @Kf (And.intro @HV (And.intro @Oz (And.intro @Ot (And.intro @Mc (And.intro @MG (And.intro @Ma (And.intro @Mm (And.intro @Lw (And.intro @Mf (And.intro @Lk (And.intro @Lt (And.intro @Qr (And.intro @IU (And.intro @yM (And.intro @wn (And.intro @Nat.sub_self (And.intro @D6 (And.intro @OA (And.intro @MZ (And.intro @G7 (And.intro @List.flatMap_append.{0,0} @List.map_append.{0,0}))))))))))))))))))))))))))))))))))))))))))))))))))))))))))))))))))))))))))))))))
theorem aF {φ:cI} {f:FuncId} {args args':List V} {H H' H1 H2:Hp} {ids:List Nat} {r r':V} (hi:aI H (args.flatMap V.refs)=ids) (ha:args.map (V.ren (aG ids))=args') (hH:aw H ids=H')
  (hr:φ f args' H'=some (r,H1)) (he:(r.ren (fun j=>if j<ids.length then ids[j]? else some (H.length+(j-ids.length))),cu H ids ((H1.take ids.length).map (Box.ren (fun j=>if j<ids.length then ids[j]? else some (H.length+(j-ids.length)))))++(H1.drop ids.length).map (Box.ren (fun j=>if j<ids.length then ids[j]? else some (H.length+(j-ids.length)))))=(r',H2)) :
  ak φ f args H=some (r',H2):=by
 subst hi;subst ha;subst hH;simp only[ak,hr];rw[he]
theorem Cl {m N:Nat} {lv:List Nat} {vals:List V} {f:Fn} {H:Hp} (hs:(fb lv && lv.all (fun i=>Nat.blt i N))=true) (h:kJ lv vals f) :
  canon m lv (aa N f) H=(aa N (dE lv (vals.map (V.ren (aG (sr m H (vals.flatMap V.refs)))))),aw H (sr m H (vals.flatMap V.refs))):=by
 simp only[Bool.and_eq_true] at hs;have hr:(aa N (ny lv f)).flatMap V.refs=vals.flatMap V.refs:=by
  rw[j5 h];have:=qQ lv vals 0 N hs.1 (fun _ _=>Nat.zero_le _) (fun i hi=>by have:=(List.all_eq_true.1 hs.2) i hi;simpa using this) (rN h)
  rw[<- List.range_eq_range'] at this;exact this
 simp only[canon,mf,hr];refine Prod.ext ?_ rfl;simp only[aa,List.map_map,j5 h];apply List.map_congr_left;intro n _;exact vf _ _ _ _
theorem aq {α σ:Type} {φ:cI} {m N:Nat} {lv:List Nat} {c:AC} {K:Ex->Fr->Hp->Option α} {st:List KI} (μ:σ->Nat) (P:σ->Prop) (vals:σ->List V) (heap:σ->Hp) (Z:σ->α)
  (hs:∀ s,P s->∀ R:Fr->Hp->Option α,(∀ s',μ s'<μ s->P s'->∀ f' H',canon m lv (aa N f') H'=(aa N (dE lv (vals s')),heap s')->R (aa N f') H'=some (Z s')) ->
   kU φ m (KL R (KS φ m K st)) c (aa N (dE lv (vals s))) (heap s) []=some (Z s)) :
  ∀ s,P s->∀ f H,canon m lv (aa N f) H=(aa N (dE lv (vals s)),heap s)->kU φ m K (.loop lv c) (aa N f) H st=some (Z s):=by
 intro s hP f H hc;refine rk (m:=m) (N:=N) μ (fun s f H=>P s∧canon m lv (aa N f) H=(aa N (dE lv (vals s)),heap s)) Z ?_ s f H ⟨hP,hc⟩
 rintro s f H ⟨hP,hc⟩ R hR;rw[hc];exact hs s hP R (fun s' hlt hP' f' H' hc'=>hR s' f' H' hlt ⟨hP',hc'⟩)
theorem at_headM {m N:Nat} {lv:List Nat} {vals0 vals:List V} {f:Fn} {H H':Hp} {ids:List Nat} (hs:(fb lv && lv.all (fun i=>Nat.blt i N))=true) (hv:lv.map f=vals0) (hi:sr m H (vals0.flatMap V.refs)=ids) (h1:vals0.map (V.ren (aG ids))=vals) (h2:aw H ids=H') :
  canon m lv (aa N f) H=(aa N (dE lv vals),H'):=by
 rw[Cl hs (hv ▸ sj lv f),hi,h1,h2]
set_option linter.defProp false
noncomputable def HK {α:Type} (φ:cI) (ψ:oK) (m:Nat) (K:Ex->Fr->Hp->Option α):List KI->Ex->Fr->Hp->Option α
 | []=>K
 | .s b::st=>fun e fr H=>match e with | .normal=>bm φ ψ m b fr H (HK φ ψ m K st)|e=>HK φ ψ m K st e fr H
 | .k id::st=>fun e fr H=>match e with | .exit i=>if i=id then HK φ ψ m K st .normal fr H else HK φ ψ m K st (.exit i) fr H|e=>HK φ ψ m K st e fr H
noncomputable def kB {α:Type} (φ:cI) (ψ:oK) (m:Nat) (K:Ex->Fr->Hp->Option α) (e:Ex) (fr:Fr) (H:Hp) (st:List KI):Option α:=HK φ ψ m K st e fr H
noncomputable def px {α:Type} (φ:cI) (ψ:oK) (m:Nat) (K:Ex->Fr->Hp->Option α) (c:AC) (fr:Fr) (H:Hp) (st:List KI):Option α:=bm φ ψ m c fr H (HK φ ψ m K st)
noncomputable def oW {α:Type} (φ:cI) (ψ:oK) (m:Nat) (K:Ex->Fr->Hp->Option α) (ops:List AOp) (fr:Fr) (H:Hp) (st:List KI):Option α :=
 match bP φ ops fr H with|some (fr,H)=>kB φ ψ m K .normal fr H st|none=>none
noncomputable def DL {α:Type} (φ:cI) (ψ:oK) (m:Nat) (K:Ex->Fr->Hp->Option α) (x:Option (V × Hp)) (d:Option Nat) (r:List AOp) (fr:Fr) (st:List KI):Option α :=
 match x with|some (v,H)=>oW φ ψ m K r (put fr d v) H st|none=>none
noncomputable def EM {α:Type} (φ:cI) (ψ:oK) (m:Nat) (K:Ex->Fr->Hp->Option α) (x:Option (V × Hp)) (d:Option Nat) (r:List AOp) (fr:Fr) (st:List KI):Option α :=
 match x with|some (v,H)=>DL φ ψ m K (pj v H) d r fr st|none=>none
noncomputable def LH {α:Type} (φ:cI) (ψ:oK) (m:Nat) (K:Ex->Fr->Hp->Option α) (w:Option Bool) (d:Option Nat) (a:A) (r:List AOp) (fr:Fr) (H:Hp) (st:List KI):Option α :=
 match w with|none=>none|some true=>DL φ ψ m K (a.run φ fr H) d r fr st|some false=>oW φ ψ m K r (put fr d (.tup [])) H st
noncomputable def Fc {α:Type} (φ:cI) (ψ:oK) (m:Nat) (K:Ex->Fr->Hp->Option α) (w:Option Bool) (d:Option Nat) (a:A) (r:List AOp) (fr:Fr) (H:Hp) (st:List KI):Option α :=
 match w with|none=>none|some true=>EM φ ψ m K (a.run φ fr H) d r fr st|some false=>oW φ ψ m K r (put fr d (.tup [])) H st
noncomputable def NU {α:Type} (φ:cI) (ψ:oK) (m:Nat) (K:Ex->Fr->Hp->Option α) (c:Option V) (a b:AC) (fr:Fr) (H:Hp) (st:List KI):Option α :=
 match c with|some (.one (.d (.b true)))=>px φ ψ m K a fr H st|some (.one (.d (.b false)))=>px φ ψ m K b fr H st|_=>none
noncomputable def vn {α:Type} (φ:cI) (ψ:oK) (m:Nat) (K:Ex->Fr->Hp->Option α) (ops:List AOp) (lg:List Log) (fr:Fr) (H:Hp) (st:List KI):Option α :=
 match cX φ ops lg fr H with|some (fr,H)=>kB φ ψ m K .normal fr H st|none=>none
noncomputable def Ov {α:Type} (φ:cI) (ψ:oK) (m:Nat) (K:Ex->Fr->Hp->Option α) (c:Bool) (r:List AOp) (lg:List Log) (fr:Fr) (H:Hp) (st:List KI):Option α :=
 match c with|true=>vn φ ψ m K r lg fr H st|false=>none
noncomputable def xE {α:Type} (φ:cI) (ψ:oK) (m:Nat) (K:Ex->Fr->Hp->Option α) (k:Nat) (x:Option (V × Hp)) (o:AOp) (r:List AOp) (lg:List Log) (fr:Fr) (H:Hp) (st:List KI):Option α :=
 match x with|some (v,H1)=>Ov φ ψ m K (HJ o ⟨k,o.dst,o.slots,touch k o fr H H1⟩ lg) r (lg++[⟨k,o.dst,o.slots,touch k o fr H H1⟩]) (put fr o.dst v) H1 st|none=>none
noncomputable def HB {α:Type} (φ:cI) (ψ:oK) (m:Nat) (K:Ex->Fr->Hp->Option α) (k:Nat) (o:AOp) (r:List AOp) (lg:List Log) (fr:Fr) (H:Hp) (st:List KI):Option α :=
 xE φ ψ m K k (drawStep φ o k true fr H) o r lg fr H st
noncomputable def LF {α:Type} (φ:cI) (ψ:oK) (m:Nat) (K:Ex->Fr->Hp->Option α) (w:Option Bool) (o:AOp) (r:List AOp) (lg:List Log) (fr:Fr) (H:Hp) (st:List KI):Option α :=
 match w with|none=>none|some true=>HB φ ψ m K (o.a.kind fr) o r lg fr H st|some false=>xE φ ψ m K 0 (some (.tup [],H)) o r lg fr H st
def RH {α:Type} (R:Fr->Hp->Option α) (k:Ex->Fr->Hp->Option α):Ex->Fr->Hp->Option α:=fun e fr H=>match e with | .normal=>R fr H|e=>k e fr H
section
variable {α:Type} {φ:cI} {ψ:oK} {m:Nat} {K:Ex->Fr->Hp->Option α} {fr:Fr} {H:Hp} {st:List KI}
theorem go_skipY:px φ ψ m K .skip fr H st=kB φ ψ m K .normal fr H st:=rfl
theorem go_seqY (a b:AC):px φ ψ m K (.seq a b) fr H st=px φ ψ m K a fr H (.s b::st):=rfl
theorem go_regY (ops:List AOp):px φ ψ m K (.reg ops false) fr H st=oW φ ψ m K ops fr H st:=rfl
theorem go_drawY (ops:List AOp) (h:jN ops []=false):px φ ψ m K (.reg ops true) fr H st=vn φ ψ m K ops [] fr H st:=by
 simp only[px,bm,vn,cond_true,dk,h,cond_false];rfl
theorem F0 (lg:List Log):vn φ ψ m K [] lg fr H st=kB φ ψ m K .normal fr H st:=rfl
theorem Cm (o:AOp) (r:List AOp) (lg:List Log):vn φ ψ m K (o::r) lg fr H st=LF φ ψ m K (wantedV fr o.g) o r lg fr H st:=by
 simp only[vn,cX,LF];cases wantedV fr o.g with
 | none=>rfl
 | some w =>
  cases w with
  | false =>
   simp only[xE,cond_false,drawStep,HJ];cases (!o.fz && (o.pre.all (fun j=>decide (j<lg.length)) && gi o.pre ⟨0,o.dst,o.slots,touch 0 o fr H H⟩ 0 lg)) <;> rfl
  | true =>
   simp only[HB,xE,cond_true];cases drawStep φ o (o.a.kind fr) true fr H with
   | none=>rfl
   | some q =>
    simp only[HJ];cases (!o.fz && (o.pre.all (fun j=>decide (j<lg.length)) && gi o.pre ⟨o.a.kind fr,o.dst,o.slots,touch (o.a.kind fr) o fr H q.2⟩ 0 lg)) <;> rfl
theorem Hr (o:AOp) (r:List AOp) (lg:List Log):LF φ ψ m K (some true) o r lg fr H st=HB φ ψ m K (o.a.kind fr) o r lg fr H st:=rfl
theorem D0 (o:AOp) (r:List AOp) (lg:List Log):LF φ ψ m K (some false) o r lg fr H st=xE φ ψ m K 0 (some (.tup [],H)) o r lg fr H st:=rfl
theorem O8 (o:AOp) (r:List AOp) (lg:List Log):HB φ ψ m K 0 o r lg fr H st=xE φ ψ m K 0 (o.a.run φ fr H) o r lg fr H st:=rfl
theorem P0 (o:AOp) (r:List AOp) (lg:List Log):HB φ ψ m K 1 o r lg fr H st=xE φ ψ m K 1 (o.a.run φ fr H) o r lg fr H st:=rfl
theorem OK (o:AOp) (r:List AOp) (lg:List Log):HB φ ψ m K 2 o r lg fr H st=xE φ ψ m K 2 (aY φ o fr H) o r lg fr H st:=rfl
theorem FD (k:Nat) (v:V) (H1:Hp) (o:AOp) (r:List AOp) (lg:List Log):xE φ ψ m K k (some (v,H1)) o r lg fr H st =
  Ov φ ψ m K (HJ o ⟨k,o.dst,o.slots,touch k o fr H H1⟩ lg) r (lg++[⟨k,o.dst,o.slots,touch k o fr H H1⟩]) (put fr o.dst v) H1 st:=rfl
theorem go_condY (c:X) (a b:AC):px φ ψ m K (.cond c a b) fr H st=NU φ ψ m K (c.ev fr) a b fr H st:=by
 simp only[px,bm,NU];rcases c.ev fr with _|v
 ·rfl
 ·cases v with
  | one x=>cases x with
   | d x=>cases x with
    | b b=>cases b <;> rfl
    | _=>rfl
   | _=>rfl
  | _=>rfl
theorem Gr (a b:AC):NU φ ψ m K (some (.one (.d (.b true)))) a b fr H st=px φ ψ m K a fr H st:=rfl
theorem Cf (a b:AC):NU φ ψ m K (some (.one (.d (.b false)))) a b fr H st=px φ ψ m K b fr H st:=rfl
theorem F8 (d:Option Nat) (r:List AOp) (v:V) (H1:Hp):DL φ ψ m K (some (v,H1)) d r fr st=oW φ ψ m K r (put fr d v) H1 st:=rfl
theorem Dl (d:Option Nat) (r:List AOp) (v:V) (H1:Hp):EM φ ψ m K (some (v,H1)) d r fr st=DL φ ψ m K (pj v H1) d r fr st:=rfl
theorem Gv (d:Option Nat) (a:A) (r:List AOp):LH φ ψ m K (some true) d a r fr H st=DL φ ψ m K (a.run φ fr H) d r fr st:=rfl
theorem DC (d:Option Nat) (a:A) (r:List AOp):LH φ ψ m K (some false) d a r fr H st=oW φ ψ m K r (put fr d (.tup [])) H st:=rfl
theorem DF (d:Option Nat) (a:A) (r:List AOp):Fc φ ψ m K (some true) d a r fr H st=EM φ ψ m K (a.run φ fr H) d r fr st:=rfl
theorem BD (d:Option Nat) (a:A) (r:List AOp):Fc φ ψ m K (some false) d a r fr H st=oW φ ψ m K r (put fr d (.tup [])) H st:=rfl
theorem go_blockY (id:Nat) (c:AC):px φ ψ m K (.block id c) fr H st=px φ ψ m K c fr H (.k id::st):=rfl
theorem go_exitY (id:Nat):px φ ψ m K (.exit id) fr H st=kB φ ψ m K (.exit id) fr H st:=rfl
theorem go_retY:px φ ψ m K .ret fr H st=kB φ ψ m K .ret fr H st:=rfl
theorem Ki (e:Ex):kB φ ψ m K e fr H []=K e fr H:=rfl
theorem P4 (b:AC):kB φ ψ m K .normal fr H (.s b::st)=px φ ψ m K b fr H st:=rfl
theorem M8 (b:AC) (i:Nat):kB φ ψ m K (.exit i) fr H (.s b::st)=kB φ ψ m K (.exit i) fr H st:=rfl
theorem L6 (b:AC):kB φ ψ m K .ret fr H (.s b::st)=kB φ ψ m K .ret fr H st:=rfl
theorem Po (id:Nat):kB φ ψ m K .normal fr H (.k id::st)=kB φ ψ m K .normal fr H st:=rfl
theorem LB (id i:Nat):kB φ ψ m K (.exit i) fr H (.k id::st)=if i=id then kB φ ψ m K .normal fr H st else kB φ ψ m K (.exit i) fr H st:=rfl
theorem LK (id:Nat):kB φ ψ m K .ret fr H (.k id::st)=kB φ ψ m K .ret fr H st:=rfl
theorem Jf:oW φ ψ m K [] fr H st=kB φ ψ m K .normal fr H st:=rfl
theorem dw (d:Option Nat) (a:A) (g:Option (Nat × Bool)) (p:List Nat) (r:List AOp):oW φ ψ m K (⟨d,a,g,p,false⟩::r) fr H st =
  LH φ ψ m K (wantedV fr g) d a r fr H st:=by
 simp only[oW,bP,AOp.step,LH,DL];cases wantedV fr g with
 | none=>rfl
 | some w =>
  cases w with
  | false=>rfl
  | true =>
   simp only[cond_true,cond_false];cases a.run φ fr H with
   | none=>rfl
   | some q=>rfl
theorem cQ (d:Option Nat) (a:A) (g:Option (Nat × Bool)) (p:List Nat) (r:List AOp):oW φ ψ m K (⟨d,a,g,p,true⟩::r) fr H st =
  Fc φ ψ m K (wantedV fr g) d a r fr H st:=by
 simp only[oW,bP,AOp.step,Fc,DL,EM];cases wantedV fr g with
 | none=>rfl
 | some w =>
  cases w with
  | false=>rfl
  | true =>
   simp only[cond_true,cond_false];cases a.run φ fr H with
   | none=>rfl
   | some q =>
    obtain⟨v,H1⟩:=q;simp only;cases pj v H1 with
    | none=>rfl
    | some q=>rfl
theorem C8 (R:Fr->Hp->Option α):RH R (HK φ ψ m K st) .normal fr H=R fr H:=rfl
theorem It (R:Fr->Hp->Option α) (i:Nat):RH R (HK φ ψ m K st) (.exit i) fr H=kB φ ψ m K (.exit i) fr H st:=rfl
theorem NT (R:Fr->Hp->Option α):RH R (HK φ ψ m K st) .ret fr H=kB φ ψ m K .ret fr H st:=rfl
end
theorem De {α σ:Type} {φ:cI} {ψ:oK} {m N:Nat} {lv:List Nat} {c:AC} {K:Ex->Fr->Hp->Option α} {st:List KI} (μ:σ->Nat) (I:σ->Fn->Hp->Prop) (Z:σ->α)
  (hs:∀ s f H,I s f H->∀ R:Fr->Hp->Option α,(∀ s' f' H',μ s'<μ s->I s' f' H'->R (aa N f') H'=some (Z s')) ->
   px φ ψ m (RH R (HK φ ψ m K st)) c (canon m lv (aa N f) H).1 (canon m lv (aa N f) H).2 []=some (Z s)) :
  ∀ s f H,I s f H->px φ ψ m K (.loop lv c) (aa N f) H st=some (Z s):=by
 have key:∀ k s f H,μ s<k->I s f H->px φ ψ m K (.loop lv c) (aa N f) H st=some (Z s):=by
  intro k;induction k with
  | zero=>intro s f H h;omega
  | succ k ih =>
   intro s f H hk hi;simp only[px,bm];apply zx;exact hs s f H hi _ (fun s' f' H' hlt hi'=>by have:=ih s' f' H' (by omega) hi';simpa only[px,bm] using this)
 exact fun s f H hi=>key (μ s+1) s f H (Nat.lt_succ_self _) hi
theorem Gw {α σ:Type} {φ:cI} {ψ:oK} {m N:Nat} {lv:List Nat} {c:AC} {K:Ex->Fr->Hp->Option α} {st:List KI} (μ:σ->Nat) (P:σ->Prop) (vals:σ->List V) (heap:σ->Hp) (Z:σ->α)
  (hs:∀ s,P s->∀ R:Fr->Hp->Option α,(∀ s',μ s'<μ s->P s'->∀ f' H',canon m lv (aa N f') H'=(aa N (dE lv (vals s')),heap s')->R (aa N f') H'=some (Z s')) ->
   px φ ψ m (RH R (HK φ ψ m K st)) c (aa N (dE lv (vals s))) (heap s) []=some (Z s)) :
  ∀ s,P s->∀ f H,canon m lv (aa N f) H=(aa N (dE lv (vals s)),heap s)->px φ ψ m K (.loop lv c) (aa N f) H st=some (Z s):=by
 intro s hP f H hc;refine De (m:=m) (N:=N) μ (fun s f H=>P s∧canon m lv (aa N f) H=(aa N (dE lv (vals s)),heap s)) Z ?_ s f H ⟨hP,hc⟩
 rintro s f H ⟨hP,hc⟩ R hR;rw[hc];exact hs s hP R (fun s' hlt hP' f' H' hc'=>hR s' f' H' hlt ⟨hP',hc'⟩)
theorem LJ {α:Type} {φ:cI} {ψ:oK} {m:Nat} {K:Ex->Fr->Hp->Option α} {fr:Fr} {H:Hp} {st:List KI} {o:AOp} {e:Log} {r:List AOp} {lg lg':List Log} (h:HJ o e lg=true):Ov φ ψ m K (HJ o e lg) r lg' fr H st=vn φ ψ m K r lg' fr H st:=by rw[h];rfl
section
variable {α:Type} {φ:cI} {ψ:oK} {m:Nat} {K:Ex->Fr->Hp->Option α} {fr:Fr} {H:Hp} {st:List KI}
noncomputable def yC {α:Type} (φ:cI) (ψ:oK) (m:Nat) (K:Ex->Fr->Hp->Option α) (x:Option (Nat × Hp)) (q:Nat) (d:Option Nat) (o2:List AOp) (fr:Fr) (st:List KI):Option α :=
 match x with|some (k,H2)=>oW φ ψ m K o2 (put (put fr (some 0) (.one (.y q k))) d (.one (.d (.b (k == 0))))) H2 st|none=>none
noncomputable def yB {α:Type} (φ:cI) (ψ:oK) (m:Nat) (K:Ex->Fr->Hp->Option α) (h y:Option V) (vs:Option (List V)) (d:Option Nat) (o2:List AOp) (fr:Fr) (H:Hp) (st:List KI):Option α :=
 match h,y,vs with
 | some (.one (.y q 0)),some (.one (.y q' _)),some vs=>if q'=q then yC φ ψ m K (ψ vs H) q d o2 fr st else none
 | _,_,_=>none
noncomputable def yO {α:Type} (φ:cI) (ψ:oK) (m:Nat) (K:Ex->Fr->Hp->Option α) (d:Option Nat) (y:X) (xs:List X) (o2:List AOp) (o1:List AOp) (fr:Fr) (H:Hp) (st:List KI):Option α :=
 match bP φ o1 fr H with|some (fr,H)=>yB φ ψ m K fr.head? (y.ev fr) (mW fr xs) d o2 fr H st|none=>none
theorem go_yld (o1:List AOp) (d:Option Nat) (y:X) (xs:List X) (o2:List AOp):px φ ψ m K (.yld o1 d y xs o2) fr H st=yO φ ψ m K d y xs o2 o1 fr H st:=by
 simp only[px,bm,yO];cases bP φ o1 fr H with
 | none=>rfl
 | some p =>
  obtain⟨fr1,H1⟩:=p;simp only[yB];generalize fr1.head?=h1;generalize y.ev fr1=h2;generalize mW fr1 xs=h3;split
  ·rename_i q q' k vs;simp only;split
   ·simp only[yC];cases ψ vs H1 with
    | none=>rfl
    | some r =>
     obtain⟨k,H2⟩:=r;simp only[oW];rfl
   ·rfl
  ·rename_i hx;split
   ·rename_i q q' k vs;exact absurd rfl (hx q q' k vs rfl rfl)
   ·rfl
noncomputable def yS {α:Type} (φ:cI) (ψ:oK) (m:Nat) (K:Ex->Fr->Hp->Option α) (d:Option Nat) (y:X) (xs:List X) (o2:List AOp) (x:Option (Fr × Hp)) (r:List AOp) (st:List KI):Option α :=
 match x with|some (fr,H)=>yO φ ψ m K d y xs o2 r fr H st|none=>none
theorem P8 (d:Option Nat) (y:X) (xs:List X) (o2:List AOp):yO φ ψ m K d y xs o2 [] fr H st=yB φ ψ m K fr.head? (y.ev fr) (mW fr xs) d o2 fr H st:=rfl
theorem MB (d:Option Nat) (y:X) (xs:List X) (o2:List AOp) (o:AOp) (r:List AOp):yO φ ψ m K d y xs o2 (o::r) fr H st=yS φ ψ m K d y xs o2 (o.step φ fr H) r st:=by
 simp only[yO,bP,yS];cases o.step φ fr H with
 | none=>rfl
 | some p=>rfl
theorem LQ (d:Option Nat) (y:X) (xs:List X) (o2:List AOp) (r:List AOp):yS φ ψ m K d y xs o2 (some (fr,H)) r st=yO φ ψ m K d y xs o2 r fr H st:=rfl
theorem Nz (q q' k:Nat) (vs:List V) (d:Option Nat) (o2:List AOp):yB φ ψ m K (some (.one (.y q 0))) (some (.one (.y q' k))) (some vs) d o2 fr H st=if q'=q then yC φ ψ m K (ψ vs H) q d o2 fr st else none:=rfl
theorem Mi (k:Nat) (H2:Hp) (q:Nat) (d:Option Nat) (o2:List AOp):yC φ ψ m K (some (k,H2)) q d o2 fr st=oW φ ψ m K o2 (put (put fr (some 0) (.one (.y q k))) d (.one (.d (.b (k == 0))))) H2 st:=rfl
end
theorem o8 {N:Nat} {f:Fn} (h:0<N):(aa N f).head?=some (f 0):=by
 cases N with
 | zero=>omega
 | succ N=>simp[aa,List.range_succ_eq_map]
theorem step_e (φ:cI) (d:Option Nat) (a:A) (p:List Nat) (fr:Fr) (H:Hp):AOp.step φ ⟨d,a,none,p,false⟩ fr H=match a.run φ fr H with|some (v,H1)=>some (put fr d v,H1)|none=>none:=by
 simp only[AOp.step,wantedV,cond_true,cond_false];cases a.run φ fr H <;> rfl
noncomputable def TF:Ex->Fr->Hp->Option (Nat × Hp):=fun e _ H=>some (pa e,H)
noncomputable def KR (φ:cI) (m:Nat) (body:AC):Ex->Fr->Hp->Option (Nat × Hp):=fun e fr H=>match e with | .normal=>kU φ m TF body fr H []|_=>none
theorem EF (φ:cI) (fr:Fr) (ps:List Nat) (asg body:AC) (args:List V) (H:Hp) (h:args.length=ps.length):gC φ fr ps asg body args H=kU φ H.length (KR φ H.length body) asg (oE ps args fr) H []:=by
 simp only[gC,if_pos h,kU];congr 1
theorem FL (φ:cI) (m:Nat) (body:AC) (fr:Fr) (H:Hp):KR φ m body .normal fr H=kU φ m TF body fr H []:=rfl
theorem Sn (e:Ex) (fr:Fr) (H:Hp):TF e fr H=some (pa e,H):=rfl
theorem I9:pa .normal=0:=rfl
theorem Jb:pa .ret=1:=rfl
theorem Iz (i:Nat):pa (.exit i)=i+2:=rfl
theorem K4:mX 0=.normal:=rfl
theorem KF:mX 1=.ret:=rfl
theorem GN (vs:List V) (fr:Fr):oE [] vs fr=fr:=rfl
theorem Cy (t:Nat) (ts:List Nat) (v:V) (vs:List V) (N:Nat) (f:Fn):oE (t::ts) (v::vs) (aa N f)=oE ts vs (aa N (PY f t v)):=by
 have:=As N t f v;simp only[put] at this;simp only[oE,this]
section
variable {α:Type} {φ:cI} {prog:FuncId->Option AF} {m:Nat} {K:Ex->Fr->Hp->Option α} {fr:Fr} {H:Hp}
noncomputable def Rx {α:Type} (φ:cI) (prog:FuncId->Option AF) (m:Nat) (K:Ex->Fr->Hp->Option α) (b:AC):Ex->Fr->Hp->Option α:=fun e fr H=>match e with | .normal=>bX φ prog m b fr H K|e=>K e fr H
def Tb {α:Type} (K:Ex->Fr->Hp->Option α) (id:Nat):Ex->Fr->Hp->Option α:=fun e fr H=>match e with | .exit i=>if i=id then K .normal fr H else K (.exit i) fr H|e=>K e fr H
theorem dm:∀ (c:AC),c.hasR=false->∀ (fr:Fr) (H:Hp) (K:Ex->Fr->Hp->Option α),bX φ prog m c fr H K=bJ φ m c fr H K
 | .skip,_,_,_,_=>rfl
 | .reg _ _,_,_,_,_=>rfl
 | .exit _,_,_,_,_=>rfl
 | .ret,_,_,_,_=>rfl
 | .loop _ _,_,_,_,_=>rfl
 | .yld _ _ _ _ _,_,_,_,_=>rfl
 | .rng _ _ _ _,h,_,_,_=>by cases h
 | .seq a b,h,fr,H,K=>by
  simp only[AC.hasR,Bool.or_eq_false_iff] at h;simp only[bX,bJ];rw[dm a h.1];congr 1
  funext e fr' H'
  cases e with
  | normal=>exact dm b h.2 _ _ _
  | exit i=>rfl
  | ret=>rfl
 | .cond c a b,h,fr,H,K=>by
  simp only[AC.hasR,Bool.or_eq_false_iff] at h;simp only[bX,bJ,dm a h.1,dm b h.2]
 | .block id c,h,fr,H,K=>by
  simp only[AC.hasR] at h;simp only[bX,bJ];rw[dm c h]
theorem OO (a b:AC) (h:a.hasR=false):bX φ prog m (.seq a b) fr H K=kU φ m (Rx φ prog m K b) a fr H []:=by
 simp only[bX,kU];rw[dm a h];congr 1
theorem Pv (a b:AC) (h:a.hasR=true):bX φ prog m (.seq a b) fr H K=bX φ prog m a fr H (Rx φ prog m K b):=by
 simp only[bX];congr 1
theorem Mk (c:AC) (h:c.hasR=false):bX φ prog m c fr H K=kU φ m K c fr H []:=by rw[dm c h];rfl
theorem NE (id:Nat) (c:AC) (h:c.hasR=true):bX φ prog m (.block id c) fr H K=bX φ prog m c fr H (Tb K id):=by
 simp only[bX];congr 1
theorem Dd (b:AC):Rx φ prog m K b .normal fr H=bX φ prog m b fr H K:=rfl
theorem Io (b:AC) (i:Nat):Rx φ prog m K b (.exit i) fr H=K (.exit i) fr H:=rfl
theorem MF (b:AC):Rx φ prog m K b .ret fr H=K .ret fr H:=rfl
theorem DW (i:Nat):Tb K i .normal fr H=K .normal fr H:=rfl
theorem MY (i:Nat):Tb K i .ret fr H=K .ret fr H:=rfl
theorem JT (i j:Nat):Tb K i (.exit j) fr H=if j=i then K .normal fr H else K (.exit j) fr H:=rfl
theorem Rw {g:X} {ps:List Nat} {asg body:AC} {gf:FuncId} {caps:List Nat} {af:AF} (hg:g.ev fr=some (.one (.f gf caps))) (hp:prog gf=some af)
  (hc:(((af.res.isEmpty && af.body.zok) && (asg.nd && body.nd)) && Nat.ble (caps.length+1) af.ntmps)=true) :
  bX φ prog m (.rng g ps asg body) fr H K=px φ (gC φ fr ps asg body) (H.length+1) (nD fr K) af.body (aa af.ntmps (uH (.one (.y H.length 0)::caps.map fun i=>V.one (.p i 0)))) (H++[Box.dead]) []:=by
 rw[Bool.and_eq_true] at hc;have e:=Dt (args:=(V.one (.y H.length 0)::caps.map fun i=>V.one (.p i 0))) (N:=af.ntmps) (by simpa using hc.2)
 simp only[List.length_cons,List.length_map] at e;simp only[bX,t8,hg,hp,hc.1,cond_true,px,e];rfl
theorem rJ {N:Nat} {f:Fn} {q k:Nat} (h:0<N) (hf:f 0=.one (.y q k)):nD fr K .ret (aa N f) H=K (mX k) fr H:=by
 simp only[nD,o8 h,hf]
theorem JJ {N:Nat} {f:Fn} {q k:Nat} (h:0<N) (hf:f 0=.one (.y q k)):nD fr K .normal (aa N f) H=K (mX k) fr H:=by
 simp only[nD,o8 h,hf]
end
theorem gE {α:Type} {φ:cI} {prog:FuncId->Option AF} {m:Nat}:∀ (c:AC) (fr:Fr) (H:Hp) (K:Ex->Fr->Hp->Option α),bX φ prog m c.bare fr H K=bX φ prog m c fr H K
 | .skip,_,_,_=>rfl
 | .reg ops dr,fr,H,K=>by
  have h:(AC.reg ops dr).bare.hasR=false:=by rw[fO];rfl
  rw[dm _ h,fN,<- dm (φ:=φ) (prog:=prog) (AC.reg ops dr) rfl]
 | .seq a b,fr,H,K=>by
  simp only[AC.bare,bX];rw[gE a];congr 1
  funext e fr' H'
  cases e with
  | normal=>exact gE b _ _ _
  | exit i=>rfl
  | ret=>rfl
 | .cond c a b,fr,H,K=>by simp only[AC.bare,bX,gE a,gE b]
 | .block id c,fr,H,K=>by
  simp only[AC.bare,bX];rw[gE c]
 | .loop lv c,fr,H,K=>by
  have e:=fN (φ:=φ) m (AC.loop lv c) fr H K;simp only[AC.bare] at e;simp only[AC.bare,bX,e]
 | .exit _,_,_,_=>rfl
 | .ret,_,_,_=>rfl
 | .yld _ _ _ _ _,_,_,_=>rfl
 | .rng _ _ _ _,_,_,_=>rfl
theorem gp {α:Type} {φ:cI} {ψ:oK} (m:Nat):∀ (c:AC) (fr:Fr) (H:Hp) (K:Ex->Fr->Hp->Option α),bm φ ψ m c.bare fr H K=bm φ ψ m c fr H K
 | .skip,_,_,_=>rfl
 | .reg ops dr,fr,H,K=>by
  simp only[AC.bare];cases dr with
  | false=>simp only[Bool.not_false,Bool.true_or,cond_true,bm,cond_false,iL]
  | true =>
   simp only[Bool.not_true,Bool.false_or];cases h:jN ops [] with
   | false=>rfl
   | true=>simp only[cond_true,bm,cond_false,iL,dk,h,mr ops [] [] fr H rfl (fun j x x' hj=>by simp at hj) h]
 | .seq a b,fr,H,K=>by
  simp only[AC.bare,bm];rw[gp m a];congr 1
  funext e fr' H'
  cases e with
  | normal=>exact gp m b _ _ _
  | exit i=>rfl
  | ret=>rfl
 | .cond c a b,fr,H,K=>by simp only[AC.bare,bm,gp m a,gp m b]
 | .block id c,fr,H,K=>by
  simp only[AC.bare,bm];rw[gp m c]
 | .loop lv c,fr,H,K=>by
  simp only[AC.bare,bm];have:(bm (α:=α) φ ψ m c.bare)=bm φ ψ m c:=by
   funext fr' H' K'
   exact gp m c _ _ _
  rw[this]
 | .exit id,_,_,_=>rfl
 | .ret,_,_,_=>rfl
 | .yld _ _ _ _ _,_,_,_=>rfl
 | .rng _ _ _ _,_,_,_=>rfl
theorem Hs (ops:List AOp):qS (ops.map AOp.bare)=qS ops:=by simp[qS,AOp.bare,Function.comp_def]
theorem ku:∀ c:AC,c.bare.zok=c.zok
 | .reg ops dr=>by
  simp only[AC.bare];cases (!dr || jN ops []) with
  | true=>simp only[cond_true,AC.zok,Hs]
  | false=>rfl
 | .seq a b=>by simp only[AC.bare,AC.zok,ku a,ku b]
 | .cond c a b=>by simp only[AC.bare,AC.zok,ku a,ku b]
 | .block id c=>by simp only[AC.bare,AC.zok,ku c]
 | .loop lv c=>by simp only[AC.bare,AC.zok,ku c]
 | .skip=>rfl
 | .exit i=>rfl
 | .ret=>rfl
 | .yld _ _ _ _ _=>rfl
 | .rng _ _ _ _=>rfl
theorem jG:∀ c:AC,me c.bare=me c
 | .reg ops dr=>by
  simp only[AC.bare];cases (!dr || jN ops []) <;> rfl
 | .seq a b=>by simp only[AC.bare,me,jG a,jG b,fO]
 | .cond c a b=>by simp only[AC.bare,me,jG a,jG b]
 | .block id c=>by simp only[AC.bare,me,jG c]
 | .loop lv c=>rfl
 | .skip=>rfl
 | .exit i=>rfl
 | .ret=>rfl
 | .yld _ _ _ _ _=>rfl
 | .rng _ _ _ _=>rfl
theorem Ad {P:Program} {f:FuncId} {an:FuncId->Ann} {af:AF} (hf:compS P f (an f)=some af):∃ af0,dG P an f=some af0∧af={ af0 with body:=af0.body.bare }:=by
 unfold compS at hf;cases ho:(an f).out with
 | true=>rw[ho] at hf;cases hf
 | false =>
  rw[ho] at hf;simp only[cond_false] at hf;split at hf
  ·rename_i af0 h0;cases hf;exact⟨af0,by simp only[dG,ho,cond_false];exact h0,rfl⟩
  ·cases hf
theorem P6 {α:Type} {φ:cI} {P:Program} {an:FuncId->Ann} {m:Nat} {K:Ex->Fr->Hp->Option α} {fr:Fr} {H:Hp} {g:X} {ps:List Nat} {asg body:AC} {gf:FuncId} {caps:List Nat} {af:AF} (hg:g.ev fr=some (.one (.f gf caps))) (hp:compS P gf (an gf)=some af)
  (hc:(((af.res.isEmpty && af.body.zok) && (asg.nd && body.nd)) && Nat.ble (caps.length+1) af.ntmps)=true) :
  bX φ (dG P an) m (.rng g ps asg body) fr H K=px φ (gC φ fr ps asg body) (H.length+1) (nD fr K) af.body (aa af.ntmps (uH (.one (.y H.length 0)::caps.map fun i=>V.one (.p i 0)))) (H++[Box.dead]) []:=by
 obtain⟨af0,h0,rfl⟩:=Ad hp;simp only[ku] at hc;rw[Rw hg h0 hc];simp only[px,gp]
theorem OJ {P:Program} {an:FuncId->Ann} {pr:cI} {f:FuncId} {args:List V} {H:Hp} {z:V × Hp} {af:AF} (hf:compS P f (an f)=some af) (hl:(Nat.ble args.length af.ntmps && (af.body.hasR && me af.body))=true)
  (h:bX (eB (dG P an) pr) (dG P an) H.length af.body (aa af.ntmps (uH args)) H (Cn af.res af.keep H.length)=some z):eB (dG P an) pr f args H=some z:=by
 obtain⟨af0,h0,rfl⟩:=Ad hf;simp only[fO,jG,Bool.and_eq_true] at hl;refine y6 h0 (by rw[hl.2.1,hl.2.2];rfl) ?_
 simp only[gE] at h;rw[Dt (Nat.le_of_ble_eq_true hl.1),wO];exact h
def kn:=And.intro @F8 (And.intro @Dl (And.intro @Gv (And.intro @DC (And.intro @DF (And.intro @BD (And.intro @Gr (And.intro @Cf (And.intro @go_skipY (And.intro @go_seqY (And.intro @go_regY (And.intro @go_condY (And.intro @go_blockY (And.intro @go_exitY (And.intro @go_retY (And.intro @Ki (And.intro @P4 (And.intro @M8 (And.intro @L6 (And.intro @Po (And.intro @LB (And.intro @LK (And.intro @Jf (And.intro @C8 (And.intro @It (And.intro @NT (And.intro @go_drawY (And.intro @F0 (And.intro @Cm (And.intro @Hr (And.intro @D0 (And.intro @O8 (And.intro @P0 (And.intro @OK (And.intro @FD (And.intro @LJ (And.intro @go_yld (And.intro @P8 (And.intro @MB (And.intro @LQ (And.intro @Nz (And.intro @Mi (And.intro @o8 (And.intro @step_e (And.intro @EF (And.intro @FL (And.intro @Sn (And.intro @I9 (And.intro @Jb (And.intro @Iz (And.intro @K4 (And.intro @KF (And.intro @GN (@Cy)))))))))))))))))))))))))))))))))))))))))))))))))))))
def wg:=And.intro @OO (And.intro @Pv (And.intro @Mk (And.intro @NE (And.intro @Dd (And.intro @Io (And.intro @MF (And.intro @DW (And.intro @MY (@JT)))))))))
def HM (run alt:Option (V × Hp)):Option (V × Hp):=match run with|some (r,H1)=>(match r.pure with|true=>some (r,H1)|false=>alt)|none=>alt
def Qz (sv:V) (H:Hp) (run alt:Option (V × Hp)):Option (V × Hp):=match sv with
 | .one (.sl b _ _ _)=>(match H[b]? with|some (.arr _ _ _)=>HM run alt|_=>alt)
 | _=>alt
theorem cL {r:V} {H1:Hp} {alt:Option (V × Hp)} (h:r.pure=true):HM (some (r,H1)) alt=some (r,H1):=by simp only[HM,h]
theorem fX {b z o n:Nat} {H:Hp} {run alt:Option (V × Hp)}:Qz (.one (.sl b z o n)) H run alt=match H[b]? with|some (.arr _ _ _)=>HM run alt|_=>alt:=rfl
theorem Hl {φ:cI} {d:Option Nat} {p:List Nat} {fn:FuncId} {s b z off n z' fz N:Nat} {rows:List (List D)} {f:Fn} {H H1:Hp} {r:V} (hN:s<N) (hs:f s=.one (.sl b z off n)) (hH:H[b]?=some (.arr z' rows fz))
  (hr:(A.callz fn [.t s]).run φ (aa N f) H=some (r,H1)) (hp:r.pure=true) :
  aY φ ⟨d,.callz fn [.t s],none,p,false⟩ (aa N f) H=some (r,H1):=by
 have hsl:aB (aa N f) (AOp.slots ⟨d,.callz fn [.t s],none,p,false⟩)=[b]:=by
  have e:AOp.slots ⟨d,.callz fn [.t s],none,p,false⟩=[s]:=rfl;rw[e,aN _ hN,cA,hs];rfl
 have hi:aM ⟨d,.callz fn [.t s],none,p,false⟩ (aa N f) H=[b]:=by
  rw[aM,hsl];exact nR hH rfl rfl
 have es:X.ev ((bf (AOp.slots ⟨d,.callz fn [.t s],none,p,false⟩) (aa N f)).map (V.ren (aG [b]))) (.t s)=some (.one (.sl 0 z off n)):=by
  simp only[X.ev,List.getElem?_map];rw[bn (by simp[AOp.slots,A.xs,X.slot]),cd hN,hs]
  simp[V.ren,L.ren,ax]
 have hc:aw H [b]=[.arr z' rows fz]:=by
  simp only[aw,List.map_cons,List.map_nil,List.getD,hH,Option.getD_some,Box.ren]
 have es0:X.ev (aa N f) (.t s)=some (.one (.sl b z off n)):=by rw[qk hN,hs]
 simp only[A.run,mW,es0,oU,pj,v6,hH] at hr;simp only[aY,hi,hc,A.run,mW,es,oU,pj,v6,List.getElem?_cons_zero];by_cases h:off+n<=rows.length
 ·simp only[if_pos h] at hr ⊢;simp only[f7,V.data,L.data,dK] at hr ⊢;cases hφ:φ fn [.one (.d (.l ((rows.drop off).take n)))] [] with
  | none=>rw[hφ] at hr;cases hr
  | some q =>
   obtain⟨r1,G⟩:=q;rw[hφ] at hr;cases G with
   | nil =>
    simp only[Option.some.injEq,Prod.mk.injEq] at hr;obtain⟨rfl,rfl⟩:=hr;simp only[V.pure_ren hp];simp[cu,Box.ren]
   | cons a G=>cases hr
 ·simp only[if_neg h] at hr;cases hr
theorem kV {φ:cI} {d:Option Nat} {p:List Nat} {fn:FuncId} {s N:Nat} {f:Fn} {H:Hp} (hN:s<N) :
  aY φ ⟨d,.callz fn [.t s],none,p,false⟩ (aa N f) H=Qz (f s) H ((A.callz fn [.t s]).run φ (aa N f) H) (eY φ ⟨d,.callz fn [.t s],none,p,false⟩ (aa N f) H):=by
 unfold Qz;split
 ·rename_i hs;split
  ·rename_i hb;unfold HM;split
   ·rename_i r H1 hr;split
    ·rename_i hp;exact Hl hN hs hb hr hp
    ·rfl
   ·rfl
  ·rfl
 ·rfl
def UU (sv xv:V) (H:Hp) (run alt:Option (V × Hp)):Option (V × Hp):=match sv with
 | .one .ns=>(match xv with | .one (.sl b _ _ _)=>(match H[b]? with|some (.arr _ _ _)=>run|_=>alt)|_=>alt)
 | _=>alt
theorem Pz {b z o n:Nat} {H:Hp} {run alt:Option (V × Hp)}:UU (.one .ns) (.one (.sl b z o n)) H run alt=match H[b]? with|some (.arr _ _ _)=>run|_=>alt:=rfl
theorem Ha {φ:cI} {d:Option Nat} {p:List Nat} {sz bytes s y b z off n z' fz N:Nat} {rows:List (List D)} {f:Fn} {H:Hp} (hN:s<N∧y<N) (hs:f s=.one .ns) (hy:f y=.one (.sl b z off n)) (hH:H[b]?=some (.arr z' rows fz)) :
  aY φ ⟨d,.app false sz bytes (.t s) (.t y),none,p,false⟩ (aa N f) H=(A.app false sz bytes (.t s) (.t y)).run φ (aa N f) H:=by
 have hsl:aB (aa N f) (AOp.slots ⟨d,.app false sz bytes (.t s) (.t y),none,p,false⟩)=[b]:=by
  have e:AOp.slots ⟨d,.app false sz bytes (.t s) (.t y),none,p,false⟩=[s,y]:=rfl;rw[e,aN _ hN.1,aN _ hN.2,cA,hs,hy];rfl
 have hi:aM ⟨d,.app false sz bytes (.t s) (.t y),none,p,false⟩ (aa N f) H=[b]:=by
  rw[aM,hsl];exact nR hH rfl rfl
 have es:X.ev ((bf (AOp.slots ⟨d,.app false sz bytes (.t s) (.t y),none,p,false⟩) (aa N f)).map (V.ren (aG [b]))) (.t s)=some (.one .ns):=by
  simp only[X.ev,List.getElem?_map];rw[bn (by simp[AOp.slots,A.xs,X.slot]),cd hN.1,hs]
  simp[V.ren,L.ren]
 have ey:X.ev ((bf (AOp.slots ⟨d,.app false sz bytes (.t s) (.t y),none,p,false⟩) (aa N f)).map (V.ren (aG [b]))) (.t y)=some (.one (.sl 0 z off n)):=by
  simp only[X.ev,List.getElem?_map];rw[bn (by simp[AOp.slots,A.xs,X.slot]),cd hN.2,hy]
  simp[V.ren,L.ren,ax]
 have hc:aw H [b]=[.arr z' rows fz]:=by
  simp only[aw,List.map_cons,List.map_nil,List.getD,hH,Option.getD_some,Box.ren]
 have es0:X.ev (aa N f) (.t s)=some (.one .ns):=by rw[qk hN.1,hs]
 have ey0:X.ev (aa N f) (.t y)=some (.one (.sl b z off n)):=by rw[qk hN.2,hy]
 have hset:H.set b (.arr z' rows fz)=H:=by
  obtain⟨hlt,hg⟩:=List.getElem?_eq_some_iff.1 hH;rw[<- hg];exact List.set_getElem_self hlt
 simp only[aY,hi,hc,A.run,es,ey,es0,ey0,cond_false,cO,List.getElem?_cons_zero,hH];by_cases h1:(z'=sz∨(z'=0∧sz=1)∨rows=[])∧off+n<=rows.length
 ·simp only[if_pos h1];by_cases h2:((rows.drop off).take n).length*bytes<=140737488355328∧((rows.drop off).take n).length<=9223372036854775807∧aV sz ((rows.drop off).take n)=true
  ·simp only[if_pos h2];simp[V.ren,L.ren,ct,Box.ren,cu,hset]
  ·simp only[if_neg h2]
 ·simp only[if_neg h1]
theorem BV {φ:cI} {d:Option Nat} {p:List Nat} {sz bytes s y N:Nat} {f:Fn} {H:Hp} (hN:s<N∧y<N) :
  aY φ ⟨d,.app false sz bytes (.t s) (.t y),none,p,false⟩ (aa N f) H=UU (f s) (f y) H ((A.app false sz bytes (.t s) (.t y)).run φ (aa N f) H) (eY φ ⟨d,.app false sz bytes (.t s) (.t y),none,p,false⟩ (aa N f) H):=by
 unfold UU;split
 ·rename_i hs;split
  ·rename_i hy;split
   ·rename_i hH;exact Ha hN hs hy hH
   ·rfl
  ·rfl
 ·rfl
def OY (n:Nat) (av:V) (cs:Option (List L)) (H:Hp) (ids:List Nat) (alt:Option (V × Hp)):Option (V × Hp):=match av,cs with
 | .one (.p i off),some ys=>(match H[i]? with
  | some (.cells xs)=>bif ids.contains i && ((ys.flatMap L.refs).all ids.contains && (ids.all (fun k=>decide (k=i) || (match H[k]? with|some b=>b.refs|none=>[]).all ids.contains) && (((xs.take off).flatMap L.refs).all ids.contains && (((xs.drop (off+n)).flatMap L.refs).all ids.contains && (decide (ys.length=n) && decide (off+n<=xs.length)))))) then some (.tup [],H.set i (.cells (xs.take off++ys++xs.drop (off+n)))) else alt
  | _=>alt)
 | _,_=>alt
theorem xD {n i off:Nat} {ys:List L} {H:Hp} {ids:List Nat} {alt:Option (V × Hp)}:OY n (.one (.p i off)) (some ys) H ids alt=(match H[i]? with
  | some (.cells xs)=>bif ids.contains i && ((ys.flatMap L.refs).all ids.contains && (ids.all (fun k=>decide (k=i) || (match H[k]? with|some b=>b.refs|none=>[]).all ids.contains) && (((xs.take off).flatMap L.refs).all ids.contains && (((xs.drop (off+n)).flatMap L.refs).all ids.contains && (decide (ys.length=n) && decide (off+n<=xs.length)))))) then some (.tup [],H.set i (.cells (xs.take off++ys++xs.drop (off+n)))) else alt
  | _=>alt):=rfl
theorem oi {φ:cI} {d:Option Nat} {g:Option (Nat × Bool)} {p:List Nat} {n a v N:Nat} {f:Fn} {H:Hp} (hN:a<N∧v<N) :
  aY φ ⟨d,.st n (.t a) (.t v),g,p,false⟩ (aa N f) H=OY n (f a) (f v).cs H (aI H (aB (aa N f) ([a,v]++pX g))) (eY φ ⟨d,.st n (.t a) (.t v),g,p,false⟩ (aa N f) H):=by
 unfold OY;split
 ·rename_i i off ys ha hv;split
  ·rename_i xs hb;generalize hc:(List.contains _ i && _)=cc;cases cc with
   | false=>rfl
   | true =>
    simp only[Bool.and_eq_true,decide_eq_true_eq,List.all_eq_true,List.contains_iff_mem] at hc;obtain⟨c1,c2,c3,c6,c7,c4,c5⟩:=hc;have hids:aM ⟨d,.st n (.t a) (.t v),g,p,false⟩ (aa N f) H=aI H (aB (aa N f) ([a,v]++pX g)):=rfl;obtain⟨hn,hal⟩:=iy H (aB (aa N f) ([a,v]++pX g));simp only[aY,hids,cond_true];generalize aI H (aB (aa N f) ([a,v]++pX g))=ids at *;have c3':∀ k∈ids,k≠i->∀ r∈(match H[k]? with|some b=>b.refs|none=>[]),r∈ids:=fun k hk hne r hr=>by
     have:=c3 k hk;simp only[Bool.or_eq_true,decide_eq_true_eq,List.all_eq_true,List.contains_iff_mem] at this;exact this.resolve_left hne r hr
    obtain⟨j,j1,j2,j3⟩:=fp (q:=H.length) (d:=ids.length-ids.length) c1;have hjl:j<ids.length:=(List.getElem?_eq_some_iff.1 j3).1;have ea:X.ev ((bf (AOp.slots ⟨d,.st n (.t a) (.t v),g,p,false⟩) (aa N f)).map (V.ren (aG ids))) (.t a)=some (.one (.p j off)):=by
     simp only[X.ev,List.getElem?_map];rw[bn (by simp[AOp.slots,A.xs,X.slot]),cd hN.1,ha]
     simp only[Option.map_some,V.ren,L.ren,j1]
    have ev:X.ev ((bf (AOp.slots ⟨d,.st n (.t a) (.t v),g,p,false⟩) (aa N f)).map (V.ren (aG ids))) (.t v)=some ((f v).ren (aG ids)):=by
     simp only[X.ev,List.getElem?_map];rw[bn (by simp[AOp.slots,A.xs,X.slot]),cd hN.2]
     rfl
    have hcj:(aw H ids)[j]?=some (.cells (xs.map (L.ren (aG ids)))):=by
     simp only[aw,List.getElem?_map,j3,Option.map_some,List.getD,hb,Option.getD_some,Box.ren]
    have hrun:(A.st n (.t a) (.t v)).run φ ((bf (AOp.slots ⟨d,.st n (.t a) (.t v),g,p,false⟩) (aa N f)).map (V.ren (aG ids))) (aw H ids)=some (.tup [],(aw H ids).set j (.cells ((xs.map (L.ren (aG ids))).take off++ys.map (L.ren (aG ids))++(xs.map (L.ren (aG ids))).drop (off+n)))):=by
     simp only[A.run,ea,ev,V.cs_ren,hv,Option.map_some,hcj,List.length_map,c4,c5,and_self,if_true]
    have hcl:(aw H ids).length=ids.length:=by simp[aw]
    simp only[hrun,List.length_set,hcl,V.ren,List.map_nil,Option.some.injEq,Prod.mk.injEq,true_and];have hdr:List.drop ids.length ((aw H ids).set j (.cells ((xs.map (L.ren (aG ids))).take off++ys.map (L.ren (aG ids))++(xs.map (L.ren (aG ids))).drop (off+n))))=[]:=List.drop_eq_nil_of_le (by simp[hcl])
    have htk:List.take ids.length ((aw H ids).set j (.cells ((xs.map (L.ren (aG ids))).take off++ys.map (L.ren (aG ids))++(xs.map (L.ren (aG ids))).drop (off+n))))=(aw H ids).set j (.cells ((xs.map (L.ren (aG ids))).take off++ys.map (L.ren (aG ids))++(xs.map (L.ren (aG ids))).drop (off+n))):=List.take_of_length_le (by simp[hcl])
    rw[hdr,htk,List.map_nil,List.append_nil];apply List.ext_getElem?;intro k;by_cases hk:k∈ids
    ·obtain⟨b0,hb0,_⟩:=hal k hk;have hkl:=(List.getElem?_eq_some_iff.1 hb0).1;obtain⟨t,ht,rfl⟩:=List.getElem_of_mem hk;rw[lS ids H _ t ids[t] hn (by simp[hcl]) (by simp[ht]) hkl,List.getElem?_map]
     by_cases htj:j=t
     ·subst htj;have hi:ids[j]=i:=by
       have:=List.getElem?_eq_getElem ht;rw[j3] at this;exact(Option.some.inj this).symm
      rw[List.getElem?_set_self (by rw[hcl];exact ht),hi,List.getElem?_set_self (by rw[<- hi];exact hkl)]
      simp only[Option.map_some,Box.ren,List.map_append];rw[<- List.map_take,<- List.map_drop,Ls.ren_back c6,Ls.ren_back c2,Ls.ren_back c7]
     ·have hne:i≠ids[t]:=by
       intro e;exact htj (nX hn j3 (by rw[e];simp[ht]))
      rw[List.getElem?_set_ne htj,List.getElem?_set_ne hne,hb0];simp only[aw,List.getElem?_map,List.getElem?_eq_getElem ht,Option.map_some,List.getD,hb0,Option.getD_some];rw[Box.ren_back (fun r hr=>c3' ids[t] hk (fun e=>hne e.symm) r (by rw[hb0];exact hr))]
    ·rw[fJ _ _ _ _ hk,List.getElem?_set_ne (fun e=>hk (by rw[<- e];exact c1))]
  ·rfl
 ·rfl
end Go.Vi
