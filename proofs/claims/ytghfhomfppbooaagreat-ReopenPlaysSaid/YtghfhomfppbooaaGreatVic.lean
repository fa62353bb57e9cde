import Derived.Test.YtghfhomfppbooaaGreatVib
import Derived.ProofKit
import Derived.OpenShut
set_option linter.unusedSimpArgs false
set_option linter.unusedVariables false
set_option maxRecDepth 20000
set_option maxHeartbeats 16000000
/- An interpreter of values: what it answers the program answers. -/
namespace Go.Vi
set_option linter.unusedSimpArgs false
set_option linter.unusedVariables false
section
variable {φ:FuncId->List V->Hp->Option (V × Hp)} {fr fr2:Fr} {H H':Hp} {v:V}
theorem aM {x:X} (h:∀ t∈x.slot,fr[t]?=fr2[t]?):x.ev fr=x.ev fr2:=by
 cases x with
 | t n=>exact h n (by simp[X.slot])
 | c y=>rfl
theorem fS:∀ {xs:List X},(∀ t∈xs.flatMap X.slot,fr[t]?=fr2[t]?)->mO fr xs=mO fr2 xs
 | [],_=>rfl
 | x::r,h=>by
  simp only[mO];rw[aM (x:=x) (fun t ht=>h t (by simp[ht])),fS (xs:=r) (fun t ht=>h t (by rw[List.flatMap_cons];exact List.mem_append_right _ ht))]
theorem jG {x:X} (h:∀ t∈x.slot,fr[t]?=fr2[t]?):Bs fr x=Bs fr2 x:=by simp only[Bs,aM h]
theorem ga {x:Option X} (h:∀ t∈(aG x).flatMap X.slot,fr[t]?=fr2[t]?):f7 fr x=f7 fr2 x:=by
 cases x with
 | none=>rfl
 | some x=>simp only[f7];rw[aM (x:=x) (fun t ht=>h t (by simp[aG,ht]))]
theorem oR:∀ {ps:List (Nat × Nat × X)},(∀ t∈(ps.map fun q=>q.2.2).flatMap X.slot,fr[t]?=fr2[t]?)->Dr fr ps=Dr fr2 ps
 | [],_=>rfl
 | (a,b,x)::r,h=>by
  simp only[Dr];rw[aM (x:=x) (fun t ht=>h t (by simp[ht])),oR (ps:=r) (fun t ht=>h t (by rw[List.map_cons,List.flatMap_cons];exact List.mem_append_right _ ht))]
theorem o0 {sz:Nat}:∀ {ps:List (Nat × X)} {rows:List (List D)} {H:Hp},(∀ t∈(ps.map fun q=>q.2).flatMap X.slot,fr[t]?=fr2[t]?)->iQ fr sz rows ps H=iQ fr2 sz rows ps H
 | [],_,_,_=>rfl
 | (k,x)::r,rows,H,h=>by
  simp only[iQ];rw[aM (x:=x) (fun t ht=>h t (by simp[ht]))]
  have ih:∀ rows H,iQ fr sz rows r H=iQ fr2 sz rows r H:=fun rows H=>o0 (fun t ht=>h t (by rw[List.map_cons,List.flatMap_cons];exact List.mem_append_right _ ht))
  simp only[ih]
theorem oL {a:A} (h:∀ t∈a.xs.flatMap X.slot,fr[t]?=fr2[t]?):a.run φ fr H=a.run φ fr2 H:=by
 cases a;case own=>rfl
 case alloc=>rfl
 case mkf f xs=>simp only[A.run];rw[fS (xs:=xs) h]
 case call f xs=>simp only[A.run];rw[fS (xs:=xs) h]
 case calln f xs=>simp only[A.run];rw[fS (xs:=xs) h]
 case callp f xs=>simp only[A.run];rw[fS (xs:=xs) h]
 case callz f xs=>simp only[A.run];rw[fS (xs:=xs) h]
 case callv x xs =>
  simp only[A.run];rw[aM (x:=x) (fun t ht=>h t (by simp[A.xs,ht])),fS (xs:=xs) (fun t ht=>h t (by simp only[A.xs,List.flatMap_cons];exact List.mem_append_right _ ht))]
 case build zs ps=>simp only[A.run];rw[oR (ps:=ps) h]
 case bsp n zs ps=>simp only[A.run];rw[oR (ps:=ps) h]
 case mkm=>rfl
 case mset x y z=>simp only[A.run];rw[aM (x:=x) (fun t ht=>h t (by simp[A.xs,ht])),aM (x:=y) (fun t ht=>h t (by simp[A.xs,ht])),aM (x:=z) (fun t ht=>h t (by simp[A.xs,ht]))]
 case mget x y=>simp only[A.run];rw[aM (x:=x) (fun t ht=>h t (by simp[A.xs,ht])),aM (x:=y) (fun t ht=>h t (by simp[A.xs,ht]))]
 case bs1 sz x=>simp only[A.run];rw[aM (x:=x) (fun t ht=>h t (by simp[A.xs,ht]))]
 case bsl sz z ps=>simp only[A.run];rw[o0 (ps:=ps) h]
 case sls x lo hi =>
  simp only[A.run];rw[aM (x:=x) (fun t ht=>h t (by simp[A.xs,ht])),ga (x:=lo) (fun t ht=>h t (by simp only[A.xs,List.flatMap_cons,List.flatMap_append,List.mem_append];exact .inr (.inl ht))),
   ga (x:=hi) (fun t ht=>h t (by simp only[A.xs,List.flatMap_cons,List.flatMap_append,List.mem_append];exact .inr (.inr ht)))]
 case slc sz x lo hi mx =>
  simp only[A.run];rw[aM (x:=x) (fun t ht=>h t (by simp[A.xs,ht])),ga (x:=lo) (fun t ht=>h t (by simp only[A.xs,List.flatMap_cons,List.flatMap_append,List.mem_append];exact .inr (.inl (.inl ht)))),
   ga (x:=hi) (fun t ht=>h t (by simp only[A.xs,List.flatMap_cons,List.flatMap_append,List.mem_append];exact .inr (.inl (.inr ht)))),
   ga (x:=mx) (fun t ht=>h t (by simp only[A.xs,List.flatMap_cons,List.flatMap_append,List.mem_append];exact .inr (.inr ht)))]
 case pick a b c =>
  simp only[A.run];rw[aM (x:=a) (fun t ht=>h t (by simp[A.xs,ht])),aM (x:=b) (fun t ht=>h t (by simp[A.xs,ht])),aM (x:=c) (fun t ht=>h t (by simp[A.xs,ht]))]
 case nilc k n x =>
  rcases k with _|_|k <;> simp only[A.run] <;> rw[aM (x:=x) (fun t ht=>h t (by simp[A.xs,ht]))]
 case len s x =>
  cases s <;> simp only[A.run] <;> rw[aM (x:=x) (fun t ht=>h t (by simp[A.xs,ht]))]
 case ixs x i=>simp only[A.run];rw[aM (x:=x) (fun t ht=>h t (by simp[A.xs,ht])),jG (x:=i) (fun t ht=>h t (by simp[A.xs,ht]))]
 case ia sz x i=>simp only[A.run];rw[aM (x:=x) (fun t ht=>h t (by simp[A.xs,ht])),jG (x:=i) (fun t ht=>h t (by simp[A.xs,ht]))]
 case iar l sz x i=>simp only[A.run];rw[aM (x:=x) (fun t ht=>h t (by simp[A.xs,ht])),jG (x:=i) (fun t ht=>h t (by simp[A.xs,ht]))]
 case mks s b z x y=>simp only[A.run];rw[jG (x:=x) (fun t ht=>h t (by simp[A.xs,ht])),jG (x:=y) (fun t ht=>h t (by simp[A.xs,ht]))]
 case st n x y=>simp only[A.run];rw[aM (x:=x) (fun t ht=>h t (by simp[A.xs,ht])),aM (x:=y) (fun t ht=>h t (by simp[A.xs,ht]))]
 case bin op x y=>simp only[A.run];rw[aM (x:=x) (fun t ht=>h t (by simp[A.xs,ht])),aM (x:=y) (fun t ht=>h t (by simp[A.xs,ht]))]
 case eqb n x y=>simp only[A.run];rw[aM (x:=x) (fun t ht=>h t (by simp[A.xs,ht])),aM (x:=y) (fun t ht=>h t (by simp[A.xs,ht]))]
 case eqa n k x y=>simp only[A.run];rw[aM (x:=x) (fun t ht=>h t (by simp[A.xs,ht])),aM (x:=y) (fun t ht=>h t (by simp[A.xs,ht]))]
 case mm m x y=>simp only[A.run];rw[aM (x:=x) (fun t ht=>h t (by simp[A.xs,ht])),aM (x:=y) (fun t ht=>h t (by simp[A.xs,ht]))]
 case app st s b x y=>simp only[A.run];rw[aM (x:=x) (fun t ht=>h t (by simp[A.xs,ht])),aM (x:=y) (fun t ht=>h t (by simp[A.xs,ht]))]
 case ext x i=>simp only[A.run];rw[aM (x:=x) (fun t ht=>h t (by simp[A.xs,ht]))]
 all_goals (rename_i x;simp only[A.run];rw[aM (x:=x) (fun t ht=>h t (by simp[A.xs,ht]))])
theorem qB {x:X} (h:∀ t∈x.slot,fr[t]?=fr2[t]?):xk fr x=xk fr2 x:=by
 cases x with
 | t n=>simp only[xk,qY,aM (x:=.t n) h]
 | c y=>rfl
theorem yz {a:A} (h:∀ t∈a.xs.flatMap X.slot,fr[t]?=fr2[t]?):a.kind fr=a.kind fr2:=by
 cases a <;> try rfl
 case ld ag x=>exact qB (x:=x) fun t ht=>h t (by simp[A.xs,ht])
 case b2s x=>exact qB (x:=x) fun t ht=>h t (by simp[A.xs,ht])
 case app st s b x y =>
  simp only[A.kind];rw[aM (x:=x) (fun t ht=>h t (by simp[A.xs,ht])),qB (x:=y) (fun t ht=>h t (by simp[A.xs,ht]))]
theorem E2 {x:X} (h:x.ev fr=some v):qY fr x=v.refs:=by simp only[qY,h]
theorem pQ {x:X} (hk:xk fr x=0) (h:x.ev fr=some v):v.refs=[]:=by
 cases x with
 | t n =>
  simp only[xk,E2 h] at hk;cases hw:v.refs with
  | nil=>rfl
  | cons a b=>rw[hw] at hk;simp at hk
 | c y =>
  simp only[X.ev,Option.some.injEq] at h;subst h;simp only[xk] at hk;cases hw:y.refs with
  | nil=>rfl
  | cons a b=>rw[hw] at hk;simp at hk
theorem yh {x:X} (hk:xk fr x=1) (h:x.ev fr=some v):∀ b∈v.refs,b∈aF fr x.slot:=by
 cases x with
 | t n =>
  simp only[X.ev] at h;intro b hb;simpa[aF,X.slot,h] using hb
 | c y =>
  simp only[xk] at hk;cases hh:y.refs.isEmpty <;> rw[hh] at hk <;> cases hk
theorem jc {y:L} (hy:y.refs=[]) {H2:Hp} {sz:Nat}:bQ H2 sz y=bQ H sz y:=by
 cases y with
 | d x=>cases x <;> rfl
 | sl=>simp[L.refs] at hy
 | _=>rfl
theorem lD {a:A} (hk:a.kind fr=0) (hr:a.run φ fr H=some (v,H')):H'=H∧∀ H2,a.run φ fr H2=some (v,H2):=by
 cases a;case own=>simp[A.kind] at hk
 case alloc=>simp[A.kind] at hk
 case box=>simp[A.kind] at hk
 case bsl=>simp[A.kind] at hk
 case bsp=>simp[A.kind] at hk
 case bs1=>simp[A.kind] at hk
 case mkm=>simp[A.kind] at hk
 case mset=>simp[A.kind] at hk
 case mget=>simp[A.kind] at hk
 case st=>simp[A.kind] at hk
 case mks=>simp[A.kind] at hk
 case s2b=>simp[A.kind] at hk
 case slar=>simp[A.kind] at hk
 case call=>simp[A.kind] at hk
 case calln=>simp[A.kind] at hk
 case callz=>simp[A.kind] at hk
 case callv=>simp[A.kind] at hk
 case ld ag x =>
  simp only[A.kind] at hk;simp only[A.run] at hr ⊢;split at hr
  ·rename_i i off hx;have:=pQ hk hx;simp[V.refs,L.refs] at this
  ·rename_i i k j hx;have:=pQ hk hx;simp[V.refs,L.refs] at this
  ·rename_i cs hx;try simp only[hx]
   split at hr
   ·split at hr
    ·cases hr;exact⟨rfl,fun H2=>by simp[*]⟩
    ·cases hr
   ·split at hr
    ·cases hr;exact⟨rfl,fun H2=>by simp[*]⟩
    ·cases hr
  ·cases hr
 case b2s x =>
  simp only[A.kind] at hk;simp only[A.run] at hr ⊢;split at hr
  ·rename_i y hx;try simp only[hx]
   have hy:y.refs=[]:=by have:=pQ hk hx;simpa only[V.refs] using this
   have hw:∀ H2,bQ H2 1 y=bQ H 1 y:=fun H2=>jc hy
   simp only[hw];split at hr
   ·split at hr
    ·cases hr;exact⟨rfl,fun H2=>by simp[*]⟩
    ·cases hr
   ·cases hr
  ·cases hr
 case app str sz bytes s x =>
  simp only[A.kind] at hk;split at hk
  ·rename_i rows hs;simp only[A.run] at hr ⊢;simp only[hs] at hr ⊢;cases hx:x.ev fr with
   | none=>rw[hx] at hr;simp at hr
   | some w =>
    rw[hx] at hr;have hy:w.refs=[]:=pQ hk hx;cases w with
    | one y =>
     have hw:∀ H2,bQ H2 sz y=bQ H sz y:=fun H2=>jc (by simpa only[V.refs] using hy)
     simp only[hw] at hr ⊢;split at hr
     ·cases hr
     ·rename_i news hn;try simp only[hn]
      split at hr
      ·cases hr;exact⟨rfl,fun H2=>by simp[*]⟩
      ·cases hr
    | agg xs=>simp at hr
    | tup xs=>simp at hr
    | any=>simp at hr
  ·simp at hk
 case callp f xs =>
  simp only[A.run] at hr ⊢;split at hr
  ·rename_i vs hvs;try simp only[hvs]
   split at hr
   ·rename_i ds hds;try simp only[hds]
    split at hr
    ·cases hr;exact⟨rfl,fun H2=>by simp[*]⟩
    ·cases hr
   ·cases hr
  ·cases hr
 case nilc k n x =>
  rcases k with _|_|k <;> simp only[A.run] at hr ⊢ <;> repeat' (split at hr)
  all_goals first|(cases hr;done)|(cases hr;exact⟨rfl,fun H2=>by simp[*]⟩)
 case len s x =>
  cases s <;> simp only[A.run] at hr ⊢ <;> repeat' (split at hr)
  all_goals first|(cases hr;done)|(cases hr;exact⟨rfl,fun H2=>by simp[*]⟩)
 all_goals
  simp only[A.run] at hr ⊢;repeat' (split at hr)
  all_goals first|(cases hr;done)|(cases hr;exact⟨rfl,fun H2=>by simp[*]⟩)
theorem DG (fr:Fr) (x:X):xk fr x<=2:=by
 cases x with
 | t n=>simp only[xk];cases (qY fr (.t n)).isEmpty <;> decide
 | c v=>simp only[xk];cases v.refs.isEmpty <;> decide
theorem wI (fr:Fr) (a:A):a.kind fr<=2:=by
 cases a <;> simp only[A.kind] <;> (try omega)
 case ld=>exact DG _ _
 case b2s=>exact DG _ _
 case app=>split;exact DG _ _;omega
theorem qV {a:A} (hk:a.kind fr≠2) (hr:a.run φ fr H=some (v,H')):H'=H:=by
 by_cases h0:a.kind fr=0
 ·exact(lD h0 hr).1
 cases a;case ld ag x =>
  simp only[A.run] at hr;repeat' (split at hr)
  all_goals first|(cases hr;done)|(cases hr;rfl)
 case b2s x =>
  simp only[A.run] at hr;repeat' (split at hr)
  all_goals first|(cases hr;done)|(cases hr;rfl)
 case app str sz bytes s x =>
  simp only[A.kind] at hk;split at hk
  ·rename_i rows hs;simp only[A.run] at hr;simp only[hs] at hr;cases hx:x.ev fr with
   | none=>rw[hx] at hr;simp at hr
   | some w =>
    rw[hx] at hr;cases w with
    | one y =>
     simp only at hr;split at hr
     ·cases hr
     ·split at hr
      ·cases hr;rfl
      ·cases hr
    | agg xs=>simp at hr
    | tup xs=>simp at hr
    | any=>simp at hr
  ·exact absurd rfl hk
 all_goals first|exact absurd rfl hk|exact absurd rfl h0
theorem nQ {y:L} {Y:Hp} {sz:Nat} {r:List (List D)} (h:bQ H sz y=some r) (hY:∀ b∈y.refs,b<H.length->Y[b]?=H[b]?):bQ Y sz y=some r:=by
 cases y with
 | sl i z off n =>
  simp only[bQ] at h ⊢;split at h
  ·rename_i b hb;rw[hY i (by simp[L.refs]) (List.getElem?_eq_some_iff.1 hb).1,hb]
   exact h
  ·cases h
 | d x=>cases x <;> exact h
 | _=>exact h
theorem sU {a:A} (hk:a.kind fr=1) (hr:a.run φ fr H=some (v,H')) {Y:Hp} (hY:∀ b∈aF fr (a.xs.flatMap X.slot),b<H.length->Y[b]?=H[b]?):a.run φ fr Y=some (v,Y):=by
 cases a;case ld ag x =>
  simp only[A.kind] at hk;simp only[A.run] at hr ⊢;have hxs:∀ u,x.ev fr=some u->∀ b∈u.refs,b<H.length->Y[b]?=H[b]?:=fun u hu b hb hl=>hY b (by simpa[A.xs] using yh hk hu b hb) hl
  split at hr
  ·rename_i i off hx;split at hr
   ·rename_i xs hb;have hYi:=hxs _ hx i (by simp[V.refs,L.refs]) (List.getElem?_eq_some_iff.1 hb).1
    simp only[hx,hYi,hb];split at hr
    ·split at hr
     ·cases hr;simp[*]
     ·cases hr
    ·split at hr
     ·cases hr;simp[*]
     ·cases hr
   ·cases hr
  ·rename_i i k j hx;split at hr
   ·rename_i sz rows fz hb;have hYi:=hxs _ hx i (by simp[V.refs,L.refs]) (List.getElem?_eq_some_iff.1 hb).1
    simp only[hx,hYi,hb];split at hr
    ·split at hr
     ·split at hr
      ·cases hr;simp[*]
      ·cases hr
     ·split at hr
      ·cases hr;simp[*]
      ·cases hr
    ·cases hr
   ·cases hr
  ·rename_i cs hx;try simp only[hx]
   split at hr
   ·split at hr
    ·cases hr;simp[*]
    ·cases hr
   ·split at hr
    ·cases hr;simp[*]
    ·cases hr
  ·cases hr
 case b2s x =>
  simp only[A.kind] at hk;simp only[A.run] at hr ⊢;split at hr
  ·rename_i y hx;split at hr
   ·rename_i rows hrow;have:=nQ hrow (Y:=Y) fun b hb hl=>hY b (by simpa[A.xs] using yh hk hx b (by simpa[V.refs] using hb)) hl
    try simp only[hx,this]
    split at hr
    ·cases hr;simp[*]
    ·cases hr
   ·cases hr
  ·cases hr
 case app str sz bytes s x =>
  simp only[A.kind] at hk;split at hk
  ·rename_i rows hs;simp only[A.run] at hr ⊢;simp only[hs] at hr ⊢;cases hx:x.ev fr with
   | none=>rw[hx] at hr;simp at hr
   | some w =>
    rw[hx] at hr;cases w with
    | one y =>
     have hw:∀ r,bQ H sz y=some r->bQ Y sz y=some r:=fun r h=>nQ h fun b hb hl=>hY b (by
      have:=yh hk hx b (by simpa[V.refs] using hb)
      simp only[A.xs,List.flatMap_cons,List.flatMap_nil,List.append_nil,aF,List.flatMap_append,List.mem_append] at this ⊢;exact .inr this) hl
     cases str with
     | true =>
      simp only[cond_true] at hr ⊢;split at hr
      ·cases hr
      ·rename_i news hn;try simp only[hn]
       split at hr
       ·cases hr;simp[*]
       ·cases hr
     | false =>
      simp only[cond_false] at hr ⊢;split at hr
      ·cases hr
      ·rename_i news hn;simp only[hw _ hn];split at hr
       ·cases hr;simp[*]
       ·cases hr
    | agg xs=>simp at hr
    | tup xs=>simp at hr
    | any=>simp at hr
  ·simp at hk
 all_goals simp[A.kind] at hk
end
section
variable {P:Program} {mu mu' mu1:Mu} {S S1:St} {TB:Nat->Prop} {w w':World} {H H1 H2:Hp} {ids:List Nat} {q:Nat}
def ve (mu mu1:Mu) (m q d:Nat):Mu:=fun i=>if q<=i∧i<q+d then mu1 (m+(i-q)) else mu i
theorem Bi (hi:Inv mu S TB w H) (hn:ids.Nodup) (hal:∀ i∈ids,i<H.length) (hmu:∀ i∈ids,(mu i).isSome=true)
  (hq:∀ i,q<=i->i<q+(H1.length-ids.length)->mu i=none) (hqi:∀ i∈ids,i<q∨q+(H1.length-ids.length)<=i)
  (hm1:ids.length<=H1.length) (hl:H2.length=H.length) (hql:q+(H1.length-ids.length)<=H.length)
  (ex:Ext (qO mu TB H ids) (jJ mu ids) S w mu1 S1 w') (i1:Inv mu1 S1 (qO mu TB H ids) w' H1)
  (g1:∀ (j i:Nat),ids[j]?=some i->H2[i]?=(H1[j]?).map (Box.ren (bE ids q (H1.length-ids.length))))
  (g2:∀ t,t<H1.length-ids.length->H2[q+t]?=(H1[ids.length+t]?).map (Box.ren (bE ids q (H1.length-ids.length))))
  (g3:∀ i,i ∉ ids->(i<q∨q+(H1.length-ids.length)<=i)->H2[i]?=H[i]?) :
  Ext TB mu S w (ve mu mu1 ids.length q (H1.length-ids.length)) S1 w'∧Inv (ve mu mu1 ids.length q (H1.length-ids.length)) S1 TB w' H2 ∧
   ∀ j i,bE ids q (H1.length-ids.length) j=some i->ve mu mu1 ids.length q (H1.length-ids.length) i=mu1 j:=by
 have hmu0:∀ j i,ids[j]?=some i->∃ l,mu i=some l∧jJ mu ids j=some l∧mu1 j=some l:=by
  intro j i hj;obtain⟨l,hl⟩:=Option.isSome_iff_exists.1 (hmu i (List.mem_of_getElem? hj));have h0:jJ mu ids j=some l:=by simp[jJ,hj,hl]
  exact⟨l,hl,h0,ex.mu _ _ h0⟩
 have hβ:∀ j i,bE ids q (H1.length-ids.length) j=some i->ve mu mu1 ids.length q (H1.length-ids.length) i=mu1 j:=by
  intro j i hj;simp only[bE] at hj;split at hj
  ·rename_i hlt;obtain⟨l,h1,_,h3⟩:=hmu0 j i hj;have:=hqi i (List.mem_of_getElem? hj);simp only[ve];rw[if_neg (by omega),h1,h3]
  ·split at hj
   ·cases hj;simp only[ve];rw[if_pos (by omega)]
    congr 1;omega
   ·cases hj
 have hmu2:∀ i l,mu i=some l->ve mu mu1 ids.length q (H1.length-ids.length) i=some l:=by
  intro i l h;simp only[ve];rw[if_neg (fun hc=>by rw[hq i hc.1 hc.2] at h;cases h),h]
 have e2:Ext TB mu S w (ve mu mu1 ids.length q (H1.length-ids.length)) S1 w':=⟨hmu2,ex.ss,fun b q ht hs=>ex.avoid b q (.inl ht) hs,ex.cell,fun b ht=>ex.blk b (.inl ht),ex.size,ex.os,ex.tape,ex.output⟩
 refine⟨e2,?_,hβ⟩;have hget:∀ (i:Nat) (b:Box),H2[i]?=some b ->
   (∃ (j:Nat) (b1:Box),bE ids q (H1.length-ids.length) j=some i∧H1[j]?=some b1∧b=b1.ren (bE ids q (H1.length-ids.length)))∨(i ∉ ids∧(i<q∨q+(H1.length-ids.length)<=i)∧H[i]?=some b):=by
  intro i b hb;by_cases hm:i∈ids
  ·left
   obtain⟨j,hj,rfl⟩:=List.getElem_of_mem hm;rw[g1 j ids[j] (by simp[hj]),Option.map_eq_some_iff] at hb
   obtain⟨b1,hb1,rfl⟩:=hb;exact⟨j,b1,by simp[bE,hj],hb1,rfl⟩
  ·by_cases hr:q<=i∧i<q+(H1.length-ids.length)
   ·left
    have:=g2 (i-q) (by omega)
    rw[show q+(i-q)=i by omega,hb] at this
    obtain⟨b1,hb1,rfl⟩:=Option.map_eq_some_iff.1 this.symm;exact⟨ids.length+(i-q),b1,by simp only[bE];rw[if_neg (by omega),if_pos (by omega)];congr 1;omega,hb1,rfl⟩
   ·right
    have hr':i<q∨q+(H1.length-ids.length)<=i:=by omega
    rw[g3 i hm hr'] at hb;exact⟨hm,hr',hb⟩
 have hTB:∀ {j:Nat} {b1:Box} {l:Loc} {B:Nat},H1[j]?=some b1->alive b1=true->mu1 j=some l->l.blk=some B->¬ qO mu TB H ids B:=by
  intro j b1 l B hb1 ha1 hl hB;have:=i1.box j b1 l hb1 hl;cases b1 with
  | dead=>cases ha1
  | mp rows =>
   obtain⟨l',B',g1,g2,g3,g5,g6⟩:=this;rw[hl] at g1;cases g1;rw[hB] at g2;cases g2;exact g5
  | cells xs =>
   obtain⟨l',B',cur,el,g1,g2,g3,g4,g5,g6⟩:=this;rw[hl] at g1;cases g1;rw[hB] at g2;cases g2;exact g5
  | arr sz rows fz =>
   obtain⟨l',g1,g2,g3,g4,g5,g6⟩:=this;rw[hl] at g1;cases g1;rw[hB] at g6;obtain⟨cur,el,ff,k1,k2,k3,k4,k5,k6,k7,k8⟩:=g6;exact k7
 have hold:∀ i,i ∉ ids->(i<q∨q+(H1.length-ids.length)<=i)->ve mu mu1 ids.length q (H1.length-ids.length) i=mu i:=by
  intro i _ h;simp only[ve];rw[if_neg (by omega)]
 refine⟨fun i b l0 hb hl0=>?_,fun i l hli=>?_,fun i l B h1 h2=>?_,i1.sl,fun b ht=>Nat.lt_of_lt_of_le (hi.tl b ht) ex.size,?_⟩
 ·rcases hget i b hb with⟨j,b1,hj,hb1,rfl⟩|⟨hm,hr,hb1⟩
  ·have hbj:=hβ j i hj;exact RelB.ren hβ hbj (fun l B _ _ _ h=>fun ht=>h (.inl ht)) (i1.box j b1 l0 hb1 (by rw[<- hbj];exact hl0))
  ·cases hal1:alive b with
   | false=>cases b <;> first|trivial|cases hal1
   | true =>
    have hT:∀ l B,mu i=some l->l.blk=some B->qO mu TB H ids B:=fun l B h1 h2=>.inr ⟨i,b,l,hm,hb1,hal1,h1,h2⟩
    have hl0':mu i=some l0:=by rw[<- hold i hm hr];exact hl0
    exact(hi.box i b l0 hb1 hl0').keep e2 (fun l B h1 h2=>ex.blk B (hT l B h1 h2)) (fun l B q h1 h2 h3=>ex.avoid B q (hT l B h1 h2) h3)
 ·simp only[ve] at hli;split at hli
  ·omega
  ·have:=hi.dom _ _ hli;omega
 ·simp only[ve] at h1;split at h1
  ·exact i1.old _ l B h1 h2
  ·exact Nat.lt_of_lt_of_le (hi.old i l B h1 h2) ex.size
 ·have key:∀ (p:Nat) (b:Box) (l:Loc) (B:Nat),H2[p]?=some b->alive b=true->ve mu mu1 ids.length q (H1.length-ids.length) p=some l->l.blk=some B ->
    (∃ (j:Nat) (b1:Box),bE ids q (H1.length-ids.length) j=some p∧H1[j]?=some b1∧alive b1=true∧mu1 j=some l)∨(p ∉ ids∧H[p]?=some b∧mu p=some l):=by
   intro p b l B hb hab hl hB;rcases hget p b hb with⟨j,b1,hj,hb1,rfl⟩|⟨hm,hr,hb1⟩
   ·exact .inl ⟨j,b1,hj,hb1,by rw[jz] at hab;exact hab,by rw[<- hβ j p hj];exact hl⟩
   ·exact .inr ⟨hm,hb1,by rw[<- hold p hm hr];exact hl⟩
  intro p r bp br lp lr B hpq hbp hbq hap haq hmp hmq hBp hBq;rcases key p bp lp B hbp hap hmp hBp with⟨j,b1,hj,hb1,ha1,hl1⟩|⟨hm1',hb1,hl1⟩
  ·rcases key r br lr B hbq haq hmq hBq with⟨k,b2,hk,hb2,ha2,hl2⟩|⟨hm2,hb2,hl2⟩
   ·have hjk:j≠k:=by intro e;subst e;rw[hj] at hk;cases hk;exact hpq rfl
    exact i1.one j k b1 b2 lp lr B hjk hb1 hb2 ha1 ha2 hl1 hl2 hBp hBq
   ·exact hTB hb1 ha1 hl1 hBp (.inr ⟨r,br,lr,hm2,hb2,haq,hl2,hBq⟩)
  ·rcases key r br lr B hbq haq hmq hBq with⟨k,b2,hk,hb2,ha2,hl2⟩|⟨hm2,hb2,hl2⟩
   ·exact hTB hb2 ha2 hl2 hBq (.inr ⟨p,bp,lp,hm1',hb1,hap,hl1,hBp⟩)
   ·exact hi.one p r bp br lp lr B hpq hb1 hb2 hap haq hl1 hl2 hBp hBq
end
section
variable {P:Program} {φ:FuncId->List V->Hp->Option (V × Hp)} {mu:Mu} {S:St} {TB:Nat->Prop} {w:World} {H H1 H2:Hp} {fr:Fr} {a:Act} {r:V} {o:Oper} {ids:List Nat} {q:Nat}
theorem RelFr.ren {mu':Mu} {ρ:Nat->Option Nat} (h:∀ i j,ρ i=some j->mu' j=mu i) (hf:RelFr mu S w fr a):RelFr mu' S w (fr.map (V.ren ρ)) a:=by
 refine⟨by simp[hf.size],fun t v ht=>?_⟩
 rw[List.getElem?_map,Option.map_eq_some_iff] at ht;obtain⟨u,hu,rfl⟩:=ht;obtain⟨x,hx,hr⟩:=hf.rel t u hu;exact⟨x,hx,hr.ren h⟩
theorem II (hg:Good P φ) {fl:Nat} {ao:A} (hc:be P fl o.op=some ao) (hi:Inv mu S TB w H) (hf:RelFr mu S w fr a)
  (hn:ids.Nodup) (hal:∀ i∈ids,i<H.length) (hmu:∀ i∈ids,(mu i).isSome=true)
  (hr:ao.run φ (fr.map (V.ren (aK ids))) (ax H ids)=some (r,H1))
  (hq:∀ i,q<=i->i<q+(H1.length-ids.length)->mu i=none) (hqi:∀ i∈ids,i<q∨q+(H1.length-ids.length)<=i)
  (hl:H2.length=H.length) (hql:q+(H1.length-ids.length)<=H.length)
  (g1:ids.length<=H1.length->∀ (j i:Nat),ids[j]?=some i->H2[i]?=(H1[j]?).map (Box.ren (bE ids q (H1.length-ids.length))))
  (g2:ids.length<=H1.length->∀ t,t<H1.length-ids.length->H2[q+t]?=(H1[ids.length+t]?).map (Box.ren (bE ids q (H1.length-ids.length))))
  (g3:∀ i,i ∉ ids->(i<q∨q+(H1.length-ids.length)<=i)->H2[i]?=H[i]?) :
  ∀ (next:Act->World->Prop) (Q:Exit->Act->World->Prop),
   (∀ x w' mu1 S',Ext TB mu S w (ve mu mu1 ids.length q (H1.length-ids.length)) S' w'->Inv (ve mu mu1 ids.length q (H1.length-ids.length)) S' TB w' H2 ->
    RelV (ve mu mu1 ids.length q (H1.length-ids.length)) S' w' (r.ren (bE ids q (H1.length-ids.length))) x->next (a.put o.dst x) w')->o.wp P a w next Q:=by
 intro next Q hk;refine vZ hg hc (hi.canon hn hal) (hf.ren jX) hr next Q fun x w' mu1 S1 ex i1 rx=>?_
 have hm1:ids.length<=H1.length:=by
  rcases Nat.eq_zero_or_pos ids.length with h|h
  ·omega
  ·obtain⟨l,hl⟩:=Option.isSome_iff_exists.1 (hmu ids[ids.length-1] (by simp))
   have:=i1.dom (ids.length-1) l (ex.mu _ _ (by simp only[jJ];rw[List.getElem?_eq_getElem (by omega)];exact hl))
   omega
 obtain⟨e2,i2,hβ⟩:=Bi hi hn hal hmu hq hqi hm1 hl hql ex i1 (g1 hm1) (g2 hm1) g3;exact hk x w' mu1 S1 e2 i2 (rx.ren hβ)
theorem oh {o:AOp} {v:V} {H':Hp} (h:aW φ o fr H=some (v,H')):∃ r H1,o.a.run φ ((aS o.slots fr).map (V.ren (aK (aO o fr H)))) (ax H (aO o fr H))=some (r,H1) ∧
  v=r.ren (bE (aO o fr H) H.length (H1.length-(aO o fr H).length))∧H'.length=H.length+(H1.length-(aO o fr H).length) ∧
  (∀ i,i ∉ aO o fr H->i<H.length->H'[i]?=H[i]?) ∧
  ((aO o fr H).length<=H1.length->∀ (j i:Nat),(aO o fr H)[j]?=some i->H'[i]?=(H1[j]?).map (Box.ren (bE (aO o fr H) H.length (H1.length-(aO o fr H).length)))) ∧
  ((aO o fr H).length<=H1.length->∀ t,t<H1.length-(aO o fr H).length->H'[H.length+t]?=(H1[(aO o fr H).length+t]?).map (Box.ren (bE (aO o fr H) H.length (H1.length-(aO o fr H).length)))):=by
 simp only[aW] at h;obtain⟨hn,hal⟩:(aO o fr H).Nodup∧∀ i∈aO o fr H,∃ b,H[i]?=some b∧alive b=true:=fF H _;generalize aO o fr H=ids at *;split at h
 ·cases h
 ·rename_i r H1 hr;cases h;refine⟨r,H1,hr,rfl,?_,fun i hi hl=>?_,fun hm j i hj=>?_,fun hm t ht=>?_⟩
  ·rw[List.length_append,cm];simp
  ·rw[List.getElem?_append_left (by rw[cm];exact hl),dS _ _ _ _ hi]
  ·obtain⟨b,hb,_⟩:=hal i (List.mem_of_getElem? hj);have hlt:=(List.getElem?_eq_some_iff.1 hb).1;have hjl:=(List.getElem?_eq_some_iff.1 hj).1;rw[List.getElem?_append_left (by rw[cm];exact hlt),jj ids H _ j i hn (by simp;omega) hj hlt,List.getElem?_map,List.getElem?_take,if_pos hjl]
  ·rw[List.getElem?_append_right (by rw[cm];omega),cm,List.getElem?_map,List.getElem?_drop]
   congr 3;omega
def HZ:Loc:=⟨none,0,0,1⟩
def vN (mu:Mu) (n:Nat):Mu:=fun i=>match mu i with|some l=>some l|none=>if i<n then some HZ else none
def nS (mu:Mu) (H:Hp):Hp:=H.mapIdx fun i b=>match mu i with|some _=>b|none=>.dead
theorem kl {n i:Nat} {l:Loc} (h:mu i=some l):vN mu n i=some l:=by simp[vN,h]
theorem d9 {n i:Nat} {l:Loc} (h:vN mu n i=some l):mu i=some l∨(mu i=none∧l=HZ):=by
 simp only[vN] at h;split at h
 ·rename_i l' hl;cases h;exact .inl hl
 ·rename_i hl;split at h
  ·cases h;exact .inr ⟨hl,rfl⟩
  ·cases h
theorem jv {i:Nat} (h:(mu i).isSome=true):(nS mu H)[i]?=H[i]?:=by
 obtain⟨l,hl⟩:=Option.isSome_iff_exists.1 h;simp only[nS,List.getElem?_mapIdx,hl];cases H[i]? <;> rfl
theorem xU {i:Nat} {b:Box} (h:mu i=none) (hb:(nS mu H)[i]?=some b):b=.dead:=by
 simp only[nS,List.getElem?_mapIdx,h,Option.map_eq_some_iff] at hb;obtain⟨_,_,rfl⟩:=hb;rfl
theorem wq {n i off:Nat} {x:Value} (h:ptrTo (vN mu n) i off x):ptrTo mu i off x:=by
 obtain⟨l,B,h1,h2,h3⟩:=h;rcases d9 h1 with h1|⟨_,rfl⟩
 ·exact⟨l,B,h1,h2,h3⟩
 ·cases h2
theorem nY {n:Nat} {x:L} {v:Value} (h:RelL (vN mu n) S w x v):RelL mu S w x v:=by
 cases x with
 | p i off=>exact wq h
 | ap i k j =>
  obtain⟨l,B,h1,h2,h3⟩:=h;rcases d9 h1 with h1|⟨_,rfl⟩
  ·exact⟨l,B,h1,h2,h3⟩
  ·cases h2
 | sl i z off n =>
  obtain⟨l,h1,h2,h3,h4⟩:=h;rcases d9 h1 with h1|⟨_,rfl⟩
  ·exact⟨l,h1,h2,h3,h4⟩
  ·obtain⟨_,_,_,h5⟩:=h4;have:=h5.2.2.2;cases this
 | f fn caps =>
  obtain⟨vs,h1,h2,h3⟩:=h;exact⟨vs,h1,h2,fun j i hj=>let ⟨x,hx,hp⟩:=h3 j i hj;⟨x,hx,wq hp⟩⟩
 | y i k =>
  obtain⟨l,B,h1,h2,h3⟩:=h;rcases d9 h1 with h1|⟨_,rfl⟩
  ·exact⟨l,B,h1,h2,h3⟩
  ·cases h2
 | sp i k =>
  obtain⟨l,B,h1,h2,h3⟩:=h;rcases d9 h1 with h1|⟨_,rfl⟩
  ·exact⟨l,B,h1,h2,h3⟩
  ·cases h2
 | m i =>
  obtain⟨l,B,h1,h2,h3⟩:=h;rcases d9 h1 with h1|⟨_,rfl⟩
  ·exact⟨l,B,h1,h2,h3⟩
  ·cases h2
 | nm=>exact h
 | d x=>exact h
 | ip cs=>exact h
 | np=>exact h
 | nf=>exact h
 | ns=>exact h
 | cl rows=>exact h
 | nn rows=>exact h
 | u=>exact h
theorem mF {n:Nat} {x:List L} {v:List Value} (h:RelLs (vN mu n) S w x v):RelLs mu S w x v :=
 ⟨h.1,fun j x hj=>let ⟨v,hv,hr⟩:=h.2 j x hj;⟨v,hv,nY hr⟩⟩
theorem BR {n:Nat} {x:V} {v:Value} (h:RelV (vN mu n) S w x v):RelV mu S w x v:=by
 cases x with
 | one x=>exact nY (x:=x) h
 | agg xs=>obtain⟨cs,h1,h2⟩:=h;exact⟨cs,h1,mF h2⟩
 | tup xs =>
  obtain⟨vs,h1,h2,h3⟩:=h;refine⟨vs,h1,h2,fun j c hj=>?_⟩
  obtain⟨x,hx,hr⟩:=h3 j c hj;refine⟨x,hx,?_⟩;obtain⟨t,xs⟩:=c;cases t with
  | true=>obtain⟨cs,h1,h2⟩:=hr;exact⟨cs,h1,mF h2⟩
  | false=>obtain⟨x,h1,h2⟩:=hr;exact⟨x,h1,nY h2⟩
 | any=>trivial
theorem B8 {n i:Nat} {b:Box} {l:Loc} (hl:mu i=some l) (h:RelB (vN mu n) S TB w i b):RelB mu S TB w i b:=by
 have hp:vN mu n i=some l:=kl hl;cases b with
 | dead=>trivial
 | mp rows =>
  obtain⟨l',B,h1,h2,h3,h4⟩:=h;rw[hp] at h1;cases h1;exact⟨l,B,hl,h2,h3,h4⟩
 | cells xs =>
  obtain⟨l',B,cur,e,h1,h2,h3,h4,h5⟩:=h;rw[hp] at h1;cases h1;exact⟨l,B,cur,e,hl,h2,h3,mF h4,h5⟩
 | arr sz rows fz =>
  obtain⟨l',h1,h2⟩:=h;rw[hp] at h1;cases h1;exact⟨l,hl,h2⟩
theorem Ce (hg:Good P φ) {fl:Nat} {ao:A} (hc:be P fl o.op=some ao) {X:Hp} (hi:Inv mu S TB w X) (hf:RelFr mu S w fr a) {v:V}
  (hk:ao.kind fr≠2) (hr:ao.run φ fr X=some (v,X)) :
  ∀ (next:Act->World->Prop) (Q:Exit->Act->World->Prop),
   (∀ x w' S',Ext TB mu S w mu S' w'->Inv mu S' TB w' X->RelV mu S' w' v x->next (a.put o.dst x) w')->o.wp P a w next Q:=by
 intro next Q hn;have hfr:RelFr (vN mu X.length) S w fr a:=⟨hf.size,fun t v ht=>let ⟨x,hx,hr⟩:=hf.rel t v ht;⟨x,hx,hr.ext (TB:=TB) ⟨fun _ _ h=>kl h,fun _ _ h=>h,fun _ _ _ h=>h,fun _ _ _=>rfl,fun _ _=>rfl,Nat.le_refl _,rfl,rfl,rfl⟩⟩⟩
 have hll:(nS mu X).length=X.length:=by simp[nS]
 have hi2:Inv (vN mu X.length) S TB w (nS mu X):=by
  have e0:Ext TB mu S w (vN mu X.length) S w:=⟨fun _ _ h=>kl h,fun _ _ h=>h,fun _ _ _ h=>h,fun _ _ _=>rfl,fun _ _=>rfl,Nat.le_refl _,rfl,rfl,rfl⟩
  refine⟨fun i b l hb hl=>?_,fun i l hl=>?_,fun i l B h1 h2=>?_,hi.sl,hi.tl,fun i j bi bj li lj B hij hbi hbj hai haj hmi hmj h1 h2=>?_⟩
  ·rcases d9 hl with h|⟨h,rfl⟩
   ·rw[jv (by rw[h];rfl)] at hb
    exact(hi.box i b l hb h).keep e0 (fun _ _ _ _=>rfl) (fun _ _ _ _ _ h=>h)
   ·rw[xU h hb];trivial
  ·rw[hll];simp only[vN] at hl;split at hl
   ·rename_i h;exact hi.dom _ _ h
   ·split at hl
    ·assumption
    ·cases hl
  ·rcases d9 h1 with h|⟨_,rfl⟩
   ·exact hi.old i l B h h2
   ·cases h2
  ·rcases d9 hmi with h|⟨_,rfl⟩
   ·rcases d9 hmj with h'|⟨_,rfl⟩
    ·rw[jv (by rw[h];rfl)] at hbi
     rw[jv (by rw[h'];rfl)] at hbj
     exact hi.one i j bi bj li lj B hij hbi hbj hai haj h h' h1 h2
    ·cases h2
   ·cases h1
 have hr2:ao.run φ fr (nS mu X)=some (v,nS mu X):=by
  have h01:ao.kind fr=0∨ao.kind fr=1∨2<ao.kind fr:=by omega
  rcases h01 with h|h|h
  ·exact(lD h hr).2 _
  ·refine sU h hr fun b hb _=>jv ?_
   simp only[aF,List.mem_flatMap] at hb;obtain⟨t,_,hb⟩:=hb;cases ht:fr[t]? with
   | none=>rw[ht] at hb;simp at hb
   | some u =>
    rw[ht] at hb;obtain⟨x,_,hx⟩:=hf.rel t u ht;exact hx.refs b hb
  ·exact absurd (Nat.lt_of_lt_of_le h (wI fr ao)) (Nat.lt_irrefl _)
 refine vZ hg hc hi2 hfr hr2 next Q fun x w' mu' S' ex i1 rx=>?_
 have hmu:mu'=vN mu X.length:=by
  funext i
  cases h:vN mu X.length i with
  | some l=>exact ex.mu i l h
  | none =>
   cases h2:mu' i with
   | none=>rfl
   | some l =>
    have:=i1.dom i l h2;rw[hll] at this;simp only[vN] at h;split at h
    ·cases h
    ·rw[if_pos this] at h;cases h
 subst hmu;refine hn x w' S' ⟨fun _ _ h=>h,ex.ss,ex.avoid,ex.cell,ex.blk,ex.size,ex.os,ex.tape,ex.output⟩ ⟨fun i b l hb hl=>?_,hi.dom,fun i l B h1 h2=>i1.old i l B (kl h1) h2,i1.sl,i1.tl,hi.one⟩ (BR rx)
 exact B8 hl (i1.box i b l (by rw[jv (by rw[hl];rfl)];exact hb) (kl hl))
end
section
variable {P:Program} {φ:FuncId->List V->Hp->Option (V × Hp)}
structure StepAt (φ:FuncId->List V->Hp->Option (V × Hp)) (F:Nat->Fr) (G:Nat->Hp) (E:Nat->Log) (k:Nat) (o:AOp):Prop where
 ex:∃ (b:Bool) (v:V),wantedV (F k) o.g=some b∧(E k).kind=(bif b then o.a.kind (F k) else 0)∧F (k+1)=put (F k) o.dst v ∧
  drawStep φ o (E k).kind b (F k) (G k)=some (v,G (k+1))
 tch:(E k).tch=touch (E k).kind o (F k) (G k) (G (k+1))
 dst:(E k).dst=o.dst
 rds:(E k).rds=o.slots
 fz:o.fz=false
 pre:∀ j∈o.pre,j<k
 free:∀ j,j<k->j∈o.pre∨(E j).free (E k)=true
theorem nw {pre:List Nat} {e:Log}:∀ {l:List Log} {i:Nat},eh pre e i l=true->∀ (j:Nat) (x:Log),l[j]?=some x->(i+j)∈pre∨x.free e=true
 | [],i,h,j,x,hx=>by simp at hx
 | y::r,i,h,j,x,hx=>by
  simp only[eh,Bool.and_eq_true,Bool.or_eq_true] at h;cases j with
  | zero =>
   simp at hx;subst hx;rcases h.1 with h1|h1
   ·exact .inl (by simpa using h1)
   ·exact .inr h1
  | succ j =>
   have:=nw h.2 j x (by simpa using hx)
   rwa [show i+1+j=i+(j+1) by omega] at this
theorem wt {fr':Fr} {H':Hp}:∀ (r:List AOp) (lg:List Log) (fr:Fr) (H:Hp),bW φ r lg fr H=some (fr',H') ->
  ∃ (F:Nat->Fr) (G:Nat->Hp) (E:Nat->Log),F lg.length=fr∧G lg.length=H∧F (lg.length+r.length)=fr'∧G (lg.length+r.length)=H' ∧
   (∀ (j:Nat) (l:Log),lg[j]?=some l->E j=l)∧∀ (k:Nat) (o:AOp),r[k]?=some o->StepAt φ F G E (lg.length+k) o
 | [],lg,fr,H,h=>by
  simp only[bW] at h;cases h;exact⟨fun _=>fr',fun _=>H',fun j=>lg.getD j ⟨0,none,[],⟨[],true,[]⟩⟩,rfl,rfl,rfl,rfl,fun j l hj=>by simp[List.getD,hj],fun k o hk=>by simp at hk⟩
 | o::r,lg,fr,H,h=>by
  simp only[bW] at h;split at h
  ·cases h
  ·rename_i b hb;split at h
   ·rename_i v H1 hrun;cases hchk:(!o.fz && (o.pre.all (fun j=>decide (j<lg.length)) && eh o.pre ⟨bif b then o.a.kind fr else 0,o.dst,o.slots,touch (bif b then o.a.kind fr else 0) o fr H H1⟩ 0 lg)) with
    | false=>rw[hchk] at h;cases h
    | true =>
     rw[hchk] at h;simp only[cond_true] at h;simp only[Bool.and_eq_true,Bool.not_eq_true'] at hchk;obtain⟨hfz,hpre,hfree⟩:=hchk;obtain⟨F,G,E,hF,hG,hF',hG',hE,hS⟩:=wt r _ _ _ h;simp only[List.length_append,List.length_cons,List.length_nil] at hF hG hF' hG' hS;have hEk:E lg.length=⟨bif b then o.a.kind fr else 0,o.dst,o.slots,touch (bif b then o.a.kind fr else 0) o fr H H1⟩:=hE lg.length _ (by simp)
     refine⟨fun j=>if j=lg.length then fr else F j,fun j=>if j=lg.length then H else G j,E,by simp,by simp,?_,?_,fun j l hj=>hE j l ?_,?_⟩
     ·show(if lg.length+(o::r).length=lg.length then fr else F (lg.length+(o::r).length))=fr'
      rw[if_neg (by simp only[List.length_cons];omega),<- hF',show lg.length+(o::r).length=lg.length+(0+1)+r.length by simp only[List.length_cons];omega]
     ·show(if lg.length+(o::r).length=lg.length then H else G (lg.length+(o::r).length))=H'
      rw[if_neg (by simp only[List.length_cons];omega),<- hG',show lg.length+(o::r).length=lg.length+(0+1)+r.length by simp only[List.length_cons];omega]
     ·have hj':j<lg.length:=by
       rcases Nat.lt_or_ge j lg.length with h|h
       ·exact h
       ·rw[List.getElem?_eq_none h] at hj;cases hj
      rw[List.getElem?_append_left hj'];exact hj
     ·intro k o' hk;cases k with
      | zero =>
       simp at hk;subst hk;refine⟨⟨b,v,by simpa using hb,by simp[hEk],?_,?_⟩,?_,by simp[hEk],by simp[hEk],hfz,?_,?_⟩
       ·simp[hF]
       ·simpa[hEk,hG] using hrun
       ·simp[hEk,hG]
       ·intro j hj;have:=(List.all_eq_true.1 hpre) j hj;simpa using this
       ·intro j hj;have hj':j<lg.length:=by simpa using hj
        have hx:=nw hfree j lg[j] (by simp[hj'])
        rw[Nat.zero_add] at hx;have hEj:E j=lg[j]:=hE j _ (by rw[List.getElem?_append_left hj'];simp[hj'])
        rw[Nat.add_zero,hEk,hEj];exact hx
      | succ k =>
       have hs:=hS k o' (by simpa using hk)
       rw[show lg.length+1+k=lg.length+(k+1) by omega] at hs
       obtain⟨⟨b',v',x1,x2,x3,x4⟩,z,y1,y2,y3,y4,y5⟩:=hs;have e1:¬ (lg.length+(k+1)=lg.length):=by omega
       have e2:¬ (lg.length+(k+1)+1=lg.length):=by omega
       exact⟨⟨b',v',by simpa only[if_neg e1] using x1,by simpa only[if_neg e1] using x2,by simpa only[if_neg e1,if_neg e2] using x3,
        by simpa only[if_neg e1,if_neg e2] using x4⟩,by simpa only[if_neg e1,if_neg e2] using z,y1,y2,y3,y4,y5⟩
   ·cases h
theorem nB {o:AOp} {k:Nat} {fr:Fr} {H:Hp} (h:k≠2):drawStep φ o k true fr H=o.a.run φ fr H:=by
 match k,h with
 | 0,_=>rfl
 | 1,_=>rfl
 | n+3,_=>rfl
def wr (E:Nat->Log) (k b:Nat):Prop:=(E k).kind=2∧b∈(E k).tch.chg
theorem pY {t:Tc} {b:Nat} (h:b∈t.chg):b∈t.all:=by
 simp only[Tc.chg,Tc.all,List.mem_append] at h ⊢;rcases h with h|h
 ·cases hu:t.un with
  | true=>rw[hu] at h;simp at h
  | false=>rw[hu] at h;exact .inl h
 ·exact .inr h
section
variable {F:Nat->Fr} {G:Nat->Hp} {E:Nat->Log} {k:Nat} {o:AOp}
theorem step_same (h:StepAt φ F G E k o) (hk:(E k).kind≠2):G (k+1)=G k:=by
 obtain⟨b,v,x1,x2,x3,x4⟩:=h.ex;cases b with
 | false=>simp only[drawStep,Option.some.injEq,Prod.mk.injEq] at x4;exact x4.2.symm
 | true =>
  rw[nB hk] at x4;exact qV (by simp only[cond_true] at x2;rw[<- x2];exact hk) x4
theorem step_iso (h:StepAt φ F G E k o) (hk:(E k).kind=2):∃ v,wantedV (F k) o.g=some true∧F (k+1)=put (F k) o.dst v∧aW φ o (F k) (G k)=some (v,G (k+1)):=by
 obtain⟨b,v,x1,x2,x3,x4⟩:=h.ex;cases b with
 | false=>simp only[cond_false] at x2;omega
 | true=>rw[hk] at x4;exact⟨v,x1,x3,x4⟩
theorem step_len (h:StepAt φ F G E k o):(G k).length<=(G (k+1)).length:=by
 by_cases hk:(E k).kind=2
 ·obtain⟨v,_,_,hi⟩:=step_iso h hk;obtain⟨_,_,_,_,h3,_⟩:=oh hi;omega
 ·rw[step_same h hk];exact Nat.le_refl _
theorem step_get (h:StepAt φ F G E k o) {b:Nat} (hw:¬ wr E k b):(G (k+1))[b]?=(G k)[b]?:=by
 by_cases hk:(E k).kind=2
 ·obtain⟨v,_,_,hi⟩:=step_iso h hk;obtain⟨_,_,_,_,h3,h4,_⟩:=oh hi;have ht:=h.tch;rw[hk] at ht;have hb:b ∉ (E k).tch.chg:=fun hb=>hw ⟨hk,hb⟩
  rw[ht] at hb;simp only[touch,Tc.chg,List.mem_append,not_or,List.mem_range'_1] at hb;rcases Nat.lt_or_ge b (G k).length with hl|hl
  ·cases hu:Iz o.a.isN (G k) (G (k+1)) with
   | false=>rw[hu] at hb;exact h4 b hb.1 hl
   | true =>
    simp only[Iz] at hu;cases hn:o.a.isN with
    | false=>rw[hn] at hu;cases hu
    | true =>
     rw[hn] at hu;simp only[cond_true,decide_eq_true_eq] at hu;rw[<- List.getElem?_take_of_lt hl,hu]
  ·rw[List.getElem?_eq_none hl,List.getElem?_eq_none (by omega)]
 ·rw[step_same h hk]
theorem J4 (h:StepAt φ F G E k o) {b:Nat} (hw:wr E k b):b<(G (k+1)).length:=by
 obtain⟨hk,hb⟩:=hw;have hle:=step_len h;have hb:=pY hb;rw[h.tch,hk] at hb;simp only[touch,Tc.all,List.mem_append,List.mem_range'_1] at hb;rcases hb with hb|hb
 ·obtain⟨x,hx,_⟩:=(fF (G k) (aF (F k) o.slots)).2 b hb;have:=(List.getElem?_eq_some_iff.1 hx).1;omega
 ·omega
end
theorem n8 {x:Nat}:∀ {l s:List Nat},x∈o3 l s↔x∈l∨x∈s
 | [],s=>by simp[o3]
 | y::r,s=>by
  simp only[o3];split
  ·rename_i h;have h':y∈s:=by simpa using h
   rw[n8,List.mem_cons];constructor
   ·rintro(h1|h1)
    ·exact .inl (.inr h1)
    ·exact .inr h1
   ·rintro((h1|h1)|h1)
    ·subst h1;exact .inr h'
    ·exact .inl h1
    ·exact .inr h1
  ·rw[n8,List.mem_cons,List.mem_cons];constructor
   ·rintro(h1|h1|h1)
    ·exact .inl (.inr h1)
    ·exact .inl (.inl h1)
    ·exact .inr h1
   ·rintro((h1|h1)|h1)
    ·exact .inr (.inl h1)
    ·exact .inl h1
    ·exact .inr (.inr h1)
def jH (acc:List (List Nat)) (l:List Edge) (s:List Nat):List Nat:=l.foldl (fun s e=>if Region.binds .any e then o3 (e.on::acc.getD e.on []) s else s) s
theorem qP {acc:List (List Nat)} {x:Nat}:∀ {l:List Edge} {s:List Nat},x∈jH acc l s↔x∈s∨∃ e∈l,Region.binds .any e=true∧(x=e.on∨x∈acc.getD e.on [])
 | [],s=>by simp[jH]
 | e::r,s=>by
  have:jH acc (e::r) s=jH acc r (if Region.binds .any e then o3 (e.on::acc.getD e.on []) s else s):=rfl
  rw[this,qP];split
  ·rename_i hb;rw[n8,List.mem_cons];constructor
   ·rintro((h|h)|⟨e',he,hb',h⟩)
    ·exact .inr ⟨e,List.mem_cons_self ..,hb,h⟩
    ·exact .inl h
    ·exact .inr ⟨e',List.mem_cons_of_mem _ he,hb',h⟩
   ·rintro(h|⟨e',he,hb',h⟩)
    ·exact .inl (.inr h)
    ·rcases List.mem_cons.1 he with rfl|he
     ·exact .inl (.inl h)
     ·exact .inr ⟨e',he,hb',h⟩
  ·rename_i hb;constructor
   ·rintro(h|⟨e',he,hb',h⟩)
    ·exact .inl h
    ·exact .inr ⟨e',List.mem_cons_of_mem _ he,hb',h⟩
   ·rintro(h|⟨e',he,hb',h⟩)
    ·exact .inl h
    ·rcases List.mem_cons.1 he with rfl|he
     ·exact absurd hb' hb
     ·exact .inr ⟨e',he,hb',h⟩
theorem qA:∀ (l:List Oper) (acc:List (List Nat)),(dz l acc).length=acc.length+l.length∧(∀ j,j<acc.length->(dz l acc)[j]?=acc[j]?) ∧
  ∀ (k:Nat) (o:Oper),l[k]?=some o->(dz l acc)[acc.length+k]?=some (jH ((dz l acc).take (acc.length+k)) o.after.toList [])
 | [],acc=>⟨by simp[dz],fun j hj=>by simp[dz],fun k o h=>by simp at h⟩
 | o::r,acc=>by
  have e:dz (o::r) acc=dz r (acc++[jH acc o.after.toList []]):=rfl;rw[e];obtain⟨h1,h2,h3⟩:=qA r (acc++[jH acc o.after.toList []]);simp only[List.length_append,List.length_cons,List.length_nil] at h1 h2 h3;refine⟨by rw[h1];simp;omega,fun j hj=>?_,fun k o' hk=>?_⟩
  ·rw[h2 j (by omega),List.getElem?_append_left hj]
  ·cases k with
   | zero =>
    simp at hk;subst hk;rw[Nat.add_zero,h2 acc.length (by omega)]
    have:(dz r (acc++[jH acc o.after.toList []])).take acc.length=acc:=by
     apply List.ext_getElem?;intro j;rw[List.getElem?_take];split
     ·rename_i hj;rw[h2 j (by omega),List.getElem?_append_left hj]
     ·rename_i hj;rw[List.getElem?_eq_none (by omega)]
    rw[this];simp
   | succ k =>
    have:=h3 k o' (by simpa using hk)
    rw[show acc.length+1+k=acc.length+(k+1) by omega] at this
    exact this
theorem iR {ops:List Oper} {k:Nat} {o:Oper} (ho:ops[k]?=some o) {x:Nat} :
  x∈(dz ops []).getD k []↔∃ e∈o.after.toList,Region.binds .any e=true∧(x=e.on∨(e.on<k∧x∈(dz ops []).getD e.on [])):=by
 obtain⟨_,_,h3⟩:=qA ops [];have:=h3 k o ho;simp only[List.length_nil,Nat.zero_add] at this;have hg:(dz ops []).getD k []=jH ((dz ops []).take k) o.after.toList []:=by simp[List.getD,this]
 rw[hg,qP];have ht:∀ j,x∈((dz ops []).take k).getD j []↔j<k∧x∈(dz ops []).getD j []:=by
  intro j;simp only[List.getD,List.getElem?_take];by_cases hj:j<k
  ·simp[hj]
  ·simp[hj]
 simp only[ht,List.not_mem_nil,false_or]
end
section
variable {P:Program} {φ:FuncId->List V->Hp->Option (V × Hp)}
theorem p8 (fr:Fr) (d:Option Nat) (v:V) (t:Nat):(put fr d v)[t]?=if d=some t then(if t<fr.length then some v else none) else fr[t]?:=by
 cases d with
 | none=>simp[put]
 | some d =>
  simp only[put,List.getElem?_set,Option.some.injEq];by_cases h:d=t
  ·subst h;simp
  ·simp[h]
theorem rJ (fr:Fr) (d:Option Nat) (v:V):(put fr d v).length=fr.length:=by cases d <;> simp[put]
theorem i5 (a:Act) (d:Option Tmp) (x:Value) (t:Nat):(a.put d x).tmps[t]?=if d=some t then(if t<a.tmps.size then some x else none) else a.tmps[t]?:=by
 cases d with
 | none=>simp[Act.put]
 | some d =>
  simp only[Act.put,Array.getElem?_setIfInBounds,Option.some.injEq];by_cases h:d=t
  ·subst h;simp
  ·simp[h]
theorem jI (a:Act) (d:Option Tmp) (x:Value):(a.put d x).tmps.size=a.tmps.size:=by cases d <;> simp[Act.put]
variable {F:Nat->Fr} {G:Nat->Hp} {E:Nat->Log} {L:List AOp}
theorem iS (hS:∀ k o,L[k]?=some o->StepAt φ F G E k o) {t:Nat}:∀ (b a:Nat),a<=b->b<=L.length->(∀ k,a<=k->k<b->(E k).dst≠some t)->(F a)[t]?=(F b)[t]?
 | 0,a,h,_,_=>by rw[show a=0 by omega]
 | b+1,a,h,hb,hn=>by
  rcases Nat.lt_or_ge a (b+1) with h1|h1
  ·rw[iS hS b a (by omega) (by omega) (fun k h2 h3=>hn k h2 (by omega))]
   have hs:=hS b L[b] (by simp)
   obtain⟨⟨bb,v,x1,x2,x3,x4⟩,_,y1,_⟩:=hs;have:=hn b (by omega) (by omega)
   rw[y1] at this;rw[x3,p8,if_neg this]
  ·rw[show a=b+1 by omega]
theorem jC (hS:∀ k o,L[k]?=some o->StepAt φ F G E k o):∀ k,k<=L.length->(F k).length=(F 0).length
 | 0,_=>rfl
 | k+1,h=>by
  obtain⟨⟨bb,v,x1,x2,x3,x4⟩,_,y1,_⟩:=hS k L[k] (by simp)
  rw[x3,rJ,jC hS k (by omega)]
theorem kG (hS:∀ k o,L[k]?=some o->StepAt φ F G E k o):∀ (b a:Nat),a<=b->b<=L.length->(G a).length<=(G b).length
 | 0,a,h,_=>by rw[show a=0 by omega];exact Nat.le_refl _
 | b+1,a,h,hb=>by
  rcases Nat.lt_or_ge a (b+1) with h1|h1
  ·exact Nat.le_trans (kG hS b a (by omega) (by omega)) (step_len (hS b L[b] (by simp)))
  ·rw[show a=b+1 by omega];exact Nat.le_refl _
theorem lu (hS:∀ k o,L[k]?=some o->StepAt φ F G E k o) {x:Nat}:∀ (b a:Nat),a<=b->b<=L.length->(∀ k,a<=k->k<b->¬ wr E k x)->(G a)[x]?=(G b)[x]?
 | 0,a,h,_,_=>by rw[show a=0 by omega]
 | b+1,a,h,hb,hn=>by
  rcases Nat.lt_or_ge a (b+1) with h1|h1
  ·rw[lu hS b a (by omega) (by omega) (fun k h2 h3=>hn k h2 (by omega))]
   exact(step_get (hS b L[b] (by simp)) (hn b (by omega) (by omega))).symm
  ·rw[show a=b+1 by omega]
def Dn (listed:Array Bool) (i:Nat):Prop:=listed.getD i false=true
structure Half (n:Nat) (F:Nat->Fr) (G:Nat->Hp) (E:Nat->Log) (TB:Nat->Prop) (listed:Array Bool) (mu:Mu) (S:St) (w:World) (a:Act):Prop where
 heap:∃ X:Hp,X.length=(G n).length∧Inv mu S TB w X∧∀ b,∃ m,m<=n∧(∀ k,k<m->wr E k b->Dn listed k)∧(∀ k,m<=k->k<n->wr E k b->¬ Dn listed k) ∧
  (b<(G m).length->X[b]?=(G m)[b]?)∧((G m).length<=b->mu b=none)
 size:a.tmps.size=(F 0).length
 slot:∀ t,∃ m,m<=n∧(∀ k,k<m->(E k).dst=some t->Dn listed k)∧(∀ k,m<=k->k<n->(E k).dst=some t->¬ Dn listed k) ∧
  ∀ v,(F m)[t]?=some v->∃ x,a.tmps[t]?=some x∧RelV mu S w v x
theorem uT {listed:Array Bool} {i k:Nat} (hi:i<listed.size):Dn (listed.setIfInBounds i true) k↔k=i∨Dn listed k:=by
 unfold Dn;by_cases h:i=k
 ·subst h;simp[hi]
 ·rw[getD_set_ne false h];constructor
  ·exact .inr
  ·rintro(h1|h1)
   ·exact absurd h1.symm h
   ·exact h1
theorem me {fr:Fr} {lv:List Nat} {g:Option (Nat × Bool)} {b:Bool} (h:wantedV fr g=some b) (hl:∀ t w,g=some (t,w)->t∈lv):wantedV (aS lv fr) g=some b:=by
 cases g with
 | none=>exact h
 | some p =>
  obtain⟨t,w⟩:=p;have ht:=hl t w rfl;have:(aS lv fr)[t]?=fr[t]?:=by
   simp only[aS,List.getElem?_mapIdx];cases fr[t]? with
   | none=>rfl
   | some v=>simp[ht]
  simp only[wantedV,this] at h ⊢;exact h
theorem aY {fr:Fr} {lv:List Nat} {t:Nat} (ht:t∈lv):(aS lv fr)[t]?=fr[t]?:=by
 simp only[aS,List.getElem?_mapIdx];cases fr[t]? with
 | none=>rfl
 | some v=>simp[ht]
theorem kA {X H:Hp} {mu:Mu} {S:St} {TB:Nat->Prop} {w:World} (hi:Inv mu S TB w X):∀ (n:Nat) (todo seen:List Nat),(∀ i∈todo,(mu i).isSome=true)->(∀ i∈seen,(mu i).isSome=true) ->
  (∀ i∈aI H n todo seen,X[i]?=H[i]?)->∀ i∈aI H n todo seen,(mu i).isSome=true
 | 0,todo,seen,h1,h2,_=>by cases todo <;> exact h2
 | n+1,[],seen,h1,h2,_=>h2
 | n+1,i::todo,seen,h1,h2,hX=>by
  have h1':∀ i∈todo,(mu i).isSome=true:=fun k hk=>h1 k (List.mem_cons_of_mem _ hk)
  have h0:=h1 i List.mem_cons_self;obtain⟨l,hl⟩:=Option.isSome_iff_exists.1 h0;simp only[aI] at hX ⊢;split at hX
  ·exact kA hi n todo seen h1' h2 hX
  ·exact kA hi n todo seen h1' h2 hX
  ·rename_i b hne hb;by_cases hc:seen.contains i=true
   ·rw[if_pos hc] at hX ⊢;exact kA hi n todo seen h1' h2 hX
   ·rw[if_neg hc] at hX ⊢;have hin:i∈aI H n (b.refs++todo) (seen++[i]):=by
     have:∀ (n:Nat) (t s:List Nat),i∈s->i∈aI H n t s:=by
      intro n;induction n with
      | zero=>intro t s h;cases t <;> exact h
      | succ n ih =>
       intro t s h;cases t with
       | nil=>exact h
       | cons j t =>
        simp only[aI];split
        ·exact ih t s h
        ·exact ih t s h
        ·split
         ·exact ih t s h
         ·exact ih _ _ (List.mem_append_left _ h)
     exact this _ _ _ (List.mem_append_right _ (List.mem_singleton_self _))
    have hXi:=hX i hin;refine kA hi n _ _ (fun k hk=>?_) (fun k hk=>?_) hX
    ·rcases List.mem_append.1 hk with h|h
     ·exact(hi.box i b l (by rw[hXi,hb]) hl).refs k h
     ·exact h1' k h
    ·rcases List.mem_append.1 hk with h|h
     ·exact h2 k h
     ·simp at h;subst h;exact h0
theorem uB {X H:Hp} {ids:List Nat} (h:∀ i∈ids,X[i]?=H[i]?):ax X ids=ax H ids:=by
 simp only[ax];apply List.map_congr_left;intro i hi;simp only[List.getD,h i hi]
theorem Bv (hg:Good P φ) {TB:Nat->Prop} {an:Nat->Nat} {ops:Array Oper} {ps:List (List Nat)} (hc:cZ P an ops ps 0 ops.toList=some L)
  (hS:∀ k o,L[k]?=some o->StepAt φ F G E k o) {listed:Array Bool} {mu:Mu} {S:St} {w:World} {a:Act} (hsz:listed.size=L.length)
  (hcl:∀ k,Dn listed k->∀ o,L[k]?=some o->∀ j∈o.pre,Dn listed j)
  {i:Nat} (hi:i<L.length) (hnd:¬ Dn listed i) (hpre:∀ o,L[i]?=some o->∀ j∈o.pre,Dn listed j)
  (hh:Half L.length F G E TB listed mu S w a) {K:Act->World->Prop} {Q:Exit->Act->World->Prop}
  (hk:∀ a' w' mu' S',Ext TB mu S w mu' S' w'->Half L.length F G E TB (listed.setIfInBounds i true) mu' S' w' a'->a'.defers=a.defers->K a' w'):wpOp P ops Q i K a w:=by
 obtain⟨hl,hget⟩:=dI hc;have hio:i<ops.size:=by rw[hl] at hi;simpa using hi
 obtain⟨g1,g2,g3,g4⟩:=hget i ops[i] L[i] (by simp[hio]) (by simp[hi])
 have hst:=hS i L[i] (by simp[hi])
 obtain⟨⟨b,v,x1,x2,x3,x4⟩,yt,y1,y2,y3,y4,y5⟩:=hst;have hp:=hpre L[i] (by simp[hi])
 have before:∀ k,k<i->¬ Dn listed k->(E k).free (E i)=true:=fun k hki hk=>(y5 k hki).resolve_left fun h=>hk (hp k h)
 have after:∀ k,i<k->k<L.length->Dn listed k->(E i).free (E k)=true:=fun k hik hkn hk=>by
  obtain⟨_,_,_,_,_,_,z5⟩:=hS k L[k] (by simp[hkn])
  exact(z5 i hik).resolve_left fun h=>hnd (hcl k hk L[k] (by simp[hkn]) i h)
 have hfree:∀ x y:Log,x.free y=true->(∀ d,x.dst=some d->d ∉ y.rds∧y.dst≠some d)∧(∀ d,y.dst=some d->d ∉ x.rds∧x.dst≠some d)∧(x.kind=0∨y.kind=0∨(x.kind=1∧y.kind=1)∨((∀ b,b∈x.tch.all->b ∉ y.tch.chg)∧∀ b,b∈x.tch.chg->b ∉ y.tch.all)):=by
  intro x y h;simp only[Log.free,Bool.and_eq_true,Bool.or_eq_true,beq_iff_eq] at h;obtain⟨⟨h1,h2⟩,h3⟩:=h;have e1:∀ d,x.dst=some d->d ∉ y.rds∧y.dst≠some d:=by
   intro d hd;rw[hd] at h1;simpa using h1
  refine⟨e1,fun d hd=>?_,?_⟩
  ·rw[hd] at h2;refine⟨by simpa using h2,fun hx=>(e1 d hx).2 hd⟩
  ·rcases h3 with((h3|h3)|h3)|h3
   ·exact .inl h3
   ·exact .inr (.inl h3)
   ·exact .inr (.inr (.inl h3))
   ·refine .inr (.inr (.inr ⟨fun b hb hb2=>?_,fun b hb hb2=>?_⟩))
    ·have:=(List.all_eq_true.1 h3.1) b hb;simp[hb2] at this
    ·have:=(List.all_eq_true.1 h3.2) b hb;simp[hb2] at this
 have disB:∀ k b,k<i->wr E k b->(E i).kind≠0->b∈(E i).tch.all->Dn listed k:=fun k b hki hw hk0 hbt=>Classical.byContradiction fun hnk=>by
  rcases(hfree _ _ (before k hki hnk)).2.2 with h|h|h|h
  ·have:=hw.1;omega
  ·exact hk0 h
  ·have:=hw.1;omega
  ·exact h.2 b hw.2 hbt
 have disA:∀ k b,i<k->k<L.length->wr E k b->(E i).kind≠0->b∈(E i).tch.all->¬ Dn listed k:=fun k b hik hkn hw hk0 hbt hdk=>by
  rcases(hfree _ _ (after k hik hkn hdk)).2.2 with h|h|h|h
  ·exact hk0 h
  ·have:=hw.1;omega
  ·have:=hw.1;omega
  ·exact h.1 b hbt hw.2
 have hslots:∀ t∈L[i].slots,∀ v,(F i)[t]?=some v->∃ x,a.tmps[t]?=some x∧RelV mu S w v x:=by
  intro t ht v hv;obtain⟨m,hm,m1,m2,m3⟩:=hh.slot t;apply m3;rw[<- hv];rcases Nat.le_total m i with hmi|hmi
  ·refine iS hS i m hmi (by omega) fun k h1 h2 h3=>?_
   have:=(hfree _ _ (before k h2 (m2 k h1 (by omega) h3))).1 t h3
   exact this.1 (y2 ▸ ht)
  ·refine(iS hS m i hmi hm fun k h1 h2 h3=>?_).symm
   have hd:=m1 k h2 h3;rcases Nat.lt_or_ge i k with h4|h4
   ·have:=(hfree _ _ (after k h4 (by omega) hd)).2.1 t h3
    exact this.1 (y2 ▸ ht)
   ·exact hnd (by rwa [show i=k by omega])
 have hfr:RelFr mu S w (aS L[i].slots (F i)) a:=by
  refine⟨by rw[hh.size];simp[aS,jC hS i (by omega)],fun t v ht=>?_⟩
  by_cases hts:t∈L[i].slots
  ·rw[aY hts] at ht;exact hslots t hts v ht
  ·simp only[aS,List.getElem?_mapIdx,Option.map_eq_some_iff] at ht;obtain⟨u,hu,rfl⟩:=ht;have hlt:t<a.tmps.size:=by
    rw[hh.size,<- jC hS i (by omega)]
    rcases Nat.lt_or_ge t (F i).length with h|h
    ·exact h
    ·rw[List.getElem?_eq_none h] at hu;cases hu
   refine⟨a.tmps[t],by simp[hlt],?_⟩
   rw[if_neg (by simpa using hts)]
   trivial
 obtain⟨X,hXl,hinv,hX⟩:=hh.heap;have hXi:∀ x,(E i).kind≠0->x∈(E i).tch.all->x<(G i).length->X[x]?=(G i)[x]?:=by
  intro x hk0 hx hlt;obtain⟨m,hm,m1,m2,m3,m4⟩:=hX x;have he:(G m)[x]?=(G i)[x]?:=by
   rcases Nat.le_total m i with hmi|hmi
   ·exact lu hS i m hmi (by omega) fun k h1 h2 h3=>m2 k h1 (by omega) h3 (disB k x h2 h3 hk0 hx)
   ·refine(lu hS m i hmi hm fun k h1 h2 h3=>?_).symm
    have hd:=m1 k h2 h3;rcases Nat.lt_or_ge i k with h4|h4
    ·exact disA k x h4 (by omega) h3 hk0 hx hd
    ·exact hnd (by rwa [show i=k by omega])
  have hlm:x<(G m).length:=by
   rw[List.getElem?_eq_getElem hlt] at he;exact(List.getElem?_eq_some_iff.1 he).1
  rw[m3 hlm,he]
 have hset:∀ k,Dn (listed.setIfInBounds i true) k↔k=i∨Dn listed k:=fun k=>uT (by omega)
 have fslot:∀ (x:Value) (w':World) (mu':Mu) (S':St),Ext TB mu S w mu' S' w'->RelV mu' S' w' v x->∀ t,∃ m,m<=L.length∧(∀ k,k<m->(E k).dst=some t->Dn (listed.setIfInBounds i true) k) ∧
   (∀ k,m<=k->k<L.length->(E k).dst=some t->¬ Dn (listed.setIfInBounds i true) k)∧∀ v,(F m)[t]?=some v->∃ y,(a.put ops[i].dst x).tmps[t]?=some y∧RelV mu' S' w' v y:=by
  intro x w' mu' S' ex rx t;by_cases ht:(E i).dst=some t
  ·have hdt:ops[i].dst=some t:=by rw[<- g3,<- y1];exact ht
   refine⟨i+1,by omega,fun k hk1 hk2=>(hset k).2 ?_,fun k hk1 hkn hk2 hd=>?_,fun u hu=>?_⟩
   ·rcases Nat.lt_or_ge k i with h|h
    ·refine .inr (Classical.byContradiction fun hnk=>?_)
     exact((hfree _ _ (before k h hnk)).1 t hk2).2 ht
    ·exact .inl (by omega)
   ·rcases(hset k).1 hd with h|h
    ·omega
    ·exact((hfree _ _ (after k (by omega) hkn h)).1 t ht).2 hk2
   ·rw[x3,p8,if_pos (by rw[<- y1];exact ht)] at hu
    split at hu
    ·rename_i hlt;cases hu;refine⟨x,?_,rx⟩;rw[i5,if_pos hdt,if_pos];rw[hh.size,<- jC hS i (by omega)];exact hlt
    ·cases hu
  ·have hdt:ops[i].dst≠some t:=by rw[<- g3,<- y1];exact ht
   obtain⟨q,hq,q1,q2,q3⟩:=hh.slot t;refine⟨q,hq,fun k hk1 hk2=>(hset k).2 (.inr (q1 k hk1 hk2)),fun k hk1 hkn hk2 hd=>?_,fun u hu=>?_⟩
   ·rcases(hset k).1 hd with h|h
    ·subst h;exact ht hk2
    ·exact q2 k hk1 hkn hk2 h
   ·obtain⟨y,hy,hr⟩:=q3 u hu;refine⟨y,?_,hr.ext ex⟩;rw[i5,if_neg hdt];exact hy
 have fin01:∀ (x:Value) (w':World) (S':St),(E i).kind≠2->Ext TB mu S w mu S' w'->Inv mu S' TB w' X->RelV mu S' w' v x->K (a.put ops[i].dst x) w':=by
  intro x w' S' h2 ex i1 rx;refine hk _ _ mu S' ex ⟨⟨X,hXl,i1,fun b=>?_⟩,by rw[jI];exact hh.size,fslot x w' mu S' ex rx⟩ (dB _ _ _)
  obtain⟨m,hm,m1,m2,m3,m4⟩:=hX b;refine⟨m,hm,fun k hk1 hk2=>(hset k).2 (.inr (m1 k hk1 hk2)),fun k hk1 hkn hk2 hd=>?_,m3,m4⟩
  rcases(hset k).1 hd with h|h
  ·subst h;exact h2 hk2.1
  ·exact m2 k hk1 hkn hk2 h
 have hwk:wantedV (aS L[i].slots (F i)) L[i].g=some b:=me x1 fun t w hgw=>by
  simp only[AOp.slots,hgw,List.mem_append];exact .inr (List.mem_singleton_self _)
 unfold wpOp;simp only[show ops[i]?=some ops[i] by simp[hio]]
 rw[lA g2 hfr hwk];cases b with
 | false =>
  rw[if_neg (by simp)]
  simp only[cond_false] at x2;simp only[drawStep,Option.some.injEq,Prod.mk.injEq] at x4;obtain⟨rfl,hG⟩:=x4;exact fin01 undef w S (by omega) (.refl _ _ _ _) hinv fO
 | true =>
  simp only[if_true];left
  simp only[cond_true] at x2;rw[y3] at *;have g1':be P (if an (0+i)=2 then 0 else an (0+i)) ops[i].op=some L[i].a:=g1
  by_cases h2:(E i).kind=2
  ·
   rw[h2] at x4;have hiso:aW φ L[i] (F i) (G i)=some (v,G (i+1)):=x4;obtain⟨r,H1,e1,e2,e3,e4,e5,e6⟩:=oh hiso;obtain⟨hnd2,hal2⟩:(aO L[i] (F i) (G i)).Nodup∧∀ j∈aO L[i] (F i) (G i),∃ b,(G i)[j]?=some b∧alive b=true:=fF (G i) _;have hk0:(E i).kind≠0:=by omega
   have ytt:(E i).tch.all=aO L[i] (F i) (G i)++List.range' (G i).length ((G (i+1)).length-(G i).length):=by rw[yt,h2];rfl
   have hil:∀ j∈aO L[i] (F i) (G i),j<(G i).length:=fun j hj=>by obtain⟨b,hb,_⟩:=hal2 j hj;exact(List.getElem?_eq_some_iff.1 hb).1
   have hXids:∀ j∈aO L[i] (F i) (G i),X[j]?=(G i)[j]?:=fun j hj=>hXi j hk0 (by rw[ytt];exact List.mem_append_left _ hj) (hil j hj)
   have hmu:∀ j∈aO L[i] (F i) (G i),(mu j).isSome=true:=by
    refine kA hinv 1000 _ [] (fun k hk=>?_) (by simp) hXids
    simp only[aF,List.mem_flatMap] at hk;obtain⟨t,ht,hk⟩:=hk;cases hv:(F i)[t]? with
    | none=>rw[hv] at hk;simp at hk
    | some u =>
     rw[hv] at hk;obtain⟨x,_,hx⟩:=hslots t ht u hv;exact hx.refs k hk
   have hGin:(G i).length<=(G L.length).length:=kG hS _ _ (by omega) (Nat.le_refl _)
   have hGi1:(G (i+1)).length<=(G L.length).length:=kG hS _ _ (by omega) (Nat.le_refl _)
   have hnew:∀ j,(G i).length<=j->j<(G i).length+(H1.length-(aO L[i] (F i) (G i)).length)->wr E i j:=fun j h1 h3=>by
    refine⟨h2,?_⟩;rw[yt,h2];refine List.mem_append_right _ ?_;simp only[touch];rw[List.mem_range'_1];omega
   have hq:∀ j,(G i).length<=j->j<(G i).length+(H1.length-(aO L[i] (F i) (G i)).length)->mu j=none:=by
    intro j h1 h3;have hwi:=hnew j h1 h3;obtain⟨m,hm,m1,m2,m3,m4⟩:=hX j;apply m4;have hmi:m<=i:=by
     rcases Nat.lt_or_ge i m with h|h
     ·exact absurd (m1 i h hwi) hnd
     ·exact h
    exact Nat.le_trans (kG hS i m hmi (by omega)) h1
   let X2:Hp:=X.mapIdx fun j x=>if(E i).tch.all.contains j then(G (i+1)).getD j .dead else x
   have hX2l:X2.length=X.length:=by simp[X2]
   have hX2in:∀ j,j∈(E i).tch.all->X2[j]?=(G (i+1))[j]?:=by
    intro j hj;have hjl:j<(G (i+1)).length:=by
     have hle:=step_len (hS i L[i] (by simp[hi]))
     rw[ytt,List.mem_append,List.mem_range'_1] at hj;rcases hj with h|h
     ·have:=hil j h;omega
     ·omega
    have hjx:j<X.length:=by omega
    simp only[X2,List.getElem?_mapIdx,List.getElem?_eq_getElem hjx,Option.map_some];rw[if_pos (by simpa using hj)]
    simp only[List.getD,List.getElem?_eq_getElem hjl,Option.getD_some]
   have hX2o:∀ j,j ∉ (E i).tch.all->X2[j]?=X[j]?:=by
    intro j hj;simp only[X2,List.getElem?_mapIdx];cases X[j]? with
    | none=>rfl
    | some x=>simp only[Option.map_some];rw[if_neg (by simpa using hj)]
   have hX2out:∀ j,j ∉ (E i).tch.chg->X2[j]?=X[j]?:=by
    intro j hj;by_cases ha:j∈(E i).tch.all
    ·have hlt:j<(G i).length:=by
      rw[ytt,List.mem_append] at ha;rcases ha with h|h
      ·exact hil j h
      ·exact absurd (by rw[yt,h2];exact List.mem_append_right _ h) hj
     rw[hX2in j ha,step_get (hS i L[i] (by simp[hi])) (fun hw=>hj hw.2),hXi j hk0 ha hlt]
    ·exact hX2o j ha
   have hcan:ax X (aO L[i] (F i) (G i))=ax (G i) (aO L[i] (F i) (G i)):=uB hXids;refine II hg g1' hinv hfr hnd2 (fun j hj=>?_) hmu (by rw[hcan];exact e1) hq (fun j hj=>.inl (hil j hj)) hX2l (by omega) (fun hm j k hjk=>?_) (fun hm t ht=>?_) (fun j hj hr=>?_) K Q fun x w' mu1 S' ex i1 rx=>?_
   ·have:=hil j hj;omega
   ·rw[hX2in k (by rw[ytt];exact List.mem_append_left _ (List.mem_of_getElem? hjk))];exact e5 hm j k hjk
   ·rw[hX2in _ (by rw[ytt];exact List.mem_append_right _ (by rw[List.mem_range'_1];omega))];exact e6 hm t ht
   ·refine hX2o j fun hj2=>?_
    rw[ytt,List.mem_append,List.mem_range'_1] at hj2;rcases hj2 with h|h
    ·exact hj h
    ·omega
   ·rw[<- e2] at rx;refine hk _ _ _ S' ex ⟨⟨X2,by rw[hX2l,hXl],i1,fun j=>?_⟩,by rw[jI];exact hh.size,fslot x w' _ S' ex rx⟩ (dB _ _ _)
    by_cases hj:j∈(E i).tch.chg
    ·refine⟨i+1,by omega,fun k hk1 hk2=>(hset k).2 ?_,fun k hk1 hkn hk2 hd=>?_,fun _=>hX2in j (pY hj),fun hge=>?_⟩
     ·rcases Nat.lt_or_ge k i with h|h
      ·exact .inr (disB k j h hk2 hk0 (pY hj))
      ·exact .inl (by omega)
     ·rcases(hset k).1 hd with h|h
      ·omega
      ·exact disA k j (by omega) hkn hk2 hk0 (pY hj) h
     ·have:=J4 (hS i L[i] (by simp[hi])) ⟨h2,hj⟩
      omega
    ·obtain⟨m,hm,m1,m2,m3,m4⟩:=hX j;refine⟨m,hm,fun k hk1 hk2=>(hset k).2 (.inr (m1 k hk1 hk2)),fun k hk1 hkn hk2 hd=>?_,fun h=>by rw[hX2out j hj];exact m3 h,fun h=>?_⟩
     ·rcases(hset k).1 hd with h|h
      ·subst h;exact hj hk2.2
      ·exact m2 k hk1 hkn hk2 h
     ·have h0:=m4 h;simp only[ve];rw[if_neg (fun hc=>hj (hnew j hc.1 hc.2).2)]
      exact h0
  ·have hrun:L[i].a.run φ (F i) (G i)=some (v,G (i+1)):=by rw[nB h2] at x4;exact x4
   have hkk:L[i].a.kind (F i)≠2:=by rw[<- x2];exact h2
   have hcg:∀ H,L[i].a.run φ (aS L[i].slots (F i)) H=L[i].a.run φ (F i) H:=fun H=>oL fun t ht=>aY (by
    simp only[AOp.slots,List.mem_append];exact .inl ht)
   have hrX:L[i].a.run φ (F i) X=some (v,X):=by
    by_cases h0:L[i].a.kind (F i)=0
    ·exact(lD h0 hrun).2 X
    ·have h1:L[i].a.kind (F i)=1:=by have:=wI (F i) L[i].a;omega
     refine sU h1 hrun fun b hb hlt=>hXi b (by rw[x2];exact h0) ?_ hlt
     rw[yt,x2,h1];simp only[touch,Tc.all,aF,AOp.slots,List.flatMap_append,List.mem_append];exact .inl (.inl hb)
   have hkk2:L[i].a.kind (aS L[i].slots (F i))≠2:=by
    rw[yz (fr2:=F i) fun t ht=>aY (by simp only[AOp.slots,List.mem_append];exact .inl ht)]
    exact hkk
   exact Ce hg g1' hinv hfr hkk2 (by rw[hcg];exact hrX) K Q fun x w' S' ex i1 rx=>fin01 x w' S' h2 ex i1 rx
end
section
variable {P:Program} {φ:FuncId->List V->Hp->Option (V × Hp)}
variable {F:Nat->Fr} {G:Nat->Hp} {E:Nat->Log} {L:List AOp}
theorem Eg (hg:Good P φ) {TB:Nat->Prop} {an:Nat->Nat} {ops:Array Oper} (hc:cZ P an ops (dz ops.toList []) 0 ops.toList=some L)
  (hS:∀ k o,L[k]?=some o->StepAt φ F G E k o) {Q:Exit->Act->World->Prop} {mu:Mu} {S:St} {w:World} {a:Act}
  (hQ:∀ a' w' mu' S',Ext TB mu S w mu' S' w'->Inv mu' S' TB w' (G L.length)->RelFr mu' S' w' (F L.length) a'->a'.defers=a.defers->Q .normal a' w') :
  ∀ (fuel:Nat) (listed:Array Bool) (mu1:Mu) (S1:St) (w1:World) (a1:Act),listed.size=L.length->listed.toList.count false<=fuel ->
   (∀ k,Dn listed k->∀ o,L[k]?=some o->∀ j∈o.pre,Dn listed j)->Half L.length F G E TB listed mu1 S1 w1 a1->Ext TB mu S w mu1 S1 w1->a1.defers=a.defers ->
   wpAny P .any ops Q fuel listed a1 w1:=by
 obtain⟨hl,hget⟩:=dI hc;have hsz:L.length=ops.size:=by simpa using hl
 have hready:∀ (listed:Array Bool) (i:Nat),listed.size=L.length->(∀ k,Dn listed k->∀ o,L[k]?=some o->∀ j∈o.pre,Dn listed j)->i∈Region.ready .any ops listed ->
   i<L.length∧¬ Dn listed i∧∀ o,L[i]?=some o->∀ j∈o.pre,Dn listed j:=by
  intro listed i hls hcl hi;rw[mem_ready] at hi;obtain⟨h0,o,ho,hall⟩:=hi;have hio:i<ops.size:=by
   rcases Nat.lt_or_ge i ops.size with h|h
   ·exact h
   ·rw[Array.getElem?_eq_none h] at ho;cases ho
  refine⟨by omega,?_,fun ao hao j hj=>?_⟩
  ·unfold Dn;have:i<listed.size:=by omega
   simp only[Array.getD,this,dite_true] at h0 ⊢;rw[h0];simp
  ·obtain⟨_,_,_,g4⟩:=hget i o ao (by simpa using ho) hao
   rw[g4,Nat.zero_add,iR (o:=o) (by simpa using ho)] at hj
   obtain⟨e,he,hb,hx⟩:=hj;have hd:=hall e (by simpa using he) hb
   rcases hx with rfl|⟨hlt,hx⟩
   ·exact hd
   ·have hen:e.on<L.length:=by omega
    obtain⟨_,_,_,g4'⟩:=hget e.on ops[e.on] L[e.on] (by simp <;> omega) (by simp[hen])
    refine hcl e.on hd L[e.on] (by simp[hen]) j ?_
    rw[g4',Nat.zero_add];exact hx
 have hdone:∀ listed:Array Bool,listed.size=L.length->Region.ready .any ops listed=[]->∀ k,k<L.length->Dn listed k:=by
  intro listed hls hr k;induction k using Nat.strongRecOn with
  | ind k ih =>
   intro hk;apply Classical.byContradiction;intro hnd;have:k∈Region.ready .any ops listed:=by
    rw[mem_ready];have hks:k<listed.size:=by omega
    refine⟨?_,ops[k]'(by omega),by simp <;> omega,fun e he hb=>?_⟩
    ·unfold Dn at hnd;simp only[Array.getD,hks,dite_true] at hnd ⊢;simpa using hnd
    ·obtain⟨_,_,_,g4⟩:=hget k (ops[k]'(by omega)) L[k] (by simp <;> omega) (by simp[hk])
     obtain⟨_,_,_,_,_,z4,_⟩:=hS k L[k] (by simp[hk])
     have hm:e.on∈L[k].pre:=by
      rw[g4,Nat.zero_add,iR (o:=ops[k]'(by omega)) (by simp <;> omega)]
      exact⟨e,by simpa using he,hb,.inl rfl⟩
     have:=z4 _ hm;exact ih e.on this (by omega)
   rw[hr] at this;cases this
 have hend:∀ (listed:Array Bool) (mu1:Mu) (S1:St) (w1:World) (a1:Act),listed.size=L.length->Region.ready .any ops listed=[]->Half L.length F G E TB listed mu1 S1 w1 a1 ->
   Ext TB mu S w mu1 S1 w1->a1.defers=a.defers->Q .normal a1 w1:=by
  intro listed mu1 S1 w1 a1 hls hr hh ex hdf;have hd:=hdone listed hls hr;obtain⟨X,hXl,hinv,hX⟩:=hh.heap;have hGm:X=G L.length:=by
   apply List.ext_getElem?;intro x;obtain⟨m,hm,m1,m2,m3,m4⟩:=hX x;have he:(G m)[x]?=(G L.length)[x]?:=lu hS L.length m hm (Nat.le_refl _) fun k h1 h2 h3=>m2 k h1 h2 h3 (hd k h2)
   rcases Nat.lt_or_ge x (G L.length).length with hx|hx
   ·have hxm:x<(G m).length:=by
     rw[List.getElem?_eq_getElem hx] at he;exact(List.getElem?_eq_some_iff.1 he).1
    rw[m3 hxm,he]
   ·rw[List.getElem?_eq_none hx,List.getElem?_eq_none (by omega)]
  refine hQ a1 w1 mu1 S1 ex (hGm ▸ hinv) ⟨by rw[hh.size,jC hS L.length (Nat.le_refl _)],fun t v ht=>?_⟩ hdf
  obtain⟨q,hq,q1,q2,q3⟩:=hh.slot t;apply q3;rw[<- ht];exact iS hS L.length q hq (Nat.le_refl _) fun k h1 h2 h3=>q2 k h1 h2 h3 (hd k h2)
 intro fuel;induction fuel with
 | zero =>
  intro listed mu1 S1 w1 a1 hls hcnt hcl hh ex hdf;have hr:Region.ready .any ops listed=[]:=by
   apply List.eq_nil_iff_forall_not_mem.2;intro i hi;obtain⟨h1,h2,_⟩:=hready listed i hls hcl hi;have hz:listed.toList.count false=0:=by omega
   rw[List.count_eq_zero] at hz;apply h2;have his:i<listed.size:=by omega
   unfold Dn;simp only[Array.getD,his,dite_true];cases hv:listed[i] with
   | true=>exact hv
   | false=>exact absurd (by rw[<- hv];simp) hz
  exact⟨hr,hend listed mu1 S1 w1 a1 hls hr hh ex hdf⟩
 | succ fuel ih =>
  intro listed mu1 S1 w1 a1 hls hcnt hcl hh ex hdf;refine⟨fun hr=>hend listed mu1 S1 w1 a1 hls hr hh ex hdf,fun i hi=>?_⟩
  obtain⟨h1,h2,h3⟩:=hready listed i hls hcl hi;refine Bv hg hc hS hls hcl h1 h2 h3 hh fun a' w' mu' S' ex' hh' hdf'=>?_
  have his:i<listed.size:=by omega
  refine ih _ mu' S' w' a' (by simp[hls]) ?_ (fun k hk o ho j hj=>?_) hh' (ex.trans ex') (hdf'.trans hdf)
  ·have hv:listed[i]=false:=by
    unfold Dn at h2;simp only[Array.getD,his,dite_true] at h2;simpa using h2
   rw[Array.toList_setIfInBounds,List.count_set (by simpa using his)]
   have:(listed.toList[i]'(by simpa using his))=false:=by simpa using hv
   rw[this,if_pos (by decide:(false == false)=true),if_neg (by decide:¬ ((true == false)=true))]
   omega
  ·rw[uT his] at hk ⊢;rcases hk with rfl|hk
   ·exact .inr (h3 o ho j hj)
   ·exact .inr (hcl k hk o ho j hj)
def KB (P:Program) (φ:FuncId->List V->Hp->Option (V × Hp)):Prop :=
 ∀ (TB:Nat->Prop) (an:Nat->Nat) (ops:Array Oper) (id:Nat) (L:List AOp),cZ P an ops (dz ops.toList []) 0 ops.toList=some L ->
  ∀ (mu:Mu) (S:St) (w:World) (H H':Hp) (fr fr':Fr) (a:Act) (Q:Exit->Act->World->Prop),bW φ L [] fr H=some (fr',H')->Inv mu S TB w H->RelFr mu S w fr a ->
   (∀ a' w' mu' S',Ext TB mu S w mu' S' w'->Inv mu' S' TB w' H'->RelFr mu' S' w' fr' a'->a'.defers=a.defers->Q .normal a' w')->(Code.region id ops true).wp P Q a w
theorem Fj (hm:P.follows .mixedOrders=true) (hg:Good P φ):KB P φ:=by
 intro TB an ops id L hc mu S w H H' fr fr' a Q hrun hi hf hQ;obtain⟨F,G,E,hF,hG,hF',hG',_,hS⟩:=wt L [] fr H hrun;simp only[List.length_nil,Nat.zero_add] at hF hG hF' hG' hS;obtain⟨hl,hget⟩:=dI hc;have hsz:L.length=ops.size:=by simpa using hl
 apply wp_region_any hm;have hd0:∀ k,¬ Dn (Array.replicate ops.size false) k:=by
  intro k h;unfold Dn at h;simp only[Array.getD] at h;split at h <;> simp at h
 have ex0:Ext TB mu S w mu S { w with drawn:=w.drawn+1 }:=⟨fun _ _ h=>h,fun _ _ h=>h,fun _ _ _ h=>h,fun _ _ _=>rfl,fun _ _=>rfl,Nat.le_refl _,rfl,rfl,rfl⟩
 have hi0:Inv mu S TB { w with drawn:=w.drawn+1 } H:=by
  refine⟨fun i b l hb hl=>?_,hi.dom,hi.old,hi.sl,hi.tl,hi.one⟩
  have:=hi.box i b l hb hl;cases b with
  | dead=>trivial
  | mp rows=>exact this
  | cells xs =>
   obtain⟨l,B,cur,e,h1,h2,h3,h4,h5,h6⟩:=this;exact⟨l,B,cur,e,h1,h2,h3,h4.ext ex0,h5,h6⟩
  | arr sz rows fz =>
   obtain⟨l,h1,h2,h3,h4,h5,h6⟩:=this;refine⟨l,h1,h2,h3,h4,h5,?_⟩;cases hbk:l.blk with
   | none=>rw[hbk] at h6;exact h6
   | some B =>
    rw[hbk] at h6;obtain⟨cur,e,ff,k1,k2,k3,k4,k5,k6,k7,k8⟩:=h6;exact⟨cur,e,ff,k1,k2,k3,k4,k5,fun k j r d hr hd=>by obtain⟨v,hv,hrel⟩:=k6 k j r d hr hd;exact⟨v,hv,hrel.ext ex0⟩,k7,k8⟩
 refine Eg hg hc hS (mu:=mu) (S:=S) (w:=w) (a:=a) (fun a' w' mu' S' ex i1 f1 hdf=>hQ a' w' mu' S' ex (hG' ▸ i1) (hF' ▸ f1) hdf) ops.size _ mu S _ a (by simp[hsz]) ?_ (fun k hk=>absurd hk (hd0 k)) ?_ ex0 rfl
 ·simp[List.count_replicate]
 ·have hpad:∀ x,x<(G 0).length->(G 0++List.replicate ((G L.length).length-(G 0).length) Box.dead)[x]?=(G 0)[x]?:=fun x hx=>by rw[List.getElem?_append_left hx]
  have hlen:(G 0).length<=(G L.length).length:=kG hS _ _ (Nat.zero_le _) (Nat.le_refl _);refine⟨⟨G 0++List.replicate ((G L.length).length-(G 0).length) .dead,by simp;omega,?_,fun b=>⟨0,Nat.zero_le _,fun k h=>by omega,fun k _ _ _=>hd0 k,fun h=>hpad b h,fun h=>?_⟩⟩,by rw[hF];exact hf.size,fun t=>⟨0,Nat.zero_le _,fun k h=>by omega,fun k _ _ _=>hd0 k,fun v hv=>?_⟩⟩
  ·rw[hG] at hpad ⊢;have hb:∀ {i:Nat} {b:Box} {l:Loc},(H++List.replicate ((G L.length).length-H.length) Box.dead)[i]?=some b->mu i=some l->H[i]?=some b:=fun {i b l} h1 h2=>by rw[<- hpad i (hi0.dom i l h2)];exact h1
   exact⟨fun i b l h1 h2=>hi0.box i b l (hb h1 h2) h2,fun i l h=>by have:=hi0.dom i l h;simp;omega,hi0.old,hi0.sl,hi0.tl,fun i j bi bj li lj B hij h1 h2 h3 h4 h5 h6=>hi0.one i j bi bj li lj B hij (hb h1 h5) (hb h2 h6) h3 h4 h5 h6⟩
  ·rw[hG] at h;cases hm:mu b with
   | none=>rfl
   | some l=>have:=hi0.dom b l hm;omega
  rw[hF] at hv;obtain⟨x,hx,hr⟩:=hf.rel t v hv;exact⟨x,hx,hr.ext ex0⟩
end
section
variable {P:Program} {φ:FuncId->List V->Hp->Option (V × Hp)}
structure StepAt0 (φ:FuncId->List V->Hp->Option (V × Hp)) (F:Nat->Fr) (G:Nat->Hp) (E:Nat->Log0) (k:Nat) (o:AOp):Prop where
 ex:∃ (b:Bool) (v:V),wantedV (F k) o.g=some b∧(E k).kind=(bif b then o.a.kind (F k) else 0)∧F (k+1)=put (F k) o.dst v ∧
  (b=true->o.a.run φ (F k) (G k)=some (v,G (k+1)))∧(b=false->v=.tup []∧G (k+1)=G k)
 dst:(E k).dst=o.dst
 rds:(E k).rds=o.slots
 fz:o.fz=false
 pre:∀ j∈o.pre,j<k
 free:∀ j,j<k->j∈o.pre∨(E j).free (E k)=true
theorem l8 {pre:List Nat} {e:Log0}:∀ {l:List Log0} {i:Nat},ir pre e i l=true->∀ (j:Nat) (x:Log0),l[j]?=some x->(i+j)∈pre∨x.free e=true
 | [],i,h,j,x,hx=>by simp at hx
 | y::r,i,h,j,x,hx=>by
  simp only[ir,Bool.and_eq_true,Bool.or_eq_true] at h;cases j with
  | zero =>
   simp at hx;subst hx;rcases h.1 with h1|h1
   ·exact .inl (by simpa using h1)
   ·exact .inr h1
  | succ j =>
   have:=l8 h.2 j x (by simpa using hx)
   rwa [show i+1+j=i+(j+1) by omega] at this
theorem sG {fr':Fr} {H':Hp}:∀ (r:List AOp) (lg:List Log0) (fr:Fr) (H:Hp),cB φ r lg fr H=some (fr',H') ->
  ∃ (F:Nat->Fr) (G:Nat->Hp) (E:Nat->Log0),F lg.length=fr∧G lg.length=H∧F (lg.length+r.length)=fr'∧G (lg.length+r.length)=H' ∧
   (∀ (j:Nat) (l:Log0),lg[j]?=some l->E j=l)∧∀ (k:Nat) (o:AOp),r[k]?=some o->StepAt0 φ F G E (lg.length+k) o
 | [],lg,fr,H,h=>by
  simp only[cB] at h;cases h;exact⟨fun _=>fr',fun _=>H',fun j=>lg.getD j ⟨0,none,[]⟩,rfl,rfl,rfl,rfl,fun j l hj=>by simp[List.getD,hj],fun k o hk=>by simp at hk⟩
 | o::r,lg,fr,H,h=>by
  simp only[cB] at h;split at h
  ·cases h
  ·rename_i b hb;split at h
   ·rename_i hchk;simp only[Bool.and_eq_true,Bool.not_eq_true'] at hchk;obtain⟨hfz,hpre,hfree⟩:=hchk;split at h
    ·rename_i v H1 hrun;obtain⟨F,G,E,hF,hG,hF',hG',hE,hS⟩:=sG r _ _ _ h;simp only[List.length_append,List.length_cons,List.length_nil] at hF hG hF' hG' hS;have hEk:E lg.length=⟨bif b then o.a.kind fr else 0,o.dst,o.slots⟩:=hE lg.length _ (by simp)
     refine⟨fun j=>if j=lg.length then fr else F j,fun j=>if j=lg.length then H else G j,E,by simp,by simp,?_,?_,fun j l hj=>hE j l ?_,?_⟩
     ·show(if lg.length+(o::r).length=lg.length then fr else F (lg.length+(o::r).length))=fr'
      rw[if_neg (by simp only[List.length_cons];omega),<- hF',show lg.length+(o::r).length=lg.length+(0+1)+r.length by simp only[List.length_cons];omega]
     ·show(if lg.length+(o::r).length=lg.length then H else G (lg.length+(o::r).length))=H'
      rw[if_neg (by simp only[List.length_cons];omega),<- hG',show lg.length+(o::r).length=lg.length+(0+1)+r.length by simp only[List.length_cons];omega]
     ·have hj':j<lg.length:=by
       rcases Nat.lt_or_ge j lg.length with h|h
       ·exact h
       ·rw[List.getElem?_eq_none h] at hj;cases hj
      rw[List.getElem?_append_left hj'];exact hj
     ·intro k o' hk;cases k with
      | zero =>
       simp at hk;subst hk;refine⟨⟨b,v,by simpa using hb,by simp[hEk],?_,?_,?_⟩,by simp[hEk],by simp[hEk],hfz,?_,?_⟩
       ·simp[hF]
       ·intro hbt;subst hbt;simpa[hG] using hrun
       ·intro hbf;subst hbf;simp at hrun;simp[hG,hrun]
       ·intro j hj;have:=(List.all_eq_true.1 hpre) j hj;simpa using this
       ·intro j hj;have hj':j<lg.length:=by simpa using hj
        have hx:=l8 hfree j lg[j] (by simp[hj'])
        rw[Nat.zero_add] at hx;have hEj:E j=lg[j]:=hE j _ (by rw[List.getElem?_append_left hj'];simp[hj'])
        rw[Nat.add_zero,hEk,hEj];exact hx
      | succ k =>
       have hs:=hS k o' (by simpa using hk)
       rw[show lg.length+1+k=lg.length+(k+1) by omega] at hs
       obtain⟨⟨b',v',x1,x2,x3,x4,x5⟩,y1,y2,y3,y4,y5⟩:=hs;have e1:¬ (lg.length+(k+1)=lg.length):=by omega
       have e2:¬ (lg.length+(k+1)+1=lg.length):=by omega
       exact⟨⟨b',v',by simpa only[if_neg e1] using x1,by simpa only[if_neg e1] using x2,by simpa only[if_neg e1,if_neg e2] using x3,
        by simpa only[if_neg e1,if_neg e2] using x4,by simpa only[if_neg e1,if_neg e2] using x5⟩,y1,y2,y3,y4,y5⟩
    ·cases h
   ·cases h
variable {F:Nat->Fr} {G:Nat->Hp} {E:Nat->Log0} {L:List AOp}
theorem gE (hS:∀ k o,L[k]?=some o->StepAt0 φ F G E k o) {t:Nat}:∀ (b a:Nat),a<=b->b<=L.length->(∀ k,a<=k->k<b->(E k).dst≠some t)->(F a)[t]?=(F b)[t]?
 | 0,a,h,_,_=>by rw[show a=0 by omega]
 | b+1,a,h,hb,hn=>by
  rcases Nat.lt_or_ge a (b+1) with h1|h1
  ·rw[gE hS b a (by omega) (by omega) (fun k h2 h3=>hn k h2 (by omega))]
   have hs:=hS b L[b] (by simp)
   obtain⟨⟨bb,v,x1,x2,x3,x4,x5⟩,y1,_⟩:=hs;have:=hn b (by omega) (by omega)
   rw[y1] at this;rw[x3,p8,if_neg this]
  ·rw[show a=b+1 by omega]
theorem iA (hS:∀ k o,L[k]?=some o->StepAt0 φ F G E k o):∀ k,k<=L.length->(F k).length=(F 0).length
 | 0,_=>rfl
 | k+1,h=>by
  obtain⟨⟨bb,v,x1,x2,x3,x4,x5⟩,y1,_⟩:=hS k L[k] (by simp)
  rw[x3,rJ,iA hS k (by omega)]
theorem iI (hS:∀ k o,L[k]?=some o->StepAt0 φ F G E k o):∀ (b a:Nat),a<=b->b<=L.length->(∀ k,a<=k->k<b->(E k).kind≠2)->G a=G b
 | 0,a,h,_,_=>by rw[show a=0 by omega]
 | b+1,a,h,hb,hn=>by
  rcases Nat.lt_or_ge a (b+1) with h1|h1
  ·rw[iI hS b a (by omega) (by omega) (fun k h2 h3=>hn k h2 (by omega))]
   obtain⟨⟨bb,v,x1,x2,x3,x4,x5⟩,y1,_⟩:=hS b L[b] (by simp)
   have:=hn b (by omega) (by omega)
   rw[x2] at this;cases bb with
   | true=>exact(qV this (x4 rfl)).symm
   | false=>exact(x5 rfl).2.symm
  ·rw[show a=b+1 by omega]
structure Half0 (n:Nat) (F:Nat->Fr) (G:Nat->Hp) (E:Nat->Log0) (TB:Nat->Prop) (listed:Array Bool) (mu:Mu) (S:St) (w:World) (a:Act):Prop where
 heap:∃ m,m<=n∧(∀ k,k<m->(E k).kind=2->Dn listed k)∧(∀ k,m<=k->k<n->(E k).kind=2->¬ Dn listed k)∧Inv mu S TB w (G m)
 size:a.tmps.size=(F 0).length
 slot:∀ t,∃ m,m<=n∧(∀ k,k<m->(E k).dst=some t->Dn listed k)∧(∀ k,m<=k->k<n->(E k).dst=some t->¬ Dn listed k) ∧
  ∀ v,(F m)[t]?=some v->∃ x,a.tmps[t]?=some x∧RelV mu S w v x
theorem yr (hg:Good P φ) {TB:Nat->Prop} {an:Nat->Nat} {ops:Array Oper} {ps:List (List Nat)} (hc:cZ P an ops ps 0 ops.toList=some L)
  (hS:∀ k o,L[k]?=some o->StepAt0 φ F G E k o) {listed:Array Bool} {mu:Mu} {S:St} {w:World} {a:Act} (hsz:listed.size=L.length)
  (hcl:∀ k,Dn listed k->∀ o,L[k]?=some o->∀ j∈o.pre,Dn listed j)
  {i:Nat} (hi:i<L.length) (hnd:¬ Dn listed i) (hpre:∀ o,L[i]?=some o->∀ j∈o.pre,Dn listed j)
  (hh:Half0 L.length F G E TB listed mu S w a) {K:Act->World->Prop} {Q:Exit->Act->World->Prop}
  (hk:∀ a' w' mu' S',Ext TB mu S w mu' S' w'->Half0 L.length F G E TB (listed.setIfInBounds i true) mu' S' w' a'->a'.defers=a.defers->K a' w'):wpOp P ops Q i K a w:=by
 obtain⟨hl,hget⟩:=dI hc;have hio:i<ops.size:=by rw[hl] at hi;simpa using hi
 obtain⟨g1,g2,g3,g4⟩:=hget i ops[i] L[i] (by simp[hio]) (by simp[hi])
 obtain⟨⟨b,v,x1,x2,x3,x4,x5⟩,y1,y2,y3,y4,y5⟩:=hS i L[i] (by simp[hi])
 have hp:=hpre L[i] (by simp[hi])
 have before:∀ k,k<i->¬ Dn listed k->(E k).free (E i)=true:=fun k hki hk=>(y5 k hki).resolve_left fun h=>hk (hp k h)
 have after:∀ k,i<k->k<L.length->Dn listed k->(E i).free (E k)=true:=fun k hik hkn hk=>by
  obtain⟨_,_,_,_,_,z5⟩:=hS k L[k] (by simp[hkn])
  exact(z5 i hik).resolve_left fun h=>hnd (hcl k hk L[k] (by simp[hkn]) i h)
 have hfree:∀ x y:Log0,x.free y=true->(∀ d,x.dst=some d->d ∉ y.rds∧y.dst≠some d)∧(∀ d,y.dst=some d->d ∉ x.rds∧x.dst≠some d)∧(x.kind=0∨y.kind=0∨(x.kind=1∧y.kind=1)):=by
  intro x y h;simp only[Log0.free,Bool.and_eq_true,Bool.or_eq_true,beq_iff_eq] at h;obtain⟨⟨h1,h2⟩,h3⟩:=h;have e1:∀ d,x.dst=some d->d ∉ y.rds∧y.dst≠some d:=by
   intro d hd;rw[hd] at h1;simpa using h1
  refine⟨e1,fun d hd=>?_,?_⟩
  ·rw[hd] at h2;refine⟨by simpa using h2,fun hx=>(e1 d hx).2 hd⟩
  ·rcases h3 with(h3|h3)|h3
   ·exact .inl h3
   ·exact .inr (.inl h3)
   ·exact .inr (.inr h3)
 have hslots:∀ t∈L[i].slots,∀ v,(F i)[t]?=some v->∃ x,a.tmps[t]?=some x∧RelV mu S w v x:=by
  intro t ht v hv;obtain⟨m,hm,m1,m2,m3⟩:=hh.slot t;apply m3;rw[<- hv];rcases Nat.le_total m i with hmi|hmi
  ·refine gE hS i m hmi (by omega) fun k h1 h2 h3=>?_
   have:=(hfree _ _ (before k h2 (m2 k h1 (by omega) h3))).1 t h3
   exact this.1 (y2 ▸ ht)
  ·refine(gE hS m i hmi hm fun k h1 h2 h3=>?_).symm
   have hd:=m1 k h2 h3;rcases Nat.lt_or_ge i k with h4|h4
   ·have:=(hfree _ _ (after k h4 (by omega) hd)).2.1 t h3
    exact this.1 (y2 ▸ ht)
   ·exact hnd (by rwa [show i=k by omega])
 have hfr:RelFr mu S w (aS L[i].slots (F i)) a:=by
  refine⟨by rw[hh.size];simp[aS,iA hS i (by omega)],fun t v ht=>?_⟩
  by_cases hts:t∈L[i].slots
  ·rw[aY hts] at ht;exact hslots t hts v ht
  ·simp only[aS,List.getElem?_mapIdx,Option.map_eq_some_iff] at ht;obtain⟨u,hu,rfl⟩:=ht;have hlt:t<a.tmps.size:=by
    rw[hh.size,<- iA hS i (by omega)]
    rcases Nat.lt_or_ge t (F i).length with h|h
    ·exact h
    ·rw[List.getElem?_eq_none h] at hu;cases hu
   refine⟨a.tmps[t],by simp[hlt],?_⟩
   rw[if_neg (by simpa using hts)]
   trivial
 obtain⟨m,hm,m1,m2,hinv⟩:=hh.heap;have hheap:(E i).kind≠0->G i=G m:=by
  intro hk0;have hb1:∀ k,k<i->(E k).kind=2->Dn listed k:=fun k hki hk2=>Classical.byContradiction fun hnk=>by
   have:=(hfree _ _ (before k hki hnk)).2.2;rw[hk2] at this;omega
  have hb2:∀ k,i<k->k<L.length->(E k).kind=2->¬ Dn listed k:=fun k hik hkn hk2 hdk=>by
   have:=(hfree _ _ (after k hik hkn hdk)).2.2;rw[hk2] at this;omega
  rcases Nat.le_total m i with hmi|hmi
  ·exact(iI hS i m hmi (by omega) fun k h1 h2 h3=>m2 k h1 (by omega) h3 (hb1 k h2 h3)).symm
  ·refine iI hS m i hmi hm fun k h1 h2 h3=>?_
   have hd:=m1 k h2 h3;rcases Nat.lt_or_ge i k with h4|h4
   ·exact hb2 k h4 (by omega) h3 hd
   ·exact hnd (by rwa [show i=k by omega])
 have hset:∀ k,Dn (listed.setIfInBounds i true) k↔k=i∨Dn listed k:=fun k=>uT (by omega)
 have su:∀ (x:Value) (w':World) (mu':Mu) (S':St) (H1:Hp),Ext TB mu S w mu' S' w'->Inv mu' S' TB w' H1->RelV mu' S' w' v x->((E i).kind=2->H1=G (i+1))->((E i).kind≠2->H1=G m) ->
   K (a.put ops[i].dst x) w':=by
  intro x w' mu' S' H1 ex i1 rx hH2 hH0;refine hk _ _ mu' S' ex ⟨?_,by rw[jI];exact hh.size,fun t=>?_⟩ (dB _ _ _)
  ·by_cases h2:(E i).kind=2
   ·refine⟨i+1,by omega,fun k hk1 hk2=>(hset k).2 ?_,fun k hk1 hkn hk2 hd=>?_,hH2 h2 ▸ i1⟩
    ·rcases Nat.lt_or_ge k i with h|h
     ·refine .inr (Classical.byContradiction fun hnk=>?_)
      have:=(hfree _ _ (before k h hnk)).2.2;omega
     ·exact .inl (by omega)
    ·rcases(hset k).1 hd with h|h
     ·omega
     ·have:=(hfree _ _ (after k (by omega) hkn h)).2.2
      omega
   ·refine⟨m,hm,fun k hk1 hk2=>(hset k).2 (.inr (m1 k hk1 hk2)),fun k hk1 hkn hk2 hd=>?_,hH0 h2 ▸ i1⟩
    rcases(hset k).1 hd with h|h
    ·subst h;exact h2 hk2
    ·exact m2 k hk1 hkn hk2 h
  ·by_cases ht:(E i).dst=some t
   ·have hdt:ops[i].dst=some t:=by rw[<- g3,<- y1];exact ht
    refine⟨i+1,by omega,fun k hk1 hk2=>(hset k).2 ?_,fun k hk1 hkn hk2 hd=>?_,fun u hu=>?_⟩
    ·rcases Nat.lt_or_ge k i with h|h
     ·refine .inr (Classical.byContradiction fun hnk=>?_)
      exact((hfree _ _ (before k h hnk)).1 t hk2).2 ht
     ·exact .inl (by omega)
    ·rcases(hset k).1 hd with h|h
     ·omega
     ·exact((hfree _ _ (after k (by omega) hkn h)).1 t ht).2 hk2
    ·rw[x3,p8,if_pos (by rw[<- y1];exact ht)] at hu
     split at hu
     ·rename_i hlt;cases hu;refine⟨x,?_,rx⟩;rw[i5,if_pos hdt,if_pos];rw[hh.size,<- iA hS i (by omega)];exact hlt
     ·cases hu
   ·have hdt:ops[i].dst≠some t:=by rw[<- g3,<- y1];exact ht
    obtain⟨q,hq,q1,q2,q3⟩:=hh.slot t;refine⟨q,hq,fun k hk1 hk2=>(hset k).2 (.inr (q1 k hk1 hk2)),fun k hk1 hkn hk2 hd=>?_,fun u hu=>?_⟩
    ·rcases(hset k).1 hd with h|h
     ·subst h;exact ht hk2
     ·exact q2 k hk1 hkn hk2 h
    ·obtain⟨y,hy,hr⟩:=q3 u hu;refine⟨y,?_,hr.ext ex⟩;rw[i5,if_neg hdt];exact hy
 have hwk:wantedV (aS L[i].slots (F i)) L[i].g=some b:=me x1 fun t w hgw=>by
  simp only[AOp.slots,hgw,List.mem_append];exact .inr (List.mem_singleton_self _)
 unfold wpOp;simp only[show ops[i]?=some ops[i] by simp[hio]]
 rw[lA g2 hfr hwk];cases b with
 | true =>
  simp only[if_true];left
  have hrun:∃ H1,L[i].a.run φ (aS L[i].slots (F i)) (G m)=some (v,H1)∧((E i).kind=2->H1=G (i+1))∧((E i).kind≠2->H1=G m):=by
   have hcg:∀ H,L[i].a.run φ (aS L[i].slots (F i)) H=L[i].a.run φ (F i) H:=fun H=>oL fun t ht=>aY (by
    simp only[AOp.slots,List.mem_append];exact .inl ht)
   simp only[hcg];simp only[cond_true] at x2;have hr:=x4 rfl;by_cases h0:(E i).kind=0
   ·obtain⟨_,h2⟩:=lD (by rw[<- x2];exact h0) hr
    exact⟨G m,h2 _,fun h=>by omega,fun _=>rfl⟩
   ·rw[<- hheap h0];refine⟨G (i+1),hr,fun _=>rfl,fun h=>qV (by rw[<- x2];exact h) hr⟩
  obtain⟨H1,hr,hH2,hH0⟩:=hrun;rw[y3] at *;have g1':be P (if an (0+i)=2 then 0 else an (0+i)) ops[i].op=some L[i].a:=g1
  exact vZ hg g1' hinv hfr hr K Q fun x w' mu' S' ex i1 rx=>su x w' mu' S' H1 ex i1 rx hH2 hH0
 | false =>
  rw[if_neg (by simp)]
  obtain⟨rfl,hG⟩:=x5 rfl;simp only[cond_false] at x2;exact su undef w mu S (G m) (.refl _ _ _ _) hinv fO (fun h=>by omega) (fun _=>rfl)
theorem Cj (hg:Good P φ) {TB:Nat->Prop} {an:Nat->Nat} {ops:Array Oper} (hc:cZ P an ops (dz ops.toList []) 0 ops.toList=some L)
  (hS:∀ k o,L[k]?=some o->StepAt0 φ F G E k o) {Q:Exit->Act->World->Prop} {mu:Mu} {S:St} {w:World} {a:Act}
  (hQ:∀ a' w' mu' S',Ext TB mu S w mu' S' w'->Inv mu' S' TB w' (G L.length)->RelFr mu' S' w' (F L.length) a'->a'.defers=a.defers->Q .normal a' w') :
  ∀ (fuel:Nat) (listed:Array Bool) (mu1:Mu) (S1:St) (w1:World) (a1:Act),listed.size=L.length->listed.toList.count false<=fuel ->
   (∀ k,Dn listed k->∀ o,L[k]?=some o->∀ j∈o.pre,Dn listed j)->Half0 L.length F G E TB listed mu1 S1 w1 a1->Ext TB mu S w mu1 S1 w1->a1.defers=a.defers ->
   wpAny P .any ops Q fuel listed a1 w1:=by
 obtain⟨hl,hget⟩:=dI hc;have hsz:L.length=ops.size:=by simpa using hl
 have hready:∀ (listed:Array Bool) (i:Nat),listed.size=L.length->(∀ k,Dn listed k->∀ o,L[k]?=some o->∀ j∈o.pre,Dn listed j)->i∈Region.ready .any ops listed ->
   i<L.length∧¬ Dn listed i∧∀ o,L[i]?=some o->∀ j∈o.pre,Dn listed j:=by
  intro listed i hls hcl hi;rw[mem_ready] at hi;obtain⟨h0,o,ho,hall⟩:=hi;have hio:i<ops.size:=by
   rcases Nat.lt_or_ge i ops.size with h|h
   ·exact h
   ·rw[Array.getElem?_eq_none h] at ho;cases ho
  refine⟨by omega,?_,fun ao hao j hj=>?_⟩
  ·unfold Dn;have:i<listed.size:=by omega
   simp only[Array.getD,this,dite_true] at h0 ⊢;rw[h0];simp
  ·obtain⟨_,_,_,g4⟩:=hget i o ao (by simpa using ho) hao
   rw[g4,Nat.zero_add,iR (o:=o) (by simpa using ho)] at hj
   obtain⟨e,he,hb,hx⟩:=hj;have hd:=hall e (by simpa using he) hb
   rcases hx with rfl|⟨hlt,hx⟩
   ·exact hd
   ·have hen:e.on<L.length:=by omega
    obtain⟨_,_,_,g4'⟩:=hget e.on ops[e.on] L[e.on] (by simp <;> omega) (by simp[hen])
    refine hcl e.on hd L[e.on] (by simp[hen]) j ?_
    rw[g4',Nat.zero_add];exact hx
 have hdone:∀ listed:Array Bool,listed.size=L.length->Region.ready .any ops listed=[]->∀ k,k<L.length->Dn listed k:=by
  intro listed hls hr k;induction k using Nat.strongRecOn with
  | ind k ih =>
   intro hk;apply Classical.byContradiction;intro hnd;have:k∈Region.ready .any ops listed:=by
    rw[mem_ready];have hks:k<listed.size:=by omega
    refine⟨?_,ops[k]'(by omega),by simp <;> omega,fun e he hb=>?_⟩
    ·unfold Dn at hnd;simp only[Array.getD,hks,dite_true] at hnd ⊢;simpa using hnd
    ·obtain⟨_,_,_,g4⟩:=hget k (ops[k]'(by omega)) L[k] (by simp <;> omega) (by simp[hk])
     obtain⟨_,_,_,_,z4,_⟩:=hS k L[k] (by simp[hk])
     have hm:e.on∈L[k].pre:=by
      rw[g4,Nat.zero_add,iR (o:=ops[k]'(by omega)) (by simp <;> omega)]
      exact⟨e,by simpa using he,hb,.inl rfl⟩
     have:=z4 _ hm;exact ih e.on this (by omega)
   rw[hr] at this;cases this
 have hend:∀ (listed:Array Bool) (mu1:Mu) (S1:St) (w1:World) (a1:Act),listed.size=L.length->Region.ready .any ops listed=[]->Half0 L.length F G E TB listed mu1 S1 w1 a1 ->
   Ext TB mu S w mu1 S1 w1->a1.defers=a.defers->Q .normal a1 w1:=by
  intro listed mu1 S1 w1 a1 hls hr hh ex hdf;have hd:=hdone listed hls hr;obtain⟨m,hm,m1,m2,hinv⟩:=hh.heap;have hGm:G m=G L.length:=iI hS L.length m hm (Nat.le_refl _) fun k h1 h2 h3=>m2 k h1 h2 h3 (hd k h2)
  refine hQ a1 w1 mu1 S1 ex (hGm ▸ hinv) ⟨by rw[hh.size,iA hS L.length (Nat.le_refl _)],fun t v ht=>?_⟩ hdf
  obtain⟨q,hq,q1,q2,q3⟩:=hh.slot t;apply q3;rw[<- ht];exact gE hS L.length q hq (Nat.le_refl _) fun k h1 h2 h3=>q2 k h1 h2 h3 (hd k h2)
 intro fuel;induction fuel with
 | zero =>
  intro listed mu1 S1 w1 a1 hls hcnt hcl hh ex hdf;have hr:Region.ready .any ops listed=[]:=by
   apply List.eq_nil_iff_forall_not_mem.2;intro i hi;obtain⟨h1,h2,_⟩:=hready listed i hls hcl hi;have hz:listed.toList.count false=0:=by omega
   rw[List.count_eq_zero] at hz;apply h2;have his:i<listed.size:=by omega
   unfold Dn;simp only[Array.getD,his,dite_true];cases hv:listed[i] with
   | true=>exact hv
   | false=>exact absurd (by rw[<- hv];simp) hz
  exact⟨hr,hend listed mu1 S1 w1 a1 hls hr hh ex hdf⟩
 | succ fuel ih =>
  intro listed mu1 S1 w1 a1 hls hcnt hcl hh ex hdf;refine⟨fun hr=>hend listed mu1 S1 w1 a1 hls hr hh ex hdf,fun i hi=>?_⟩
  obtain⟨h1,h2,h3⟩:=hready listed i hls hcl hi;refine yr hg hc hS hls hcl h1 h2 h3 hh fun a' w' mu' S' ex' hh' hdf'=>?_
  have his:i<listed.size:=by omega
  refine ih _ mu' S' w' a' (by simp[hls]) ?_ (fun k hk o ho j hj=>?_) hh' (ex.trans ex') (hdf'.trans hdf)
  ·have hv:listed[i]=false:=by
    unfold Dn at h2;simp only[Array.getD,his,dite_true] at h2;simpa using h2
   rw[Array.toList_setIfInBounds,List.count_set (by simpa using his)]
   have:(listed.toList[i]'(by simpa using his))=false:=by simpa using hv
   rw[this,if_pos (by decide:(false == false)=true),if_neg (by decide:¬ ((true == false)=true))]
   omega
  ·rw[uT his] at hk ⊢;rcases hk with rfl|hk
   ·exact .inr (h3 o ho j hj)
   ·exact .inr (hcl k hk o ho j hj)
def K3 (P:Program) (φ:FuncId->List V->Hp->Option (V × Hp)):Prop :=
 ∀ (TB:Nat->Prop) (an:Nat->Nat) (ops:Array Oper) (id:Nat) (L:List AOp),cZ P an ops (dz ops.toList []) 0 ops.toList=some L ->
  ∀ (mu:Mu) (S:St) (w:World) (H H':Hp) (fr fr':Fr) (a:Act) (Q:Exit->Act->World->Prop),cB φ L [] fr H=some (fr',H')->Inv mu S TB w H->RelFr mu S w fr a ->
   (∀ a' w' mu' S',Ext TB mu S w mu' S' w'->Inv mu' S' TB w' H'->RelFr mu' S' w' fr' a'->a'.defers=a.defers->Q .normal a' w')->(Code.region id ops true).wp P Q a w
theorem D0 (hm:P.follows .mixedOrders=true) (hg:Good P φ):K3 P φ:=by
 intro TB an ops id L hc mu S w H H' fr fr' a Q hrun hi hf hQ;obtain⟨F,G,E,hF,hG,hF',hG',_,hS⟩:=sG L [] fr H hrun;simp only[List.length_nil,Nat.zero_add] at hF hG hF' hG' hS;obtain⟨hl,hget⟩:=dI hc;have hsz:L.length=ops.size:=by simpa using hl
 apply wp_region_any hm;have hd0:∀ k,¬ Dn (Array.replicate ops.size false) k:=by
  intro k h;unfold Dn at h;simp only[Array.getD] at h;split at h <;> simp at h
 have ex0:Ext TB mu S w mu S { w with drawn:=w.drawn+1 }:=⟨fun _ _ h=>h,fun _ _ h=>h,fun _ _ _ h=>h,fun _ _ _=>rfl,fun _ _=>rfl,Nat.le_refl _,rfl,rfl,rfl⟩
 have hi0:Inv mu S TB { w with drawn:=w.drawn+1 } H:=by
  refine⟨fun i b l hb hl=>?_,hi.dom,hi.old,hi.sl,hi.tl,hi.one⟩
  have:=hi.box i b l hb hl;cases b with
  | dead=>trivial
  | mp rows=>exact this
  | cells xs =>
   obtain⟨l,B,cur,e,h1,h2,h3,h4,h5,h6⟩:=this;exact⟨l,B,cur,e,h1,h2,h3,h4.ext ex0,h5,h6⟩
  | arr sz rows fz =>
   obtain⟨l,h1,h2,h3,h4,h5,h6⟩:=this;refine⟨l,h1,h2,h3,h4,h5,?_⟩;cases hbk:l.blk with
   | none=>rw[hbk] at h6;exact h6
   | some B =>
    rw[hbk] at h6;obtain⟨cur,e,ff,k1,k2,k3,k4,k5,k6,k7,k8⟩:=h6;exact⟨cur,e,ff,k1,k2,k3,k4,k5,fun k j r d hr hd=>by obtain⟨v,hv,hrel⟩:=k6 k j r d hr hd;exact⟨v,hv,hrel.ext ex0⟩,k7,k8⟩
 refine Cj hg hc hS (mu:=mu) (S:=S) (w:=w) (a:=a) (fun a' w' mu' S' ex i1 f1 hdf=>hQ a' w' mu' S' ex (hG' ▸ i1) (hF' ▸ f1) hdf) ops.size _ mu S _ a (by simp[hsz]) ?_ (fun k hk=>absurd hk (hd0 k)) ?_ ex0 rfl
 ·simp[List.count_replicate]
 ·refine⟨⟨0,Nat.zero_le _,fun k h=>by omega,fun k _ _ _=>hd0 k,by rw[hG];exact hi0⟩,by rw[hF];exact hf.size,fun t=>⟨0,Nat.zero_le _,fun k h=>by omega,fun k _ _ _=>hd0 k,fun v hv=>?_⟩⟩
  rw[hF] at hv;obtain⟨x,hx,hr⟩:=hf.rel t v hv;exact⟨x,hx,hr.ext ex0⟩
end
theorem Au {P:Program} {φ:FuncId->List V->Hp->Option (V × Hp)} (hm:P.follows .mixedOrders=true) (hg:Good P φ):fP P φ:=by
 intro TB an ops id L hc mu S w H H' fr fr' a Q hrun hi hf hQ;simp only[cf] at hrun;cases hs:hJ L [] with
 | true=>rw[hs] at hrun;exact D0 hm hg TB an ops id L hc mu S w H H' fr fr' a Q hrun hi hf hQ
 | false=>rw[hs] at hrun;exact Fj hm hg TB an ops id L hc mu S w H H' fr fr' a Q hrun hi hf hQ
def RelQ (S:St) (w:World) (ds:List D) (cs:List Value):Prop:=cs.length=ds.length∧∀ (j:Nat) (d:D),ds[j]?=some d->∃ v,cs[j]?=some v∧RelD S w d v
def iu (W:TypeId->List D->Prop) (sz:TypeId->Nat):List TypeId->List D->Prop
 | [],ds=>ds=[]
 | f::fs,ds=>∃ p r,ds=p++r∧p.length=sz f∧W f p∧iu W sz fs r
def vf (P:Program):Nat->TypeId->List D->Prop
 | 0,_,_=>False
 | n+1,t,ds=>match P.underlying t with
  | some .bool=>∃ b,ds=[.b b]
  | some (.int k)=>∃ x,ds=[.i k x]∧(Lit.int k x).wf=true
  | some .string=>∃ l:List UInt8,ds=[.s l]∧l.length<=maxLen
  | some (.slice e)=>∃ rows,ds=[.l rows]∧rows.length<=maxLen∧∀ r∈rows,r.length=P.cellsOf e∧vf P n e r
  | some (.struct fs)=>iu (vf P n) P.cellsOf (fs.toList.map (·.type)) ds
  | some (.array m e)=>iu (vf P n) P.cellsOf (List.replicate m e) ds
  | _=>False
def vI (sz:TypeId->Nat):Nat->List Field->Nat->Bool
 | off,[],total=>off == total
 | off,f::fs,total=>f.offset == off && vI sz (off+sz f.type) fs total
def fX (P:Program):Nat->TypeId->Bool
 | 0,_=>false
 | n+1,t=>match P.underlying t with
  | some .bool=>true
  | some (.int _)=>true
  | some .string=>true
  | some (.slice e)=>fX P n e && decide (0<P.cellsOf e)
  | some (.struct fs)=>vI P.cellsOf 0 fs.toList (P.cellsOf t) && fs.toList.all fun f=>fX P n f.type
  | some (.array m e)=>fX P n e && P.cellsOf t == m*P.cellsOf e
  | _=>false
theorem AG {β:Type} {p:Nat->β->Prop}:∀ {n:Nat},(∀ i,i<n->∃ r,p i r)->∃ l:List β,l.length=n∧∀ (i:Nat) (r:β),l[i]?=some r->p i r
 | 0,_=>⟨[],rfl,fun i r h=>by simp at h⟩
 | n+1,h=>by
  obtain⟨l,hl,hp⟩:=AG (n:=n) (fun i hi=>h i (by omega))
  obtain⟨r,hr⟩:=h n (by omega)
  refine⟨l++[r],by simp[hl],fun i x hx=>?_⟩
  rcases Nat.lt_or_ge i n with hi|hi
  ·rw[List.getElem?_append_left (by omega)] at hx;exact hp i x hx
  ·rw[List.getElem?_append_right (by omega)] at hx
   have:i=n:=by
    have:=(List.getElem?_eq_some_iff.1 hx).1;simp at this;omega
   subst this;simp[hl] at hx;subst hx;exact hr
theorem RelQ.append {S:St} {w:World} {d1 d2:List D} {c1 c2:List Value} (h1:RelQ S w d1 c1) (h2:RelQ S w d2 c2):RelQ S w (d1++d2) (c1++c2):=by
 refine⟨by simp[h1.1,h2.1],fun j d hj=>?_⟩
 rcases Nat.lt_or_ge j d1.length with h|h
 ·rw[List.getElem?_append_left h] at hj;rw[List.getElem?_append_left (by rw[h1.1];exact h)]
  exact h1.2 j d hj
 ·rw[List.getElem?_append_right h] at hj;rw[List.getElem?_append_right (by rw[h1.1];exact h),h1.1]
  exact h2.2 _ d hj
theorem RelQ.one {S:St} {w:World} {d:D} {v:Value} (h:RelD S w d v):RelQ S w [d] [v]:=by
 refine⟨rfl,fun j x hj=>?_⟩
 cases j with
 | zero=>simp at hj;subst hj;exact⟨v,rfl,h⟩
 | succ j=>simp at hj
section
variable {H:Type} {enc:TypeId × Value->H} {P:Program} {w:World} {spare:Nat->Bool} {held:Bool}
theorem py {n:Nat} {cs:List Value} {total:Nat} (ht:cs.length=total)
  (ih:∀ t,fX P n t=true->∀ cs' x fuel,DataW.trod enc P w 0 spare held fuel t cs'=some x->∃ ds,RelQ (fun b _=>b<w.heap.size) w ds cs'∧vf P n t ds) (fuel:Nat) :
  ∀ (fs:List Field) (off:Nat),vI P.cellsOf off fs total=true->(∀ f∈fs,fX P n f.type=true)->(∀ f∈fs,∃ x,DataW.trod enc P w 0 spare held fuel f.type ((cs.drop f.offset).take (P.cellsOf f.type))=some x)->off<=total ->
   ∃ ds,RelQ (fun b _=>b<w.heap.size) w ds (cs.drop off)∧iu (vf P n) P.cellsOf (fs.map (·.type)) ds
 | [],off,hs,hp,hx,hle=>by
  simp only[vI,beq_iff_eq] at hs;refine⟨[],⟨by simp;omega,fun j d hj=>by simp at hj⟩,rfl⟩
 | f::fs,off,hs,hp,hx,hle=>by
  simp only[vI,Bool.and_eq_true,beq_iff_eq] at hs;obtain⟨hf,hs⟩:=hs;have hle2:off+P.cellsOf f.type<=total:=by
   have key:∀ (fs:List Field) (a:Nat),vI P.cellsOf a fs total=true->a<=total:=by
    intro fs;induction fs with
    | nil=>intro a h;simp only[vI,beq_iff_eq] at h;omega
    | cons g gs ihg=>intro a h;simp only[vI,Bool.and_eq_true,beq_iff_eq] at h;have:=ihg _ h.2;omega
   exact key fs _ hs
  obtain⟨x,hx1⟩:=hx f (List.mem_cons_self ..);rw[hf] at hx1;obtain⟨d1,r1,w1⟩:=ih f.type (hp f (List.mem_cons_self ..)) _ _ _ hx1;obtain⟨d2,r2,w2⟩:=py ht ih fuel fs _ hs (fun g hg=>hp g (List.mem_cons_of_mem _ hg)) (fun g hg=>hx g (List.mem_cons_of_mem _ hg)) hle2
  refine⟨d1++d2,?_,d1,d2,rfl,?_,w1,w2⟩
  ·have:=r1.append r2;rwa [<- List.drop_drop,List.take_append_drop] at this
  ·rw[<- r1.1];simp;omega
theorem vY {n:Nat} {e:TypeId} {cs:List Value}
  (ih:∀ cs' x fuel,DataW.trod enc P w 0 spare held fuel e cs'=some x->∃ ds,RelQ (fun b _=>b<w.heap.size) w ds cs'∧vf P n e ds) (fuel:Nat) :
  ∀ (m k:Nat),cs.length=(k+m)*P.cellsOf e->(∀ i,i<k+m->∃ x,DataW.trod enc P w 0 spare held fuel e ((cs.drop (i*P.cellsOf e)).take (P.cellsOf e))=some x) ->
   ∃ ds,RelQ (fun b _=>b<w.heap.size) w ds (cs.drop (k*P.cellsOf e))∧iu (vf P n) P.cellsOf (List.replicate m e) ds
 | 0,k,hl,hx=>⟨[],⟨by simp[hl],fun j d hj=>by simp at hj⟩,rfl⟩
 | m+1,k,hl,hx=>by
  obtain⟨x,hx1⟩:=hx k (by omega)
  obtain⟨d1,r1,w1⟩:=ih _ _ _ hx1;obtain⟨d2,r2,w2⟩:=vY ih fuel m (k+1) (by rw[hl];congr 1;omega) (fun i hi=>hx i (by omega))
  refine⟨d1++d2,?_,d1,d2,rfl,?_,w1,w2⟩
  ·have:=r1.append r2;rwa [Nat.add_mul,Nat.one_mul,<- List.drop_drop,List.take_append_drop] at this
  ·rw[<- r1.1];have:(k+1)*P.cellsOf e<=(k+(m+1))*P.cellsOf e:=Nat.mul_le_mul_right _ (by omega)
   rw[Nat.add_mul] at this;simp;omega
theorem lN {a:Addr} {n:Nat} {ci:List Value} (h:w.cells? 0 a n=some ci):ci.length=n∧∀ j,j<n->∃ v,ci[j]?=some v∧w.cell? (a.add j)=some v:=by
 unfold World.cells? at h;rw[if_pos (Nat.zero_le _)] at h;have key:∀ (l:List Nat) (r:List Value),l.mapM (fun i=>w.cell? (a.add i))=some r->r.length=l.length∧∀ (j i:Nat),l[j]?=some i->∃ v,r[j]?=some v∧w.cell? (a.add i)=some v:=by
  intro l;induction l with
  | nil=>intro r hr;simp at hr;subst hr;exact⟨rfl,fun j i hj=>by simp at hj⟩
  | cons b l ih =>
   intro r hr;rw[List.mapM_cons] at hr;cases hb:w.cell? (a.add b) with
   | none=>rw[hb] at hr;simp at hr
   | some v =>
    rw[hb] at hr;cases hl:l.mapM (fun i=>w.cell? (a.add i)) with
    | none=>rw[hl] at hr;simp at hr
    | some vs =>
     rw[hl] at hr;simp at hr;subst hr;obtain⟨e1,e2⟩:=ih vs hl;refine⟨by simp[e1],fun j i hj=>?_⟩
     cases j with
     | zero=>simp at hj;subst hj;exact⟨v,rfl,hb⟩
     | succ j=>simpa using e2 j i (by simpa using hj)
 obtain⟨e1,e2⟩:=key _ _ h;refine⟨by simpa using e1,fun j hj=>e2 j j (by simp[hj])⟩
theorem tJ:∀ (n:Nat) (t:TypeId),fX P n t=true->∀ (cs:List Value) (x:DataW H × List MemPlace) (fuel:Nat),DataW.trod enc P w 0 spare held fuel t cs=some x->∃ ds,RelQ (fun b _=>b<w.heap.size) w ds cs∧vf P n t ds
 | 0,t,hp,_,_,_,_=>by simp[fX] at hp
 | n+1,t,hp,cs,x,fuel,hx=>by
  have ih:=fun t hp cs x fuel hx=>tJ n t hp cs x fuel hx
  unfold vf;unfold fX at hp;cases hu:P.underlying t with
  | none=>rw[hu] at hp;simp at hp
  | some u =>
   rw[hu] at hp;cases u;case bool =>
    obtain⟨b,rfl,_⟩:=DataW.trod_bool hu hx;exact⟨[.b b],.one (.b b),b,rfl⟩
   case int k =>
    obtain⟨m,rfl,_,hw⟩:=DataW.trod_int hu hx;exact⟨[.i k m],.one (.i k m),m,rfl,hw⟩
   case string =>
    obtain⟨s,rfl,_,hw⟩:=DataW.trod_string hu hx;refine⟨[.s s.data.toList],.one ?_,_,rfl,by rw[Array.length_toList];exact hw⟩
    have e:(⟨s.data.toList.toArray⟩:ByteArray)=s:=by rw[Array.toArray_toList]
    have:=RelD.s (S:=fun b _=>b<w.heap.size) (w:=w) s.data.toList
    rwa [e] at this
   case slice e =>
    simp only[Bool.and_eq_true,decide_eq_true_eq] at hp;rcases DataW.trod_slice hu hx with⟨rfl,_⟩|⟨a,len,cap,elems,rest,m,rfl,rfl,_,_,hlc,hcm,hel,hget,_⟩
    ·exact⟨[.l []],.one (.nil none 0 (fun _=>rfl)),[],rfl,Nat.zero_le _,fun r hr=>by cases hr⟩
    ·rcases Nat.eq_zero_or_pos len with h0|h0
     ·subst h0;exact⟨[.l []],.one (.nil _ _ (fun he=>by cases he)),[],rfl,Nat.zero_le _,fun r hr=>by cases hr⟩
     ·have hrow:∀ i,i<len->∃ r:List D,r.length=P.cellsOf e∧vf P n e r∧∃ ci,w.cells? 0 (a.add (i*P.cellsOf e)) (P.cellsOf e)=some ci∧RelQ (fun b _=>b<w.heap.size) w r ci:=by
       intro i hi;have h1:=hget i hi;rw[List.getElem?_eq_getElem (by omega)] at h1
       simp only[Option.bind_eq_some_iff] at h1;obtain⟨ci,hci,htr⟩:=h1;obtain⟨ds,hr,hw⟩:=ih e hp.1 ci _ _ htr;exact⟨ds,by rw[<- hr.1];exact(lN hci).1,hw,ci,hci,hr⟩
      obtain⟨rows,hrl,hrp⟩:=AG hrow;have hsp:a.spot=none:=by
       obtain⟨r,_,_,ci,hci,_⟩:=hrow 0 h0;obtain⟨v,_,hv⟩:=(lN hci).2 0 hp.2;rw[Nat.zero_mul] at hv;simp only[Addr.add,if_true,World.cell?] at hv;split at hv
       ·split at hv
        ·cases hv
        ·rename_i h;simpa using h
       ·cases hv
      obtain⟨B,off,sp⟩:=a;simp only at hsp;subst hsp;have hadd:∀ i j:Nat,((⟨B,off,none⟩:Addr).add (i*P.cellsOf e)).add j=⟨B,off+i*P.cellsOf e+j,none⟩:=by
       intro i j;simp only[dV]
      have hcell:∀ i j,i<len->j<P.cellsOf e->∃ v,w.cell? ⟨B,off+i*P.cellsOf e+j,none⟩=some v:=by
       intro i j hi hj;obtain⟨r,_,_,ci,hci,_⟩:=hrow i hi;obtain⟨v,_,hv⟩:=(lN hci).2 j hj;rw[hadd] at hv;exact⟨v,hv⟩
      have hblk:B<w.heap.size:=by
       obtain⟨v,hv⟩:=hcell 0 0 h0 hp.2;simp only[World.cell?] at hv;split at hv
       ·rename_i hb;exact(Array.getElem?_eq_some_iff.1 hb).1
       ·cases hv
      refine⟨[.l rows],.one ?_,rows,rfl,by omega,fun r hr=>?_⟩
      ·rw[<- hrl];refine .l rows (P.cellsOf e) B off cap (fun i j=>(w.cell? ⟨B,off+i*P.cellsOf e+j,none⟩).getD (.bool false)) (by omega) (fun r hr=>?_) (fun i j _ _=>hblk) (fun i j hi hj=>?_) (fun i j r d hr hd=>?_)
       ·obtain⟨i,hi,rfl⟩:=List.getElem_of_mem hr;exact(hrp i _ (List.getElem?_eq_getElem hi)).1
       ·obtain⟨v,hv⟩:=hcell i j (by omega) hj
        rw[hv];rfl
       ·obtain⟨hl,_,ci,hci,hq⟩:=hrp i r hr;have hj:j<P.cellsOf e:=by rw[<- hl];exact(List.getElem?_eq_some_iff.1 hd).1
        obtain⟨v,hv,hv2⟩:=(lN hci).2 j hj;obtain⟨v',hv',hrel⟩:=hq.2 j d hd;rw[hv] at hv';cases hv';rw[hadd] at hv2;simp only[hv2,Option.getD_some];exact hrel
      ·obtain⟨i,hi,rfl⟩:=List.getElem_of_mem hr;obtain⟨h1,h2,_⟩:=hrp i _ (List.getElem?_eq_getElem hi);exact⟨h1,h2⟩
   case struct fs =>
    simp only[Bool.and_eq_true,List.all_eq_true] at hp;obtain⟨xs,m,rfl,_,hl,hxl,hf⟩:=DataW.trod_struct hu hx;have:=py (n:=n) hl (fun t hp cs x fuel hx=>ih t hp cs x fuel hx) m fs.toList 0 hp.1 (fun f hf=>hp.2 f hf) (fun f hfm=>by
     obtain⟨i,hi,rfl⟩:=List.getElem_of_mem hfm;have h1:=hf i (fs.toList[i]) (by simp)
     have hi':i<fs.size:=by simpa using hi
     rw[List.getElem?_eq_getElem (by omega)] at h1
     exact⟨_,h1⟩) (Nat.zero_le _)
    rwa [List.drop_zero] at this
   case array k e =>
    simp only[Bool.and_eq_true,beq_iff_eq] at hp;obtain⟨xs,m,rfl,_,hl,hxl,hf⟩:=DataW.trod_array hu hx;have:=vY (n:=n) (fun cs x fuel hx=>ih e hp.1 cs x fuel hx) m k 0 (by rw[hl,hp.2];simp) (fun i hi=>by
     have h1:=hf i (by omega)
     rw[List.getElem?_eq_getElem (by omega)] at h1
     exact⟨_,h1⟩)
    rwa [Nat.zero_mul,List.drop_zero] at this
   all_goals simp at hp
end
open Go.ChangeShapes Go.WideShapes Go.ChangeAt Go.RowKit
def wX (P:Program) (n:Nat) (t:TypeId) (v:V):Prop:=match P.underlying t with
 | some (.struct _)=>∃ ds:List D,v=.agg (ds.map .d)∧vf P n t ds
 | some (.array _ _)=>∃ ds:List D,v=.agg (ds.map .d)∧vf P n t ds
 | _=>∃ d,v=.one (.d d)∧vf P n t [d]
def qk (P:Program) (n:Nat):List TypeId->List V->Prop
 | [],[]=>True
 | t::ts,v::vs=>wX P n t v∧qk P n ts vs
 | _,_=>False
section
variable {H:Type} {enc:TypeId × Value->H} {P:Program} {w:World} {spare:Nat->Bool} {held:Bool}
theorem RelQ.agg {mu:Mu} {S:St} {ds:List D} {cs:Array Value} (h:RelQ S w ds cs.toList):RelV mu S w (.agg (ds.map .d)) (.agg cs):=by
 refine⟨cs,rfl,by simp[<- h.1],fun j x hj=>?_⟩
 rw[List.getElem?_map,Option.map_eq_some_iff] at hj;obtain⟨d,hd,rfl⟩:=hj;exact h.2 j d hd
theorem RelQ.single {S:St} {ds:List D} {v:Value} (h:RelQ S w ds [v]):∃ d,ds=[d]∧RelD S w d v:=by
 obtain⟨h1,h2⟩:=h;match ds,h1 with
 | [d],_ =>
  obtain⟨x,hx,hr⟩:=h2 0 d rfl;simp at hx;subst hx;exact⟨d,rfl,hr⟩
theorem Cp {n:Nat} {t:TypeId} (hp:fX P n t=true) {base:Nat} {v:Value} {d:DataW H} {ps:List MemPlace} (hval:Value.okWide P w .any base t v) (hd:DataW.Trod enc P w 0 spare held t v d ps) :
  ∃ x:V,wX P n t x∧RelV (fun _=>none) (fun b _=>b<w.heap.size) w x v:=by
 cases n with
 | zero=>simp[fX] at hp
 | succ n =>
 obtain⟨fuel,hf⟩:=hd;obtain⟨ds,hq,hw⟩:=tJ (n+1) t hp _ _ _ hf;unfold wX;have hp':=hp;unfold fX at hp';cases hu:P.underlying t with
 | none=>rw[hu] at hp';simp at hp'
 | some u =>
  rw[hu] at hp';have flat1:v.cells = #[v]->∃ x:V,(∃ d,x=.one (.d d)∧vf P (n+1) t [d])∧RelV (fun _=>none) (fun b _=>b<w.heap.size) w x v:=by
   intro hc;rw[hc] at hq;obtain⟨d,rfl,hr⟩:=hq.single;exact⟨_,⟨d,rfl,hw⟩,hr⟩
  cases u;case bool=>obtain⟨b,rfl⟩:=okWide_bool hu hval;exact flat1 rfl
  case int k=>obtain⟨b,rfl⟩:=okWide_int hu hval;exact flat1 rfl
  case string=>obtain⟨b,rfl⟩:=okWide_string hu hval;exact flat1 rfl
  case slice e=>obtain⟨a,l,c,rfl⟩:=okWide_slice hu hval;exact flat1 rfl
  case struct fs =>
   simp only[Value.okWide,hu] at hval;obtain⟨cs,rfl,_,_⟩:=hval;exact⟨_,⟨ds,rfl,hw⟩,RelQ.agg hq⟩
  case array k e =>
   simp only[Value.okWide,hu] at hval;obtain⟨cs,rfl,_,_⟩:=hval;exact⟨_,⟨ds,rfl,hw⟩,RelQ.agg hq⟩
  all_goals simp at hp'
theorem sN {n:Nat} {base:Nat}:∀ (ts:List TypeId) (vs:List Value) (ds:List (DataW H)) (ps:List MemPlace),ts.all (fX P n)=true ->
  (∀ (j:Nat) t v,ts[j]?=some t->vs[j]?=some v->Value.okWide P w .any base t v)->DataW.TrodAll enc P w 0 spare held ts vs ds ps ->
  ∃ xs:List V,qk P n ts xs∧ArgsRel (fun _=>none) (fun b _=>b<w.heap.size) w xs vs
 | [],[],ds,ps,_,_,h=>⟨[],trivial,rfl,fun j v hj=>by simp at hj⟩
 | t::ts,v::vs,[],ps,_,_,h=>by cases h
 | t::ts,v::vs,d::ds,ps,hp,hv,h=>by
  obtain⟨p,q,h1,h2,_⟩:=h;simp only[List.all_cons,Bool.and_eq_true] at hp;obtain⟨x,wx,rx⟩:=Cp hp.1 (hv 0 t v rfl rfl) h1;obtain⟨xs,wxs,rl,rxs⟩:=sN ts vs ds q hp.2 (fun j t' v' ht hv'=>hv (j+1) t' v' (by simpa using ht) (by simpa using hv')) h2
  refine⟨x::xs,⟨wx,wxs⟩,by simp[rl],fun j y hj=>?_⟩
  cases j with
  | zero=>simp at hj;subst hj;exact⟨v,rfl,rx⟩
  | succ j=>simpa using rxs j y (by simpa using hj)
 | [],v::vs,ds,ps,_,_,h=>by cases ds <;> cases h
 | t::ts,[],ds,ps,_,_,h=>by cases ds <;> cases h
theorem rA {W W':World} (hl:laidOutB P=true) (hb:Below W.heap.size W W'):∀ (ts:List TypeId) (vs:List Value) (ds:List (DataW H)) (ps:List MemPlace),
  (∀ t∈ts,P.readableRec t=true∧t<P.types.size)->(∀ p∈ps,p.block<W.heap.size)->DataW.TrodAll enc P W 0 (fun _=>true) true ts vs ds ps ->
  DataW.TrodAll enc P W' 0 (fun b=>decide (b<W.heap.size)) true ts vs ds ps
 | [],[],[],ps,_,_,h=>h
 | [],[],_::_,ps,_,_,h=>by cases h
 | [],_::_,ds,ps,_,_,h=>by cases ds <;> cases h
 | t::ts,[],ds,ps,_,_,h=>by cases ds <;> cases h
 | t::ts,v::vs,[],ps,_,_,h=>by cases h
 | t::ts,v::vs,d::ds,ps,hr,hlt,h=>by
  obtain⟨p,q,h1,h2,rfl⟩:=h;refine⟨p,q,?_,rA hl hb ts vs ds q (fun u hu=>hr u (List.mem_cons_of_mem _ hu)) (fun x hx=>hlt x (List.mem_append_right _ hx)) h2,rfl⟩
  obtain⟨r1,r2⟩:=hr t (List.mem_cons_self ..);exact Below.trod hl r1 r2 h1 hb (fun x hx=>hlt x (List.mem_append_left _ hx))
theorem sw {W W':World} (hb:Below W.heap.size W W') (may:MemPlace->Prop):W.keptBut W' may:=by
 refine⟨hb.os,hb.output,fun i hi=>?_⟩
 rw[hb.block i hi];cases W.heap[i]? with
 | none=>trivial
 | some o=>cases o <;> first|exact⟨rfl,rfl,rfl,fun _ _=>rfl⟩|exact .inr ⟨rfl,rfl⟩|rfl
theorem Fg {φ:bL} (hg:Good P φ) (hl:laidOutB P=true) {f:FuncId} {fn:Func} {s:ChangeSpec} {n tb:Nat} {W:World} {base:Nat} {args:Array Value} {ds gs:List (DataW H)} {before:List MemPlace}
  (hpl:fn.params.toList.all (fX P n)=true) (hrd:fn.params.toList.all (fun t=>P.readableRec t && decide (t<P.types.size))=true)
  (hres:fn.resultTypes = #[tb]) (hb:P.underlying tb=some .bool) (hsv:s.vars=[])
  (hfn:∀ ds:List (DataW H),ds.length=fn.params.size->s.fn H ds={ results:=[.lit (.bool true)],args:=ds })
  (hlaw:∀ xs,qk P n fn.params.toList xs->φ f xs []=some (.one (.d (.b true)),[]))
  (hval:∀ (j:Nat) t v,fn.params[j]?=some t->args[j]?=some v->Value.okWide P W .any base t v)
  (hW:DataW.Whole enc P fn.params.toList s.vars false W args.toList ds gs before) :
  Calls P f args W fun e W'=>∃ v,e=.returned v∧s.post enc P fn false true false false W args v W':=by
 have hlt:=hW.lt;have hW':=hW;obtain⟨p,q,hA,hV,rfl,hz,hap⟩:=hW;rw[hsv] at hV;obtain⟨xs,wx,rx⟩:=sN (base:=base) _ _ _ _ hpl (fun j t v ht hv=>hval j t v (by simpa using ht) (by simpa using hv)) hA
 have hgs:gs=[]∧q=[]:=by
  cases gs with
  | nil=>exact⟨rfl,hV⟩
  | cons a b=>cases hV
 obtain⟨rfl,rfl⟩:=hgs;have hi:Inv (fun _=>none) (fun b _=>b<W.heap.size) (fun b=>b<W.heap.size) W [] :=
  { box:=fun i b l h=>by simp at h,dom:=fun i l h=>(by cases h),old:=fun i l B h=>(by cases h),sl:=fun b o h=>h,tl:=fun b h=>h,one:=fun i j bi bj li lj B _ h=>by simp at h }
 have hc:=hg.ok _ _ _ _ _ (hlaw xs wx) _ _ _ W args.toList hi rx;rw[Array.toArray_toList] at hc;refine hc.mono fun e W' he=>?_
 obtain⟨v,mu',S',rfl,ex,_,hr⟩:=he;have hv:v=.bool true:=by cases hr;rfl
 subst hv;have hbl:Below W.heap.size W W':=⟨ex.os,ex.tape,ex.output,ex.size,fun k hk=>ex.blk k hk⟩
 have hdl:ds.length=fn.params.size:=by
  have key:∀ (ts:List TypeId) (vs:List Value) (ds:List (DataW H)) (ps:List MemPlace),DataW.TrodAll enc P W 0 (fun _=>true) true ts vs ds ps->ds.length=ts.length:=by
   intro ts;induction ts with
   | nil=>intro vs ds ps h;cases vs <;> cases ds <;> first|rfl|cases h
   | cons t ts ih =>
    intro vs ds ps h;cases vs with
    | nil=>cases ds <;> cases h
    | cons v vs =>
     cases ds with
     | nil=>cases h
     | cons d ds=>obtain⟨_,_,_,h2,_⟩:=h;simp[ih vs ds _ h2]
  simpa using key _ _ _ _ hA
 have hf:=hfn (ds++[]) (by simpa using hdl)
 refine⟨_,rfl,ds,[],p++[],[],p,[],hW',?_,?_,?_,sw hbl _,fun h=>by cases h⟩
 ·rw[hf,hres];exact trodAll_mk1 (shut_bool hb true)
 ·rw[hf];simp only[List.append_nil];have:=rA hl hbl _ _ _ _ (fun t ht=>by have:=(List.all_eq_true.1 hrd) t ht;simpa using this) (fun x hx=>hlt x (by simpa using hx)) hA
  exact this
 ·rw[hf,hsv];rfl
end
theorem xP (fr:Fr) (x:X):xk fr x<=KT x:=by
 cases x with
 | t n=>simp only[xk,KT];cases (qY fr (.t n)).isEmpty <;> decide
 | c v=>exact Nat.le_refl _
theorem Fv (fr:Fr) (a:A):a.kind fr<=a.kindS:=by
 cases a <;> simp only[A.kind,A.kindS] <;> (try omega)
 case ld ag x=>exact xP _ _
 case b2s x=>exact xP _ _
 case app st s b x y =>
  split
  ·have:=xP fr y;cases y <;> simp only[KT] at this <;> (try omega);rename_i v;revert this;cases v.refs.isEmpty <;> simp only[cond_true,cond_false] <;> omega
  ·omega
def Log0.le (x y:Log0):Prop:=x.kind<=y.kind∧x.dst=y.dst∧x.rds=y.rds
theorem si {x y x' y':Log0} (hx:x.le x') (hy:y.le y') (h:x'.freeS y'=true):x.free y=true:=by
 obtain⟨hx1,hx2,hx3⟩:=hx;obtain⟨hy1,hy2,hy3⟩:=hy;simp only[Log0.freeS,Log0.free,Bool.and_eq_true,Bool.or_eq_true,beq_iff_eq,decide_eq_true_eq] at h ⊢;rw[hx2,hx3,hy2,hy3];refine⟨h.1,?_⟩;rcases h.2 with(h2|h2)|h2 <;> omega
theorem mV {pre:List Nat} {e e':Log0} (he:e.le e'):∀ {l l':List Log0} {i:Nat},l.length=l'.length->(∀ (j:Nat) (x x':Log0),l[j]?=some x->l'[j]?=some x'->x.le x')->mY pre e' i l'=true->ir pre e i l=true
 | [],[],i,_,_,_=>rfl
 | [],y::r,i,h,_,_=>by cases h
 | x::r,[],i,h,_,_=>by cases h
 | x::r,x'::r',i,hl,hr,h=>by
  simp only[mY,ir,Bool.and_eq_true,Bool.or_eq_true] at h ⊢;refine⟨?_,mV he (by simpa using hl) (fun j y y' h1 h2=>hr (j+1) y y' (by simpa using h1) (by simpa using h2)) h.2⟩
  rcases h.1 with h1|h1
  ·exact .inl h1
  ·exact .inr (si (hr 0 x x' rfl rfl) he h1)
def AOp.bare (o:AOp):AOp:={ o with pre:=[] }
def AC.bare:AC->AC
 | .reg ops dr=>bif !dr || hJ ops [] then .reg (ops.map AOp.bare) false else .reg ops true
 | .seq a b=>.seq a.bare b.bare
 | .cond c a b=>.cond c a.bare b.bare
 | .block id c=>.block id c.bare
 | .loop lv c=>.loop lv c.bare
 | .skip=>.skip
 | .exit i=>.exit i
 | .ret=>.ret
 | .yld a d y xs b=>.yld a d y xs b
 | .rng g ps a b=>.rng g ps a b
section
variable {φ:bL}
theorem ge:∀ (ops:List AOp) (fr:Fr) (H:Hp),bf φ (ops.map AOp.bare) fr H=bf φ ops fr H
 | [],_,_=>rfl
 | o::r,fr,H=>by
  simp only[List.map_cons,bf];have:o.bare.step φ fr H=o.step φ fr H:=rfl;rw[this];cases o.step φ fr H with
  | none=>rfl
  | some q=>exact ge r _ _
theorem jN:∀ (ops:List AOp) (lg lgS:List Log0) (fr0:Fr) (H:Hp),lg.length=lgS.length->(∀ (j:Nat) (x x':Log0),lg[j]?=some x->lgS[j]?=some x'->x.le x')->hJ ops lgS=true ->
  cB φ ops lg fr0 H=bf φ ops fr0 H
 | [],_,_,_,_,_,_,_=>rfl
 | o::r,lg,lgS,fr0,H,hl,hr,h=>by
  simp only[hJ,Bool.and_eq_true,Bool.not_eq_true'] at h;obtain⟨⟨hfz,hpre,hfree⟩,hrest⟩:=h;simp only[cB,bf,AOp.step];cases hw:wantedV fr0 o.g with
  | none=>rfl
  | some w =>
   simp only;have hle:Log0.le ⟨bif w then o.a.kind fr0 else 0,o.dst,o.slots⟩ o.logS:=by
    refine⟨?_,rfl,rfl⟩;cases w with
    | true=>exact Fv fr0 o.a
    | false=>exact Nat.zero_le _
   have hchk:(!o.fz && (o.pre.all (fun j=>decide (j<lg.length)) && ir o.pre ⟨bif w then o.a.kind fr0 else 0,o.dst,o.slots⟩ 0 lg))=true:=by
    rw[hfz,hl,hpre,mV hle hl hr hfree];rfl
   rw[if_pos hchk];have ih:∀ fr H,cB φ r (lg++[⟨bif w then o.a.kind fr0 else 0,o.dst,o.slots⟩]) fr H=bf φ r fr H:=fun fr' H' =>
    jN r _ (lgS++[o.logS]) fr' H' (by simp[hl]) (fun j x x' h1 h2=>by
     rcases Nat.lt_or_ge j lg.length with hj|hj
     ·rw[List.getElem?_append_left hj] at h1;rw[List.getElem?_append_left (by omega)] at h2
      exact hr j x x' h1 h2
     ·rw[List.getElem?_append_right hj] at h1;rw[List.getElem?_append_right (by omega)] at h2
      have h0:j-lg.length=0:=by
       have:=(List.getElem?_eq_some_iff.1 h1).1;simpa using this
      have h0':j-lgS.length=0:=by omega
      rw[h0] at h1;rw[h0'] at h2;simp at h1 h2;subst h1;subst h2;exact hle) hrest
   cases w with
   | true =>
    simp only[cond_true,hfz,cond_false] at ih ⊢;cases o.a.run φ fr0 H with
    | none=>rfl
    | some q=>exact ih _ _
   | false =>
    simp only[cond_false] at ih ⊢;exact ih _ _
theorem dQ {α:Type} (m:Nat):∀ (c:AC) (fr:Fr) (H:Hp) (K:Ex->Fr->Hp->Option α),bc φ m c.bare fr H K=bc φ m c fr H K
 | .skip,_,_,_=>rfl
 | .reg ops dr,fr,H,K=>by
  simp only[AC.bare];cases dr with
  | false=>simp only[Bool.not_false,Bool.true_or,cond_true,bc,cond_false,ge]
  | true =>
   simp only[Bool.not_true,Bool.false_or];cases h:hJ ops [] with
   | false=>rfl
   | true=>simp only[cond_true,bc,cond_false,ge,cf,h,jN ops [] [] fr H rfl (fun j x x' hj=>by simp at hj) h]
 | .seq a b,fr,H,K=>by
  simp only[AC.bare,bc];rw[dQ m a];congr 1
  funext e fr' H'
  cases e with
  | normal=>exact dQ m b _ _ _
  | exit i=>rfl
  | ret=>rfl
 | .cond c a b,fr,H,K=>by
  simp only[AC.bare,bc];simp only[dQ m a,dQ m b]
 | .block id c,fr,H,K=>by
  simp only[AC.bare,bc];rw[dQ m c]
 | .loop lv c,fr,H,K=>by
  simp only[AC.bare,bc];have:(bc (α:=α) φ m c.bare)=bc φ m c:=by
   funext fr' H' K'
   exact dQ m c _ _ _
  rw[this]
 | .exit id,_,_,_=>rfl
 | .ret,_,_,_=>rfl
 | .yld _ _ _ _ _,_,_,_=>rfl
 | .rng _ _ _ _,_,_,_=>rfl
end
def compS (P:Program) (f:FuncId) (an:Ann):Option AF:=bif an.out then none else match lV P f an with
 | some af=>some { af with body:=af.body.bare }
 | none=>none
def cz (P:Program) (an:FuncId->Ann) (f:FuncId):Option AF:=bif (an f).out then none else lV P f (an f)
theorem pt (P:Program) (an:FuncId->Ann):Bq P (cz P an):=fun f af h=>by
 unfold cz at h;cases ho:(an f).out with
 | true=>rw[ho] at h;cases h
 | false=>rw[ho] at h;exact⟨an f,h⟩
theorem mr {P:Program} {an:FuncId->Ann} {f:FuncId} (h:(an f).out=true):cz P an f=none:=by simp only[cz,h,cond_true]
def tN:List (Nat × Ann)->FuncId->Ann
 | [],_=>{}
 | (k,a)::r,f=>if f=k then a else tN r f
theorem dO:∀ c:AC,c.bare.hasR=c.hasR
 | .reg ops dr=>by
  simp only[AC.bare];cases (!dr || hJ ops []) <;> rfl
 | .seq a b=>by simp only[AC.bare,AC.hasR,dO a,dO b]
 | .cond c a b=>by simp only[AC.bare,AC.hasR,dO a,dO b]
 | .block id c=>by simp only[AC.bare,AC.hasR,dO c]
 | .loop lv c=>rfl
 | .skip=>rfl
 | .exit i=>rfl
 | .ret=>rfl
 | .yld _ _ _ _ _=>rfl
 | .rng _ _ _ _=>rfl
theorem ah {P:Program} {an:FuncId->Ann} {pr:bL} {f:FuncId} {args:List V} {H:Hp} {z:V × Hp} {af:AF} (hf:compS P f (an f)=some af) (hl:(Nat.ble args.length af.ntmps && !af.body.hasR)=true)
  (h:iF (cV (cz P an) pr) H.length (wZ af.res af.keep H.length) af.body (ae af.ntmps (pF args)) H []=some z):cV (cz P an) pr f args H=some z:=by
 unfold compS at hf;cases ho:(an f).out with
 | true=>rw[ho] at hf;cases hf
 | false =>
  rw[ho] at hf;simp only[cond_false] at hf;split at hf
  ·rename_i af0 h0;cases hf;rw[Bool.and_eq_true,Bool.not_eq_true'] at hl;refine enter (af:=af0) (by simp only[cz,ho,cond_false];exact h0) (by have:=hl.2;simp only[dO] at this;exact this) hl.1 ?_
   simp only[iF] at h ⊢;rwa [dQ H.length af0.body] at h
  ·cases hf
def cr:List Nat->List V->Fn
 | i::is,v::vs=>fun n=>if n=i then v else cr is vs n
 | _,_=>fun _=>.any
def iK:List Nat->List V->Fn->Prop
 | i::is,v::vs,f=>f i=v∧iK is vs f
 | [],[],_=>True
 | _,_,_=>False
theorem A0 (i:Nat) (is:List Nat) (v:V) (vs:List V):cr (i::is) (v::vs) i=v:=by simp[cr]
theorem Hn (i:Nat) (is:List Nat) (v:V) (vs:List V) {n:Nat} (h:n≠i):cr (i::is) (v::vs) n=cr is vs n:=by simp[cr,h]
theorem AS (f:Fn):iK [] [] f=True:=Eq.trans rfl rfl
theorem yA (i:Nat) (is:List Nat) (v:V) (vs:List V) (f:Fn):iK (i::is) (v::vs) f=(f i=v∧iK is vs f):=Eq.trans rfl rfl
theorem agree_pure {lv:List Nat} {vals:List V} {f:Fn} (h:iK lv vals f) (hp:vals.all V.pure=true):lv.all (fun i=>(f i).pure)=true:=by
 induction lv generalizing vals with
 | nil=>rfl
 | cons i is ih =>
  cases vals with
  | nil=>exact h.elim
  | cons v vs =>
   obtain⟨h1,h2⟩:=h;simp only[List.all_cons,Bool.and_eq_true] at hp ⊢;exact⟨by rw[h1];exact hp.1,ih h2 hp.2⟩
theorem gW {lv:List Nat} {vals:List V} {f:Fn} (h:iK lv vals f):kQ lv f=cr lv vals:=by
 induction lv generalizing vals with
 | nil =>
  cases vals with
  | nil=>funext n;simp[kQ,cr]
  | cons v vs=>exact h.elim
 | cons i is ih =>
  cases vals with
  | nil=>exact h.elim
  | cons v vs =>
   obtain⟨h1,h2⟩:=h;have e:=ih h2;funext n
   have en:=congrFun e n;simp only[kQ,cr,List.contains_cons,Bool.or_eq_true,beq_iff_eq] at en ⊢;by_cases c:n=i
   ·subst c;simp[h1]
   ·simp only[c,false_or,if_false];exact en
theorem gT {α σ:Type} {φ:bL} {N:Nat} {lv:List Nat} {c:AC} {K:Ex->Fr->Hp->Option α} {st:List KI} (μ:σ->Nat) (P:σ->Prop) (vals:σ->List V) (Z:σ->α)
  (hp:∀ s,(vals s).all V.pure=true)
  (hs:∀ s,P s->∀ R:Fr->Hp->Option α,(∀ s',μ s'<μ s->P s'->∀ f',iK lv (vals s') f'->R (ae N f') []=some (Z s')) ->
   iF φ 0 (KL R (KS φ 0 K st)) c (ae N (cr lv (vals s))) [] []=some (Z s)) :
  ∀ s,P s->∀ f,iK lv (vals s) f->iF φ 0 K (.loop lv c) (ae N f) [] st=some (Z s):=by
 intro s hP f hf;refine oK (m:=0) (N:=N) μ (fun s f H=>H=[]∧P s∧iK lv (vals s) f) Z ?_ s f [] ⟨rfl,hP,hf⟩
 rintro s f H ⟨rfl,hP,hf⟩ R hR;rw[yo (agree_pure hf (hp s)),gW hf];exact hs s hP R (fun s' hlt hP' f' hf'=>hR s' f' [] hlt ⟨rfl,hP',hf'⟩)
inductive Ty where
 | b|i (k:IntKind)|s|l (row:List Ty)
 deriving Inhabited
mutual
def IK:Ty->D->Prop
 | .b,d=>∃ x,d=.b x
 | .i k,d=>∃ n,d=.i k n∧k.min<=n∧n<=k.max
 | .s,d=>∃ l:List UInt8,d=.s l∧l.length<=9223372036854775807
 | .l row,d=>∃ rows:List (List D),d=.l rows∧rows.length<=9223372036854775807∧∀ r∈rows,dF row r
def dF:List Ty->List D->Prop
 | [],ds=>ds=[]
 | t::ts,ds=>∃ d r,ds=d::r∧IK t d∧dF ts r
end
def xT:List (Option (List Ty))->Option (List Ty)
 | []=>some []
 | some x::r=>match xT r with|some y=>some (x++y)|none=>none
 | none::_=>none
def pD (P:Program):Nat->TypeId->Option (List Ty)
 | 0,_=>none
 | n+1,t=>match P.underlying t with
  | some .bool=>some [.b]
  | some (.int k)=>some [.i k]
  | some .string=>some [.s]
  | some (.slice e)=>match pD P n e with|some row=>some [.l row]|none=>none
  | some (.struct fs)=>xT (fs.toList.map fun f=>pD P n f.type)
  | some (.array m e)=>xT ((List.replicate m e).map (pD P n))
  | _=>none
theorem uV {a b:List Ty} {x y:List D} (h:dF a x) (k:dF b y):dF (a++b) (x++y):=by
 induction a generalizing x with
 | nil=>simp only[dF] at h;subst h;exact k
 | cons t ts ih =>
  simp only[dF] at h;obtain⟨d,r,rfl,h1,h2⟩:=h;simp only[List.cons_append,dF];exact⟨d,_,rfl,h1,ih h2⟩
theorem xM {W:TypeId->List D->Prop} {sz:TypeId->Nat} {g:TypeId->Option (List Ty)} (hW:∀ t ts ds,g t=some ts->W t ds->dF ts ds) :
  ∀ (l:List TypeId) (ts:List Ty) (ds:List D),xT (l.map g)=some ts->iu W sz l ds->dF ts ds
 | [],ts,ds,h,hd=>by cases h;simpa[iu,dF] using hd
 | t::l,ts,ds,h,hd=>by
  simp only[List.map_cons] at h;cases hg:g t with
  | none=>rw[hg] at h;cases h
  | some x =>
   rw[hg] at h;simp only[xT] at h;cases hc:xT (l.map g) with
   | none=>rw[hc] at h;cases h
   | some y =>
    rw[hc] at h;cases h;obtain⟨p,r,rfl,_,h1,h2⟩:=hd;exact uV (hW t x p hg h1) (xM hW l y r hc h2)
theorem HN {P:Program}:∀ (n:Nat) (t:TypeId) (ts:List Ty) (ds:List D),pD P n t=some ts->vf P n t ds->dF ts ds:=by
 intro n;induction n with
 | zero=>intro t ts ds h;cases h
 | succ n ih =>
  intro t ts ds h hd;unfold pD at h;unfold vf at hd;cases hu:P.underlying t with
  | none=>rw[hu] at h;cases h
  | some u =>
   rw[hu] at h hd;cases u;case bool=>cases h;obtain⟨b,rfl⟩:=hd;simp[dF,IK]
   case int k =>
    cases h;obtain⟨x,rfl,hx⟩:=hd;simp only[Lit.wf,Bool.and_eq_true,decide_eq_true_eq] at hx;simp[dF,IK,hx]
   case string=>cases h;obtain⟨l,rfl,hl⟩:=hd;simp only[dF,IK];exact⟨_,_,rfl,⟨l,rfl,hl⟩,rfl⟩
   case slice e =>
    simp only at h hd;cases hr:pD P n e with
    | none=>rw[hr] at h;cases h
    | some row =>
     rw[hr] at h;cases h;obtain⟨rows,rfl,hl,hall⟩:=hd;simp only[dF,IK];exact⟨_,_,rfl,⟨rows,rfl,hl,fun r hr'=>ih e row r hr (hall r hr').2⟩,rfl⟩
   case struct fs =>
    simp only at h hd;have:xT ((fs.toList.map (·.type)).map (pD P n))=some ts:=by rw[List.map_map];exact h
    exact xM (fun t ts ds=>ih t ts ds) _ _ _ this hd
   case array m e =>
    simp only at h hd;exact xM (fun t ts ds=>ih t ts ds) _ _ _ h hd
   all_goals cases h
def Lp (P:Program) (n:Nat) (t:TypeId):Option (Bool × List Ty):=match P.underlying t with
 | some (.struct _)=>(pD P n t).map (true,·)
 | some (.array _ _)=>(pD P n t).map (true,·)
 | _=>(pD P n t).map (false,·)
def Kw:Bool × List Ty->V->Prop
 | (true,ts),v=>∃ ds:List D,v=.agg (ds.map .d)∧dF ts ds
 | (false,ts),v=>∃ d,v=.one (.d d)∧dF ts [d]
def ET:List (Bool × List Ty)->List V->Prop
 | [],vs=>vs=[]
 | t::ts,vs=>∃ v r,vs=v::r∧Kw t v∧ET ts r
def GH (P:Program) (n:Nat):List TypeId->Option (List (Bool × List Ty))
 | []=>some []
 | t::ts=>match Lp P n t,GH P n ts with|some x,some xs=>some (x::xs)|_,_=>none
theorem JA {P:Program} {n:Nat} {t:TypeId} {a:Bool × List Ty} {v:V} (h:Lp P n t=some a) (hv:wX P n t v):Kw a v:=by
 unfold Lp at h;unfold wX at hv;have one:(pD P n t).map (false,·)=some a->(∃ d,v=.one (.d d)∧vf P n t [d])->Kw a v:=by
  intro h ⟨d,hd,hw⟩;obtain⟨ts,hts,rfl⟩:=Option.map_eq_some_iff.1 h;exact⟨d,hd,HN n t ts _ hts hw⟩
 have agg:(pD P n t).map (true,·)=some a->(∃ ds:List D,v=.agg (ds.map .d)∧vf P n t ds)->Kw a v:=by
  intro h ⟨d,hd,hw⟩;obtain⟨ts,hts,rfl⟩:=Option.map_eq_some_iff.1 h;exact⟨d,hd,HN n t ts _ hts hw⟩
 cases hu:P.underlying t with
 | none=>rw[hu] at h hv;exact one h hv
 | some u =>
  rw[hu] at h hv;cases u;case struct fs=>exact agg h hv
  case array m e=>exact agg h hv
  all_goals exact one h hv
theorem AE {P:Program} {n:Nat}:∀ {ts:List TypeId} {al:List (Bool × List Ty)} {vs:List V},GH P n ts=some al->qk P n ts vs->ET al vs
 | [],al,[],h,hv=>by cases h;rfl
 | [],al,_::_,h,hv=>hv.elim
 | t::ts,al,[],h,hv=>hv.elim
 | t::ts,al,v::vs,h,hv=>by
  simp only[GH] at h;cases h1:Lp P n t with
  | none=>rw[h1] at h;cases h
  | some x =>
   cases h2:GH P n ts with
   | none=>rw[h1,h2] at h;cases h
   | some xs =>
    rw[h1,h2] at h;cases h;exact⟨v,vs,rfl,JA h1 hv.1,AE h2 hv.2⟩
theorem vS {α:Type} {enc:α->List D} {ok:α->Prop} {row:List Ty} (h:∀ r,dF row r->∃ x,r=enc x∧ok x):∀ rows:List (List D),(∀ r∈rows,dF row r)->∃ q:List α,rows=q.map enc∧∀ x∈q,ok x
 | [],_=>⟨[],rfl,fun x hx=>by cases hx⟩
 | r::rows,hr=>by
  obtain⟨x,rfl,hx⟩:=h r (hr r (List.mem_cons_self ..));obtain⟨q,rfl,hq⟩:=vS h rows (fun r hr'=>hr r (List.mem_cons_of_mem _ hr'))
  exact⟨x::q,rfl,fun y hy=>by rcases List.mem_cons.1 hy with rfl|hy;exact hx;exact hq y hy⟩
theorem Ky {a b:Int} (h:a<b):decide (a<b)=true:=by simp[h]
theorem Kv {a b:Int} (h:b<=a):decide (a<b)=false:=by simp;omega
theorem KO {a b:Int} (h:a<=b):decide (a<=b)=true:=by simp[h]
theorem Lo {a b:Int} (h:b<a):decide (a<=b)=false:=by simp;omega
theorem Kz {a b:Int} (h:a=b):(a == b)=true:=by simp[h]
theorem Lc {a b:Int} (h:a≠b):(a == b)=false:=by simp[h]
theorem J6 {a b:Int} (h:a≠b):(a != b)=true:=by simp[h]
theorem KD {a b:Int} (h:a=b):(a != b)=false:=by simp[h]
theorem fR {n:Int} (h : -9223372036854775808<=n∧n<9223372036854775808):IntKind.i64.wrap n=n:=BT h.1 h.2
theorem GF {α β:Type} (g:α->β) (q:List α) (n:Int) (h:n.toNat<q.length):(q.map g)[n.toNat]?=some (g (q[n.toNat]'h)):=by simp[h]
theorem Fc {α β:Type} (g:α->β) (q:List α) (k:Nat) (h:k<q.length):(q.map g)[k]?=some (g (q[k]'h)):=by simp[h]
set_option linter.defProp false
def LN:=And.intro @CE (And.intro @BC (And.intro @Ez (And.intro @Bj (And.intro @BN (And.intro @yG (And.intro @Fd (And.intro @Bu (And.intro @A0 (And.intro @Hn (And.intro @AS (And.intro @yA (And.intro @wg (And.intro @go_skip (And.intro @go_seq (And.intro @go_reg (And.intro @go_cond (And.intro @go_block (And.intro @go_exit (And.intro @go_ret
 (And.intro @FO (And.intro @K0 (And.intro @Jl (And.intro @JK (And.intro @KC (And.intro @I6 (And.intro @IN (And.intro @FR (And.intro @AK (And.intro @F2 (And.intro @JW (And.intro @EH (And.intro @wi
 (And.intro @JE (And.intro @DY (And.intro @MP (And.intro @M7 (And.intro @CA (And.intro @CV (And.intro @Ff (And.intro @CH (And.intro @BX (And.intro @D6 (And.intro @Fo (And.intro @wF (And.intro @pI (And.intro @LU (And.intro @vu (And.intro @DV (And.intro @E3 (And.intro @Jp (And.intro @vw
 (And.intro @bI (And.intro @trim_pure (And.intro @V.pure_one (And.intro @V.pure_agg (And.intro @V.pure_tup (And.intro @V.pure_any (And.intro @L.pure_d (And.intro @L.pure_ip (And.intro @L.pure_cl (And.intro @L.pure_ns (And.intro @L.pure_np (And.intro @L.pure_nf (And.intro @L.pure_f @Ls.pure_map))))))))))))))))))))))))))))))))))))))))))))))))))))))))))))))))
def Jv:=And.intro @List.length_nil.{0} (And.intro @cond_false.{1} (And.intro @cond_true.{1} (And.intro @List.contains_cons.{0} (And.intro @List.contains_nil.{0} (And.intro Bool.or_true (And.intro Bool.true_or (And.intro Bool.or_false (And.intro not_false_eq_true
 (And.intro @List.getD_cons_zero.{0} (And.intro @List.getD_cons_succ.{0} (And.intro @List.map_cons.{0,0} (And.intro @List.map_nil.{0,0} (And.intro @List.nil_append.{0} (And.intro @List.append_nil.{0} (And.intro @List.length_cons.{0} (And.intro @List.length_map.{0,0}
 (And.intro @List.getElem?_cons_zero.{0} (And.intro @List.getElem?_cons_succ.{0} (And.intro not_true_eq_false (And.intro @List.all_cons.{0} (And.intro @List.all_nil.{0} (And.intro Bool.and_true (And.intro Bool.and_self (And.intro @beq_self_eq_true.{0}
 (And.intro Bool.true_eq_false (And.intro Bool.false_eq_true (And.intro @beq_true (And.intro @beq_false (And.intro Bool.not_true (And.intro Bool.not_false (And.intro decide_true (And.intro decide_false (And.intro and_self (And.intro true_and (And.intro and_true
 (And.intro @Int.natCast_nonneg @Int.toNat_natCast))))))))))))))))))))))))))))))))))))
theorem Ki {a b:Nat} (h:a<=b):(a<=b)=True:=by simp[h]
theorem J2 {a b:Nat} (h:a<b):(a<b)=True:=by simp[h]
theorem Kc {a b:Int} (h:a<=b):(a<=b)=True:=by simp[h]
theorem KA {a b:Int} (h:a<b):(a<b)=True:=by simp[h]
theorem qD (sz:Nat):aQ sz []=true:=Eq.trans rfl rfl
theorem pc (sz:Nat) (r:List D) (l:List (List D)):aQ sz (r::l)=(r.length == sz && aQ sz l):=Eq.trans rfl rfl
theorem lZ (sz:Nat) (l m:List (List D)):aQ sz (l++m)=(aQ sz l && aQ sz m):=by simp[aQ]
theorem vA {α:Type} (H:List α) (b:α):(H++[b])[H.length]?=some b:=by simp
theorem sh:∀ (ds:List D) (H:Hp),jd (ds.map .d) H=some (ds.map .d,H)
 | [],_=>rfl
 | d::ds,H=>by simp only[List.map_cons,jd,v5,sh ds H]
theorem xa:∀ ds:List D,lP (ds.map .d)=some ds
 | []=>rfl
 | d::ds=>by simp only[List.map_cons,lP,JZ,xa ds]
theorem BG (p:Prop):(True∨p)=True:=by simp
theorem Bc (p:Prop):(p∨True)=True:=by simp
theorem ut {α β:Type} (g:α->β) (q:List α):(q.map g).take q.length=q.map g:=List.take_of_length_le (by simp)
theorem Ix (b:Bool):(b != true) = !b:=by cases b <;> rfl
theorem IL (b:Bool):(b != false)=b:=by cases b <;> rfl
theorem uz {α β:Type} (g:α->β) (q:List α) (i:Nat) (x:α):((q.set i x).map g).take q.length=(q.set i x).map g:=List.take_of_length_le (by simp)
theorem uF {α:Type} (q:List α) (i:Nat) (x:α):(q.set i x).take q.length=q.set i x:=List.take_of_length_le (by simp)
def Ir:=And.intro Nat.mul_one (And.intro Nat.zero_mul (And.intro Int.toNat_zero (And.intro @List.length_set.{0} (And.intro @uz (And.intro @uF (And.intro @Ix (And.intro @IL (And.intro @List.take_length.{0} (And.intro @ut (And.intro @sh (And.intro @xa (And.intro @List.set_cons_zero.{0} (And.intro @List.set_cons_succ.{0} (And.intro @BG (And.intro @Bc (And.intro @List.take_nil.{0} (And.intro @List.drop_nil.{0} (And.intro Nat.zero_add (And.intro Nat.add_zero
 (And.intro @qD (And.intro @pc (And.intro @lZ (And.intro @List.length_append.{0} (And.intro @List.cons_append.{0} (And.intro @List.flatMap_cons.{0,0} (And.intro @List.flatMap_nil.{0,0} (And.intro Bool.true_and Bool.and_true)))))))))))))))))))))))))))
theorem Kf (n:Nat):b9 n n none none none=some (0,n,n):=by simp[b9]
theorem H8 {n:Nat} {x:Int} (h:0<=x∧x<=(n:Int)):b9 n n (some x) none none=some (x.toNat,n,n):=by simp[b9,h]
theorem ID {n:Nat} {x:Int} (h:0<=x∧x<=(n:Int)):b9 n n none (some x) none=some (0,x.toNat,n):=by simp[b9,h]
theorem Ji {n:Nat} {x y:Int} (h:0<=x∧x<=y∧y<=(n:Int)):b9 n n (some x) (some y) none=some (x.toNat,y.toNat,n):=by
 have h1:0<=y∧y<=(n:Int):=by omega
 have h2:0<=x∧x<=((y.toNat:Nat):Int):=by omega
 simp only[b9,h1,h2,and_self,if_true]
theorem I7 {n:Nat} {x y:Int} (h:0<=x∧x<=y∧y<=(n:Int)):b9 n n none (some x) (some y)=some (0,x.toNat,y.toNat):=by
 have h1:0<=y∧y<=(n:Int):=by omega
 have h2:0<=x∧x<=((y.toNat:Nat):Int):=by omega
 simp only[b9,h1,h2,and_self,if_true]
theorem Gs {n:Nat} {z x y:Int} (h:0<=z∧z<=x∧x<=y∧y<=(n:Int)):b9 n n (some z) (some x) (some y)=some (z.toNat,x.toNat,y.toNat):=by
 have h1:0<=y∧y<=(n:Int):=by omega
 have h2:0<=x∧x<=((y.toNat:Nat):Int):=by omega
 have h3:0<=z∧z<=((x.toNat:Nat):Int):=by omega
 simp only[b9,h1,h2,h3,and_self,if_true]
theorem yq (k:Nat):((k:Int)+1).toNat=k+1:=rfl
theorem pV {n:Int} (h:0<=n∧n<256):IntKind.u8.wrap n=n:=by
 simp[IntKind.wrap,IntKind.bits,IntKind.signed];omega
theorem D5 {n:Int} (h:0<=n∧n<65536):IntKind.u16.wrap n=n:=by
 simp[IntKind.wrap,IntKind.bits,IntKind.signed];omega
theorem kC {n:Int} (h:0<=n∧n<4294967296):IntKind.u32.wrap n=n:=by
 simp[IntKind.wrap,IntKind.bits,IntKind.signed];omega
theorem ny {n:Int} (h:0<=n∧n<18446744073709551616):IntKind.u64.wrap n=n:=by
 simp[IntKind.wrap,IntKind.bits,IntKind.signed];omega
def ai:=And.intro @pV (And.intro @D5 (And.intro @kC (And.intro @ny (And.intro @Kf (And.intro @H8 (And.intro @ID (And.intro @Ji (And.intro @I7 (And.intro @Gs (And.intro @yq (And.intro @a8 (And.intro @Ki (And.intro @J2 (And.intro @Kc (And.intro @KA (And.intro @qD (And.intro @pc (And.intro @lZ (And.intro @vA (And.intro @Ky (And.intro @Kv (And.intro @KO (And.intro @Lo (And.intro @Kz (And.intro @Lc (And.intro @J6 (And.intro @KD (And.intro @fR (And.intro @GF @Fc)))))))))))))))))))))))))))))
def aa:=And.intro @V.pure_one (And.intro @V.pure_agg (And.intro @V.pure_tup (And.intro @List.all_cons.{0} (And.intro @List.all_nil.{0} (And.intro Bool.and_true (And.intro Bool.and_self (And.intro @V.pure_any (And.intro @L.pure_d (And.intro @L.pure_ip (And.intro @L.pure_cl
 (And.intro @L.pure_ns (And.intro @L.pure_np (And.intro @L.pure_nf (And.intro @L.pure_f @Ls.pure_map))))))))))))))
def IY:bL:=fun _ _ _=>none
theorem Bp (P:Program):Good P IY:=by
 constructor <;> (intro f args H r H' h;cases h)
def cloneAF (sz bytes:Nat):AF:=⟨8,
 (.seq
  (rg [
    o 2 (.mv (kx (.ns)))])
  (.seq
   (.seq
    (rg [
      o 3 (.mv (.t 0)),
      o 4 (.nilc 0 false (.t 3))])
    (.cond (.t 4)
     (.seq
      (rg [
        o 2 (.mv (kx (.ns)))])
      .ret)
     .skip))
   (.seq
    (rg [
      o 5 (.bsl sz [] []),
      o 6 (.mv (.t 0)),
      o 7 (.app false sz bytes (.t 5) (.t 6)),
      o 2 (.mv (.t 7))])
    .ret))),
 [.t 2],true⟩
theorem EG {P:Program} {an:FuncId->Ann} {pr:bL} {f:FuncId} {sz bytes:Nat} (hf:compS P f (an f)=some (cloneAF sz bytes)) (rows:List (List D)) (h1:aQ sz rows=true) (h2:rows.length*bytes<=140737488355328) (h3:rows.length<=9223372036854775807) :
  cV (cz P an) pr f [.one (.nn rows)] []=some (.one (.sl 1 sz 0 rows.length),[.dead,.arr sz rows 0]):=by
 apply ah hf rfl;have h4:(0+rows.length)*bytes<=140737488355328:=by simpa using h2
 have h5:0+rows.length<=9223372036854775807:=by simpa using h3
 simp only[cloneAF,h1,h2,h3,LN,Jv,Ir,iQ,bQ,lP,JZ,↓qS,↓n9,y0,jd,rg,rd,o,oz,kc,kb,ks,kx,on,og,od,MW,A.run,Bs,f7,mO,Dr,pF,V.cs,b6,oE,v5,fk,gr,V.data,L.data,H9,oW,List.take_succ_cons,List.take_zero,List.drop_succ_cons,List.drop_zero,List.cons_append,ne_eq,Nat.reduceLT,Nat.reduceBEq,↓reduceIte,Nat.reduceEqDiff,Nat.reduceAdd,Nat.reduceMul,Nat.reduceSub,Int.reduceToNat,Nat.reduceLeDiff,Int.reduceNeg,Int.reduceEq,Int.reduceLT,Int.reduceLE,Int.reduceBEq,Int.reduceBNe,Int.reduceToNat,iQ,bQ,true_or];simp[trim,V.refs,L.refs]
theorem DA {P:Program} {an:FuncId->Ann} {pr:bL} {f:FuncId} {sz bytes:Nat} (hf:compS P f (an f)=some (cloneAF sz bytes)) :
  cV (cz P an) pr f [.one .ns] []=some (.one .ns,[]):=by
 apply ah hf rfl;simp only[cloneAF,LN,Jv,Ir,iQ,bQ,lP,JZ,↓qS,↓n9,y0,jd,rg,rd,o,oz,kc,kb,ks,kx,on,og,od,MW,A.run,Bs,f7,mO,Dr,pF,V.cs,b6,oE,v5,fk,gr,V.data,L.data,H9,oW,List.take_succ_cons,List.take_zero,List.drop_succ_cons,List.drop_zero,List.cons_append,ne_eq,Nat.reduceLT,Nat.reduceBEq,↓reduceIte,Nat.reduceEqDiff,Nat.reduceAdd,Nat.reduceMul,Nat.reduceSub,Int.reduceToNat,Nat.reduceLeDiff,Int.reduceNeg,Int.reduceEq,Int.reduceLT,Int.reduceLE,Int.reduceBEq,Int.reduceBNe,Int.reduceToNat,iQ,bQ]
def lK (l:List (Nat × Nat × Nat)):bL:=fun f args H=>match l.lookup f,args,H with
 | some (sz,bytes),[.one (.d (.l rows))],[]=>if aQ sz rows=true∧rows.length*bytes<=140737488355328∧rows.length<=9223372036854775807 then some (.one (.sl 1 sz 0 rows.length),[.dead,.arr sz rows 0]) else none
 | _,_,_=>none
theorem C7 {P:Program} {φ:bL} (hg:Good P φ) {f:FuncId} {sz:Nat} {rows:List (List D)} (hsz:0<sz)
  (h1:φ f [.one (.nn rows)] []=some (.one (.sl 1 sz 0 rows.length),[.dead,.arr sz rows 0])) (h2:φ f [.one .ns] []=some (.one .ns,[])) :
  CallOK P f [.one (.d (.l rows))] [] (.one (.sl 1 sz 0 rows.length)) [.dead,.arr sz rows 0]:=by
 intro mu S TB w vs hi ha;obtain⟨hl,hrel⟩:=ha;obtain⟨x,hx,hr⟩:=hrel 0 _ rfl;match vs,hl,hx with
 | [y],_,hx =>
  simp at hx;subst hx;have hsh:∃ ad n c,y=.slice ad n c∧(ad=none->n=0∧c=0∧rows=[]):=by
   cases hr with
   | nil a c hz=>exact⟨a,0,c,rfl,fun h=>⟨rfl,hz h,rfl⟩⟩
   | l _ _ B off c u=>exact⟨_,_,_,rfl,fun h=>by cases h⟩
  obtain⟨ad,n,c,rfl,hnil⟩:=hsh;cases ad with
  | none =>
   obtain⟨rfl,rfl,rfl⟩:=hnil rfl;refine(hg.ok _ _ _ _ _ h2 mu S TB w [.slice none 0 0] hi ⟨rfl,fun j v hj=>?_⟩).mono fun e w' he=>?_
   ·cases j with
    | zero=>simp at hj;subst hj;exact⟨_,rfl,rfl⟩
    | succ j=>simp at hj
   ·obtain⟨x,mu1,S1,rfl,ex,i1,rx⟩:=he;have hx:x=.slice none 0 0:=rx;subst hx;have i2:Inv mu1 S1 TB w' [.dead]:=by
     refine⟨fun i b l hb hl=>?_,fun i l hl=>by have:=i1.dom i l hl;simp at this,i1.old,i1.sl,i1.tl,fun i j bi bj li lj B _ hi' _ hai=>?_⟩
     ·have:=i1.dom i l hl;simp at this
     ·cases i with
      | zero=>simp at hi';subst hi';cases hai
      | succ i=>simp at hi'
    obtain⟨mu2,e2,i3,r3⟩:=i2.new_nil sz;exact⟨_,mu2,S1,rfl,ex.trans e2,i3,r3⟩
  | some A =>
   refine(hg.ok _ _ _ _ _ h1 mu S TB w [.slice (some A) n c] hi ⟨rfl,fun j v hj=>?_⟩).mono fun e w' he=>he
   cases j with
   | zero=>simp at hj;subst hj;exact⟨_,rfl,⟨_,_,_,rfl⟩,hr⟩
   | succ j=>simp at hj
theorem x8 {l:List (Nat × Nat × Nat)} {f:Nat} {x:Nat × Nat} (h:l.lookup f=some x):(f,x)∈l:=by
 induction l with
 | nil=>cases h
 | cons c r ih =>
  obtain⟨k,y⟩:=c;simp only[List.lookup] at h;split at h
  ·rename_i e;cases h;rw[eq_of_beq e];exact List.mem_cons_self ..
  ·exact List.mem_cons_of_mem _ (ih h)
theorem uZ {P:Program} (hd:∀ φ,Good P φ->fP P φ) (l:List (Nat × Nat × Nat)) (h:∀ f sz bytes,(f,sz,bytes)∈l->0<sz∧∃ an,compS P f an=some (cloneAF sz bytes)):Good P (lK l):=by
 have key:∀ f args H r H',lK l f args H=some (r,H')->CallOK P f args H r H'∧callable P f=true:=by
  intro f args H r H' hc;unfold lK at hc;split at hc
  ·rename_i sz bytes rows hlk;split at hc
   ·rename_i hcond;cases hc;obtain⟨hsz,an,han⟩:=h f sz bytes (x8 hlk);have hg:Good P (cV (cz P fun _=>an) IY):=qr hd (pt _ _) (Bp P)
    have h1:=EG (P:=P) (an:=fun _=>an) (pr:=IY) (f:=f) han rows hcond.1 hcond.2.1 hcond.2.2
    exact⟨C7 hg hsz h1 (DA (an:=fun _=>an) han),hg.can _ _ _ _ _ h1⟩
   ·cases hc
  ·cases hc
 exact⟨fun f args H r H' hc=>(key f args H r H' hc).1,fun f args H r H' hc=>(key f args H r H' hc).2⟩
theorem w7 {φ:bL} {f:FuncId} {args:List V} {H H1:Hp} {r:V} (h:args.all V.pure=true) (hr:φ f args []=some (r,H1)) :
  az φ f args H=some (r.ren (fun j=>some (H.length+j)),H++H1.map (Box.ren (fun j=>some (H.length+j)))):=by
 have e:(fun j:Nat=>if j<0 then([]:List Nat)[j]? else some (H.length+(j-0)))=fun j=>some (H.length+j):=by funext j;simp
 simp only[az,aL,refs_pure h,oF,ax,List.map_nil,ren_pure h,hr,List.length_nil,List.take_zero,List.drop_zero,bB,e]
theorem fY {α:Type} (q:List α) (k:Nat) (h:k<q.length):q.take (k+1)=q.take k++[q[k]]:=by
 rw[List.take_add_one,List.getElem?_eq_getElem h];rfl
def du:List Nat->Bool
 | a::b::r=>Nat.blt a b && du (b::r)
 | _=>true
theorem r8 (ρ:Nat->Option Nat):∀ (lv:List Nat) (vals:List V) (n:Nat),(cr lv vals n).ren ρ=cr lv (vals.map (V.ren ρ)) n
 | [],vals,n=>by cases vals <;> rfl
 | i::is,[],n=>rfl
 | i::is,v::vs,n=>by
  simp only[List.map_cons,cr];split
  ·rfl
  ·exact r8 ρ is vs n
theorem zx:∀ (lv:List Nat) (vals:List V) (n k:Nat),du (k::lv)=true->n<=k->cr lv vals n=.any
 | [],vals,n,k,_,_=>by cases vals <;> rfl
 | i::is,[],n,k,_,_=>rfl
 | i::is,v::vs,n,k,h,hn=>by
  simp only[du,Bool.and_eq_true,Nat.blt_eq] at h;simp only[cr];rw[if_neg (by omega)]
  exact zx is vs n i h.2 (by omega)
theorem ot:∀ (lv:List Nat) (vals:List V) (a N:Nat),du lv=true->(∀ i∈lv,a<=i)->(∀ i∈lv,i<a+N)->lv.length=vals.length->((List.range' a N).map (cr lv vals)).flatMap V.refs=vals.flatMap V.refs
 | [],[],a,N,_,_,_,_=>by
  have:∀ N a,((List.range' a N).map (cr [] [])).flatMap V.refs=[]:=by
   intro N;induction N with
   | zero=>intro a;rfl
   | succ N ih=>intro a;rw[List.range'_succ,List.map_cons,List.flatMap_cons,ih];rfl
  simpa using this N a
 | [],v::vs,a,N,_,_,_,h=>by simp at h
 | i::is,[],a,N,_,_,_,h=>by simp at h
 | i::is,v::vs,a,N,hs,ha,hN,hl=>by
  have hia:=ha i (List.mem_cons_self ..);have hiN:=hN i (List.mem_cons_self ..);have hlow:∀ (is:List Nat) (i k:Nat),du (i::is)=true->k∈is->i<k:=by
   intro is;induction is with
   | nil=>intro i k _ hk;cases hk
   | cons j js ih =>
    intro i k h hk;simp only[du,Bool.and_eq_true,Nat.blt_eq] at h;rcases List.mem_cons.1 hk with rfl|hk
    ·exact h.1
    ·exact Nat.lt_trans h.1 (ih j k h.2 hk)
  have hs':du is=true:=by
   cases is with
   | nil=>rfl
   | cons j js=>simp only[du,Bool.and_eq_true] at hs;exact hs.2
  have hsplit:List.range' a N=List.range' a (i-a)++i::List.range' (i+1) (N-(i-a)-1):=by
   obtain⟨q,rfl⟩:∃ q,i=a+q:=⟨i-a,by omega⟩
   obtain⟨r,rfl⟩:∃ r,N=q+(r+1):=⟨N-q-1,by omega⟩
   have e1:a+q-a=q:=by omega
   have e2:q+(r+1)-q-1=r:=by omega
   rw[e1,e2,<- List.range'_append_1,List.range'_succ]
  have h0:∀ M b,b+M<=i->((List.range' b M).map (cr (i::is) (v::vs))).flatMap V.refs=[]:=by
   intro M;induction M with
   | zero=>intro b _;rfl
   | succ M ih =>
    intro b hb;rw[List.range'_succ,List.map_cons,List.flatMap_cons,ih (b+1) (by omega)]
    have:cr (i::is) (v::vs) b=.any:=by
     simp only[cr];rw[if_neg (by omega)]
     exact zx is vs b i hs (by omega)
    rw[this];rfl
  rw[hsplit,List.map_append,List.flatMap_append,h0 (i-a) a (by omega),List.nil_append,List.map_cons,List.flatMap_cons]
  have e1:cr (i::is) (v::vs) i=v:=by simp[cr]
  rw[e1,List.flatMap_cons];congr 1
  have e2:(List.range' (i+1) (N-(i-a)-1)).map (cr (i::is) (v::vs))=(List.range' (i+1) (N-(i-a)-1)).map (cr is vs):=by
   apply List.map_congr_left;intro n hn;rw[List.mem_range'_1] at hn;simp only[cr];rw[if_neg (by omega)]
  rw[e2];exact ot is vs (i+1) _ hs' (fun k hk=>hlow is i k hs hk) (fun k hk=>by have:=hN k (List.mem_cons_of_mem _ hk);omega) (by simpa using hl)
theorem oG:∀ {lv:List Nat} {vals:List V} {f:Fn},iK lv vals f->lv.length=vals.length
 | [],[],_,_=>rfl
 | [],_::_,_,h=>h.elim
 | _::_,[],_,h=>h.elim
 | _::is,_::vs,f,h=>by simp[oG h.2]
theorem A1 {N:Nat} {lv:List Nat} {vals:List V} {f:Fn} {H:Hp} (hs:(du lv && lv.all (fun i=>Nat.blt i N))=true) (h:iK lv vals f) :
  canon 0 lv (ae N f) H=(ae N (cr lv (vals.map (V.ren (aK (aL H (vals.flatMap V.refs)))))),ax H (aL H (vals.flatMap V.refs))):=by
 simp only[Bool.and_eq_true] at hs;have hr:(ae N (kQ lv f)).flatMap V.refs=vals.flatMap V.refs:=by
  rw[gW h];have:=ot lv vals 0 N hs.1 (fun _ _=>Nat.zero_le _) (fun i hi=>by have:=(List.all_eq_true.1 hs.2) i hi;simpa using this) (oG h)
  rw[<- List.range_eq_range'] at this;exact this
 simp only[canon,jU,oJ,Nat.zero_min,List.range_zero,List.flatMap_nil,List.nil_append,hr];refine Prod.ext ?_ rfl;simp only[aL,ae,List.map_map,gW h];apply List.map_congr_left;intro n _;exact r8 _ _ _ _
theorem gY {α σ:Type} {φ:bL} {N:Nat} {lv:List Nat} {c:AC} {K:Ex->Fr->Hp->Option α} {st:List KI} (μ:σ->Nat) (P:σ->Prop) (vals:σ->List V) (heap:σ->Hp) (Z:σ->α)
  (hs:∀ s,P s->∀ R:Fr->Hp->Option α,(∀ s',μ s'<μ s->P s'->∀ f' H',canon 0 lv (ae N f') H'=(ae N (cr lv (vals s')),heap s')->R (ae N f') H'=some (Z s')) ->
   iF φ 0 (KL R (KS φ 0 K st)) c (ae N (cr lv (vals s))) (heap s) []=some (Z s)) :
  ∀ s,P s->∀ f H,canon 0 lv (ae N f) H=(ae N (cr lv (vals s)),heap s)->iF φ 0 K (.loop lv c) (ae N f) H st=some (Z s):=by
 intro s hP f H hc;refine oK (m:=0) (N:=N) μ (fun s f H=>P s∧canon 0 lv (ae N f) H=(ae N (cr lv (vals s)),heap s)) Z ?_ s f H ⟨hP,hc⟩
 rintro s f H ⟨hP,hc⟩ R hR;rw[hc];exact hs s hP R (fun s' hlt hP' f' H' hc'=>hR s' f' H' hlt ⟨hP',hc'⟩)
theorem at_head {N:Nat} {lv:List Nat} {vals0 vals:List V} {f:Fn} {H H':Hp} (hs:(du lv && lv.all (fun i=>Nat.blt i N))=true) (h:iK lv vals0 f) (h1:vals0.map (V.ren (aK (aL H (vals0.flatMap V.refs))))=vals) (h2:ax H (aL H (vals0.flatMap V.refs))=H') :
  canon 0 lv (ae N f) H=(ae N (cr lv vals),H'):=by
 rw[A1 hs h,h1,h2]
theorem ou:∀ (lv:List Nat) (f:Fn),iK lv (lv.map f) f
 | [],_=>trivial
 | _::is,f=>⟨rfl,ou is f⟩
theorem at_head2 {N:Nat} {lv:List Nat} {vals0 vals:List V} {f:Fn} {H H':Hp} (hs:(du lv && lv.all (fun i=>Nat.blt i N))=true) (hv:lv.map f=vals0) (h1:vals0.map (V.ren (aK (aL H (vals0.flatMap V.refs))))=vals) (h2:ax H (aL H (vals0.flatMap V.refs))=H') :
  canon 0 lv (ae N f) H=(ae N (cr lv vals),H'):=at_head hs (hv ▸ ou lv f) h1 h2
theorem aJ (i:Nat):aK [] i=none:=Eq.trans rfl rfl
theorem ay (i j:Nat) (r:List Nat):aK (j::r) i=if j=i then some 0 else(aK r i).map (· + 1):=by
 simp only[aK,List.findIdx?_cons];by_cases h:j=i <;> simp[h]
theorem oM (H:Hp) (n i:Nat) (todo seen:List Nat) {sz fz:Nat} {rows:List (List D)} (h:H[i]?=some (.arr sz rows fz)):aI H (n+1) (i::todo) seen=if seen.contains i then aI H n todo seen else aI H n todo (seen++[i]):=by
 simp only[aI,h,Box.refs,List.nil_append]
theorem rK (H:Hp) (n i:Nat) (todo seen:List Nat) {rows:List (List UInt8 × Bool)} (h:H[i]?=some (.mp rows)):aI H (n+1) (i::todo) seen=if seen.contains i then aI H n todo seen else aI H n todo (seen++[i]):=by
 simp only[aI,h,Box.refs,List.nil_append]
theorem la (H:Hp) (n i:Nat) (todo seen:List Nat) {xs:List L} (h:H[i]?=some (.cells xs)):aI H (n+1) (i::todo) seen=if seen.contains i then aI H n todo seen else aI H n (xs.flatMap L.refs++todo) (seen++[i]):=by
 simp only[aI,h,Box.refs]
abbrev gy:=BitVec 32
def crcP:gy:=0x82f63b78#32
def jw (x:gy):gy:=if x.getLsbD 0 then(x >>> 1) ^^^ crcP else x >>> 1
def d6:Nat->gy->gy
 | 0,x=>x
 | n+1,x=>d6 n (jw x)
def ni (x:gy) (c:UInt8):gy:=d6 8 (x ^^^ BitVec.ofNat 32 c.toNat)
def bF (sum:gy) (s:List UInt8):gy := ~~~(s.foldl ni (~~~sum))
def Cl (b:Bool) (x:gy):gy:=if b then x else 0#32
theorem lx (x:gy):jw x=(x >>> 1) ^^^ Cl (x.getLsbD 0) crcP:=by
 unfold jw Cl;split <;> simp
theorem Hz (b:Bool) (x:gy) (i:Nat):(Cl b x).getLsbD i=(b && x.getLsbD i):=by cases b <;> simp[Cl]
theorem B6 (b:Bool) (x:gy) (n:Nat):(Cl b x) >>> n=Cl b (x >>> n):=by cases b <;> simp[Cl]
theorem jo (x:gy) (i:Nat) (hp:crcP.getLsbD i=false):(jw x).getLsbD i=x.getLsbD (1+i):=by
 rw[lx];simp only[BitVec.getLsbD_xor,BitVec.getLsbD_ushiftRight,Hz,hp,Bool.and_false,Bool.xor_false]
theorem KV (x:gy):d6 4 x=(x >>> 4) ^^^ (Cl (x.getLsbD 0) (crcP >>> 3) ^^^ (Cl (x.getLsbD 1) (crcP >>> 2) ^^^ (Cl (x.getLsbD 2) (crcP >>> 1) ^^^ Cl (x.getLsbD 3) crcP))):=by
 have p0:crcP.getLsbD 0=false:=by decide
 have p1:crcP.getLsbD 1=false:=by decide
 have p2:crcP.getLsbD 2=false:=by decide
 simp only[d6];have b1:=jo x 0 p0;have b2:=jo x 1 p1;have b3:=jo x 2 p2;have c1:=jo (jw x) 0 p0;have c2:=jo (jw x) 1 p1;have d1:=jo (jw (jw x)) 0 p0;simp only[Nat.reduceAdd] at b1 b2 b3 c1 c2 d1;rw[lx (jw (jw (jw x))),d1,c2,b3,lx (jw (jw x)),c1,b2,lx (jw x),b1,lx x];simp only[BitVec.ushiftRight_xor_distrib,B6,<- BitVec.shiftRight_add,Nat.reduceAdd,BitVec.xor_assoc]
theorem Kd (x:gy):d6 4 x=(x >>> 4) ^^^ d6 4 (x &&& 15#32):=by
 rw[KV x,KV (x &&& 15#32)];have h:∀ i,i<4->(x &&& 15#32).getLsbD i=x.getLsbD i:=by
  intro i hi;rw[BitVec.getLsbD_and];have:(15#32:gy).getLsbD i=true:=by
   match i,hi with
   | 0,_=>decide
   | 1,_=>decide
   | 2,_=>decide
   | 3,_=>decide
  rw[this,Bool.and_true]
 have h0:(x &&& 15#32) >>> 4=0#32:=by
  rw[BitVec.ushiftRight_and_distrib];have:(15#32:gy) >>> 4=0#32:=by decide
  rw[this,BitVec.and_zero]
 rw[h 0 (by decide),h 1 (by decide),h 2 (by decide),h 3 (by decide),h0,BitVec.zero_xor]
theorem nE:∀ (a b:Nat) (x:gy),d6 (a+b) x=d6 b (d6 a x)
 | 0,b,x=>by simp[d6]
 | a+1,b,x=>by rw[show a+1+b=(a+b)+1 by omega];simp only[d6];exact nE a b _
theorem GO (x:gy) (c:UInt8):ni x c=(let y:=x ^^^ BitVec.ofNat 32 c.toNat;let z:=(y >>> 4) ^^^ d6 4 (y &&& 15#32);(z >>> 4) ^^^ d6 4 (z &&& 15#32)):=by
 simp only[ni];rw[show(8:Nat)=4+4 from rfl,nE,Kd (d6 4 _),Kd (x ^^^ _)]
def au (n:Nat):List UInt8:=if n<128 then[UInt8.ofNat n] else UInt8.ofNat (128+n % 128)::au (n / 128)
termination_by n
decreasing_by omega
theorem gR {n:Nat} (h:n<128):au n=[UInt8.ofNat n]:=by rw[au,if_pos h]
theorem nv {n:Nat} (h:¬ n<128):au n=UInt8.ofNat (128+n % 128)::au (n / 128):=by rw[au,if_neg h]
def nd (n:Nat):Nat:=(au n).length
theorem jh {n:Nat} (h:n<128):nd n=1:=by unfold nd;rw[gR h];rfl
theorem mD {n:Nat} (h:¬ n<128):nd n=nd (n / 128)+1:=by unfold nd;rw[nv h];rfl
theorem fD (n:Nat):1<=nd n:=by
 by_cases h:n<128
 ·rw[jh h];exact Nat.le_refl _
 ·rw[mD h];omega
theorem ee:∀ (k n:Nat),nd n=k+1↔(n<128 ^ (k+1)∧(k=0∨128 ^ k<=n))
 | 0,n=>by
  by_cases h:n<128
  ·simp[jh h,h]
  ·simp only[mD h,true_or,and_true,Nat.zero_add,Nat.pow_one];have:=fD (n / 128);omega
 | k+1,n=>by
  by_cases h:n<128
  ·rw[jh h];have:128<=128 ^ (k+1):=by rw[Nat.pow_succ];have:=Nat.pow_pos (n:=k) (by decide:0<128);omega
   omega
  ·rw[mD h];have ih:=ee k (n / 128);have e1:n / 128<128 ^ (k+1)↔n<128 ^ (k+2):=by rw[Nat.div_lt_iff_lt_mul (by decide),<- Nat.pow_succ]
   have e2:128 ^ k<=n / 128↔128 ^ (k+1)<=n:=by rw[Nat.le_div_iff_mul_le (by decide),<- Nat.pow_succ]
   constructor
   ·intro hh;obtain⟨h1,h2⟩:=ih.1 (by omega)
    refine⟨e1.1 h1,.inr ?_⟩;rcases h2 with h2|h2
    ·subst h2;simpa using Nat.le_of_not_lt h
    ·exact e2.1 h2
   ·rintro⟨h1,h2⟩;have h2':128 ^ (k+1)<=n:=by
     rcases h2 with h2|h2
     ·omega
     ·exact h2
    have:=ih.2 ⟨e1.2 h1,.inr (e2.2 h2')⟩;omega
theorem gv {n:Nat} (h:n<9223372036854775808):nd n<=9:=by
 have hp:=fD n;have:=(ee (nd n-1) n).1 (by omega)
 rcases this.2 with h0|h0
 ·omega
 ·rcases Nat.lt_or_ge (nd n-1) 9 with h9|h9
  ·omega
  ·have:128 ^ 9<=128 ^ (nd n-1):=Nat.pow_le_pow_right (by decide) h9
   have e:(128:Nat) ^ 9=9223372036854775808:=by decide
   omega
theorem mf:∀ (k n:Nat),nd n=k+1->au n=(List.range k).map (fun i=>UInt8.ofNat (128+n / 128 ^ i % 128))++[UInt8.ofNat (n / 128 ^ k)]
 | 0,n,h=>by
  have:=((ee 0 n).1 h).1;rw[gR (by simpa using this)];simp
 | k+1,n,h=>by
  have hb:¬ n<128:=by
   intro hs;rw[jh hs] at h;omega
  rw[mD hb] at h;rw[nv hb,mf k (n / 128) (by omega),List.range_succ_eq_map]
  simp only[List.map_cons,List.map_map,Nat.pow_zero,Nat.div_one,List.cons_append];congr 2
  ·apply List.map_congr_left;intro i _;simp only[Function.comp,Nat.succ_eq_add_one];rw[Nat.div_div_eq_div_mul,Nat.pow_succ,Nat.mul_comm 128]
  ·rw[Nat.div_div_eq_div_mul,Nat.pow_succ,Nat.mul_comm 128]
def val:List UInt8->Nat
 | []=>0
 | c::r=>c.toNat % 128+128*val r
def i7:List UInt8->Nat->Nat->Option (Nat × Nat)
 | [],_,_=>none
 | c::r,i,n=>if 9<=i then none else if 128<=c.toNat then i7 r (i+1) (n+c.toNat % 128*128 ^ i) else if c.toNat=0∧0<i then none else some (n+c.toNat*128 ^ i,i+1)
def m0:List UInt8->Bool
 | []=>false
 | [c]=>decide (c.toNat<128)
 | c::d::r=>decide (128<=c.toNat) && m0 (d::r)
theorem cS {n:Nat} (h:n<256):(UInt8.ofNat n).toNat=n:=by simp;omega
theorem t6:∀ (l:List UInt8),m0 l=true->((l.getLast?.map UInt8.toNat≠some 0∨l.length=1)->au (val l)=l)∧(l.getLast?.map UInt8.toNat=some 0->val l=0∨∃ k,0<k∧val l<128 ^ (l.length-1))
 | [],h=>by cases h
 | [c],h=>by
  simp only[m0,decide_eq_true_eq] at h;refine⟨fun _=>?_,fun h0=>.inl ?_⟩
  ·simp only[val,Nat.mul_zero,Nat.add_zero];rw[Nat.mod_eq_of_lt h,gR h];simp
  ·simp at h0;simp[val,h0]
 | c::d::r,h=>by
  simp only[m0,Bool.and_eq_true,decide_eq_true_eq] at h;obtain⟨h1,h2⟩:=h;have hc:=c.toNat_lt;have ih:=t6 (d::r) h2;have hl:(c::d::r).getLast?=(d::r).getLast?:=by simp[List.getLast?_cons_cons]
  rw[hl];refine⟨fun h0=>?_,fun h0=>?_⟩
  ·rcases h0 with h0|h0
   ·have ihv:=ih.1 (.inl h0);have hv:val (c::d::r)=c.toNat % 128+128*val (d::r):=rfl;have hpos:0<val (d::r):=by
     rcases Nat.eq_zero_or_pos (val (d::r)) with hz|hz
     ·rw[hz,gR (by decide)] at ihv
      rw[<- ihv] at h0;simp at h0
     ·exact hz
    rw[hv,nv (by omega)]
    have e1:(c.toNat % 128+128*val (d::r)) % 128=c.toNat % 128:=by omega
    have e2:(c.toNat % 128+128*val (d::r)) / 128=val (d::r):=by omega
    rw[e1,e2,ihv];congr 1
    apply UInt8.toNat_inj.1;rw[cS (by omega)];omega
   ·simp at h0
  ·rcases ih.2 h0 with hz|⟨k,hk,hlt⟩
   ·refine .inr ⟨1,by decide,?_⟩
    simp only[val,List.length_cons] at hz ⊢;rw[hz];have:128<=128 ^ (r.length+1+1-1):=by
     rw[show r.length+1+1-1=r.length+1 by omega,Nat.pow_succ]
     have:=Nat.pow_pos (n:=r.length) (by decide:0<128)
     omega
    omega
   ·refine .inr ⟨1,by decide,?_⟩
    simp only[List.length_cons] at hlt ⊢;have hv:val (c::d::r)=c.toNat % 128+128*val (d::r):=rfl;rw[hv];have e:128 ^ (r.length+1+1-1)=128 ^ (r.length+1-1)*128:=by rw[<- Nat.pow_succ];congr 1
    rw[e];omega
theorem wo (l:List UInt8) (h:m0 l=true):au (val l)=l↔¬ (l.getLast?.map UInt8.toNat=some 0∧1<l.length):=by
 have hne:l≠[]:=by intro e;subst e;cases h
 have hlen:0<l.length:=List.length_pos_iff.2 hne;constructor
 ·rintro he ⟨h0,h1⟩;have hn:nd (val l)=l.length:=by unfold nd;rw[he]
  rcases(t6 l h).2 h0 with hz|⟨k,_,hlt⟩
  ·rw[hz,jh (by decide)] at hn;omega
  ·have:=(ee (l.length-1) (val l)).1 (by omega)
   rcases this.2 with h3|h3 <;> omega
 ·intro hh;apply(t6 l h).1;by_cases h0:l.getLast?.map UInt8.toNat=some 0
  ·exact .inr (by have:¬ 1<l.length:=fun h1=>hh ⟨h0,h1⟩;omega)
  ·exact .inl h0
set_option linter.defProp false
theorem hM (n:Nat) (x:BitVec n):BitVec.ofInt n ((x.toNat:Nat):Int)=x:=by
 apply BitVec.eq_of_toNat_eq;simp
theorem jp (x:gy):IntKind.u32.wrap ((x.toNat:Nat):Int)=((x.toNat:Nat):Int):=kC (by have:=x.isLt;omega)
theorem H0 (x y:gy):b6 .xor (.i .u32 ((x.toNat:Nat):Int)) (.i .u32 ((y.toNat:Nat):Int))=some (.i .u32 (((x ^^^ y).toNat:Nat):Int)):=by
 simp only[b6,ne_eq,not_true_eq_false,if_false];rw[show IntKind.u32.bits=32 from rfl,hM,hM,jp]
theorem IT (x:gy):b6 .xor (.i .u32 ((x.toNat:Nat):Int)) (.i .u32 2197175160)=some (.i .u32 (((x ^^^ crcP).toNat:Nat):Int)):=H0 x crcP
theorem Kj (x:gy):b6 .and (.i .u32 ((x.toNat:Nat):Int)) (.i .u32 15)=some (.i .u32 (((x &&& 15#32).toNat:Nat):Int)):=by
 simp only[b6,ne_eq,not_true_eq_false,if_false];rw[show IntKind.u32.bits=32 from rfl,hM,show BitVec.ofInt 32 15=15#32 from rfl,jp]
theorem LW (x:gy):b6 .and (.i .u32 ((x.toNat:Nat):Int)) (.i .u32 1)=some (.i .u32 (((x &&& 1#32).toNat:Nat):Int)):=by
 simp only[b6,ne_eq,not_true_eq_false,if_false];rw[show IntKind.u32.bits=32 from rfl,hM,show BitVec.ofInt 32 1=1#32 from rfl,jp]
theorem Kb (x:gy):H9 .xor (.i .u32 ((x.toNat:Nat):Int))=some (.i .u32 (((~~~x).toNat:Nat):Int)):=by
 simp only[H9];rw[show IntKind.u32.bits=32 from rfl,show IntKind.u32.signed=false from rfl,hM]
 have:BitVec.ofInt 32 (if false=true then -1 else IntKind.u32.max)=BitVec.allOnes 32:=by decide
 rw[this,BitVec.allOnes_xor,jp]
theorem wQ (a b:Nat):((a:Nat):Int).fdiv ((b:Nat):Int)=((a / b:Nat):Int):=by
 rw[Int.fdiv_eq_ediv_of_nonneg _ (by omega)];simp
theorem wv (x:gy) (n:Nat) (hn:n<=32) (k:IntKind):b6 .shr (.i .u32 ((x.toNat:Nat):Int)) (.i k ((n:Nat):Int))=some (.i .u32 (((x >>> n).toNat:Nat):Int)):=by
 simp only[b6];rw[if_neg (by omega),show IntKind.u32.bits=32 from rfl,Int.toNat_natCast,Nat.min_eq_left hn]
 have:=wQ x.toNat (2 ^ n);rw[show((2 ^ n:Nat):Int)=(2:Int) ^ n by simp] at this
 rw[this,BitVec.toNat_ushiftRight,Nat.shiftRight_eq_div_pow]
theorem FW (x:gy) (k:IntKind):b6 .shr (.i .u32 ((x.toNat:Nat):Int)) (.i k 1)=some (.i .u32 (((x >>> 1).toNat:Nat):Int)):=wv x 1 (by decide) k
theorem GX (x:gy) (k:IntKind):b6 .shr (.i .u32 ((x.toNat:Nat):Int)) (.i k 4)=some (.i .u32 (((x >>> 4).toNat:Nat):Int)):=wv x 4 (by decide) k
theorem FE (x:gy) (k:IntKind):b6 .shr (.i .u32 ((x.toNat:Nat):Int)) (.i k 8)=some (.i .u32 (((x >>> 8).toNat:Nat):Int)):=wv x 8 (by decide) k
theorem D9 (x:gy) (k:IntKind):b6 .shr (.i .u32 ((x.toNat:Nat):Int)) (.i k 16)=some (.i .u32 (((x >>> 16).toNat:Nat):Int)):=wv x 16 (by decide) k
theorem DS (x:gy) (k:IntKind):b6 .shr (.i .u32 ((x.toNat:Nat):Int)) (.i k 24)=some (.i .u32 (((x >>> 24).toNat:Nat):Int)):=wv x 24 (by decide) k
theorem HI (x:gy):b6 .quo (.i .u32 ((x.toNat:Nat):Int)) (.i .u32 2)=some (.i .u32 (((x >>> 1).toNat:Nat):Int)):=by
 simp only[b6,ne_eq,not_true_eq_false,if_false];rw[if_neg (by decide),Int.tdiv_eq_ediv_of_nonneg (by omega)]
 have:((x.toNat:Nat):Int) / (2:Int)=(((x >>> 1).toNat:Nat):Int):=by
  rw[BitVec.toNat_ushiftRight,Nat.shiftRight_eq_div_pow];omega
 rw[this,jp]
theorem F3 (x:gy):b6 .rem (.i .u32 ((x.toNat:Nat):Int)) (.i .u32 2)=some (.i .u32 (bif x.getLsbD 0 then 1 else 0)):=by
 simp only[b6,ne_eq,not_true_eq_false,if_false];rw[if_neg (by decide),Int.tmod_eq_emod_of_nonneg (by omega)]
 have:x.getLsbD 0=decide (x.toNat % 2=1):=by
  rw[BitVec.getLsbD,Nat.testBit_zero]
 rw[this];by_cases h:x.toNat % 2=1
 ·have e:((x.toNat:Nat):Int) % 2=1:=by omega
  simp[h,e]
 ·have e:((x.toNat:Nat):Int) % 2=0:=by omega
  have e':¬ x.toNat % 2=1:=h;simp[e',e]
theorem rj (c:UInt8):IntKind.u32.wrap ((c.toNat:Nat):Int)=(((BitVec.ofNat 32 c.toNat).toNat:Nat):Int):=by
 have:=c.toNat_lt;rw[kC (by omega)]
 simp
theorem gP (n:Nat):IntKind.u8.wrap ((n:Nat):Int)=((n % 256:Nat):Int):=by
 simp[IntKind.wrap,IntKind.bits,IntKind.signed]
theorem qL (n:Nat):UInt8.ofNat (n % 256)=UInt8.ofNat n:=by
 apply UInt8.toNat_inj.1;simp
theorem iL:dL []=some []:=Eq.trans rfl rfl
theorem fc (n:Int) (r:List (List D)):dL ([.i .u8 n]::r)=match dL r with|some bs=>some (UInt8.ofNat n.toNat::bs)|none=>none:=Eq.trans rfl rfl
theorem jP:∀ l:List UInt8,dL (aD l)=some l
 | []=>rfl
 | c::l=>by
  have e:aD (c::l)=[.i .u8 ((c.toNat:Nat):Int)]::aD l:=rfl;rw[e,fc,jP l];simp
theorem eg (l:List UInt8):(aD l).length=l.length:=by simp[aD]
def co (x:gy):List UInt8:=[UInt8.ofNat x.toNat,UInt8.ofNat (x >>> 8).toNat,UInt8.ofNat (x >>> 16).toNat,UInt8.ofNat (x >>> 24).toNat]
theorem ly (l:List UInt8) (k:Nat) (h:k<l.length):l[k]?=some (l[k]'h):=by simp[h]
def iX:=And.intro @H0 (And.intro @IT (And.intro @Kj (And.intro @Kb (And.intro @FW (And.intro @GX (And.intro @FE (And.intro @D9 (And.intro @DS (And.intro @HI @F3)))))))))
def tabW:List L:=(List.range 16).map fun i=>L.d (.i .u32 (((d6 4 (BitVec.ofNat 32 i)).toNat:Nat):Int))
def gG (k:Nat):List L:=(List.range 16).map fun i=>L.d (.i .u32 (if i<k then(((d6 4 (BitVec.ofNat 32 i)).toNat:Nat):Int) else 0))
theorem kL (k:Nat):(gG k).length=16:=by simp[gG]
theorem tP:gG 16=tabW:=by
 unfold gG tabW;apply List.map_congr_left;intro i hi;rw[if_pos (by simpa using hi)]
theorem EO:gG 0=List.replicate 16 (L.d (.i .u32 0)):=by rfl
theorem D4 (k:Nat) (hk:k<16):(gG k).take k++[L.d (.i .u32 (((d6 4 (BitVec.ofNat 32 k)).toNat:Nat):Int))]++(gG k).drop (k+1)=gG (k+1):=by
 have e:(gG k).take k++[L.d (.i .u32 (((d6 4 (BitVec.ofNat 32 k)).toNat:Nat):Int))]++(gG k).drop (k+1)=(gG k).set k (L.d (.i .u32 (((d6 4 (BitVec.ofNat 32 k)).toNat:Nat):Int))):=by
  rw[List.set_eq_take_append_cons_drop,if_pos (by rw[kL];exact hk)];simp
 rw[e];apply List.ext_getElem?;intro i;rw[List.getElem?_set,kL];by_cases h:k=i
 ·subst h;simp[gG,hk]
 ·rw[if_neg h];simp only[gG,List.getElem?_map];rcases Nat.lt_or_ge i 16 with hi|hi
  ·rw[List.getElem?_range hi];simp only[Option.map_some];have:(i<k)=(i<k+1):=by rw[eq_iff_iff];omega
   simp only[this]
  ·rw[List.getElem?_eq_none (by simpa using hi)];rfl
theorem A6 (x:gy):b6 .and (.i .u32 2197175160) (.i .u32 (IntKind.u32.wrap (0-(((x &&& 1#32).toNat:Nat):Int))))=some (.i .u32 (((Cl (x.getLsbD 0) crcP).toNat:Nat):Int)):=by
 have h1:(x &&& 1#32).toNat=if x.getLsbD 0=true then 1 else 0:=by
  have:x &&& 1#32=if x.getLsbD 0=true then 1#32 else 0#32:=by
   apply BitVec.eq_of_getLsbD_eq;intro i hi;rw[BitVec.getLsbD_and];cases i with
   | zero=>cases hx:x.getLsbD 0 <;> simp
   | succ i =>
    have:(1#32:gy).getLsbD (i+1)=false:=by simp
    rw[this,Bool.and_false];split <;> simp
  rw[this];split <;> rfl
 rw[h1];cases hx:x.getLsbD 0 with
 | true=>rfl
 | false=>rfl
theorem Ge (x:gy):tabW[(x &&& 15#32).toNat]?=some (.d (.i .u32 (((d6 4 (x &&& 15#32)).toNat:Nat):Int))):=by
 have h:(x &&& 15#32).toNat<16:=by
  rw[BitVec.toNat_and];exact Nat.lt_of_le_of_lt Nat.and_le_right (by decide)
 simp only[tabW,List.getElem?_map,List.getElem?_range h,Option.map_some];rw[BitVec.ofNat_toNat,BitVec.setWidth_eq]
theorem vO (x:gy):(x &&& 15#32).toNat<16:=by
 rw[BitVec.toNat_and];exact Nat.lt_of_le_of_lt Nat.and_le_right (by decide)
theorem qK:tabW.length=16:=by simp[tabW]
theorem fT (k:Nat):(gG k).flatMap L.refs=[]:=by
 rw[List.flatMap_eq_nil_iff];intro x hx;simp only[gG,List.mem_map] at hx;obtain⟨i,_,rfl⟩:=hx;rfl
theorem im (k:Nat) (ρ:Nat->Option Nat):(gG k).map (L.ren ρ)=gG k:=by
 conv=>rhs;rw[<- List.map_id (gG k)]
 apply List.map_congr_left;intro x hx;simp only[gG,List.mem_map] at hx;obtain⟨i,_,rfl⟩:=hx;rfl
theorem lE:tabW.flatMap L.refs=[]:=by rw[<- tP];exact fT 16
theorem nt (ρ:Nat->Option Nat):tabW.map (L.ren ρ)=tabW:=by rw[<- tP];exact im 16 ρ
theorem tabW_pure:tabW.all L.pure=true:=by
 rw[List.all_eq_true];intro x hx;simp only[tabW,List.mem_map] at hx;obtain⟨i,_,rfl⟩:=hx;rfl
theorem HJ (H:Hp):jd tabW H=some (tabW,H):=by
 have:tabW=((List.range 16).map fun i=>(D.i .u32 (((d6 4 (BitVec.ofNat 32 i)).toNat:Nat):Int))).map L.d:=by simp only[tabW,List.map_map];rfl
 rw[this];exact sh _ H
def blen (n:Nat):Nat:=if n=0 then 0 else Nat.log2 n+1
theorem fA (n j:Nat):blen n<=j↔n<2 ^ j:=by
 unfold blen;by_cases h:n=0
 ·subst h;simp[Nat.pow_pos]
 ·rw[if_neg h,Nat.succ_le_iff,Nat.log2_lt h]
theorem em (n j:Nat) (h:2 ^ j<=n):blen n=blen (n / 2 ^ j)+j:=by
 apply Nat.le_antisymm
 ·rw[fA,Nat.pow_add];have:=(fA (n / 2 ^ j) (blen (n / 2 ^ j))).1 (Nat.le_refl _);rwa [Nat.div_lt_iff_lt_mul (Nat.pow_pos (by decide))] at this
 ·have h0:j<blen n:=by
   have:=(not_congr (fA n j)).2 (by omega);omega
  have:blen (n / 2 ^ j)<=blen n-j:=by
   rw[fA,Nat.div_lt_iff_lt_mul (Nat.pow_pos (by decide)),<- Nat.pow_add]
   have:=(fA n (blen n)).1 (Nat.le_refl _);rwa [Nat.sub_add_cancel (by omega)]
  omega
theorem GM (n:Nat):max 1 ((blen n+6) / 7)=nd n:=by
 have hp:=fD n;obtain⟨k,hk⟩:∃ k,nd n=k+1:=⟨nd n-1,by omega⟩
 obtain⟨h1,h2⟩:=(ee k n).1 hk;have e:∀ j,(128:Nat) ^ j=2 ^ (7*j):=fun j=>by rw[Nat.pow_mul]
 have u:blen n<=7*(k+1):=by rw[fA,<- e];exact h1
 rcases h2 with h2|h2
 ·omega
 ·have l:¬ blen n<=7*k:=by rw[fA,<- e];omega
  omega
theorem f8:∀ m,m<256->([0,1,2,2,3,3,3,3,4,4,4,4,4,4,4,4,5,5,5,5,5,5,5,5,5,5,5,5,5,5,5,5,6,6,6,6,6,6,6,6,6,6,6,6,6,6,6,6,6,6,6,6,6,6,6,6,6,6,6,6,6,6,6,6,7,7,7,7,7,7,7,7,7,7,7,7,7,7,7,7,7,7,7,7,7,7,7,7,7,7,7,7,7,7,7,7,7,7,7,7,7,7,7,7,7,7,7,7,7,7,7,7,7,7,7,7,7,7,7,7,7,7,7,7,7,7,7,7,8,8,8,8,8,8,8,8,8,8,8,8,8,8,8,8,8,8,8,8,8,8,8,8,8,8,8,8,8,8,8,8,8,8,8,8,8,8,8,8,8,8,8,8,8,8,8,8,8,8,8,8,8,8,8,8,8,8,8,8,8,8,8,8,8,8,8,8,8,8,8,8,8,8,8,8,8,8,8,8,8,8,8,8,8,8,8,8,8,8,8,8,8,8,8,8,8,8,8,8,8,8,8,8,8,8,8,8,8,8,8,8,8,8,8,8,8,8,8,8,8,8,8,8,8,8,8,8]:List UInt8)[m]?=some (UInt8.ofNat (blen m)):=by decide +kernel
theorem yi {m:Nat} (h:m<256):(UInt8.ofNat (blen m)).toNat=blen m:=by
 have:=(fA m 8).2 h;simp;omega
theorem pM (k k':IntKind) (a n:Nat) (hn:n<=k.bits):b6 .shr (.i k ((a:Nat):Int)) (.i k' ((n:Nat):Int))=some (.i k ((a / 2 ^ n:Nat):Int)):=by
 simp only[b6];rw[if_neg (by omega),Int.toNat_natCast,Nat.min_eq_left hn]
 have:=wQ a (2 ^ n);rw[show((2 ^ n:Nat):Int)=(2:Int) ^ n by simp] at this
 rw[this]
theorem gh (a:Nat) (k':IntKind):b6 .shr (.i .u64 ((a:Nat):Int)) (.i k' 32)=some (.i .u64 ((a / 4294967296:Nat):Int)):=pM .u64 k' a 32 (by decide)
theorem gk (a:Nat) (k':IntKind):b6 .shr (.i .u64 ((a:Nat):Int)) (.i k' 16)=some (.i .u64 ((a / 65536:Nat):Int)):=pM .u64 k' a 16 (by decide)
theorem i0 (a:Nat) (k':IntKind):b6 .shr (.i .u64 ((a:Nat):Int)) (.i k' 8)=some (.i .u64 ((a / 256:Nat):Int)):=pM .u64 k' a 8 (by decide)
theorem Ln:∀ a,a<256->(BitVec.ofNat 8 a ||| 128#8).toNat=128+a % 128:=by decide +kernel
theorem Ia:∀ a,a<256->(BitVec.ofNat 8 a &&& 127#8).toNat=a % 128:=by decide +kernel
theorem OL (a:Nat):b6 .or (.i .u8 ((a % 256:Nat):Int)) (.i .u8 128)=some (.i .u8 ((128+a % 128:Nat):Int)):=by
 simp only[b6,ne_eq,not_true_eq_false,if_false];have h1:BitVec.ofInt 8 ((a % 256:Nat):Int)=BitVec.ofNat 8 (a % 256):=by
  apply BitVec.eq_of_toNat_eq;simp;omega
 rw[show IntKind.u8.bits=8 from rfl,h1,show BitVec.ofInt 8 128=128#8 from rfl,Ln _ (by omega),gP]
 congr 3;omega
theorem KE (a:Nat) (h:a<256):b6 .and (.i .u8 ((a:Nat):Int)) (.i .u8 127)=some (.i .u8 ((a % 128:Nat):Int)):=by
 simp only[b6,ne_eq,not_true_eq_false,if_false];have h1:BitVec.ofInt 8 ((a:Nat):Int)=BitVec.ofNat 8 a:=by
  apply BitVec.eq_of_toNat_eq;simp
 rw[show IntKind.u8.bits=8 from rfl,h1,show BitVec.ofInt 8 127=127#8 from rfl,Ia _ h,gP]
 congr 3;omega
theorem L6 (a b n:Nat) (ha:a<2 ^ n) (hb:b*2 ^ n+a<9223372036854775808):b6 .or (.i .i64 ((a:Nat):Int)) (.i .i64 ((b*2 ^ n:Nat):Int))=some (.i .i64 ((a+b*2 ^ n:Nat):Int)):=by
 simp only[b6,ne_eq,not_true_eq_false,if_false];have h1:∀ x:Nat,x<9223372036854775808->BitVec.ofInt 64 ((x:Nat):Int)=BitVec.ofNat 64 x:=by
  intro x hx;apply BitVec.eq_of_toNat_eq;simp
 rw[show IntKind.i64.bits=64 from rfl,h1 _ (by omega),h1 _ (by omega)]
 have h2:(BitVec.ofNat 64 a ||| BitVec.ofNat 64 (b*2 ^ n)).toNat=a+b*2 ^ n:=by
  rw[BitVec.toNat_or,BitVec.toNat_ofNat,BitVec.toNat_ofNat,Nat.mod_eq_of_lt (by omega),Nat.mod_eq_of_lt (by omega),Nat.or_comm,<- Nat.shiftLeft_eq,<- Nat.shiftLeft_add_eq_or_of_lt ha,Nat.add_comm]
 rw[h2,fR (by omega)]
def vU (n k i:Nat):Nat:=if i<k then 128+n / 128 ^ i % 128 else 0
def putR (n m k:Nat):List (List D):=(List.range m).map fun i=>[D.i .u8 ((vU n k i:Nat):Int)]
theorem jy (n m k:Nat):(putR n m k).length=m:=by simp[putR]
theorem tw (n m:Nat):putR n m 0=List.replicate m [D.i .u8 0]:=by
 apply List.ext_getElem?;intro i;simp only[putR,List.getElem?_map,List.getElem?_replicate];by_cases h:i<m
 ·rw[List.getElem?_range h];simp[vU,h]
 ·rw[List.getElem?_eq_none (by simpa using h),if_neg h];rfl
theorem jB (n m k i:Nat) (h:i<m):(putR n m k)[i]?=some [D.i .u8 ((vU n k i:Nat):Int)]:=by
 simp only[putR,List.getElem?_map,List.getElem?_range h,Option.map_some]
theorem EV (n m k:Nat) (h:k<m):(putR n m k).set k [D.i .u8 ((128+n / 128 ^ k % 128:Nat):Int)]=putR n m (k+1):=by
 apply List.ext_getElem?;intro i;rw[List.getElem?_set,jy];by_cases hi:k=i
 ·subst hi;rw[if_pos rfl,if_pos h,jB _ _ _ _ h];simp[vU]
 ·rw[if_neg hi];rcases Nat.lt_or_ge i m with him|him
  ·rw[jB _ _ _ _ him,jB _ _ _ _ him];have e:(i<k)=(i<k+1):=by rw[eq_iff_iff];omega
   simp only[vU,e]
  ·rw[List.getElem?_eq_none (by rw[jy];exact him),List.getElem?_eq_none (by rw[jy];exact him)]
theorem Bf (n k:Nat) (h:nd n=k+1):(putR n (k+1) (k+1)).set k [D.i .u8 ((n / 128 ^ k:Nat):Int)]=aD (au n):=by
 have hlt:n / 128 ^ k<128:=by
  have:=((ee k n).1 h).1;rw[Nat.div_lt_iff_lt_mul (Nat.pow_pos (by decide))]
  rwa [Nat.pow_succ,Nat.mul_comm] at this
 rw[mf k n h];simp only[aD,List.map_append,List.map_map,List.map_cons,List.map_nil];apply List.ext_getElem?;intro i;rw[List.getElem?_set,jy,List.getElem?_append];simp only[List.length_map,List.length_range];by_cases hi:k=i
 ·subst hi;rw[if_pos rfl,if_pos (by omega),if_neg (by omega),Nat.sub_self,List.getElem?_cons_zero,cS (by omega)]
 ·rw[if_neg hi];rcases Nat.lt_or_ge i k with hik|hik
  ·rw[if_pos hik,jB _ _ _ _ (by omega)]
   simp only[List.getElem?_map,List.getElem?_range hik,Option.map_some,Function.comp,vU,if_pos (by omega:i<k+1)]
   congr 3
   have:n / 128 ^ i % 128<128:=Nat.mod_lt _ (by decide)
   rw[cS (by omega)]
  ·rw[if_neg (by omega),List.getElem?_eq_none (by rw[jy];omega),List.getElem?_eq_none (by simp;omega)]
def BJ (p:List UInt8):Prop:=∀ c∈p,128<=c.toNat
theorem qd:∀ (p:List UInt8) (c:UInt8),BJ p->c.toNat<128->m0 (p++[c])=true
 | [],c,_,h=>by simp[m0,h]
 | [d],c,hp,h=>by
  have:=hp d (List.mem_cons_self ..);simp[m0,h,this]
 | d::e::r,c,hp,h=>by
  have h1:=hp d (List.mem_cons_self ..);have ih:=qd (e::r) c (fun x hx=>hp x (List.mem_cons_of_mem _ hx)) h
  simp only[List.cons_append] at ih ⊢;simp only[m0,h1,decide_true,Bool.true_and];exact ih
theorem mT:∀ (p:List UInt8) (c:UInt8),val (p++[c])=val p+c.toNat % 128*128 ^ p.length
 | [],c=>by simp[val]
 | d::r,c=>by
  simp only[List.cons_append,val,mT r c,List.length_cons,Nat.pow_succ];rw[Nat.mul_add,Nat.mul_comm (128 ^ r.length) 128,Nat.add_assoc];congr 2
  rw[<- Nat.mul_assoc,<- Nat.mul_assoc,Nat.mul_comm 128]
theorem Ev:∀ (p:List UInt8),val p<128 ^ p.length
 | []=>by simp[val]
 | d::r=>by
  have ih:=Ev r;simp only[val,List.length_cons,Nat.pow_succ];have:d.toNat % 128<128:=Nat.mod_lt _ (by decide)
  omega
theorem xe (p:List UInt8) (c:UInt8) (hp:BJ p) (hc:c.toNat<128):au (val p+c.toNat*128 ^ p.length)=p++[c]↔¬ (c.toNat=0∧0<p.length):=by
 have h:=wo (p++[c]) (qd p c hp hc);rw[mT,Nat.mod_eq_of_lt hc] at h;rw[h];simp
theorem Fk (s:List UInt8) (a i:Nat) (h:a+i<s.length):(s.take (a+i+1)).drop a=(s.take (a+i)).drop a++[s[a+i]]:=by
 rw[fY s (a+i) h,List.drop_append_of_le_length (by simp;omega)]
theorem Gp (s:List UInt8) (a i:Nat) (h:a+i<=s.length):((s.take (a+i)).drop a).length=i:=by simp;omega
theorem zf:∀ (l p:List UInt8) (n k:Nat),BJ p->p.length<=9->i7 l p.length (val p)=some (n,k)->p.length<k∧k<=p.length+l.length∧k<=9∧p++l.take (k-p.length)=au n
 | [],p,n,k,_,_,h=>by cases h
 | c::l,p,n,k,hp,h9,h=>by
  simp only[i7] at h;split at h
  ·cases h
  ·split at h
   ·rename_i hn9 hc;have hb:BJ (p++[c]):=by
     intro x hx;rcases List.mem_append.1 hx with hx|hx
     ·exact hp x hx
     ·simp at hx;subst hx;exact hc
    have hv:val (p++[c])=val p+c.toNat % 128*128 ^ p.length:=mT p c;have hl:(p++[c]).length=p.length+1:=by simp
    have ih:=zf l (p++[c]) n k hb (by omega) (by rw[hl,hv];exact h)
    rw[hl] at ih;obtain⟨i1,i2,i3,i4⟩:=ih;refine⟨by omega,by simp only[List.length_cons];omega,i3,?_⟩
    rw[<- i4,List.append_assoc];congr 1
    rw[show k-p.length=(k-(p.length+1))+1 by omega,List.take_succ_cons]
    rfl
   ·rename_i hn9 hc;split at h
    ·cases h
    ·rename_i h0;simp only[Option.some.injEq,Prod.mk.injEq] at h;obtain⟨h1,h2⟩:=h;have:=(xe p c hp (by omega)).2 h0
     refine⟨by omega,by simp only[List.length_cons];omega,by omega,?_⟩
     rw[<- h2,<- h1,this,Nat.add_sub_cancel_left];simp
theorem dA {l:List UInt8} {n k:Nat} (h:i7 l 0 0=some (n,k)):0<k∧k<=l.length∧k<=9∧l.take k=au n:=by
 have:=zf l [] n k (fun c hc=>by cases hc) (by decide) h
 simpa using this
theorem C4:∀ (r:List UInt8) (m i acc:Nat),i+nd m<=9->i7 (au m++r) i acc=if m=0∧0<i then none else some (acc+m*128 ^ i,i+nd m)
 | r,m,i,acc,h=>by
  by_cases hm:m<128
  ·rw[gR hm,jh hm] at *;have h1:(UInt8.ofNat m).toNat=m:=cS (by omega)
   simp only[List.cons_append,List.nil_append,i7,h1];rw[if_neg (by omega),if_neg (by omega)]
  ·have hq:m / 128<m:=by omega
   rw[mD hm] at h;have ih:=C4 r (m / 128) (i+1) (acc+m % 128*128 ^ i) (by omega)
   have h1:(UInt8.ofNat (128+m % 128)).toNat=128+m % 128:=cS (by omega)
   rw[nv hm];simp only[List.cons_append,i7,h1];have hp:=fD (m / 128);rw[if_neg (by omega),if_pos (by omega)]
   have e:(128+m % 128) % 128=m % 128:=by omega
   rw[e,ih,if_neg (by omega),if_neg (by omega),mD hm]
   have e2:acc+m % 128*128 ^ i+m / 128*128 ^ (i+1)=acc+m*128 ^ i:=by
    rw[Nat.pow_succ,Nat.mul_comm (128 ^ i) 128,<- Nat.mul_assoc,Nat.add_assoc,<- Nat.add_mul];congr 2;omega
   rw[e2];congr 2;omega
termination_by r m=>m
theorem ug (m:Nat) (r:List UInt8) (h:m<9223372036854775808):i7 (au m++r) 0 0=some (m,nd m):=by
 rw[C4 r m 0 0 (by have:=gv h;omega),if_neg (by omega)];simp
def jA (n:Nat):Bool:=decide (1<=n) && decide (n<=65536)
def bN (b:List UInt8):List UInt8:=au b.length++co (bF 0#32 (au b.length++b))++b
def jn (l:List UInt8):Bool:=decide (l.length<=8) && l.all fun c=>decide (128<=c.toNat)
def bY (s:List UInt8) (a:Nat):List UInt8 × Nat × Int :=
 if s.length<=a∨jn (s.drop a)=true then([],0,2)
 else match i7 (s.drop a) 0 0 with
  | none=>([],0,3)
  | some (n,k)=>if jA n=false then([],0,3)
   else if s.length<a+k+4+n then([],0,2)
   else if co (bF 0#32 (au n++(s.take (a+k+4+n)).drop (a+k+4)))=(s.take (a+k+4)).drop (a+k) then((s.take (a+k+4+n)).drop (a+k+4),a+k+4+n,0)
   else([],0,4)
theorem fZ {s:List UInt8} {a n k:Nat} (h:i7 (s.drop a) 0 0=some (n,k)):(s.take (a+k)).drop a=au n∧a+k<=s.length∧0<k∧k<=9:=by
 obtain⟨h1,h2,h3,h4⟩:=dA h;have hl:(s.drop a).length=s.length-a:=by simp
 rw[List.drop_take];rw[show a+k-a=k by omega]
 exact⟨h4,by omega,h1,h3⟩
theorem cH (x:gy):(co x).length=4:=rfl
theorem mh (b:List UInt8):(bN b).length=nd b.length+4+b.length:=by
 simp only[bN,List.length_append,cH];rfl
theorem E7 {m:Nat} (r:List UInt8) (h:m<9223372036854775808):jn (au m++r)=false:=by
 have hs:∃ c∈au m,c.toNat<128:=by
  have hp:=fD m;obtain⟨k,hk⟩:∃ k,nd m=k+1:=⟨nd m-1,by omega⟩
  have hr:=((ee k m).1 hk).1;rw[mf k m hk];have hlt:m / 128 ^ k<128:=by
   rw[Nat.div_lt_iff_lt_mul (Nat.pow_pos (by decide))]
   rwa [Nat.pow_succ,Nat.mul_comm] at hr
  exact⟨_,List.mem_append_right _ (List.mem_singleton.2 rfl),by rw[cS (by omega)];exact hlt⟩
 obtain⟨c,hc,h1⟩:=hs;have:(au m++r).all (fun c=>decide (128<=c.toNat))=false:=by
  rw[List.all_eq_false];exact⟨c,List.mem_append_left _ hc,by simp;omega⟩
 simp[jn,this]
theorem GV {α:Type} (p r:List α):(p++r).drop p.length=r:=by simp
theorem zd {α:Type} (p q r:List α) (n:Nat) (h:n=p.length+q.length):((p++(q++r)).take n).drop p.length=q:=by
 subst h;simp[List.take_append]
theorem v6 (p b r:List UInt8) (h1:1<=b.length) (h2:b.length<=65536):bY (p++(bN b++r)) p.length=(b,p.length+(bN b).length,0):=by
 have hd:(p++(bN b++r)).drop p.length=au b.length++(co (bF 0#32 (au b.length++b))++b++r):=by
  rw[GV];simp only[bN,List.append_assoc]
 have hl:=mh b;have hn:=fD b.length;unfold bY;rw[hd,if_neg,ug _ _ (by omega)]
 ·dsimp only
  have hf:jA b.length=true:=by simp[jA,h1,h2]
  rw[if_neg (by rw[hf];decide),if_neg (by simp;omega)]
  have hs:p++(bN b++r)=(p++au b.length)++(co (bF 0#32 (au b.length++b))++(b++r)):=by simp only[bN,List.append_assoc]
  have hs2:p++(bN b++r)=(p++au b.length++co (bF 0#32 (au b.length++b)))++(b++r):=by simp only[bN,List.append_assoc]
  have l1:(p++au b.length).length=p.length+nd b.length:=by simp[nd]
  have l2:(p++au b.length++co (bF 0#32 (au b.length++b))).length=p.length+nd b.length+4:=by rw[List.length_append,l1,cH]
  have t1:((p++(bN b++r)).take (p.length+nd b.length+4+b.length)).drop (p.length+nd b.length+4)=b:=by
   rw[hs2,<- l2];exact zd _ b r _ rfl
  have t2:((p++(bN b++r)).take (p.length+nd b.length+4)).drop (p.length+nd b.length)=co (bF 0#32 (au b.length++b)):=by
   rw[hs,<- l1];exact zd _ _ _ _ (by rw[cH])
  rw[t1,t2,if_pos rfl,hl];congr 2;omega
 ·rw[E7 _ (by omega)]
  simp only[List.length_append,hl];simp;omega
theorem nj {s t:List UInt8} {a n:Nat} (h:bY s a=(t,n,0)):a<n∧n<=s.length:=by
 unfold bY at h;split at h
 ·simp at h
 ·split at h
  ·simp at h
  ·rename_i m k hr;obtain⟨_,q2,q3,_⟩:=fZ hr;split at h
   ·simp at h
   ·split at h
    ·simp at h
    ·split at h
     ·simp only[Prod.mk.injEq] at h;omega
     ·simp at h
theorem EF (x:gy):x.toNat=(co x)[0]!.toNat+256*(co x)[1]!.toNat+65536*(co x)[2]!.toNat+16777216*(co x)[3]!.toNat:=by
 have hx:=x.isLt;have e0:(co x)[0]!.toNat=x.toNat % 256:=by simp[co]
 have e1:(co x)[1]!.toNat=x.toNat / 256 % 256:=by
  show(UInt8.ofNat (x >>> 8).toNat).toNat=_;rw[BitVec.toNat_ushiftRight,Nat.shiftRight_eq_div_pow];simp
 have e2:(co x)[2]!.toNat=x.toNat / 65536 % 256:=by
  show(UInt8.ofNat (x >>> 16).toNat).toNat=_;rw[BitVec.toNat_ushiftRight,Nat.shiftRight_eq_div_pow];simp
 have e3:(co x)[3]!.toNat=x.toNat / 16777216 % 256:=by
  show(UInt8.ofNat (x >>> 24).toNat).toNat=_;rw[BitVec.toNat_ushiftRight,Nat.shiftRight_eq_div_pow];simp
 rw[e0,e1,e2,e3];omega
theorem pB (l:List UInt8) (k:Nat) (h:k<l.length):(aD l)[k]?=some [.i .u8 (((l[k]'h).toNat:Nat):Int)]:=by simp[aD,h]
theorem pH (l:List UInt8) (k:Nat) (x:UInt8):(aD l).set k [.i .u8 ((x.toNat:Nat):Int)]=aD (l.set k x):=by
 simp[aD,List.map_set]
set_option linter.defProp false
theorem L.pure_of {x:L} (h:x.refs=[]):x.pure=true:=by
 cases x <;> first|rfl|(simp[L.refs] at h;done)|(simp only[L.refs] at h;subst h;rfl)
theorem Ls.pure_of {xs:List L} (h:xs.flatMap L.refs=[]):xs.all L.pure=true:=by
 rw[List.all_eq_true];intro x hx;refine L.pure_of ?_;rw[List.flatMap_eq_nil_iff] at h;exact h x hx
theorem V.pure_of {v:V} (h:v.refs=[]):v.pure=true:=by
 cases v with
 | one x=>exact L.pure_of h
 | agg xs=>exact Ls.pure_of h
 | any=>rfl
 | tup xs =>
  simp only[V.pure,List.all_eq_true];intro c hc;have:=(List.flatMap_eq_nil_iff.1 h) c hc;exact fun x hx=>(List.all_eq_true.1 (Ls.pure_of this)) x hx
theorem cL (fr:Fr):aF fr []=[]:=Eq.trans rfl rfl
theorem bz {N n:Nat} {f:Fn} (l:List Nat) (h:n<N):aF (ae N f) (n::l)=(f n).refs++aF (ae N f) l:=by
 simp only[aF,List.flatMap_cons,bI h]
theorem Nh {N n:Nat} {f:Fn} (h:n<N):xk (ae N f) (.t n)=bif (f n).refs.isEmpty then 0 else 1:=by
 simp only[xk,qY,pI h]
theorem Na (fr:Fr) (v:V):xk fr (.c v)=bif v.refs.isEmpty then 0 else 2:=rfl
def dm (H:Hp):Option (V × Hp)->Option (V × Hp)
 | none=>none
 | some (r,H1)=>some (r.ren (bE [] H.length H1.length),H++H1.map (Box.ren (bE [] H.length H1.length)))
theorem slot_pure {fr:Fr} {l:List Nat} (h:aF fr l=[]) {t:Nat} (ht:t∈l) {v:V} (hv:fr[t]?=some v):v.pure=true:=by
 refine V.pure_of ?_;have:=(List.flatMap_eq_nil_iff.1 h) t ht;rwa [hv] at this
theorem iso_pure {φ:bL} {o:AOp} {fr:Fr} {H:Hp} (h:aF fr o.slots=[]):aW φ o fr H=dm H (o.a.run φ fr []):=by
 have hi:aO o fr H=[]:=by rw[aO,h];rfl
 have hr:o.a.run φ ((aS o.slots fr).map (V.ren (aK []))) []=o.a.run φ fr []:=by
  refine oL fun t ht=>?_
  have ht':t∈o.slots:=by simp only[AOp.slots,List.mem_append];exact .inl ht
  rw[List.getElem?_map,aY ht'];cases hv:fr[t]? with
  | none=>rfl
  | some v=>simp only[Option.map_some,V.pure_ren (slot_pure h ht' hv)]
 simp only[aW,hi,ax,List.map_nil,hr];cases o.a.run φ fr [] with
 | none=>rfl
 | some q=>obtain⟨r,H1⟩:=q;simp[dm,bB]
theorem xz {H:Hp} {r:V} (h:r.pure=true):dm H (some (r,[]))=some (r,H):=by
 simp only[dm,V.pure_ren h,List.map_nil,List.append_nil]
theorem uK {H:Hp} {xs:List L} (h:xs.all L.pure=true):dm H (some (.one (.p 0 0),[.cells xs]))=some (.one (.p H.length 0),H++[.cells xs]):=by
 simp[dm,V.ren,L.ren,bE,Box.ren,Ls.pure_ren h]
theorem xK {H:Hp} {sz n s f:Nat} {rows:List (List D)}:dm H (some (.one (.sl 0 sz 0 n),[.arr s rows f]))=some (.one (.sl H.length sz 0 n),H++[.arr s rows f]):=by
 simp[dm,V.ren,L.ren,bE,Box.ren]
theorem wE {H:Hp} {sz n s f:Nat} {rows:List (List D)}:dm H (some (.one (.sl 1 sz 0 n),[.dead,.arr s rows f]))=some (.one (.sl (H.length+1) sz 0 n),H++[.dead,.arr s rows f]):=by
 simp[dm,V.ren,L.ren,bE,Box.ren]
theorem pS {H:Hp} {i:Nat} {b:Box} (hb:H[i]?=some b) (ha:alive b=true) (hr:b.refs=[]):aL H [i]=[i]:=by
 have:∀ n,aI H (n+1) [i] []=[i]:=by
  intro n;cases b with
  | dead=>cases ha
  | cells xs =>
   rw[la H n i [] [] hb];have:xs.flatMap L.refs=[]:=hr;rw[this];cases n <;> rfl
  | arr sz rows fz=>rw[oM H n i [] [] hb];cases n <;> rfl
  | mp rows=>rw[rK H n i [] [] hb];cases n <;> rfl
 exact this 999
def nG (g:Option (Nat × Bool)):List Nat:=match g with|some (t,_)=>[t]|none=>[]
theorem zq {H:Hp} {i j:Nat} {b c:Box} (hij:i≠j) (hb:H[i]?=some b) (ha:alive b=true) (hr:b.refs=[]) (hb2:H[j]?=some c) (ha2:alive c=true) (hr2:c.refs=[]):aL H [i,j]=[i,j]:=by
 have step:∀ (n k:Nat) (todo seen:List Nat) (x:Box),H[k]?=some x->alive x=true->x.refs=[]->aI H (n+1) (k::todo) seen=if seen.contains k then aI H n todo seen else aI H n todo (seen++[k]):=by
  intro n k todo seen x hx hax hrx;cases x with
  | dead=>cases hax
  | cells xs=>rw[la H n k todo seen hx];have:xs.flatMap L.refs=[]:=hrx;rw[this];rfl
  | arr sz rows fz=>rw[oM H n k todo seen hx]
  | mp rows=>rw[rK H n k todo seen hx]
 have e:aL H [i,j]=aI H (998+1+1) [i,j] []:=rfl;rw[e,step _ i _ _ b hb ha hr,if_neg (by simp),step _ j _ _ c hb2 ha2 hr2,if_neg (by simp[Ne.symm hij])]
 rfl
theorem HL {φ:bL} {d:Option Nat} {g:Option (Nat × Bool)} {p:List Nat} {str:Bool} {sz bytes s b z n z' fz N:Nat} {x:X} {xv:L} {rows:List (List D)} {f:Fn} {H:Hp} (hN:s<N) (hs:f s=.one (.sl b z 0 n)) (hx:x.ev (ae N f)=some (.one xv)) (hp:xv.refs=[])
  (hg:aF (ae N f) (nG g)=[]) (hH:H[b]?=some (.arr z' rows fz)) :
  aW φ ⟨d,.app str sz bytes (.t s) x,g,p,false⟩ (ae N f) H=(A.app str sz bytes (.t s) x).run φ (ae N f) H∧aO ⟨d,.app str sz bytes (.t s) x,g,p,false⟩ (ae N f) H=[b]:=by
 have hxs:aF (ae N f) x.slot=[]:=by
  cases x with
  | t y =>
   simp only[X.ev] at hx;simp only[X.slot,aF,List.flatMap_cons,List.flatMap_nil,hx,V.refs,hp,List.append_nil]
  | c v=>rfl
 have hsl:aF (ae N f) (AOp.slots ⟨d,.app str sz bytes (.t s) x,g,p,false⟩)=[b]:=by
  have e:AOp.slots ⟨d,.app str sz bytes (.t s) x,g,p,false⟩=[s]++(x.slot++[])++nG g:=rfl;rw[e,List.append_nil];have e2:aF (ae N f) ([s]++x.slot++nG g)=aF (ae N f) [s]++aF (ae N f) x.slot++aF (ae N f) (nG g):=by simp[aF]
  rw[e2,bz _ hN,cL,hxs,hg,hs];rfl
 have hi:aO ⟨d,.app str sz bytes (.t s) x,g,p,false⟩ (ae N f) H=[b]:=by
  rw[aO,hsl];exact pS hH rfl rfl
 refine⟨?_,hi⟩;have es:X.ev ((aS (AOp.slots ⟨d,.app str sz bytes (.t s) x,g,p,false⟩) (ae N f)).map (V.ren (aK [b]))) (.t s)=some (.one (.sl 0 z 0 n)):=by
  simp only[X.ev,List.getElem?_map];rw[aY (by simp[AOp.slots,A.xs,X.slot]),bI hN,hs]
  simp[V.ren,L.ren,ay]
 have ex:X.ev ((aS (AOp.slots ⟨d,.app str sz bytes (.t s) x,g,p,false⟩) (ae N f)).map (V.ren (aK [b]))) x=some (.one xv):=by
  cases x with
  | t y =>
   simp only[X.ev] at hx;simp only[X.ev,List.getElem?_map];rw[aY (by simp[AOp.slots,A.xs,X.slot]),hx]
   simp only[Option.map_some,V.pure_ren (V.pure_of (v:=.one xv) hp)]
  | c v=>exact hx
 have hc:ax H [b]=[.arr z' rows fz]:=by
  simp only[ax,List.map_cons,List.map_nil,List.getD,hH,Option.getD_some,Box.ren]
 have hrow:∀ H2:Hp,bQ H2 sz xv=bQ [] sz xv:=fun H2=>jc hp
 have es0:X.ev (ae N f) (.t s)=some (.one (.sl b z 0 n)):=by rw[pI hN,hs]
 simp only[aW,hi,hc,A.run,es,ex,es0,hx,hrow,List.getElem?_cons_zero,hH];cases str with
 | false =>
  simp only[cond_false];cases bQ [] sz xv with
  | none=>rfl
  | some news =>
   simp only;by_cases h:((z'=sz∨(z'=0∧sz=1))∧n=rows.length∧(rows.length+news.length)*bytes<=140737488355328∧rows.length+news.length<=9223372036854775807∧aQ sz news=true)
   ·simp only[if_pos h];simp[V.ren,L.ren,bE,Box.ren,bB]
   ·simp only[if_neg h];by_cases h2:((z'=sz∨(z'=0∧sz=1))∧n+news.length<=rows.length∧fz<=n∧aQ sz news=true)
    ·simp only[if_pos h2];simp[V.ren,L.ren,bE,Box.ren,bB]
    ·simp only[if_neg h2]
 | true =>
  simp only[cond_true];cases xv with
  | d x =>
   cases x with
   | s l =>
    simp only;by_cases h:((z'=sz∨(z'=0∧sz=1))∧n=rows.length∧(rows.length+(aD l).length)*bytes<=140737488355328∧rows.length+(aD l).length<=9223372036854775807∧aQ sz (aD l)=true)
    ·simp only[if_pos h];simp[V.ren,L.ren,bE,Box.ren,bB]
    ·simp only[if_neg h];by_cases h2:((z'=sz∨(z'=0∧sz=1))∧n+(aD l).length<=rows.length∧fz<=n∧aQ sz (aD l)=true)
     ·simp only[if_pos h2];simp[V.ren,L.ren,bE,Box.ren,bB]
     ·simp only[if_neg h2]
   | _=>rfl
  | _=>rfl
theorem D8 {φ:bL} {d:Option Nat} {g:Option (Nat × Bool)} {p:List Nat} {sz bytes s b z n z' fz N y b2 z2 o2 n2 z3 fz2:Nat} {rows rows2:List (List D)} {f:Fn} {H:Hp} (hN:s<N∧y<N) (hs:f s=.one (.sl b z 0 n)) (hy:f y=.one (.sl b2 z2 o2 n2)) (hb:b≠b2)
  (hg:aF (ae N f) (nG g)=[]) (hH:H[b]?=some (.arr z' rows fz)) (hH2:H[b2]?=some (.arr z3 rows2 fz2)) :
  aW φ ⟨d,.app false sz bytes (.t s) (.t y),g,p,false⟩ (ae N f) H=(A.app false sz bytes (.t s) (.t y)).run φ (ae N f) H∧aO ⟨d,.app false sz bytes (.t s) (.t y),g,p,false⟩ (ae N f) H=[b,b2]:=by
 have hsl:aF (ae N f) (AOp.slots ⟨d,.app false sz bytes (.t s) (.t y),g,p,false⟩)=[b,b2]:=by
  have e:AOp.slots ⟨d,.app false sz bytes (.t s) (.t y),g,p,false⟩=[s,y]++nG g:=rfl;rw[e];have e2:aF (ae N f) ([s,y]++nG g)=aF (ae N f) [s,y]++aF (ae N f) (nG g):=by simp[aF]
  rw[e2,bz _ hN.1,bz _ hN.2,cL,hg,hs,hy];rfl
 have hi:aO ⟨d,.app false sz bytes (.t s) (.t y),g,p,false⟩ (ae N f) H=[b,b2]:=by
  rw[aO,hsl];exact zq hb hH rfl rfl hH2 rfl rfl
 refine⟨?_,hi⟩;have es:X.ev ((aS (AOp.slots ⟨d,.app false sz bytes (.t s) (.t y),g,p,false⟩) (ae N f)).map (V.ren (aK [b,b2]))) (.t s)=some (.one (.sl 0 z 0 n)):=by
  simp only[X.ev,List.getElem?_map];rw[aY (by simp[AOp.slots,A.xs,X.slot]),bI hN.1,hs]
  simp[V.ren,L.ren,ay]
 have ex:X.ev ((aS (AOp.slots ⟨d,.app false sz bytes (.t s) (.t y),g,p,false⟩) (ae N f)).map (V.ren (aK [b,b2]))) (.t y)=some (.one (.sl 1 z2 o2 n2)):=by
  simp only[X.ev,List.getElem?_map];rw[aY (by simp[AOp.slots,A.xs,X.slot]),bI hN.2,hy]
  simp[V.ren,L.ren,ay,hb]
 have hc:ax H [b,b2]=[.arr z' rows fz,.arr z3 rows2 fz2]:=by
  simp only[ax,List.map_cons,List.map_nil,List.getD,hH,hH2,Option.getD_some,Box.ren]
 have es0:X.ev (ae N f) (.t s)=some (.one (.sl b z 0 n)):=by rw[pI hN.1,hs]
 have ex0:X.ev (ae N f) (.t y)=some (.one (.sl b2 z2 o2 n2)):=by rw[pI hN.2,hy]
 simp only[aW,hi,hc,A.run,es,ex,es0,ex0,bQ,List.getElem?_cons_zero,List.getElem?_cons_succ,hH,hH2,cond_false];have e2:(H.set b Box.dead).set b2 (Box.arr z3 rows2 fz2)=H.set b Box.dead:=by
  apply List.ext_getElem?;intro k;by_cases hk:b2=k
  ·subst hk;have hlt:=(List.getElem?_eq_some_iff.1 hH2).1;rw[List.getElem?_set_self (by simpa using hlt),List.getElem?_set_ne hb,hH2]
  ·rw[List.getElem?_set_ne hk]
 by_cases h0:(z3=sz∨(z3=0∧sz=1)∨rows2=[])∧o2+n2<=rows2.length
 ·simp only[if_pos h0];by_cases h:((z'=sz∨(z'=0∧sz=1))∧n=rows.length∧(rows.length+((rows2.drop o2).take n2).length)*bytes<=140737488355328∧rows.length+((rows2.drop o2).take n2).length<=9223372036854775807∧aQ sz ((rows2.drop o2).take n2)=true)
  ·simp only[if_pos h];simp[V.ren,L.ren,bE,Box.ren,bB,e2]
  ·simp only[if_neg h];by_cases h2:((z'=sz∨(z'=0∧sz=1))∧n+((rows2.drop o2).take n2).length<=rows.length∧fz<=n∧aQ sz ((rows2.drop o2).take n2)=true)
   ·simp only[if_pos h2];simp[V.ren,L.ren,bE,Box.ren,bB,e2]
   ·simp only[if_neg h2]
 ·simp only[if_neg h0]
theorem BS {φ:bL} {d:Option Nat} {g:Option (Nat × Bool)} {p:List Nat} {sz bytes s b z n z' fz N y b2 z2 o2 n2 z3 fz2:Nat} {rows rows2:List (List D)} {f:Fn} {H:Hp} (hN:s<N∧y<N) (hs:f s=.one (.sl b z 0 n)) (hy:f y=.one (.sl b2 z2 o2 n2)) (hb:b≠b2)
  (hg:aF (ae N f) (nG g)=[]) (hH:H[b]?=some (.arr z' rows fz)) (hH2:H[b2]?=some (.arr z3 rows2 fz2)) :
  aW φ ⟨d,.app true sz bytes (.t s) (.t y),g,p,false⟩ (ae N f) H=(A.app true sz bytes (.t s) (.t y)).run φ (ae N f) H:=by
 have hsl:aF (ae N f) (AOp.slots ⟨d,.app true sz bytes (.t s) (.t y),g,p,false⟩)=[b,b2]:=by
  have e:AOp.slots ⟨d,.app true sz bytes (.t s) (.t y),g,p,false⟩=[s,y]++nG g:=rfl;rw[e];have e2:aF (ae N f) ([s,y]++nG g)=aF (ae N f) [s,y]++aF (ae N f) (nG g):=by simp[aF]
  rw[e2,bz _ hN.1,bz _ hN.2,cL,hg,hs,hy];rfl
 have hi:aO ⟨d,.app true sz bytes (.t s) (.t y),g,p,false⟩ (ae N f) H=[b,b2]:=by
  rw[aO,hsl];exact zq hb hH rfl rfl hH2 rfl rfl
 have es:X.ev ((aS (AOp.slots ⟨d,.app true sz bytes (.t s) (.t y),g,p,false⟩) (ae N f)).map (V.ren (aK [b,b2]))) (.t s)=some (.one (.sl 0 z 0 n)):=by
  simp only[X.ev,List.getElem?_map];rw[aY (by simp[AOp.slots,A.xs,X.slot]),bI hN.1,hs]
  simp[V.ren,L.ren,ay]
 have ex:X.ev ((aS (AOp.slots ⟨d,.app true sz bytes (.t s) (.t y),g,p,false⟩) (ae N f)).map (V.ren (aK [b,b2]))) (.t y)=some (.one (.sl 1 z2 o2 n2)):=by
  simp only[X.ev,List.getElem?_map];rw[aY (by simp[AOp.slots,A.xs,X.slot]),bI hN.2,hy]
  simp[V.ren,L.ren,ay,hb]
 have es0:X.ev (ae N f) (.t s)=some (.one (.sl b z 0 n)):=by rw[pI hN.1,hs]
 have ex0:X.ev (ae N f) (.t y)=some (.one (.sl b2 z2 o2 n2)):=by rw[pI hN.2,hy]
 simp only[aW,hi,A.run,es,ex,es0,ex0,cond_true]
theorem Gw (o:AOp) (fr:Fr) (H H1:Hp):touch 0 o fr H H1=⟨[],true,[]⟩:=rfl
theorem Ht (o:AOp) (fr:Fr) (H H1:Hp):touch 1 o fr H H1=⟨aF fr o.slots,true,[]⟩:=rfl
theorem HF (d:Option Nat) (a:A) (g:Option (Nat × Bool)) (p:List Nat) (z:Bool) (fr:Fr) (H H1:Hp):touch 2 ⟨d,a,g,p,z⟩ fr H H1=⟨aO ⟨d,a,g,p,z⟩ fr H,Iz a.isN H H1,List.range' H.length (H1.length-H.length)⟩:=rfl
theorem K7 (H H1:Hp):Iz false H H1=false:=rfl
theorem Ke (H H1:Hp) (h:H1.take H.length=H):Iz true H H1=true:=by simp[Iz,h]
theorem EC (d:Option Nat) (a:A) (g:Option (Nat × Bool)) (p:List Nat) (z:Bool):AOp.slots ⟨d,a,g,p,z⟩=a.xs.flatMap X.slot++nG g:=rfl
theorem Cz:nG none=[]:=rfl
theorem Dl (t:Nat) (w:Bool):nG (some (t,w))=[t]:=rfl
theorem Jm {α:Type} {φ:bL} {m:Nat} {K:Ex->Fr->Hp->Option α} {fr:Fr} {H:Hp} {st:List KI} {o:AOp} {e:Log} {r:List AOp} {lg lg':List Log} (h:Cn o e lg=true):MD φ m K (Cn o e lg) r lg' fr H st=qu φ m K r lg' fr H st:=by rw[h];rfl
def ef (φ:bL) (o:AOp) (fr:Fr) (H:Hp):Option (V × Hp):=aW φ o fr H
theorem pk {ids:List Nat} {q d:Nat}:∀ {l:List Nat},(∀ r∈l,r∈ids)->∃ js,je (aK ids) l=some js∧je (bE ids q d) js=some l
 | [],_=>⟨[],rfl,rfl⟩
 | i::r,h=>by
  obtain⟨js,h1,h2⟩:=pk (q:=q) (d:=d) (l:=r) fun k hk=>h k (List.mem_cons_of_mem _ hk)
  obtain⟨j,hj⟩:∃ j,aK ids i=some j:=by
   cases hp:aK ids i with
   | some j=>exact⟨j,rfl⟩
   | none =>
    simp only[aK,List.findIdx?_eq_none_iff] at hp;have:=hp i (h i List.mem_cons_self);simp at this
  have hb:bE ids q d j=some i:=by
   have:=jO hj;simp only[bE];rw[if_pos (List.getElem?_eq_some_iff.1 this).1,this]
  exact⟨j::js,by simp only[je,hj,h1],by simp only[je,hb,h2]⟩
theorem dC {ids:List Nat} {q d i:Nat} (h:i∈ids):∃ j,aK ids i=some j∧bE ids q d j=some i∧ids[j]?=some i:=by
 cases hp:aK ids i with
 | some j =>
  have:=jO hp;refine⟨j,rfl,?_,this⟩;simp only[bE];rw[if_pos (List.getElem?_eq_some_iff.1 this).1,this]
 | none =>
  simp only[aK,List.findIdx?_eq_none_iff] at hp;have:=hp i h;simp at this
theorem L.ren_back {ids:List Nat} {q d:Nat} {x:L} (h:∀ r∈x.refs,r∈ids):(x.ren (aK ids)).ren (bE ids q d)=x:=by
 cases x with
 | p i o=>obtain⟨j,h1,h2,_⟩:=dC (q:=q) (d:=d) (h i (by simp[L.refs]));simp only[L.ren,h1,h2]
 | ap i k o=>obtain⟨j,h1,h2,_⟩:=dC (q:=q) (d:=d) (h i (by simp[L.refs]));simp only[L.ren,h1,h2]
 | sl i z o n=>obtain⟨j,h1,h2,_⟩:=dC (q:=q) (d:=d) (h i (by simp[L.refs]));simp only[L.ren,h1,h2]
 | f fn caps=>obtain⟨js,h1,h2⟩:=pk (q:=q) (d:=d) (l:=caps) h;simp only[L.ren,h1,h2]
 | y i k=>obtain⟨j,h1,h2,_⟩:=dC (q:=q) (d:=d) (h i (by simp[L.refs]));simp only[L.ren,h1,h2]
 | sp i k=>obtain⟨j,h1,h2,_⟩:=dC (q:=q) (d:=d) (h i (by simp[L.refs]));simp only[L.ren,h1,h2]
 | m i=>obtain⟨j,h1,h2,_⟩:=dC (q:=q) (d:=d) (h i (by simp[L.refs]));simp only[L.ren,h1,h2]
 | _=>rfl
theorem Ls.ren_back {ids:List Nat} {q d:Nat}:∀ {xs:List L},(∀ r∈xs.flatMap L.refs,r∈ids)->(xs.map (L.ren (aK ids))).map (L.ren (bE ids q d))=xs
 | [],_=>rfl
 | x::r,h=>by
  simp only[List.map_cons];rw[L.ren_back fun k hk=>h k (by rw[List.flatMap_cons];exact List.mem_append_left _ hk),Ls.ren_back fun k hk=>h k (by rw[List.flatMap_cons];exact List.mem_append_right _ hk)]
theorem Box.ren_back {ids:List Nat} {q d:Nat} {b:Box} (h:∀ r∈b.refs,r∈ids):(b.ren (aK ids)).ren (bE ids q d)=b:=by
 cases b with
 | cells xs=>simp only[Box.ren,Ls.ren_back h]
 | _=>rfl
theorem V.cs_ren (ρ:Nat->Option Nat) (v:V):(v.ren ρ).cs=v.cs.map fun xs=>xs.map (L.ren ρ):=by cases v <;> rfl
def M9 (n:Nat) (av:V) (cs:Option (List L)) (H:Hp) (ids:List Nat) (alt:Option (V × Hp)):Option (V × Hp):=match av,cs with
 | .one (.p i off),some ys=>(match H[i]? with
  | some (.cells xs)=>bif ids.contains i && ((ys.flatMap L.refs).all ids.contains && (ids.all (fun k=>(match H[k]? with|some b=>b.refs|none=>[]).all ids.contains) && (decide (ys.length=n) && decide (off+n<=xs.length)))) then some (.tup [],H.set i (.cells (xs.take off++ys++xs.drop (off+n)))) else alt
  | _=>alt)
 | _,_=>alt
theorem Km {n i off:Nat} {ys:List L} {H:Hp} {ids:List Nat} {alt:Option (V × Hp)}:M9 n (.one (.p i off)) (some ys) H ids alt=(match H[i]? with
  | some (.cells xs)=>bif ids.contains i && ((ys.flatMap L.refs).all ids.contains && (ids.all (fun k=>(match H[k]? with|some b=>b.refs|none=>[]).all ids.contains) && (decide (ys.length=n) && decide (off+n<=xs.length)))) then some (.tup [],H.set i (.cells (xs.take off++ys++xs.drop (off+n)))) else alt
  | _=>alt):=rfl
theorem Dm {φ:bL} {d:Option Nat} {g:Option (Nat × Bool)} {p:List Nat} {n a v N:Nat} {f:Fn} {H:Hp} (hN:a<N∧v<N) :
  aW φ ⟨d,.st n (.t a) (.t v),g,p,false⟩ (ae N f) H=M9 n (f a) (f v).cs H (aL H (aF (ae N f) ([a,v]++nG g))) (ef φ ⟨d,.st n (.t a) (.t v),g,p,false⟩ (ae N f) H):=by
 unfold M9;split
 ·rename_i i off ys ha hv;split
  ·rename_i xs hb;generalize hc:(List.contains _ i && _)=cc;cases cc with
   | false=>rfl
   | true =>
    simp only[Bool.and_eq_true,decide_eq_true_eq,List.all_eq_true,List.contains_iff_mem] at hc;obtain⟨c1,c2,c3,c4,c5⟩:=hc;have hids:aO ⟨d,.st n (.t a) (.t v),g,p,false⟩ (ae N f) H=aL H (aF (ae N f) ([a,v]++nG g)):=rfl;obtain⟨hn,hal⟩:=fF H (aF (ae N f) ([a,v]++nG g));simp only[aW,hids,cond_true];generalize aL H (aF (ae N f) ([a,v]++nG g))=ids at *;obtain⟨j,j1,j2,j3⟩:=dC (q:=H.length) (d:=ids.length-ids.length) c1;have hjl:j<ids.length:=(List.getElem?_eq_some_iff.1 j3).1;have ea:X.ev ((aS (AOp.slots ⟨d,.st n (.t a) (.t v),g,p,false⟩) (ae N f)).map (V.ren (aK ids))) (.t a)=some (.one (.p j off)):=by
     simp only[X.ev,List.getElem?_map];rw[aY (by simp[AOp.slots,A.xs,X.slot]),bI hN.1,ha]
     simp only[Option.map_some,V.ren,L.ren,j1]
    have ev:X.ev ((aS (AOp.slots ⟨d,.st n (.t a) (.t v),g,p,false⟩) (ae N f)).map (V.ren (aK ids))) (.t v)=some ((f v).ren (aK ids)):=by
     simp only[X.ev,List.getElem?_map];rw[aY (by simp[AOp.slots,A.xs,X.slot]),bI hN.2]
     rfl
    have hcj:(ax H ids)[j]?=some (.cells (xs.map (L.ren (aK ids)))):=by
     simp only[ax,List.getElem?_map,j3,Option.map_some,List.getD,hb,Option.getD_some,Box.ren]
    have hrun:(A.st n (.t a) (.t v)).run φ ((aS (AOp.slots ⟨d,.st n (.t a) (.t v),g,p,false⟩) (ae N f)).map (V.ren (aK ids))) (ax H ids)=some (.tup [],(ax H ids).set j (.cells ((xs.map (L.ren (aK ids))).take off++ys.map (L.ren (aK ids))++(xs.map (L.ren (aK ids))).drop (off+n)))):=by
     simp only[A.run,ea,ev,V.cs_ren,hv,Option.map_some,hcj,List.length_map,c4,c5,and_self,if_true]
    have hcl:(ax H ids).length=ids.length:=by simp[ax]
    simp only[hrun,List.length_set,hcl,V.ren,List.map_nil,Option.some.injEq,Prod.mk.injEq,true_and];have hdr:List.drop ids.length ((ax H ids).set j (.cells ((xs.map (L.ren (aK ids))).take off++ys.map (L.ren (aK ids))++(xs.map (L.ren (aK ids))).drop (off+n))))=[]:=List.drop_eq_nil_of_le (by simp[hcl])
    have htk:List.take ids.length ((ax H ids).set j (.cells ((xs.map (L.ren (aK ids))).take off++ys.map (L.ren (aK ids))++(xs.map (L.ren (aK ids))).drop (off+n))))=(ax H ids).set j (.cells ((xs.map (L.ren (aK ids))).take off++ys.map (L.ren (aK ids))++(xs.map (L.ren (aK ids))).drop (off+n))):=List.take_of_length_le (by simp[hcl])
    rw[hdr,htk,List.map_nil,List.append_nil];have hxs:∀ r∈xs.flatMap L.refs,r∈ids:=fun r hr=>c3 i c1 r (by rw[hb];exact hr)
    apply List.ext_getElem?;intro k;by_cases hk:k∈ids
    ·obtain⟨b0,hb0,_⟩:=hal k hk;have hkl:=(List.getElem?_eq_some_iff.1 hb0).1;obtain⟨t,ht,rfl⟩:=List.getElem_of_mem hk;rw[jj ids H _ t ids[t] hn (by simp[hcl]) (by simp[ht]) hkl,List.getElem?_map]
     by_cases htj:j=t
     ·subst htj;have hi:ids[j]=i:=by
       have:=List.getElem?_eq_getElem ht;rw[j3] at this;exact(Option.some.inj this).symm
      rw[List.getElem?_set_self (by rw[hcl];exact ht),hi,List.getElem?_set_self (by rw[<- hi];exact hkl)]
      simp only[Option.map_some,Box.ren,List.map_append];rw[<- List.map_take,<- List.map_drop,Ls.ren_back (fun r hr=>hxs r (by
        obtain⟨x,hx,hr⟩:=List.mem_flatMap.1 hr;exact List.mem_flatMap.2 ⟨x,List.mem_of_mem_take hx,hr⟩)),Ls.ren_back (fun r hr=>c2 r hr),Ls.ren_back (fun r hr=>hxs r (by
        obtain⟨x,hx,hr⟩:=List.mem_flatMap.1 hr;exact List.mem_flatMap.2 ⟨x,List.mem_of_mem_drop hx,hr⟩))]
     ·have hne:i≠ids[t]:=by
       intro e;exact htj (lL hn j3 (by rw[e];simp[ht]))
      rw[List.getElem?_set_ne htj,List.getElem?_set_ne hne,hb0];simp only[ax,List.getElem?_map,List.getElem?_eq_getElem ht,Option.map_some,List.getD,hb0,Option.getD_some];rw[Box.ren_back (fun r hr=>c3 ids[t] hk r (by rw[hb0];exact hr))]
    ·rw[dS _ _ _ _ hk,List.getElem?_set_ne (fun e=>hk (by rw[<- e];exact c1))]
  ·rfl
 ·rfl
def oX (b:Nat) (xv:V) (H:Hp) (run alt:Option (V × Hp)):Option (V × Hp):=match xv with
 | .one (.sl b2 _ _ _)=>(match H[b2]? with|some (.arr _ _ _)=>if b=b2 then alt else run|_=>alt)
 | .one (.d _)=>run | .one .ns=>run | .one (.cl _)=>run | .one (.nn _)=>run
 | _=>alt
def Jg (g:List Nat) (sv xv:V) (H:Hp) (run alt:Option (V × Hp)):Option (V × Hp):=match g with
 | []=>(match sv with
  | .one (.sl b _ 0 _)=>(match H[b]? with|some (.arr _ _ _)=>oX b xv H run alt|_=>alt)
  | _=>alt)
 | _=>alt
theorem Er {b b2 z o n:Nat} {H:Hp} {run alt:Option (V × Hp)}:oX b (.one (.sl b2 z o n)) H run alt=match H[b2]? with|some (.arr _ _ _)=>if b=b2 then alt else run|_=>alt:=rfl
theorem Ho {b:Nat} {x:D} {H:Hp} {run alt:Option (V × Hp)}:oX b (.one (.d x)) H run alt=run:=rfl
theorem Da {b:Nat} {H:Hp} {run alt:Option (V × Hp)}:oX b (.one .ns) H run alt=run:=rfl
theorem DF {b:Nat} {x:List (List D)} {H:Hp} {run alt:Option (V × Hp)}:oX b (.one (.cl x)) H run alt=run:=rfl
theorem Fb {b:Nat} {x:List (List D)} {H:Hp} {run alt:Option (V × Hp)}:oX b (.one (.nn x)) H run alt=run:=rfl
theorem Ft {b z n:Nat} {xv:V} {H:Hp} {run alt:Option (V × Hp)}:Jg [] (.one (.sl b z 0 n)) xv H run alt=match H[b]? with|some (.arr _ _ _)=>oX b xv H run alt|_=>alt:=rfl
theorem xF {φ:bL} {d:Option Nat} {g:Option (Nat × Bool)} {p:List Nat} {str:Bool} {sz bytes s y N:Nat} {f:Fn} {H:Hp} (hN:s<N∧y<N) :
  aW φ ⟨d,.app str sz bytes (.t s) (.t y),g,p,false⟩ (ae N f) H=Jg (aF (ae N f) (nG g)) (f s) (f y) H ((A.app str sz bytes (.t s) (.t y)).run φ (ae N f) H) (ef φ ⟨d,.app str sz bytes (.t s) (.t y),g,p,false⟩ (ae N f) H):=by
 unfold Jg;split
 ·rename_i hg;split
  ·rename_i hs;split
   ·rename_i hb;have dat:∀ xv,f y=.one xv->xv.refs=[]->aW φ ⟨d,.app str sz bytes (.t s) (.t y),g,p,false⟩ (ae N f) H=(A.app str sz bytes (.t s) (.t y)).run φ (ae N f) H:=fun xv hy hr=>(HL hN.1 hs (by rw[pI hN.2,hy]) hr hg hb).1
    unfold oX;split
    ·rename_i hy;split
     ·rename_i hb2;split
      ·rfl
      ·rename_i hne;cases str with
       | false=>exact(D8 hN hs hy hne hg hb hb2).1
       | true=>exact BS hN hs hy hne hg hb hb2
     ·rfl
    ·rename_i hy;exact dat _ hy rfl
    ·rename_i hy;exact dat _ hy rfl
    ·rename_i hy;exact dat _ hy rfl
    ·rename_i hy;exact dat _ hy rfl
    ·rfl
   ·rfl
  ·rfl
 ·rfl
def ow (x:Option Box) (H:Hp) (n i:Nat) (todo seen:List Nat):List Nat:=match x with
 | some (.cells xs)=>bif seen.contains i then aI H n todo seen else aI H n (xs.flatMap L.refs++todo) (seen++[i])
 | some (.arr _ _ _)=>bif seen.contains i then aI H n todo seen else aI H n todo (seen++[i])
 | some (.mp _)=>bif seen.contains i then aI H n todo seen else aI H n todo (seen++[i])
 | _=>aI H n todo seen
theorem ue {xs:List L} {H:Hp} {n i:Nat} {todo seen:List Nat}:ow (some (.cells xs)) H n i todo seen=bif seen.contains i then aI H n todo seen else aI H n (xs.flatMap L.refs++todo) (seen++[i]):=rfl
theorem yk {sz fz:Nat} {rows:List (List D)} {H:Hp} {n i:Nat} {todo seen:List Nat}:ow (some (.arr sz rows fz)) H n i todo seen=bif seen.contains i then aI H n todo seen else aI H n todo (seen++[i]):=rfl
theorem AP {rows:List (List UInt8 × Bool)} {H:Hp} {n i:Nat} {todo seen:List Nat}:ow (some (.mp rows)) H n i todo seen=bif seen.contains i then aI H n todo seen else aI H n todo (seen++[i]):=rfl
theorem wK {H:Hp} {n i:Nat} {todo seen:List Nat}:ow (some .dead) H n i todo seen=aI H n todo seen:=rfl
theorem FV (H:Hp) (n i:Nat) (todo seen:List Nat):aI H (n+1) (i::todo) seen=ow H[i]? H n i todo seen:=by
 unfold ow;split
 ·rename_i xs h;rw[la H n i todo seen h];cases seen.contains i <;> rfl
 ·rename_i h;rw[oM H n i todo seen h];cases seen.contains i <;> rfl
 ·rename_i h;rw[rK H n i todo seen h];cases seen.contains i <;> rfl
 ·rename_i h1 h2 h3;cases hb:H[i]? with
  | none=>simp only[aI,hb]
  | some b =>
   cases b with
   | dead=>simp only[aI,hb]
   | cells xs=>exact absurd hb (h1 xs)
   | arr a b c=>exact absurd hb (h2 a b c)
   | mp a=>exact absurd hb (h3 a)
theorem Lf (H:Hp) (l:List Nat):aL H l=aI H 1000 l []:=rfl
theorem r9 {φ:bL} {d:Option Nat} {p:List Nat} {zs:List L} {fr:Fr} {H:Hp}:aW φ ⟨d,.alloc zs,none,p,false⟩ fr H=dm H (some (.one (.p 0 0),[.cells zs])):=iso_pure rfl
theorem t8 {φ:bL} {d:Option Nat} {p:List Nat} {sz:Nat} {fr:Fr} {H:Hp}:aW φ ⟨d,.own sz,none,p,false⟩ fr H=dm H (some (.one (.sl 0 sz 0 0),[.arr sz [] 0])):=iso_pure rfl
theorem ig {φ:bL} {o:AOp} {fr:Fr} {H:Hp}:aW φ o fr H=match aF fr o.slots with|[]=>dm H (o.a.run φ fr [])|_=>ef φ o fr H:=by
 split
 ·rename_i h;exact iso_pure h
 ·rfl
theorem sx {φ:bL} {d:Option Nat} {g:Option (Nat × Bool)} {p:List Nat} {f:FuncId} {xs:List X} {fr:Fr} {H:Hp}:aW φ ⟨d,.call f xs,g,p,false⟩ fr H=match aF fr (xs.flatMap X.slot++nG g) with|[]=>dm H ((A.call f xs).run φ fr [])|_=>ef φ ⟨d,.call f xs,g,p,false⟩ fr H:=ig
theorem ua {φ:bL} {d:Option Nat} {g:Option (Nat × Bool)} {p:List Nat} {sz:Nat} {z:List (List D)} {ps:List (Nat × X)} {fr:Fr} {H:Hp}:aW φ ⟨d,.bsl sz z ps,g,p,false⟩ fr H=match aF fr ((ps.map fun q=>q.2).flatMap X.slot++nG g) with|[]=>dm H ((A.bsl sz z ps).run φ fr [])|_=>ef φ ⟨d,.bsl sz z ps,g,p,false⟩ fr H:=ig
theorem tM {φ:bL} {d:Option Nat} {g:Option (Nat × Bool)} {p:List Nat} {sz b:Nat} {z:List D} {l c:X} {fr:Fr} {H:Hp}:aW φ ⟨d,.mks sz b z l c,g,p,false⟩ fr H=match aF fr (l.slot++(c.slot++[])++nG g) with|[]=>dm H ((A.mks sz b z l c).run φ fr [])|_=>ef φ ⟨d,.mks sz b z l c,g,p,false⟩ fr H:=ig
theorem uY {φ:bL} {d:Option Nat} {g:Option (Nat × Bool)} {p:List Nat} {x:X} {fr:Fr} {H:Hp}:aW φ ⟨d,.s2b x,g,p,false⟩ fr H=match aF fr (x.slot++[]++nG g) with|[]=>dm H ((A.s2b x).run φ fr [])|_=>ef φ ⟨d,.s2b x,g,p,false⟩ fr H:=ig
theorem uO {φ:bL} {d:Option Nat} {g:Option (Nat × Bool)} {p:List Nat} {x:X} {fr:Fr} {H:Hp}:aW φ ⟨d,.box x,g,p,false⟩ fr H=match aF fr (x.slot++[]++nG g) with|[]=>dm H ((A.box x).run φ fr [])|_=>ef φ ⟨d,.box x,g,p,false⟩ fr H:=ig
theorem Iv (n:Nat):X.slot (.t n)=[n]:=rfl
theorem H6 (v:V):X.slot (.c v)=[]:=rfl
theorem Ef (o:AOp) (fr:Fr) (H:Hp):aO o fr H=aL H (aF fr o.slots):=rfl
theorem GD (n:Nat):List.range' n 0=[]:=rfl
theorem FS (n:Nat):List.range' n 1=[n]:=rfl
theorem Gn (n:Nat):List.range' n 2=[n,n+1]:=rfl
theorem EQ (x:L):V.refs (.one x)=x.refs:=rfl
theorem En (xs:List L):V.refs (.agg xs)=xs.flatMap L.refs:=rfl
theorem E1 (xs:List (Bool × List L)):V.refs (.tup xs)=xs.flatMap fun c=>c.2.flatMap L.refs:=rfl
theorem Di:V.refs .any=[]:=rfl
theorem Jx (x:D):L.refs (.d x)=[]:=rfl
theorem IA (i o:Nat):L.refs (.p i o)=[i]:=rfl
theorem HD (i k o:Nat):L.refs (.ap i k o)=[i]:=rfl
theorem Hm (i z o n:Nat):L.refs (.sl i z o n)=[i]:=rfl
theorem GA (x:List D):L.refs (.ip x)=[]:=rfl
theorem GQ (x:List (List D)):L.refs (.cl x)=[]:=rfl
theorem GB (x:List (List D)):L.refs (.nn x)=[]:=rfl
theorem G5:L.refs .ns=[]:=rfl
theorem FI:L.refs .np=[]:=rfl
theorem HH:L.refs .nf=[]:=rfl
theorem Jk (g:FuncId) (l:List Nat):L.refs (.f g l)=l:=rfl
theorem DO (xs:List D):(xs.map L.d).flatMap L.refs=[]:=Ls.pure_refs (Ls.pure_map xs)
theorem sA (xs:List L):Box.refs (.cells xs)=xs.flatMap L.refs:=rfl
theorem vt (sz:Nat) (rows:List (List D)) (fz:Nat):Box.refs (.arr sz rows fz)=[]:=rfl
theorem xy (rows:List (List UInt8 × Bool)):Box.refs (.mp rows)=[]:=rfl
theorem IP (i:Nat):L.refs (.m i)=[i]:=rfl
theorem G6:L.refs .nm=[]:=rfl
theorem uU:Box.refs .dead=[]:=rfl
theorem t9:([]:List Nat).isEmpty=true:=rfl
theorem sE (a:Nat) (l:List Nat):(a::l).isEmpty=false:=rfl
def bg:=And.intro @sA (And.intro @vt (And.intro @uU (And.intro @go_draw (And.intro @C1 (And.intro @AR (And.intro @DM (And.intro @Ch (And.intro @Kt (And.intro @KM (And.intro @K5 (And.intro @Dq (And.intro @Jm (And.intro @Lf (And.intro @oF (And.intro @FV (And.intro @ue (And.intro @yk (And.intro @Km (And.intro @wK
 (And.intro @Dm (And.intro @xF (And.intro @Er (And.intro @Ho (And.intro @Da (And.intro @DF (And.intro @Fb (And.intro @Ft (And.intro @r9 (And.intro @t8 (And.intro @sx (And.intro @ua (And.intro @tM (And.intro @uY (And.intro @uO (And.intro @xz (And.intro @uK (And.intro @xK (And.intro @wE (And.intro @cL (And.intro @bz (And.intro @Nh (And.intro @Na
 (And.intro @Gw (And.intro @Ht (And.intro @HF (And.intro @K7 (And.intro @Ke (And.intro @Ef (And.intro @EC (And.intro @Cz (And.intro @Dl (And.intro @Iv (And.intro @H6 (And.intro @GD (And.intro @FS (And.intro @Gn (And.intro @EQ (And.intro @En (And.intro @E1 (And.intro @Di (And.intro @Jx (And.intro @IA (And.intro @HD (And.intro @Hm (And.intro @GA (And.intro @GQ (And.intro @GB (And.intro @G5 (And.intro @FI (And.intro @HH (And.intro @Jk (And.intro @DO (And.intro @t9 (And.intro @sE (And.intro @Nat.sub_self (And.intro @xy (And.intro @IP (And.intro @G6 (And.intro @AP (And.intro @List.flatMap_append.{0,0} @List.map_append.{0,0}))))))))))))))))))))))))))))))))))))))))))))))))))))))))))))))))))))))))))))))))
theorem aP {φ:bL} {f:FuncId} {args args':List V} {H H' H1 H2:Hp} {ids:List Nat} {r r':V} (hi:aL H (args.flatMap V.refs)=ids) (ha:args.map (V.ren (aK ids))=args') (hH:ax H ids=H')
  (hr:φ f args' H'=some (r,H1)) (he:(r.ren (fun j=>if j<ids.length then ids[j]? else some (H.length+(j-ids.length))),bB H ids ((H1.take ids.length).map (Box.ren (fun j=>if j<ids.length then ids[j]? else some (H.length+(j-ids.length)))))++(H1.drop ids.length).map (Box.ren (fun j=>if j<ids.length then ids[j]? else some (H.length+(j-ids.length)))))=(r',H2)) :
  az φ f args H=some (r',H2):=by
 subst hi;subst ha;subst hH;simp only[az,hr];rw[he]
theorem xm {m N:Nat} {lv:List Nat} {vals:List V} {f:Fn} {H:Hp} (hs:(du lv && lv.all (fun i=>Nat.blt i N))=true) (h:iK lv vals f) :
  canon m lv (ae N f) H=(ae N (cr lv (vals.map (V.ren (aK (oJ m H (vals.flatMap V.refs)))))),ax H (oJ m H (vals.flatMap V.refs))):=by
 simp only[Bool.and_eq_true] at hs;have hr:(ae N (kQ lv f)).flatMap V.refs=vals.flatMap V.refs:=by
  rw[gW h];have:=ot lv vals 0 N hs.1 (fun _ _=>Nat.zero_le _) (fun i hi=>by have:=(List.all_eq_true.1 hs.2) i hi;simpa using this) (oG h)
  rw[<- List.range_eq_range'] at this;exact this
 simp only[canon,jU,hr];refine Prod.ext ?_ rfl;simp only[ae,List.map_map,gW h];apply List.map_congr_left;intro n _;exact r8 _ _ _ _
theorem aE {α σ:Type} {φ:bL} {m N:Nat} {lv:List Nat} {c:AC} {K:Ex->Fr->Hp->Option α} {st:List KI} (μ:σ->Nat) (P:σ->Prop) (vals:σ->List V) (heap:σ->Hp) (Z:σ->α)
  (hs:∀ s,P s->∀ R:Fr->Hp->Option α,(∀ s',μ s'<μ s->P s'->∀ f' H',canon m lv (ae N f') H'=(ae N (cr lv (vals s')),heap s')->R (ae N f') H'=some (Z s')) ->
   iF φ m (KL R (KS φ m K st)) c (ae N (cr lv (vals s))) (heap s) []=some (Z s)) :
  ∀ s,P s->∀ f H,canon m lv (ae N f) H=(ae N (cr lv (vals s)),heap s)->iF φ m K (.loop lv c) (ae N f) H st=some (Z s):=by
 intro s hP f H hc;refine oK (m:=m) (N:=N) μ (fun s f H=>P s∧canon m lv (ae N f) H=(ae N (cr lv (vals s)),heap s)) Z ?_ s f H ⟨hP,hc⟩
 rintro s f H ⟨hP,hc⟩ R hR;rw[hc];exact hs s hP R (fun s' hlt hP' f' H' hc'=>hR s' f' H' hlt ⟨hP',hc'⟩)
theorem at_headM {m N:Nat} {lv:List Nat} {vals0 vals:List V} {f:Fn} {H H':Hp} {ids:List Nat} (hs:(du lv && lv.all (fun i=>Nat.blt i N))=true) (hv:lv.map f=vals0) (hi:oJ m H (vals0.flatMap V.refs)=ids) (h1:vals0.map (V.ren (aK ids))=vals) (h2:ax H ids=H') :
  canon m lv (ae N f) H=(ae N (cr lv vals),H'):=by
 rw[xm hs (hv ▸ ou lv f),hi,h1,h2]
end Go.Vi
