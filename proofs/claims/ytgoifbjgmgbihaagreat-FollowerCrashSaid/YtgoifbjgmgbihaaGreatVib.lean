import Derived.Test.YtgoifbjgmgbihaaGreatVia
import Derived.Scope
import Derived.RangeFuncRecord
import Derived.LoopNIn
import Derived.IntWalk
set_option linter.unusedSimpArgs false
set_option linter.unusedVariables false
set_option maxRecDepth 20000
set_option maxHeartbeats 16000000
/- An interpreter of values: what it answers the program answers. -/
namespace Go.Vi
set_option linter.unusedSimpArgs false
set_option linter.unusedVariables false
section
variable {P:Program} {mu mu':Mu} {S:St} {TB:Nat->Prop} {w:World} {H:Hp} {fr:Fr} {a:Act}
variable {ρ:Nat->Option Nat}
theorem ptrTo.ren (h:∀ i j,ρ i=some j->mu' j=mu i) {i j off:Nat} {v:Value} (hj:ρ i=some j) (hp:ptrTo mu i off v):ptrTo mu' j off v:=by
 obtain⟨l,B,h1,h2⟩:=hp;exact⟨l,B,by rw[h i j hj];exact h1,h2⟩
theorem sY:∀ {is js:List Nat},lh ρ is=some js->js.length=is.length∧∀ (k j:Nat),js[k]?=some j->∃ i,is[k]?=some i∧ρ i=some j
 | [],js,h=>by cases h;exact⟨rfl,fun k j h=>by simp at h⟩
 | i::is,js,h=>by
  simp only[lh] at h;split at h
  ·rename_i j js' hj hjs;cases h;have ih:=sY hjs;refine⟨by simp[ih.1],fun k q hk=>?_⟩
   cases k with
   | zero=>simp at hk;subst hk;exact⟨i,rfl,hj⟩
   | succ k=>simpa using ih.2 k q (by simpa using hk)
  ·cases h
theorem RelL.ren (h:∀ i j,ρ i=some j->mu' j=mu i) {x:L} {v:Value} (hx:RelL mu S w x v):RelL mu' S w (x.ren ρ) v:=by
 have hfl:=hx.flat;cases x with
 | p i off =>
  simp only[L.ren];split
  ·rename_i j hj;exact ptrTo.ren h hj hx
  ·exact hfl
 | ap i k o =>
  simp only[L.ren];split
  ·rename_i j hj;obtain⟨l,B,h1,h2⟩:=hx;exact⟨l,B,by rw[h i j hj];exact h1,h2⟩
  ·exact hfl
 | y i k =>
  simp only[L.ren];split
  ·rename_i j hj;obtain⟨l,B,h1,h2⟩:=hx;exact⟨l,B,by rw[h i j hj];exact h1,h2⟩
  ·exact hfl
 | sp i n =>
  simp only[L.ren];split
  ·rename_i j hj;obtain⟨l,B,h1,h2⟩:=hx;exact⟨l,B,by rw[h i j hj];exact h1,h2⟩
  ·exact hfl
 | m i =>
  simp only[L.ren];split
  ·rename_i j hj;obtain⟨l,B,h1,h2⟩:=hx;exact⟨l,B,by rw[h i j hj];exact h1,h2⟩
  ·exact hfl
 | nm=>exact hx
 | sl i z off n =>
  simp only[L.ren];split
  ·rename_i j hj;obtain⟨l,h1,h2⟩:=hx;exact⟨l,by rw[h i j hj];exact h1,h2⟩
  ·exact hfl
 | f fn caps =>
  simp only[L.ren];split
  ·rename_i js hjs;obtain⟨vs,h1,h2,h3⟩:=hx;obtain⟨g1,g2⟩:=sY hjs;refine⟨vs,h1,by rw[h2,g1],fun k j hk=>?_⟩
   obtain⟨i,hi,hij⟩:=g2 k j hk;obtain⟨x,hx,hp⟩:=h3 k i hi;exact⟨x,hx,ptrTo.ren h hij hp⟩
  ·exact hfl
 | d x=>exact hx
 | ip cs=>exact hx
 | np=>exact hx
 | nf=>exact hx
 | ns=>exact hx
 | cl rows=>exact hx
 | nn rows=>exact hx
 | u=>exact hx
theorem RelLs.ren (h:∀ i j,ρ i=some j->mu' j=mu i) {xs:List L} {vs:List Value} (hx:RelLs mu S w xs vs):RelLs mu' S w (xs.map (L.ren ρ)) vs:=by
 refine⟨by simp[hx.1],fun j x hj=>?_⟩
 rw[List.getElem?_map,Option.map_eq_some_iff] at hj;obtain⟨y,hy,rfl⟩:=hj;obtain⟨v,hv,hr⟩:=hx.2 j y hy;exact⟨v,hv,hr.ren h⟩
theorem RelV.ren (h:∀ i j,ρ i=some j->mu' j=mu i) {x:V} {v:Value} (hx:RelV mu S w x v):RelV mu' S w (x.ren ρ) v:=by
 cases x with
 | one x=>exact RelL.ren h hx
 | agg xs=>obtain⟨cs,h1,h2⟩:=hx;exact⟨cs,h1,h2.ren h⟩
 | any=>trivial
 | tup xs =>
  obtain⟨vs,h1,h2,h3⟩:=hx;refine⟨vs,h1,by simp[h2],fun j c hj=>?_⟩
  rw[List.getElem?_map,Option.map_eq_some_iff] at hj;obtain⟨d,hd,rfl⟩:=hj;obtain⟨y,hy,hr⟩:=h3 j d hd;refine⟨y,hy,?_⟩;obtain⟨t,xs⟩:=d;cases t with
  | true=>obtain⟨cs,g1,g2⟩:=hr;exact⟨cs,g1,g2.ren h⟩
  | false=>obtain⟨z,g1,g2⟩:=hr;subst g1;exact⟨_,rfl,g2.ren h⟩
theorem RelB.ren {TB':Nat->Prop} {i j:Nat} {b:Box} (h:∀ i j,ρ i=some j->mu' j=mu i) (hij:mu' j=mu i) (hT:∀ l B,alive b=true->mu i=some l->l.blk=some B->¬ TB B->¬ TB' B) (hb:RelB mu S TB w i b):RelB mu' S TB' w j (b.ren ρ):=by
 cases b with
 | dead=>trivial
 | mp rows =>
  obtain⟨l,B,h1,h2,h3,h5,h6⟩:=hb;exact⟨l,B,by rw[hij];exact h1,h2,h3,hT l B rfl h1 h2 h5,h6⟩
 | cells xs =>
  obtain⟨l,B,cur,e,h1,h2,h3,h4,h5,h6⟩:=hb;exact⟨l,B,cur,e,by rw[hij];exact h1,h2,h3,h4.ren h,hT l B rfl h1 h2 h5,h6⟩
 | arr sz rows fz =>
  obtain⟨l,h1,h2,h3,h4,h5,h6⟩:=hb;refine⟨l,by rw[hij];exact h1,h2,h3,h4,h5,?_⟩
  cases hbk:l.blk with
  | none=>rw[hbk] at h6;exact h6
  | some B =>
   rw[hbk] at h6;obtain⟨cur,e,ff,k1,k2,k3,k4,k5,k6,k7,k8⟩:=h6;exact⟨cur,e,ff,k1,k2,k3,k4,k5,k6,hT l B rfl h1 hbk k7,k8⟩
theorem lB (b:Box):alive (b.ren ρ)=alive b:=by cases b <;> rfl
theorem iB (H:Hp):∀ (n:Nat) (todo seen:List Nat),seen.Nodup->(∀ i∈seen,i<H.length)->(aD H n todo seen).Nodup∧(∀ i∈aD H n todo seen,i<H.length)∧∃ l,aD H n todo seen=seen++l∧∀ i∈l,∃ b,H[i]?=some b∧alive b=true
 | 0,todo,seen,h1,h2=>by cases todo <;> exact⟨h1,h2,[],by simp[aD],by simp⟩
 | n+1,[],seen,h1,h2=>⟨h1,h2,[],by simp[aD],by simp⟩
 | n+1,i::todo,seen,h1,h2=>by
  simp only[aD];split
  ·exact iB H n todo seen h1 h2
  ·exact iB H n todo seen h1 h2
  ·rename_i b hne hb;split
   ·exact iB H n todo seen h1 h2
   ·rename_i hc;have hal:alive b=true:=by cases b <;> first|rfl|exact absurd rfl hne
    have:=iB H n (b.refs++todo) (seen++[i]) (by
     rw[List.nodup_append];refine⟨h1,by simp,fun x hx y hy=>?_⟩
     simp at hy;subst hy;intro e;subst e;exact hc (by simpa using hx)) (fun k hk=>by
     rcases List.mem_append.1 hk with h|h
     ·exact h2 k h
     ·simp at h;subst h;exact(List.getElem?_eq_some_iff.1 hb).1)
    obtain⟨g1,g2,l,g3,g4⟩:=this;refine⟨g1,g2,i::l,by rw[g3];simp,fun k hk=>?_⟩
    cases hk with
    | head=>exact⟨b,hb,hal⟩
    | tail _ h=>exact g4 k h
theorem iy (H:Hp) (roots:List Nat):(aI H roots).Nodup∧∀ i∈aI H roots,∃ b,H[i]?=some b∧alive b=true:=by
 obtain⟨h1,_,l,h3,h4⟩:=iB H 1000 roots [] (by simp) (by simp)
 refine⟨h1,fun i hi=>h4 i ?_⟩
 have:aI H roots=l:=by simpa[aI] using h3
 rwa [this] at hi
theorem wI (m:Nat) (H:Hp) (roots:List Nat):(sr m H roots).Nodup∧(∀ i∈sr m H roots,i<H.length)∧∀ i,i<m->i<H.length->(sr m H roots)[i]?=some i:=by
 obtain⟨h1,h2,l,h3,_⟩:=iB H 1000 ((List.range (min m H.length)).flatMap (fun i=>(H.getD i .dead).refs)++roots) (List.range (min m H.length)) List.nodup_range (fun i hi=>by rw[List.mem_range] at hi;omega)
 refine⟨h1,h2,fun i hi hl=>?_⟩
 have:sr m H roots=List.range (min m H.length)++l:=h3;rw[this,List.getElem?_append_left (by simp only[List.length_range];omega),List.getElem?_range (by omega)]
theorem md {ids:List Nat} {i j:Nat} (h:aG ids i=some j):ids[j]?=some i:=by
 unfold aG at h;rw[List.findIdx?_eq_some_iff_getElem] at h;obtain⟨h1,h2,_⟩:=h;rw[List.getElem?_eq_getElem h1];simpa using h2
theorem nX {ids:List Nat} (hn:ids.Nodup) {p q i:Nat} (hp:ids[p]?=some i) (hq:ids[q]?=some i):p=q:=by
 obtain⟨h1,e1⟩:=List.getElem?_eq_some_iff.1 hp;obtain⟨h2,e2⟩:=List.getElem?_eq_some_iff.1 hq;rcases Nat.lt_trichotomy p q with h|h|h
 ·exact absurd (e1.trans e2.symm) (List.pairwise_iff_getElem.1 hn p q h1 h2 h)
 ·exact h
 ·exact absurd (e2.trans e1.symm) (List.pairwise_iff_getElem.1 hn q p h2 h1 h)
def mJ (mu:Mu) (ids:List Nat):Mu:=fun j=>(ids[j]?).bind mu
theorem mg {ids:List Nat}:∀ i j,aG ids i=some j->mJ mu ids j=mu i:=by
 intro i j h;simp[mJ,md h]
def vg (mu:Mu) (TB:Nat->Prop) (H:Hp) (ids:List Nat):Nat->Prop:=fun B=>TB B∨∃ i b l,i ∉ ids∧H[i]?=some b∧alive b=true∧mu i=some l∧l.blk=some B
theorem RelL.refs {x:L} {v:Value} (h:RelL mu S w x v):∀ i∈x.refs,(mu i).isSome=true:=by
 intro i hi;cases x with
 | p k off=>simp[L.refs] at hi;subst hi;obtain⟨l,B,h1,_⟩:=h;simp[h1]
 | ap k q j=>simp[L.refs] at hi;subst hi;obtain⟨l,B,h1,_⟩:=h;simp[h1]
 | y k q=>simp[L.refs] at hi;subst hi;obtain⟨l,B,h1,_⟩:=h;simp[h1]
 | sp k q=>simp[L.refs] at hi;subst hi;obtain⟨l,B,h1,_⟩:=h;simp[h1]
 | m k=>simp[L.refs] at hi;subst hi;obtain⟨l,B,h1,_⟩:=h;simp[h1]
 | sl k z off n=>simp[L.refs] at hi;subst hi;obtain⟨l,h1,_⟩:=h;simp[h1]
 | f fn caps =>
  simp only[L.refs] at hi;obtain⟨j,hj,rfl⟩:=List.getElem_of_mem hi;obtain⟨vs,_,_,h3⟩:=h;obtain⟨x,_,l,B,h1,_⟩:=h3 j caps[j] (by simp)
  simp[h1]
 | _=>simp[L.refs] at hi
theorem RelLs.refs {xs:List L} {vs:List Value} (h:RelLs mu S w xs vs):∀ i∈xs.flatMap L.refs,(mu i).isSome=true:=by
 intro i hi;obtain⟨x,hx,hi⟩:=List.mem_flatMap.1 hi;obtain⟨j,hj,rfl⟩:=List.getElem_of_mem hx;obtain⟨v,_,hr⟩:=h.2 j xs[j] (by simp)
 exact hr.refs i hi
theorem RelV.refs {x:V} {v:Value} (h:RelV mu S w x v):∀ i∈x.refs,(mu i).isSome=true:=by
 intro i hi;cases x with
 | one x=>exact RelL.refs h i hi
 | agg xs=>obtain⟨cs,_,h2⟩:=h;exact h2.refs i hi
 | any=>simp[V.refs] at hi
 | tup xs =>
  simp only[V.refs] at hi;obtain⟨c,hc,hi⟩:=List.mem_flatMap.1 hi;obtain⟨j,hj,rfl⟩:=List.getElem_of_mem hc;obtain⟨vs,_,_,h3⟩:=h;obtain⟨y,_,hr⟩:=h3 j xs[j] (by simp)
  generalize xs[j]=c at hi hr;obtain⟨t,ys⟩:=c;cases t with
  | true=>obtain⟨cs,_,g2⟩:=hr;exact g2.refs i hi
  | false =>
   obtain⟨z,g1,g2⟩:=hr;simp only at g1 hi;subst g1;simp at hi;exact RelL.refs g2 i hi
theorem RelB.refs {i:Nat} {b:Box} (h:RelB mu S TB w i b):∀ k∈b.refs,(mu k).isSome=true:=by
 intro k hk;cases b with
 | dead=>simp[Box.refs] at hk
 | mp rows=>simp[Box.refs] at hk
 | arr sz rows fz=>simp[Box.refs] at hk
 | cells xs=>obtain⟨l,B,cur,e,h1,h2,h3,h4,_⟩:=h;exact h4.refs k hk
theorem mY (hi:Inv mu S TB w H):∀ (n:Nat) (todo seen:List Nat),(∀ i∈todo,(mu i).isSome=true)->(∀ i∈seen,(mu i).isSome=true)->∀ i∈aD H n todo seen,(mu i).isSome=true
 | 0,todo,seen,h1,h2=>by cases todo <;> exact h2
 | n+1,[],seen,h1,h2=>h2
 | n+1,i::todo,seen,h1,h2=>by
  have h1':∀ i∈todo,(mu i).isSome=true:=fun k hk=>h1 k (List.mem_cons_of_mem _ hk)
  have h0:=h1 i List.mem_cons_self;obtain⟨l,hl⟩:=Option.isSome_iff_exists.1 h0;simp only[aD];split
  ·exact mY hi n todo seen h1' h2
  ·exact mY hi n todo seen h1' h2
  ·rename_i b hne hb;split
   ·exact mY hi n todo seen h1' h2
   ·refine mY hi n _ _ (fun k hk=>?_) (fun k hk=>?_)
    ·rcases List.mem_append.1 hk with h|h
     ·exact(hi.box i b l hb hl).refs k h
     ·exact h1' k h
    ·rcases List.mem_append.1 hk with h|h
     ·exact h2 k h
     ·simp at h;subst h;exact h0
theorem qO {ids:List Nat} {j:Nat} {b:Box} (h:(aw H ids)[j]?=some b):∃ i,ids[j]?=some i∧b=(H.getD i .dead).ren (aG ids):=by
 simp only[aw,List.getElem?_map,Option.map_eq_some_iff] at h;obtain⟨i,hi,rfl⟩:=h;exact⟨i,hi,rfl⟩
theorem Inv.canon (hi:Inv mu S TB w H) {ids:List Nat} (hn:ids.Nodup) (hids:∀ i∈ids,i<H.length):Inv (mJ mu ids) S (vg mu TB H ids) w (aw H ids):=by
 refine⟨fun j b l0 hb hl0=>?_,fun j l h=>?_,fun j l B h1 h2=>?_,hi.sl,fun B h=>?_,?_⟩
 ·obtain⟨i,hij,rfl⟩:=qO hb;obtain⟨b0,hb0⟩:∃ b0,H[i]?=some b0:=⟨_,List.getElem?_eq_getElem (hids i (List.mem_of_getElem? hij))⟩;have hg:H.getD i .dead=b0:=by simp[List.getD,hb0]
  rw[hg];have hl0':mu i=some l0:=by simpa[mJ,hij] using hl0
  refine RelB.ren mg (by simp[mJ,hij]) (fun l B ha0 h1 h2 h3 h4=>?_) (hi.box i b0 l0 hb0 hl0')
  rcases h4 with h4|⟨k,bk,lk,g1,g2,g3,g4,g5⟩
  ·exact h3 h4
  ·have hne:i≠k:=fun e=>g1 (e ▸ List.mem_of_getElem? hij)
   exact hi.one i k b0 bk l lk B hne hb0 g2 ha0 g3 h1 g4 h2 g5
 ·simp only[mJ,Option.bind_eq_some_iff] at h;obtain⟨i,hij,_⟩:=h;simpa[aw] using(List.getElem?_eq_some_iff.1 hij).1
 ·simp only[mJ,Option.bind_eq_some_iff] at h1;obtain⟨i,hij,h1⟩:=h1;exact hi.old i l B h1 h2
 ·rcases h with h|⟨k,bk,lk,g1,g2,g3,g4,g5⟩
  ·exact hi.tl _ h
  ·exact hi.old k lk B g4 g5
 ·intro p q bp bq lp lq B hpq hbp hbq hap haq hmp hmq hBp hBq;obtain⟨i,hpi,rfl⟩:=qO hbp;obtain⟨j,hqj,rfl⟩:=qO hbq;have hij:i≠j:=by
   intro e;subst e;exact hpq (nX hn hpi hqj)
  obtain⟨b1,hb1⟩:∃ b0,H[i]?=some b0:=⟨_,List.getElem?_eq_getElem (hids i (List.mem_of_getElem? hpi))⟩;obtain⟨b2,hb2⟩:∃ b0,H[j]?=some b0:=⟨_,List.getElem?_eq_getElem (hids j (List.mem_of_getElem? hqj))⟩;have ha1:alive b1=true:=by rw[lB] at hap;simpa[List.getD,hb1] using hap
  have ha2:alive b2=true:=by rw[lB] at haq;simpa[List.getD,hb2] using haq
  simp only[mJ,hpi,hqj,Option.bind_some] at hmp hmq;exact hi.one i j b1 b2 lp lq B hij hb1 hb2 ha1 ha2 hmp hmq hBp hBq
theorem dv:∀ (ids:List Nat) (H:Hp) (bs:List Box),(cu H ids bs).length=H.length
 | [],H,bs=>by cases bs <;> rfl
 | i::ids,H,[]=>rfl
 | i::ids,H,b::bs=>by simp only[cu];rw[dv ids];simp
theorem fJ:∀ (ids:List Nat) (H:Hp) (bs:List Box) (i:Nat),i ∉ ids->(cu H ids bs)[i]?=H[i]?
 | [],H,bs,i,h=>by cases bs <;> rfl
 | k::ids,H,[],i,h=>rfl
 | k::ids,H,b::bs,i,h=>by
  simp only[cu];rw[fJ ids _ bs i (fun hm=>h (List.mem_cons_of_mem _ hm)),List.getElem?_set_ne (fun e=>h (by rw[e];exact List.mem_cons_self))]
theorem lS:∀ (ids:List Nat) (H:Hp) (bs:List Box) (j i:Nat),ids.Nodup->bs.length=ids.length->ids[j]?=some i->i<H.length->(cu H ids bs)[i]?=bs[j]?
 | [],H,bs,j,i,hn,hl,hj,hlt=>by simp at hj
 | k::ids,H,[],j,i,hn,hl,hj,hlt=>by simp at hl
 | k::ids,H,b::bs,j,i,hn,hl,hj,hlt=>by
  simp only[cu];obtain⟨hn1,hn2⟩:=List.nodup_cons.1 hn;cases j with
  | zero =>
   simp at hj;subst hj;rw[fJ ids _ bs k hn1,List.getElem?_set_self hlt];rfl
  | succ j =>
   rw[lS ids _ bs j i hn2 (by simpa using hl) (by simpa using hj) (by simpa using hlt)]
   rfl
end
section
variable {P:Program} {mu mu':Mu} {S:St} {TB:Nat->Prop} {w:World} {H:Hp} {fr:Fr} {a:Act}
variable {φ:FuncId->List V->Hp->Option (V × Hp)} {o:Oper} {v:V} {H':Hp}
def ArgsRel (mu:Mu) (S:St) (w:World) (args:List V) (vs:List Value):Prop :=
 vs.length=args.length∧∀ (j:Nat) (v:V),args[j]?=some v->∃ x,vs[j]?=some x∧RelV mu S w v x
def CallOK (P:Program) (f:FuncId) (args:List V) (H:Hp) (r:V) (H':Hp):Prop :=
 ∀ (mu:Mu) (S:St) (TB:Nat->Prop) (w:World) (vs:List Value),Inv mu S TB w H->ArgsRel mu S w args vs ->
  Calls P f vs.toArray w fun e w'=>∃ x mu' S',e=.returned x∧Ext TB mu S w mu' S' w'∧Inv mu' S' TB w' H'∧RelV mu' S' w' r x
theorem ArgsRel.ren {ρ:Nat->Option Nat} (h:∀ i j,ρ i=some j->mu' j=mu i) {args:List V} {vs:List Value} (ha:ArgsRel mu S w args vs):ArgsRel mu' S w (args.map (V.ren ρ)) vs:=by
 refine⟨by simp[ha.1],fun j v hj=>?_⟩
 rw[List.getElem?_map,Option.map_eq_some_iff] at hj;obtain⟨u,hu,rfl⟩:=hj;obtain⟨x,hx,hr⟩:=ha.2 j u hu;exact⟨x,hx,hr.ren h⟩
def mL (mu mu1:Mu) (n m:Nat):Mu:=fun i=>if i<n then mu i else mu1 (m+(i-n))
theorem oX (hφ:∀ f args H r H',φ f args H=some (r,H')->CallOK P f args H r H') {f:FuncId} {args:List V} {r:V} (hc:ak φ f args H=some (r,H')):CallOK P f args H r H':=by
 intro mu S TB w vs hi ha;simp only[ak] at hc;generalize hids:aI H (args.flatMap V.refs)=ids at hc;have hsp:=iy H (args.flatMap V.refs);rw[hids] at hsp;obtain⟨hn,hal⟩:=hsp;split at hc
 ·cases hc
 ·rename_i r1 H1 hcall;cases hc;have hcan:=hi.canon hn (fun i hm=>by obtain⟨b,hb,_⟩:=hal i hm;exact(List.getElem?_eq_some_iff.1 hb).1)
  refine(hφ _ _ _ _ _ hcall (mJ mu ids) S (vg mu TB H ids) w vs hcan (ha.ren mg)).mono fun e w' he=>?_
  obtain⟨x,mu1,S1,rfl,ex,i1,rx⟩:=he;have hmu0:∀ j i,ids[j]?=some i->∃ l,mu i=some l∧mJ mu ids j=some l∧mu1 j=some l:=by
   intro j i hj;have hrf:∀ i∈args.flatMap V.refs,(mu i).isSome=true:=by
    intro k hk;obtain⟨u,hu,hk⟩:=List.mem_flatMap.1 hk;obtain⟨q,hq,rfl⟩:=List.getElem_of_mem hu;obtain⟨x,_,hr⟩:=ha.2 q args[q] (by simp)
    exact hr.refs k hk
   have hsm:=mY hi 1000 (args.flatMap V.refs) [] hrf (by simp)
   obtain⟨l,hl⟩:=Option.isSome_iff_exists.1 (hsm i (by have:aD H 1000 (args.flatMap V.refs) []=ids:=hids;rw[this];exact List.mem_of_getElem? hj))
   have h0:mJ mu ids j=some l:=by simp[mJ,hj,hl]
   exact⟨l,hl,h0,ex.mu _ _ h0⟩
  have hidl:∀ i∈ids,i<H.length:=fun i hm=>by
   obtain⟨b,hb,_⟩:=hal i hm;exact(List.getElem?_eq_some_iff.1 hb).1
  have hm1:ids.length<=H1.length:=by
   rcases Nat.eq_zero_or_pos ids.length with h|h
   ·omega
   ·obtain⟨l,_,_,h3⟩:=hmu0 (ids.length-1) ids[ids.length-1] (by simp)
    have:=i1.dom _ _ h3;omega
  let β:Nat->Option Nat:=fun j=>if j<ids.length then ids[j]? else some (H.length+(j-ids.length))
  let mu2:=mL mu mu1 H.length ids.length
  have hβ:∀ j i,β j=some i->mu2 i=mu1 j:=by
   intro j i hj;simp only[β] at hj;split at hj
   ·rename_i hlt;obtain⟨l,h1,_,h3⟩:=hmu0 j i hj;have:=hidl i (List.mem_of_getElem? hj);simp only[mu2,mL,if_pos this,h1,h3]
   ·cases hj;simp only[mu2,mL];rw[if_neg (by omega)]
    congr 1;omega
  have hmu2:∀ i l,mu i=some l->mu2 i=some l:=by
   intro i l h;simp only[mu2,mL,if_pos (hi.dom _ _ h),h]
  have e2:Ext TB mu S w mu2 S1 w':=⟨hmu2,ex.ss,fun b q ht hs=>ex.avoid b q (.inl ht) hs,ex.cell,fun b ht=>ex.blk b (.inl ht),ex.size,ex.os,ex.tape,ex.output⟩
  have hlen1:((H1.take ids.length).map (Box.ren β)).length=ids.length:=by simp;omega
  have hget:∀ (i:Nat) (b:Box),(cu H ids ((H1.take ids.length).map (Box.ren β))++(H1.drop ids.length).map (Box.ren β))[i]?=some b ->
    (∃ (j:Nat) (b1:Box),ids[j]?=some i∧H1[j]?=some b1∧b=b1.ren β)∨(i ∉ ids∧i<H.length∧H[i]?=some b)∨(∃ (b1:Box),H.length<=i∧H1[ids.length+(i-H.length)]?=some b1∧b=b1.ren β):=by
   intro i b hb;rw[List.getElem?_append,dv] at hb;split at hb
   ·rename_i hlt;by_cases hm:i∈ids
    ·left
     obtain⟨j,hj,rfl⟩:=List.getElem_of_mem hm;rw[lS ids H _ j ids[j] hn hlen1 (by simp) hlt,List.getElem?_map,List.getElem?_take,if_pos hj,Option.map_eq_some_iff] at hb
     obtain⟨b1,hb1,rfl⟩:=hb;exact⟨j,b1,by simp,hb1,rfl⟩
    ·right;left
     rw[fJ ids H _ i hm] at hb;exact⟨hm,hlt,hb⟩
   ·rename_i hge;right;right
    rw[List.getElem?_map,List.getElem?_drop,Option.map_eq_some_iff] at hb;obtain⟨b1,hb1,rfl⟩:=hb;exact⟨b1,by omega,hb1,rfl⟩
  have hTB:∀ {j:Nat} {b1:Box} {l:Loc} {B:Nat},H1[j]?=some b1->alive b1=true->mu1 j=some l->l.blk=some B->¬ vg mu TB H ids B:=by
   intro j b1 l B hb1 ha1 hl hB;have:=i1.box j b1 l hb1 hl;cases b1 with
   | dead=>cases ha1
   | mp rows =>
    obtain⟨l',B',g1,g2,g3,g5,g6⟩:=this;rw[hl] at g1;cases g1;rw[hB] at g2;cases g2;exact g5
   | cells xs =>
    obtain⟨l',B',cur,el,g1,g2,g3,g4,g5,g6⟩:=this;rw[hl] at g1;cases g1;rw[hB] at g2;cases g2;exact g5
   | arr sz rows fz =>
    obtain⟨l',g1,g2,g3,g4,g5,g6⟩:=this;rw[hl] at g1;cases g1;rw[hB] at g6;obtain⟨cur,el,ff,k1,k2,k3,k4,k5,k6,k7,k8⟩:=g6;exact k7
  refine⟨x,mu2,S1,rfl,e2,⟨fun i b l0 hb hl0=>?_,fun i l hl=>?_,fun i l B h1 h2=>?_,i1.sl,fun b ht=>Nat.lt_of_lt_of_le (hi.tl b ht) ex.size,?_⟩,rx.ren hβ⟩
  ·rcases hget i b hb with⟨j,b1,hj,hb1,rfl⟩|⟨hm,hlt,hb1⟩|⟨b1,hge,hb1,rfl⟩
   ·have hbj:mu2 i=mu1 j:=hβ j i (by simp only[β];rw[if_pos (List.getElem?_eq_some_iff.1 hj).1];exact hj)
    exact RelB.ren hβ hbj (fun l B _ _ _ h=>fun ht=>h (.inl ht)) (i1.box j b1 l0 hb1 (by rw[<- hbj];exact hl0))
   ·cases hal1:alive b with
    | false=>cases b <;> first|trivial|cases hal1
    | true =>
     have hT:∀ l B,mu i=some l->l.blk=some B->vg mu TB H ids B:=fun l B h1 h2=>.inr ⟨i,b,l,hm,hb1,hal1,h1,h2⟩
     have hl0':mu i=some l0:=by simpa only[mu2,mL,if_pos hlt] using hl0
     exact(hi.box i b l0 hb1 hl0').keep e2 (fun l B h1 h2=>ex.blk B (hT l B h1 h2)) (fun l B q h1 h2 h3=>ex.avoid B q (hT l B h1 h2) h3)
   ·have hbj:mu2 i=mu1 (ids.length+(i-H.length)):=by
     simp only[mu2,mL];rw[if_neg (by omega)]
    exact RelB.ren hβ hbj (fun l B _ _ _ h=>fun ht=>h (.inl ht)) (i1.box _ b1 l0 hb1 (by rw[<- hbj];exact hl0))
  ·simp only[mu2,mL] at hl;rw[List.length_append,dv];split at hl
   ·have:=hi.dom _ _ hl;omega
   ·have:=i1.dom _ _ hl;simp;omega
  ·simp only[mu2,mL] at h1;split at h1
   ·exact Nat.lt_of_lt_of_le (hi.old i l B h1 h2) ex.size
   ·exact i1.old _ l B h1 h2
  ·
   have key:∀ (p:Nat) (b:Box) (l:Loc) (B:Nat),(cu H ids ((H1.take ids.length).map (Box.ren β))++(H1.drop ids.length).map (Box.ren β))[p]?=some b->alive b=true->mu2 p=some l->l.blk=some B ->
     (∃ (j:Nat) (b1:Box),β j=some p∧H1[j]?=some b1∧alive b1=true∧mu1 j=some l)∨(p ∉ ids∧H[p]?=some b∧mu p=some l):=by
    intro p b l B hb hab hl hB;rcases hget p b hb with⟨j,b1,hj,hb1,rfl⟩|⟨hm,hlt,hb1⟩|⟨b1,hge,hb1,rfl⟩
    ·left
     have hbj:β j=some p:=by simp only[β];rw[if_pos (List.getElem?_eq_some_iff.1 hj).1];exact hj
     exact⟨j,b1,hbj,hb1,by rw[lB] at hab;exact hab,by rw[<- hβ j p hbj];exact hl⟩
    ·right
     simp only[mu2,mL,if_pos hlt] at hl;exact⟨hm,hb1,hl⟩
    ·left
     have hbj:β (ids.length+(p-H.length))=some p:=by simp only[β];rw[if_neg (by omega)];congr 1;omega
     exact⟨_,b1,hbj,hb1,by rw[lB] at hab;exact hab,by rw[<- hβ _ p hbj];exact hl⟩
   intro p q bp bq lp lq B hpq hbp hbq hap haq hmp hmq hBp hBq;rcases key p bp lp B hbp hap hmp hBp with⟨j,b1,hj,hb1,ha1,hl1⟩|⟨hm1',hb1,hl1⟩
   ·rcases key q bq lq B hbq haq hmq hBq with⟨k,b2,hk,hb2,ha2,hl2⟩|⟨hm2,hb2,hl2⟩
    ·have hjk:j≠k:=by intro e;subst e;rw[hj] at hk;cases hk;exact hpq rfl
     exact i1.one j k b1 b2 lp lq B hjk hb1 hb2 ha1 ha2 hl1 hl2 hBp hBq
    ·exact hTB hb1 ha1 hl1 hBp (.inr ⟨q,bq,lq,hm2,hb2,haq,hl2,hBq⟩)
   ·rcases key q bq lq B hbq haq hmq hBq with⟨k,b2,hk,hb2,ha2,hl2⟩|⟨hm2,hb2,hl2⟩
    ·exact hTB hb2 ha2 hl2 hBq (.inr ⟨p,bp,lp,hm1',hb1,hap,hl1,hBp⟩)
    ·exact hi.one p q bp bq lp lq B hpq hb1 hb2 hap haq hl1 hl2 hBp hBq
end
section
variable {P:Program} {mu mu':Mu} {S:St} {TB:Nat->Prop} {w:World} {H:Hp} {fr:Fr} {a:Act}
variable {φ:FuncId->List V->Hp->Option (V × Hp)} {o:Oper} {v:V} {H':Hp}
structure Good (P:Program) (φ:FuncId->List V->Hp->Option (V × Hp)):Prop where
 ok:∀ f args H r H',φ f args H=some (r,H')->CallOK P f args H r H'
 can:∀ f args H r H',φ f args H=some (r,H')->callable P f=true
theorem fQ {f:FuncId} (h:callable P f=true) (args:Array Value):(callFunc f args).run P w=.ok (.enter f args) w:=by
 unfold callable at h;split at h
 ·rename_i fn hfn;simp only[Bool.and_eq_true,bne_iff_ne,ne_eq] at h;obtain⟨h1,h2⟩:=h;have h3:fn.body.isNone=false:=by cases hb:fn.body <;> simp[hb] at h1 ⊢
  have h4:(fn.name == "runtime.NumGoroutine")=false:=by simpa using h2
  simp only[callFunc,Sem.run_bind,run_program,Result.andThen,hfn,h4,h3,Bool.false_eq_true,if_false,Sem.run_pure]
 ·cases h
theorem OpOK.of_enter {f:FuncId} {vs:List V} {xs:List Value} (hr:(execOp a.eval o).run P w=.ok (.enter f xs.toArray) w) (hc:CallOK P f vs H v H') (hi:Inv mu S TB w H) (hx:ArgsRel mu S w vs xs) :
  OpOK P o a mu S TB w v H':=by
 intro next Q hn;unfold Oper.wp;rw[hr,Oper.upon_enter];refine(hc mu S TB w xs hi hx).mono fun e w' he=>?_
 obtain⟨x,mu',S',rfl,ex,i1,rx⟩:=he;exact hn x w' mu' S' ex i1 rx
theorem nh (hg:Good P φ) {f:FuncId} {args:List V} {r:V} (h:ak φ f args H=some (r,H')):callable P f=true:=by
 simp only[ak] at h;split at h
 ·cases h
 ·rename_i hc;exact hg.can _ _ _ _ _ hc
theorem nk {xs:List Operand} {ys:List X} {vs:List V} (hc:gV xs=some ys) (he:mW fr ys=some vs) (hf:RelFr mu S w fr a):ArgsRel mu S w vs (xs.map a.eval):=by
 obtain⟨h1,h2⟩:=t9 hc he hf;exact⟨by simp[h1],h2⟩
theorem EQ (hg:Good P φ) {c:Call} {f:FuncId} {ys:List X} (hop:o.op=.call c) (hc:c.callee=.value (.func f)) (h1:gV c.args.toList=some ys) (hi:Inv mu S TB w H) (hf:RelFr mu S w fr a)
  (hr:(A.call f ys).run φ fr H=some (v,H')):OpOK P o a mu S TB w v H':=by
 simp only[A.run] at hr;split at hr
 ·rename_i vs hvs;refine .of_enter (f:=f) (xs:=c.args.toList.map a.eval) ?_ (oX hg.ok hr) hi (nk h1 hvs hf);simp only[execOp,hop,resolve,hc,Act.eval,Deferred.ofValue,Sem.run_bind,Sem.run_pure,Result.andThen,invoke,Array.append_empty,Array.empty_append];have:c.args.map a.eval=(c.args.toList.map a.eval).toArray:=by apply Array.ext';simp
  have e:=fQ (P:=P) (w:=w) (nh hg hr) (c.args.map a.eval);rw[<- this];exact e
 ·cases hr
theorem A8 {x y:L} {u:Value} (h:x.data=some y) (hx:RelL mu S w x u):(∀ mu':Mu,RelL mu' S w y u)∧y.refs=[]:=by
 cases x <;> simp only[L.data] at h <;> cases h
 ·exact⟨fun _=>hx,rfl⟩
 ·exact⟨fun _=>hx,rfl⟩
 ·exact⟨fun _=>hx,rfl⟩
 ·exact⟨fun _=>hx.2,rfl⟩
 ·exact⟨fun _=>hx.2,rfl⟩
 ·refine⟨fun _=>?_,rfl⟩
  have:u=.slice none 0 0:=hx;subst this;exact .nil _ _ (fun _=>rfl)
theorem vS:∀ {xs ys:List L} {us:List Value},dK xs=some ys->RelLs mu S w xs us->∀ mu':Mu,RelLs mu' S w ys us
 | [],ys,us,h,hx,mu'=>by cases h;exact⟨hx.1,fun j x hj=>by simp at hj⟩
 | x::r,ys,us,h,hx,mu'=>by
  simp only[dK] at h;split at h
  ·rename_i y ys' hy hys;cases h;cases us with
   | nil=>have:=hx.1;simp at this
   | cons u us =>
    have hr':RelLs mu S w r us:=⟨by have:=hx.1;simpa using this,fun k z hk=>by have:=hx.2 (k+1) z (by simpa using hk);simpa using this⟩
    have ih:=vS hys hr' mu';obtain⟨u0,hu0,hru0⟩:=hx.2 0 x rfl;cases hu0;refine⟨by simp[ih.1],fun j z hj=>?_⟩
    cases j with
    | zero=>simp at hj;subst hj;exact⟨_,rfl,(A8 hy hru0).1 mu'⟩
    | succ j=>simpa using ih.2 j z (by simpa using hj)
  ·cases h
theorem Gj {x y:V} {u:Value} (h:x.data=some y) (hx:RelV mu S w x u) (mu':Mu):RelV mu' S w y u:=by
 cases x with
 | one x =>
  simp only[V.data] at h;split at h
  ·rename_i hy;cases h;exact(A8 hy hx).1 mu'
  ·cases h
 | agg xs =>
  simp only[V.data] at h;split at h
  ·rename_i hy;cases h;obtain⟨cs,h1,h2⟩:=hx;exact⟨cs,h1,vS hy h2 mu'⟩
  ·cases h
 | tup xs=>simp[V.data] at h
 | any=>simp[V.data] at h
theorem uJ:∀ {xs ys:List V} {us:List Value},f7 xs=some ys->ArgsRel mu S w xs us->∀ mu':Mu,ArgsRel mu' S w ys us
 | [],ys,us,h,hx,mu'=>by cases h;exact⟨hx.1,fun j x hj=>by simp at hj⟩
 | x::r,ys,us,h,hx,mu'=>by
  simp only[f7] at h;split at h
  ·rename_i y ys' hy hys;cases h;cases us with
   | nil=>have:=hx.1;simp at this
   | cons u us =>
    have hr':ArgsRel mu S w r us:=⟨by have:=hx.1;simpa using this,fun k z hk=>by have:=hx.2 (k+1) z (by simpa using hk);simpa using this⟩
    have ih:=uJ hys hr' mu';obtain⟨u0,hu0,hru0⟩:=hx.2 0 x rfl;cases hu0;refine⟨by simp[ih.1],fun j z hj=>?_⟩
    cases j with
    | zero=>simp at hj;subst hj;exact⟨_,rfl,Gj hy hru0 mu'⟩
    | succ j=>simpa using ih.2 j z (by simpa using hj)
  ·cases h
def xC:Mu:=fun _=>none
theorem Inv.empty (hi:Inv mu S TB w H):Inv xC S (vg mu TB H []) w [] :=
 ⟨fun i b l h=>(by simp at h),fun i l h=>(by cases h),fun i l B h=>(by cases h),hi.sl,fun B h=>(by
  rcases h with h|⟨k,bk,lk,g1,g2,g3,g4,g5⟩
  ·exact hi.tl _ h
  ·exact hi.old k lk B g4 g5),fun i j bi bj li lj B hij h=>(by simp at h)⟩
theorem RelL.no (x:L) {u:Value} (h:RelL xC S w x u) (mu':Mu):RelL mu' S w x u:=by
 cases x with
 | p i off=>obtain⟨l,B,h1,_⟩:=h;cases h1
 | ap i k j=>obtain⟨l,B,h1,_⟩:=h;cases h1
 | y i k=>obtain⟨l,B,h1,_⟩:=h;cases h1
 | sp i k=>obtain⟨l,B,h1,_⟩:=h;cases h1
 | m i=>obtain⟨l,B,h1,_⟩:=h;cases h1
 | nm=>exact h
 | sl i z off n=>obtain⟨l,h1,_⟩:=h;cases h1
 | f fn caps =>
  obtain⟨vs,h1,h2,h3⟩:=h;refine⟨vs,h1,h2,fun j i hj=>?_⟩
  obtain⟨x,_,l,B,g,_⟩:=h3 j i hj;cases g
 | d x=>exact h
 | ip cs=>exact h
 | np=>exact h
 | nf=>exact h
 | ns=>exact h
 | cl rows=>exact h
 | nn rows=>exact h
 | u=>exact h
theorem RelLs.no {xs:List L} {us:List Value} (h:RelLs xC S w xs us) (mu':Mu):RelLs mu' S w xs us :=
 ⟨h.1,fun j x hj=>let ⟨v,hv,hr⟩:=h.2 j x hj;⟨v,hv,hr.no x mu'⟩⟩
theorem RelV.no {x:V} {u:Value} (h:RelV xC S w x u) (mu':Mu):RelV mu' S w x u:=by
 cases x with
 | one x=>exact RelL.no x h mu'
 | agg xs=>obtain⟨cs,h1,h2⟩:=h;exact⟨cs,h1,h2.no mu'⟩
 | any=>trivial
 | tup xs =>
  obtain⟨vs,h1,h2,h3⟩:=h;refine⟨vs,h1,h2,fun j c hj=>?_⟩
  obtain⟨y,hy,hr⟩:=h3 j c hj;obtain⟨t,ys⟩:=c;cases t with
  | true=>obtain⟨cs,g1,g2⟩:=hr;exact⟨y,hy,cs,g1,g2.no mu'⟩
  | false=>obtain⟨z,g1,g2⟩:=hr;exact⟨y,hy,z,g1,g2.no z mu'⟩
theorem BM (hg:Good P φ) {f:FuncId} {args ds:List V} {r:V} (hd:f7 args=some ds) (hc:φ f ds []=some (r,[])):CallOK P f args H r H:=by
 intro mu S TB w vs hi ha;refine(hg.ok _ _ _ _ _ hc xC S (vg mu TB H []) w vs hi.empty (uJ hd ha xC)).mono fun e w' he=>?_
 obtain⟨x,mu1,S1,rfl,ex,i1,rx⟩:=he;have hmu1:mu1=xC:=by
  funext i
  cases h:mu1 i with
  | none=>rfl
  | some l=>have:=i1.dom i l h;simp at this
 subst hmu1;have e2:Ext TB mu S w mu S1 w':=⟨fun _ _ h=>h,ex.ss,fun b q ht hs=>ex.avoid b q (.inl ht) hs,ex.cell,fun b ht=>ex.blk b (.inl ht),ex.size,ex.os,ex.tape,ex.output⟩
 refine⟨x,mu,S1,rfl,e2,⟨fun i b l0 hb hl0=>?_,hi.dom,fun i l B h1 h2=>Nat.lt_of_lt_of_le (hi.old i l B h1 h2) ex.size,i1.sl,fun b ht=>Nat.lt_of_lt_of_le (hi.tl b ht) ex.size,hi.one⟩,rx.no mu⟩
 cases hal1:alive b with
 | false=>cases b <;> first|trivial|cases hal1
 | true =>
  have hT:∀ l B,mu i=some l->l.blk=some B->vg mu TB H [] B:=fun l B h1 h2=>.inr ⟨i,b,l,by simp,hb,hal1,h1,h2⟩
  exact(hi.box i b l0 hb hl0).keep e2 (fun l B h1 h2=>ex.blk B (hT l B h1 h2)) (fun l B q h1 h2 h3=>ex.avoid B q (hT l B h1 h2) h3)
theorem Ie (hg:Good P φ) {c:Call} {f:FuncId} {ys:List X} (hop:o.op=.call c) (hc:c.callee=.value (.func f)) (h1:gV c.args.toList=some ys) (hi:Inv mu S TB w H) (hf:RelFr mu S w fr a)
  (hr:(A.callp f ys).run φ fr H=some (v,H')):OpOK P o a mu S TB w v H':=by
 simp only[A.run] at hr;split at hr
 ·rename_i vs hvs;split at hr
  ·rename_i ds hds;split at hr
   ·rename_i r hcall;cases hr;refine .of_enter (f:=f) (xs:=c.args.toList.map a.eval) ?_ (BM hg hds hcall) hi (nk h1 hvs hf);simp only[execOp,hop,resolve,hc,Act.eval,Deferred.ofValue,Sem.run_bind,Sem.run_pure,Result.andThen,invoke,Array.append_empty,Array.empty_append];have:c.args.map a.eval=(c.args.toList.map a.eval).toArray:=by apply Array.ext';simp
    have e:=fQ (P:=P) (w:=w) (hg.can _ _ _ _ _ hcall) (c.args.map a.eval);rw[<- this];exact e
   ·cases hr
  ·cases hr
 ·cases hr
theorem EC:∀ {vs us:List V} {H H1:Hp} {S:St} {xs:List Value},oU vs H=some (us,H1)->Inv mu S TB w H->ArgsRel mu S w vs xs->∃ S',Ext TB mu S w mu S' w∧Inv mu S' TB w H1∧ArgsRel mu S' w us xs
 | [],us,H,H1,S,xs,h,hi,ha=>by cases h;exact⟨S,.refl _ _ _ _,hi,ha⟩
 | v::vs,us,H,H1,S,xs,h,hi,ha=>by
  simp only[oU] at h;split at h
  ·rename_i y H2 hy;split at h
   ·rename_i ys H3 hys;cases h;cases xs with
    | nil=>have:=ha.1;simp at this
    | cons x xs =>
     obtain⟨S1,e1,i1,k1⟩:=um hy hi;obtain⟨x0,hx0,hr0⟩:=ha.2 0 v rfl;cases hx0;have ha':ArgsRel mu S1 w vs xs:=⟨by have:=ha.1;simpa using this,fun k z hk=>by
      obtain⟨q,hq,hrq⟩:=ha.2 (k+1) z (by simpa using hk)
      exact⟨q,by simpa using hq,hrq.ext e1⟩⟩
     obtain⟨S2,e2,i2,a2⟩:=EC hys i1 ha';refine⟨S2,e1.trans e2,i2,by simp[a2.1],fun j z hj=>?_⟩
     cases j with
     | zero=>simp at hj;subst hj;exact⟨_,rfl,(k1 _ hr0).ext e2⟩
     | succ j=>simpa using a2.2 j z (by simpa using hj)
   ·cases h
  ·cases h
theorem Kb (hg:Good P φ) {f:FuncId} {args us ds:List V} {r:V} (hz:oU args H=some (us,H')) (hd:f7 us=some ds) (hc:φ f ds []=some (r,[])):CallOK P f args H r H':=by
 intro mu S TB w vs hi ha;obtain⟨S1,e1,i1,a1⟩:=EC hz hi ha;refine(BM (H:=H') hg hd hc mu S1 TB w vs i1 a1).mono fun e w' he=>?_
 obtain⟨x,mu1,S2,rfl,ex,i2,rx⟩:=he;exact⟨x,mu1,S2,rfl,e1.trans ex,i2,rx⟩
theorem Jz (hg:Good P φ) {c:Call} {f:FuncId} {ys:List X} (hop:o.op=.call c) (hc:c.callee=.value (.func f)) (h1:gV c.args.toList=some ys) (hi:Inv mu S TB w H) (hf:RelFr mu S w fr a)
  (hr:(A.callz f ys).run φ fr H=some (v,H')):OpOK P o a mu S TB w v H':=by
 simp only[A.run] at hr;split at hr
 ·rename_i vs hvs;split at hr
  ·rename_i us H1 hus;split at hr
   ·rename_i ds hds;split at hr
    ·rename_i r hcall;cases hr;refine .of_enter (f:=f) (xs:=c.args.toList.map a.eval) ?_ (Kb hg hus hds hcall) hi (nk h1 hvs hf);simp only[execOp,hop,resolve,hc,Act.eval,Deferred.ofValue,Sem.run_bind,Sem.run_pure,Result.andThen,invoke,Array.append_empty,Array.empty_append];have:c.args.map a.eval=(c.args.toList.map a.eval).toArray:=by apply Array.ext';simp
     have e:=fQ (P:=P) (w:=w) (hg.can _ _ _ _ _ hcall) (c.args.map a.eval);rw[<- this];exact e
    ·cases hr
   ·cases hr
  ·cases hr
 ·cases hr
theorem Js (hg:Good P φ) {c:Call} {t:Nat} {ys:List X} (hop:o.op=.call c) (hc:c.callee=.value (.tmp t)) (h1:gV c.args.toList=some ys) (hi:Inv mu S TB w H) (hf:RelFr mu S w fr a)
  (hr:(A.callv (.t t) ys).run φ fr H=some (v,H')):OpOK P o a mu S TB w v H':=by
 simp only[A.run] at hr;split at hr
 ·rename_i g caps vs hx hvs;obtain⟨cv,he,hl,hcv⟩:=aj (o:=.tmp t) rfl hf hx;have ha:=nk h1 hvs hf;refine .of_enter (f:=g) (xs:=c.args.toList.map a.eval++cv) ?_ (oX hg.ok hr) hi ⟨by simp[ha.1,hl],fun j v hj=>?_⟩
  ·simp only[execOp,hop,resolve,hc,he,Deferred.ofValue,Sem.run_bind,Sem.run_pure,Result.andThen,invoke,Array.empty_append];have:c.args.map a.eval++cv.toArray=(c.args.toList.map a.eval++cv).toArray:=by apply Array.ext';simp
   have e:=fQ (P:=P) (w:=w) (nh hg hr) (c.args.map a.eval++cv.toArray);rw[<- this];exact e
  ·rw[List.getElem?_append] at hj ⊢;rw[ha.1];split at hj
   ·rename_i hlt;rw[if_pos hlt];exact ha.2 j v hj
   ·rename_i hlt;rw[if_neg hlt];rw[List.getElem?_map,Option.map_eq_some_iff] at hj;obtain⟨i,hi',rfl⟩:=hj;obtain⟨x,hx',hp⟩:=hcv _ i hi';exact⟨x,hx',hp⟩
 ·rename_i g caps vs hx hvs;obtain⟨cv,he,hl,hcv⟩:=RelD.fn_inv (mu:=mu) (aj (o:=.tmp t) rfl hf hx);have ha:=nk h1 hvs hf;refine .of_enter (f:=g) (xs:=c.args.toList.map a.eval++cv) ?_ (oX hg.ok hr) hi ⟨by simp[ha.1,hl],fun j v hj=>?_⟩
  ·simp only[execOp,hop,resolve,hc,he,Deferred.ofValue,Sem.run_bind,Sem.run_pure,Result.andThen,invoke,Array.empty_append];have:c.args.map a.eval++cv.toArray=(c.args.toList.map a.eval++cv).toArray:=by apply Array.ext';simp
   have e:=fQ (P:=P) (w:=w) (nh hg hr) (c.args.map a.eval++cv.toArray);rw[<- this];exact e
  ·rw[List.getElem?_append] at hj ⊢;rw[ha.1];split at hj
   ·rename_i hlt;rw[if_pos hlt];exact ha.2 j v hj
   ·rename_i hlt;rw[if_neg hlt];rw[List.getElem?_map,Option.map_eq_some_iff] at hj;obtain⟨cs,hi',rfl⟩:=hj;obtain⟨x,hx',hp⟩:=hcv _ cs hi';exact⟨x,hx',hp⟩
 ·cases hr
end
section
variable {P:Program} {mu mu':Mu} {S:St} {TB:Nat->Prop} {w:World} {H:Hp} {fr:Fr} {a:Act}
variable {φ:FuncId->List V->Hp->Option (V × Hp)} {o:Oper} {v:V} {H':Hp}
theorem map_some {α β:Type} {f:α->β} {x:Option α} {y:β} (h:x.map f=some y):∃ z,x=some z∧f z=y:=Option.map_eq_some_iff.1 h
theorem NY (neg:Bool) {t yt:TypeId} {x y:Operand} {ao:A} (hop:o.op=.binOp (bif neg then .neq else .eql) t x y yt) (hc:yT P neg t x y=some ao) (hi:Inv mu S TB w H) (hf:RelFr mu S w fr a)
  (hr:ao.run φ fr H=some (v,H')):OpOK P o a mu S TB w v H':=by
 unfold yT at hc;split at hc
 ·rename_i hu;split at hc
  ·rename_i x' y' hx hy;cases hc;exact PP hop hu hx hy hi hf hr
  ·cases hc
 ·rename_i fs hu;split at hc
  ·cases hc
  ·rename_i hcond;simp only[Bool.or_eq_true,not_or,Bool.not_eq_true] at hcond;split at hc
   ·rename_i k ks x' y' hk hx hy;cases hc;exact PX hop hu hcond.1 hcond.2 hk hx hy hi hf hr
   ·cases hc
 ·split at hc
  ·rename_i x' y' hx hy;cases hc;exact DD hop hx hy hi hf hr
  ·cases hc
 ·split at hc
  ·rename_i x' y' hx hy;cases hc;exact DD hop hx hy hi hf hr
  ·cases hc
 ·split at hc
  ·rename_i k hk;obtain⟨x',hx,rfl⟩:=map_some hc;exact NR hop hk hx hi hf hr
  ·cases hc
theorem BY (hg:Good P φ) {fl:Nat} {ao:A} (hc:bQ P fl o.op=some ao) (hi:Inv mu S TB w H) (hf:RelFr mu S w fr a)
  (hr:ao.run φ fr H=some (v,H')):OpOK P o a mu S TB w v H':=by
 have mvc:∀ x,(o.op=.move x∨o.op=.assign x)->(if 100<=fl then(match x with | .const (.slice none 0 0)=>some (.own (fl-100))|_=>none) else(aA x).map .mv:Option A)=some ao->OpOK P o a mu S TB w v H':=by
  intro x hop hc;split at hc
  ·split at hc
   ·cases hc;exact Pe hop rfl hi hr
   ·cases hc
  ·obtain⟨y,hy,rfl⟩:=map_some hc;exact Q8 hop hy hi hf hr
 cases hop:o.op with
 | move x=>rw[hop] at hc;exact mvc x (.inl hop) hc
 | assign x=>rw[hop] at hc;exact mvc x (.inr hop) hc
 | pick c x y =>
  rw[hop] at hc;simp only[bQ] at hc;split at hc
  ·rename_i c' x' y' h1 h2 h3;cases hc;exact L9 hop h1 h2 h3 hi hf hr
  ·cases hc
 | alloc e =>
  rw[hop] at hc;simp only[bQ] at hc;split at hc
  ·rename_i i h1;split at hc
   ·rename_i z h2;obtain⟨zs,h3,rfl⟩:=map_some hc;exact KW hop h1 h2 h3 hi hr
   ·cases hc
  ·cases hc
 | box e x =>
  rw[hop] at hc;simp only[bQ] at hc;obtain⟨y,hy,rfl⟩:=map_some hc;exact Oq hop hy hi hf hr
 | build t ps =>
  rw[hop] at hc;simp only[bQ] at hc;split at hc
  ·rename_i i fs h1 h2;split at hc
   ·rename_i z h3;split at hc
    ·rename_i zs pl h4 h5;split at hc
     ·rename_i qs h6;cases hc;exact G4 hop h1 h2 h3 h4 h5 h6 hi hf hr
     ·cases hc
    ·cases hc
   ·cases hc
  ·rename_i i n e h1 h2;split at hc
   ·rename_i z ei h3 h4;split at hc
    ·rename_i zs qs h5 h6;cases hc;exact Gm hop h1 h2 h3 h4 h5 h6 hi hf hr
    ·cases hc
   ·cases hc
  ·cases hc
 | buildSlice t n ps =>
  rw[hop] at hc;simp only[bQ] at hc;split at hc
  ·rename_i e h1;split at hc
   ·rename_i i h2;split at hc
    ·rename_i z h3;split at hc
     ·split at hc
      ·rename_i x hps;split at hc
       ·rename_i hcond;rw[Option.map_eq_some_iff] at hc;obtain⟨y,hy,rfl⟩:=hc;exact Qj hop h1 h2 h3 hps hcond.1 hcond.2.1 hcond.2.2.1 hcond.2.2.2 hy hi hf hr
       ·cases hc
      ·cases hc
     split at hc
     ·rename_i zr qs h4 h5;split at hc
      ·rename_i hcond;cases hc;exact On hop h1 h2 h3 h4 h5 hcond.1 hcond.2.1 hcond.2.2 hi hf hr
      ·cases hc
     ·split at hc
      ·rename_i zl qs h4 h5;split at hc
       ·rename_i hcond;cases hc;exact PD hop h1 h2 h3 h4 h5 hcond.1 hcond.2.1 hcond.2.2.1 hcond.2.2.2 hi hf hr
       ·cases hc
      ·cases hc
     ·cases hc
    ·cases hc
   ·cases hc
  ·cases hc
 | load t x =>
  rw[hop] at hc;simp only[bQ] at hc;split at hc
  ·rename_i g y h1 h2;cases hc;exact RO hop h1 h2 hi hf hr
  ·cases hc
 | store t x y =>
  rw[hop] at hc;simp only[bQ] at hc;split at hc
  ·rename_i i x' y' h0 h1 h2;cases hc;exact SE hop h0 h1 h2 hi hf hr
  ·cases hc
 | nilCheck x =>
  rw[hop] at hc;simp only[bQ] at hc;obtain⟨y,hy,rfl⟩:=map_some hc;exact OE hop hy hi hf hr
 | binOp op t x y yt =>
  rw[hop] at hc;have gen:((match aA x,aA y with|some x,some y=>some (.bin op x y)|_,_=>none):Option A)=some ao->OpOK P o a mu S TB w v H':=by
   intro hc;split at hc
   ·rename_i x' y' hx hy;cases hc;exact DD hop hx hy hi hf hr
   ·cases hc
  cases op with
  | eql=>exact NY false hop hc hi hf hr
  | neq=>exact NY true hop hc hi hf hr
  | _=>exact gen hc
 | unOp op t x =>
  rw[hop] at hc;simp only[bQ] at hc;obtain⟨y,hy,rfl⟩:=map_some hc;exact RJ hop hy hi hf hr
 | convert s d x =>
  rw[hop] at hc;simp only[bQ] at hc;split at hc
  ·rename_i u k h1 h2;obtain⟨y,hy,rfl⟩:=map_some hc;exact Ou hop (by rw[h1];rfl) h2 hy hi hf hr
  ·rename_i h1 h2;obtain⟨y,hy,rfl⟩:=map_some hc;exact PO hop h1 h2 hy hi hf hr
  ·rename_i e h1 h2;split at hc
   ·rename_i h3;obtain⟨y,hy,rfl⟩:=map_some hc;exact PR hop h1 h2 h3 hy hi hf hr
   ·cases hc
  ·rename_i e h1 h2;split at hc
   ·rename_i h3;obtain⟨y,hy,rfl⟩:=map_some hc;exact OW hop h1 h2 h3 hy hi hf hr
   ·cases hc
  ·cases hc
 | makeFunc fn first caps =>
  rw[hop] at hc;cases fn <;> simp only[bQ] at hc <;> try (cases hc;done)
  split at hc
  ·rename_i h0;obtain⟨ys,hy,rfl⟩:=map_some hc;exact Pu hop h0 hy hi hf hr
  ·cases hc
 | makeSlice t l c =>
  rw[hop] at hc;simp only[bQ] at hc;split at hc
  ·rename_i e h1;split at hc
   ·rename_i i h2;split at hc
    ·rename_i z h3;split at hc
     ·rename_i zr l' c' h4 h5 h6;split at hc
      ·rename_i hcond;cases hc;exact PQ hop h1 h2 h3 h4 hcond.1 hcond.2 h5 h6 hi hf hr
      ·cases hc
     ·cases hc
    ·cases hc
   ·cases hc
  ·cases hc
 | slice t x lo hi' mx =>
  rw[hop] at hc;simp only[bQ] at hc;split at hc
  ·rename_i x' l' h' h0 h1 h2 h3 h4;cases hc;have hmx:mx=none:=by
    cases mx with
    | none=>rfl
    | some m=>simp only[lY] at h4;split at h4 <;> cases h4
   subst hmx;exact Oi hop h0 h1 h2 h3 hi hf hr
  ·rename_i e x' l' h' m' h0 h1 h2 h3 h4;split at hc
   ·rename_i i h5;cases hc;exact OU hop h0 h5 h1 h2 h3 h4 hi hf hr
   ·cases hc
  ·rename_i n e x' h0 h1 h2 h3 h4;split at hc
   ·rename_i inf h5;split at hc
    ·rename_i h6;cases hc;have none_of:∀ {z:Option Operand},lY z=some none->z=none:=by
      intro z hz;cases z with
      | none=>rfl
      | some m=>simp only[lY] at hz;split at hz <;> cases hz
     cases none_of h2;cases none_of h3;cases none_of h4;exact Nc hop h0 h5 h6 h1 hi hf hr
    ·cases hc
   ·cases hc
  ·cases hc
 | fieldAddr s x f =>
  rw[hop] at hc;simp only[bQ] at hc;split at hc
  ·rename_i fs y h1 h2;split at hc
   ·rename_i fd h3;split at hc
    ·rename_i i h4;split at hc
     ·rename_i h5;cases hc;exact Rs hop h1 h3 h4 h5 h2 hi hf hr
     ·cases hc
    ·cases hc
   ·cases hc
  ·cases hc
 | field t x f =>
  rw[hop] at hc;simp only[bQ] at hc;split at hc
  ·rename_i fs y h1 h2;split at hc
   ·rename_i fd h3;split at hc
    ·rename_i g h4;cases hc;exact Qa hop h1 h3 h4 h2 hi hf hr
    ·cases hc
   ·cases hc
  ·cases hc
 | indexAddr t x i =>
  rw[hop] at hc;simp only[bQ] at hc;split at hc
  ·rename_i e x' i' h1 h2 h3;split at hc
   ·rename_i inf h4;cases hc;exact RC hop h1 h4 h2 h3 hi hf hr
   ·cases hc
  ·rename_i n e x' i' h1 h2 h3;split at hc
   ·rename_i inf h4;cases hc;exact PN hop h1 h4 h2 h3 hi hf hr
   ·cases hc
  ·cases hc
 | index t x i =>
  rw[hop] at hc;simp only[bQ] at hc;split at hc
  ·rename_i x' i' h1 h2 h3;cases hc;exact Qc hop h1 h2 h3 hi hf hr
  ·cases hc
 | extract x i =>
  rw[hop] at hc;simp only[bQ] at hc;obtain⟨y,hy,rfl⟩:=map_some hc;exact Qe hop hy hi hf hr
 | call c =>
  rw[hop] at hc;simp only[bQ] at hc;split at hc
  ·rename_i hcal;split at hc
   ·rename_i x t h1 h2;split at hc
    ·rename_i h3;obtain⟨y,hy,rfl⟩:=map_some hc;exact Mv hop hcal h1 h2 h3 hy hi hf hr
    ·rename_i e h3;obtain⟨y,hy,rfl⟩:=map_some hc;exact LA hop hcal h1 h2 h3 hy hi hf hr
    ·cases hc
   ·cases hc
  ·rename_i hcal;split at hc
   ·rename_i s x t t' h1 h2;split at hc
    ·rename_i e e' h3 h4;split at hc
     ·rename_i i s' x' h5 h6 h7;split at hc
      ·rename_i hcond;cases hc;obtain⟨z,hz⟩:=Option.isSome_iff_exists.1 hcond.1;have hzs:z.cells.size=i.size:=by have:=hcond.2.2;rw[hz] at this;simpa using this
       exact CP (str:=false) hop hcal h1 h2 h3 ⟨e',h4⟩ h5 hz hzs hcond.2.1 h6 h7 hi hf hr
      ·cases hc
     ·cases hc
    ·rename_i e h3 h4;split at hc
     ·rename_i i s' x' h5 h6 h7;split at hc
      ·rename_i hcond;cases hc;obtain⟨z,hz⟩:=Option.isSome_iff_exists.1 hcond.1;have hzs:z.cells.size=i.size:=by have:=hcond.2.2;rw[hz] at this;simpa using this
       exact CP (str:=true) hop hcal h1 h2 h3 ⟨h4,hcond.2.1⟩ h5 hz hzs (by have:=hcond.2.1;omega) h6 h7 hi hf hr
      ·cases hc
     ·cases hc
    ·cases hc
   ·cases hc
  ·rename_i hcal;split at hc
   ·rename_i x y h1;split at hc
    ·rename_i x' y' h2 h3;cases hc;exact Og (mx:=false) hop hcal h1 h2 h3 hi hf hr
    ·cases hc
   ·cases hc
  ·rename_i hcal;split at hc
   ·rename_i x y h1;split at hc
    ·rename_i x' y' h2 h3;cases hc;exact Og (mx:=true) hop hcal h1 h2 h3 hi hf hr
    ·cases hc
   ·cases hc
  ·rename_i f hcal;split at hc
   ·obtain⟨ys,hy,rfl⟩:=map_some hc;split at hr
    ·exact EQ hg hop hcal hy hi hf hr
    ·split at hr
     ·exact Jz hg hop hcal hy hi hf hr
     ·split at hr
      ·exact EQ hg hop hcal hy hi hf hr
      ·exact Ie hg hop hcal hy hi hf hr
   ·cases hc
  ·rename_i t hcal;obtain⟨ys,hy,rfl⟩:=map_some hc;exact Js hg hop hcal hy hi hf hr
  ·cases hc
 | makeMap t r =>
  rw[hop] at hc;cases r with
  | some z=>simp[bQ] at hc
  | none =>
   simp only[bQ] at hc;split at hc
   ·cases hc;exact Pk hop hi hr
   ·cases hc
 | mapUpdate t m k x =>
  rw[hop] at hc;simp only[bQ] at hc;split at hc
  ·rename_i m' k' x' h1 h2 h3;split at hc
   ·rename_i ht;cases hc;exact E4 (.inl hop) ht h1 h2 h3 hi hf hr
   ·cases hc
  ·cases hc
 | insert t m k x =>
  rw[hop] at hc;simp only[bQ] at hc;split at hc
  ·rename_i m' k' x' h1 h2 h3;split at hc
   ·rename_i ht;cases hc;exact E4 (.inr hop) ht h1 h2 h3 hi hf hr
   ·cases hc
  ·cases hc
 | lookup t m k ok =>
  rw[hop] at hc;cases ok with
  | true=>simp[bQ] at hc
  | false =>
   simp only[bQ] at hc;split at hc
   ·rename_i m' k' h1 h2;split at hc
    ·rename_i ht;cases hc;exact LW hop ht h1 h2 hi hf hr
    ·cases hc
   ·cases hc
 | _=>rw[hop] at hc;simp[bQ] at hc
end
def wB:List (Nat × Nat × Nat)->Nat->Nat->Nat
 | [],_,_=>0
 | (r,k,f)::l,i,j=>if r=i∧k=j then f else wB l i j
def sA:List Nat->List Nat->List Nat
 | [],l=>l
 | x::r,l=>if l.contains x then sA r l else sA r (x::l)
def fE:List Oper->List (List Nat)->List (List Nat)
 | [],acc=>acc
 | o::r,acc=>fE r (acc++[o.after.toList.foldl (fun s e=>if Region.binds .any e then sA (e.on::acc.getD e.on []) s else s) []])
def ii (ops:Array Oper) (g:Option (Nat × Bool)):Option (Option (Nat × Bool)) :=
 match g with
 | none=>some none
 | some (j,b)=>match (ops[j]?).bind (·.dst) with|some t=>some (some (t,b))|none=>none
def eF (P:Program) (an:Nat->Nat) (ops:Array Oper) (ps:List (List Nat)):Nat->List Oper->Option (List AOp)
 | _,[]=>some []
 | i,o::r=>match bQ P (if an i=2 then 0 else an i) o.op,ii ops o.guard,eF P an ops ps (i+1) r with
  | some a,some g,some l=>some ({ dst:=o.dst,a,g,pre:=ps.getD i [],fz:=an i == 2 }::l)
  | _,_,_=>none
def JW (an:Nat->Nat):Nat->Nat->Option Nat
 | _,0=>none
 | i,n+1=>if an i=20 then some i else JW an (i+1) n
def qv (P:Program) (an:Nat->Nat) (ops:Array Oper) (j:Nat):Option AC :=
 match ops[j]? with
 | some o=>match o.op,o.guard with
  | .call c,none=>match c.callee with
   | .value (.tmp t)=>match eF P an ops [] 0 (ops.toList.take j),gV c.args.toList,eF P an ops [] (j+1) (ops.toList.drop (j+1)) with
    | some l1,some xs,some l2=>some (.yld l1 o.dst (.t t) xs l2)
    | _,_,_=>none
   | _=>none
  | _,_=>none
 | none=>none
def bW:Code->Bool
 | .seq a b=>bW a && bW b
 | .cond _ a b=>bW a && bW b
 | .block _ c=>bW c
 | .loop c=>bW c
 | .scope _=>false
 | .rangeFunc _ _ _ _=>false
 | _=>true
def cG (P:Program) (an:Nat->Nat->Nat) (lv:Nat->List Nat):Code->Nat->Option (AC × Nat)
 | .skip,n=>some (.skip,n)
 | .label _,n=>some (.skip,n)
 | .rangeFunc g ps asg body,n=>match aA g with
  | some x=>match cG P an lv asg n with
   | some (a,n1)=>match cG P an lv body n1 with|some (b,n2)=>bif bW asg && bW body then some (.rng x ps.toList a b,n2) else none|none=>none
   | none=>none
  | none=>none
 | .region id ops dr,n=>match (bif dr then none else JW (an id) 0 ops.size) with
  | some j=>match qv P (an id) ops j with|some c=>some (c,n)|none=>none
  | none=>match eF P (an id) ops (bif dr then fE ops.toList [] else[]) 0 ops.toList with
  | some l=>some (.reg l dr,n)
  | none=>none
 | .seq a b,n=>match cG P an lv a n with
  | some (x,n1)=>match cG P an lv b n1 with|some (y,n2)=>some (.seq x y,n2)|none=>none
  | none=>none
 | .cond c a b,n=>match aA c with
  | some c'=>match cG P an lv a n with
   | some (x,n1)=>match cG P an lv b n1 with|some (y,n2)=>some (.cond c' x y,n2)|none=>none
   | none=>none
  | none=>none
 | .block id c,n=>match cG P an lv c n with|some (x,n1)=>some (.block id x,n1)|none=>none
 | .loop c,n=>match cG P an lv c (n+1) with|some (x,n1)=>some (.loop (lv n) x,n1)|none=>none
 | .exit id,n=>some (.exit id,n)
 | .ret,n=>some (.ret,n)
 | .scope c,n=>cG P an lv c n
 | _,_=>none
def eV (P:Program):List ResultVar->Option (List RV)
 | []=>some []
 | .tmp t::r=>match eV P r with|some l=>some (.t t::l)|none=>none
 | .cell a t::r=>match pB P t,eV P r with|some g,some l=>some (.c g a::l)|_,_=>none
structure Ann where
 ops:List (Nat × Nat × Nat):=[]
 live:List (List Nat):=[]
 keep:Bool:=false
 out:Bool:=false
def oI (P:Program) (f:FuncId) (an:Ann):Option AF :=
 if callable P f then match P.funcs[f]? with
  | some fn=>match fn.body with
   | some c=>match cG P (wB an.ops) (fun n=>an.live.getD n []) c 0,eV P fn.results.toList with
    | some (x,_),some r=>some { ntmps:=fn.ntmps,body:=x,res:=r,keep:=an.keep }
    | _,_=>none
   | none=>none
  | none=>none
 else none
section
variable {P:Program} {mu mu':Mu} {S:St} {TB:Nat->Prop} {w:World} {H:Hp} {fr:Fr} {a:Act}
variable {φ:FuncId->List V->Hp->Option (V × Hp)} {o:Oper} {v:V} {H':Hp}
theorem fF (a:Act) (d:Option Tmp) (x:Value):(a.put d x).defers=a.defers:=by cases d <;> rfl
theorem iz:RelV mu S w (.tup []) undef:=⟨#[],rfl,rfl,fun j c hj=>by simp at hj⟩
theorem n6 {ops:Array Oper} {g:Option (Nat × Bool)} {b:Bool} (hg:ii ops o.guard=some g) (hf:RelFr mu S w fr a) (hw:wantedV fr g=some b):Region.wanted o (yielded ops a.tmps)=b:=by
 unfold ii at hg;unfold Region.wanted;cases hgd:o.guard with
 | none=>rw[hgd] at hg;cases hg;simp only[wantedV] at hw;cases hw;rfl
 | some p =>
  obtain⟨j,want⟩:=p;rw[hgd] at hg;simp only at hg ⊢;split at hg
  ·rename_i t ht;cases hg;simp only[wantedV] at hw;split at hw
   ·rename_i x hx;cases hw;obtain⟨y,hy,hr⟩:=hf.rel _ _ hx;have:=hr.b_inv;subst this;simp only[yielded,ht,Option.bind_some,hy];cases x <;> cases want <;> rfl
   ·rename_i hx;cases hw;obtain⟨y,hy,vs,rfl,hvs,_⟩:=hf.rel _ _ hx;simp only[yielded,ht,Option.bind_some,hy];rfl
   ·cases hw
  ·cases hg
theorem step_ok (hg:Good P φ) {an:Nat} {ops:Array Oper} {i:Nat} {ao:AOp} {fr':Fr} (ho:ops[i]?=some o) (h1:bQ P (if an=2 then 0 else an) o.op=some ao.a) (h2:ii ops o.guard=some ao.g) (h3:ao.dst=o.dst)
  (hi:Inv mu S TB w H) (hf:RelFr mu S w fr a) (hs:ao.step φ fr H=some (fr',H')) {K:Act->World->Prop} {Q:Exit->Act->World->Prop}
  (hk:∀ a' w' mu' S',Ext TB mu S w mu' S' w'->Inv mu' S' TB w' H'->RelFr mu' S' w' fr' a'->a'.defers=a.defers->K a' w'):wpOp P ops Q i K a w:=by
 unfold AOp.step at hs;unfold wpOp;simp only[ho];split at hs
 ·cases hs
 ·rename_i b hw;rw[n6 h2 hf hw];cases b with
  | true =>
   simp only[cond_true] at hs;simp only[if_true];left
   split at hs
   ·rename_i v H1 hrun;refine BY hg h1 hi hf hrun K Q fun x w' mu' S' ex i1 rx=>?_
    split at hs
    ·rename_i v2 H2 hfz;cases hs;have:∃ S2,Ext TB mu' S' w' mu' S2 w'∧Inv mu' S2 TB w' H'∧RelV mu' S2 w' v2 x:=by
      cases hfzb:ao.fz with
      | false=>rw[hfzb] at hfz;simp only[cond_false] at hfz;cases hfz;exact⟨S',.refl _ _ _ _,i1,rx⟩
      | true =>
       rw[hfzb] at hfz;simp only[cond_true] at hfz;obtain⟨S2,e2,i2,k2⟩:=um hfz i1;exact⟨S2,e2,i2,k2 _ rx⟩
     obtain⟨S2,e2,i2,r2⟩:=this;rw[h3] at hk;exact hk _ _ mu' S2 (ex.trans e2) i2 (((hf.ext ex).ext e2).put o.dst r2) (fF _ _ _)
    ·cases hs
   ·cases hs
  | false =>
   simp only[cond_false] at hs;cases hs;rw[if_neg (by simp)]
   rw[h3] at hk;exact hk _ _ mu S (.refl _ _ _ _) hi (hf.put o.dst iz) (fF _ _ _)
theorem fo {an:Nat->Nat} {ops:Array Oper} {ps:List (List Nat)}:∀ {l:List Oper} {i:Nat} {L:List AOp},eF P an ops ps i l=some L->L.length=l.length ∧
  ∀ (k:Nat) (o:Oper) (ao:AOp),l[k]?=some o->L[k]?=some ao->bQ P (if an (i+k)=2 then 0 else an (i+k)) o.op=some ao.a∧ii ops o.guard=some ao.g∧ao.dst=o.dst∧ao.pre=ps.getD (i+k) []
 | [],i,L,h=>by cases h;exact⟨rfl,fun k o ao h=>by simp at h⟩
 | o::r,i,L,h=>by
  simp only[eF] at h;split at h
  ·rename_i a g l h1 h2 h3;cases h;obtain⟨ih1,ih2⟩:=fo h3;refine⟨by simp[ih1],fun k o' ao hk hk'=>?_⟩
   cases k with
   | zero=>simp at hk hk';subst hk;subst hk';exact⟨h1,h2,rfl,rfl⟩
   | succ k =>
    have:=ih2 k o' ao (by simpa using hk) (by simpa using hk')
    rwa [show i+1+k=i+(k+1) by omega] at this
  ·cases h
def iv (P:Program) (φ:FuncId->List V->Hp->Option (V × Hp)):Prop :=
 ∀ (TB:Nat->Prop) (an:Nat->Nat) (ops:Array Oper) (id:Nat) (L:List AOp),eF P an ops (fE ops.toList []) 0 ops.toList=some L ->
  ∀ (mu:Mu) (S:St) (w:World) (H H':Hp) (fr fr':Fr) (a:Act) (Q:Exit->Act->World->Prop),dk φ L fr H=some (fr',H')->Inv mu S TB w H->RelFr mu S w fr a ->
   (∀ a' w' mu' S',Ext TB mu S w mu' S' w'->Inv mu' S' TB w' H'->RelFr mu' S' w' fr' a'->a'.defers=a.defers->Q .normal a' w')->(Code.region id ops true).wp P Q a w
def wy:Ex->Exit
 | .normal=>.normal
 | .exit i=>.exit i
 | .ret=>.ret
theorem Inv.weaken {TB':Nat->Prop} (hi:Inv mu S TB' w H) (h:∀ b,TB b->TB' b):Inv mu S TB w H:=by
 refine⟨fun i b l hb hl=>?_,hi.dom,hi.old,hi.sl,fun b hb=>hi.tl b (h b hb),hi.one⟩
 have:=hi.box i b l hb hl;cases b with
 | dead=>trivial
 | mp rows =>
  obtain⟨l,B,h1,h2,h3,h5,h6⟩:=this;exact⟨l,B,h1,h2,h3,fun ht=>h5 (h _ ht),h6⟩
 | cells xs =>
  obtain⟨l,B,cur,e,h1,h2,h3,h4,h5,h6⟩:=this;exact⟨l,B,cur,e,h1,h2,h3,h4,fun ht=>h5 (h _ ht),h6⟩
 | arr sz rows fz =>
  obtain⟨l,h1,h2,h3,h4,h5,h6⟩:=this;refine⟨l,h1,h2,h3,h4,h5,?_⟩;cases hbk:l.blk with
  | none=>rw[hbk] at h6;exact h6
  | some B =>
   rw[hbk] at h6;obtain⟨cur,e,ff,k1,k2,k3,k4,k5,k6,k7,k8⟩:=h6;exact⟨cur,e,ff,k1,k2,k3,k4,k5,k6,fun ht=>k7 (h _ ht),k8⟩
structure ExtM (m:Nat) (TB:Nat->Prop) (mu:Mu) (S:St) (w:World) (mu':Mu) (S':St) (w':World):Prop where
 mu:∀ i l,i<m->mu i=some l->mu' i=some l
 ss:∀ b o,S b o->S' b o
 avoid:∀ b o,TB b->S' b o->S b o
 cell:∀ b o,S b o->w'.cell? ⟨b,o,none⟩=w.cell? ⟨b,o,none⟩
 blk:∀ b,TB b->w'.heap[b]?=w.heap[b]?
 size:w.heap.size<=w'.heap.size
 os:w'.os=w.os
 tape:w'.tape=w.tape
 output:w'.output=w.output
theorem Ext.m {S':St} {w':World} (e:Ext TB mu S w mu' S' w') (m:Nat):ExtM m TB mu S w mu' S' w':=⟨fun i l _ h=>e.mu i l h,e.ss,e.avoid,e.cell,e.blk,e.size,e.os,e.tape,e.output⟩
theorem ExtM.trans {m:Nat} {mu1 mu2:Mu} {S1 S2:St} {w1 w2:World} (h:ExtM m TB mu S w mu1 S1 w1) (k:ExtM m TB mu1 S1 w1 mu2 S2 w2):ExtM m TB mu S w mu2 S2 w2 :=
 ⟨fun i l hm x=>k.mu i l hm (h.mu i l hm x),fun b o x=>k.ss b o (h.ss b o x),fun b o t x=>h.avoid b o t (k.avoid b o t x),
  fun b o x=>(k.cell b o (h.ss b o x)).trans (h.cell b o x),fun b t=>(k.blk b t).trans (h.blk b t),Nat.le_trans h.size k.size,
  k.os.trans h.os,k.tape.trans h.tape,k.output.trans h.output⟩
theorem AG (hi:Inv mu S TB w H) (hf:RelFr mu S w fr a) (m:Nat) (lv:List Nat):∃ mu',ExtM m TB mu S w mu' S w∧Inv mu' S TB w (canon m lv fr H).2∧RelFr mu' S w (canon m lv fr H).1 a:=by
 have hk:RelFr mu S w (bf lv fr) a:=by
  refine⟨by simp[bf,hf.size],fun t v ht=>?_⟩
  simp only[bf,List.getElem?_mapIdx,Option.map_eq_some_iff] at ht;obtain⟨u,hu,rfl⟩:=ht;obtain⟨x,hx,hr⟩:=hf.rel t u hu;refine⟨x,hx,?_⟩;split
  ·exact hr
  ·trivial
 simp only[canon];obtain⟨hn,hal,hm⟩:=wI m H ((bf lv fr).flatMap V.refs);refine⟨mJ mu (sr m H ((bf lv fr).flatMap V.refs)),⟨fun i l him hl=>?_,fun _ _ h=>h,fun _ _ _ h=>h,fun _ _ _=>rfl,fun _ _=>rfl,Nat.le_refl _,rfl,rfl,rfl⟩,(hi.canon hn hal).weaken fun b h=>.inl h,⟨by simp[hk.size],fun t v ht=>?_⟩⟩
 ·simp[mJ,hm i him (hi.dom i l hl),hl]
 ·rw[List.getElem?_map,Option.map_eq_some_iff] at ht;obtain⟨u,hu,rfl⟩:=ht;obtain⟨x,hx,hr⟩:=hk.rel t u hu;exact⟨x,hx,hr.ren mg⟩
end
section
variable {P:Program} {mu mu':Mu} {S:St} {TB:Nat->Prop} {w:World} {H:Hp} {fr:Fr} {a:Act}
variable {φ:FuncId->List V->Hp->Option (V × Hp)} {o:Oper} {v:V} {H':Hp}
def Fe (ro:Option Nat):Fence:={ Fence.wide with round:=ro }
theorem LL:Fe none=Fence.wide:=rfl
theorem MH {ro:Option Nat} {d:Nat} {row:String} {args:Array Value} {R:Value->World->Prop} (h:Rows P row args w R):RowsIn (Fe ro) d P row args w R :=
 fun c cs _=>let ⟨v,w',r,s⟩:=h c cs;⟨v,w',r,stepsIn_wide.2 s⟩
theorem Nk {ro:Option Nat} {d:Nat} {next:Act->World->Prop} {Q:Exit->Act->World->Prop} {r:Result Next} (h:o.upon P a next Q r):o.uponIn (Fe ro) d P a next Q r:=by
 cases r with
 | ok v w' =>
  cases v with
  | value v=>exact h
  | skip=>exact h
  | defer d=>exact h
  | enter f args=>exact⟨fun h=>by simp[Fe,Fence.wide] at h,callsIn_wide.2 h⟩
  | row row args=>exact⟨fun h=>by simp[Fe,Fence.wide] at h,MH h⟩
  | _=>exact h.elim
 | halt y w' =>
  cases y with
  | panic v=>exact h
  | _=>exact h.elim
theorem wp_in {ro:Option Nat} {d:Nat} {next:Act->World->Prop} {Q:Exit->Act->World->Prop} (hd:∀ c,o.op≠.defer c) (h:o.wp P a w next Q):o.wpIn (Fe ro) d P a w next Q :=
 ⟨fun _ _=>trivial,by rw[Oper.semAt_eq _ _ _ hd];exact Nk h⟩
theorem vA {fl:Nat} {op:Op} {ao:A} (h:bQ P fl op=some ao):∀ c,op≠.defer c:=by
 intro c e;subst e;cases h
theorem step_okF (hg:Good P φ) {ro:Option Nat} {dd:Nat} {an:Nat} {ops:Array Oper} {i:Nat} {rest:List Nat} {ao:AOp} {fr':Fr} (ho:ops[i]?=some o) (h1:bQ P (if an=2 then 0 else an) o.op=some ao.a) (h2:ii ops o.guard=some ao.g) (h3:ao.dst=o.dst)
  (hi:Inv mu S TB w H) (hf:RelFr mu S w fr a) (hs:ao.step φ fr H=some (fr',H')) {Q:Exit->Act->World->Prop}
  (hk:∀ a' w' mu' S',Ext TB mu S w mu' S' w'->Inv mu' S' TB w' H'->RelFr mu' S' w' fr' a'->a'.defers=a.defers->wpOpsIn (Fe ro) dd P ops Q rest a' w'):wpOpsIn (Fe ro) dd P ops Q (i::rest) a w:=by
 unfold AOp.step at hs;simp only[wpOpsIn,ho];split at hs
 ·cases hs
 ·rename_i b hw;rw[n6 h2 hf hw];cases b with
  | true =>
   simp only[cond_true] at hs;simp only[if_true];split at hs
   ·rename_i v H1 hrun;refine wp_in (vA h1) (BY hg h1 hi hf hrun _ Q fun x w' mu' S' ex i1 rx=>?_)
    split at hs
    ·rename_i v2 H2 hfz;cases hs;have:∃ S2,Ext TB mu' S' w' mu' S2 w'∧Inv mu' S2 TB w' H'∧RelV mu' S2 w' v2 x:=by
      cases hfzb:ao.fz with
      | false=>rw[hfzb] at hfz;simp only[cond_false] at hfz;cases hfz;exact⟨S',.refl _ _ _ _,i1,rx⟩
      | true =>
       rw[hfzb] at hfz;simp only[cond_true] at hfz;obtain⟨S2,e2,i2,k2⟩:=um hfz i1;exact⟨S2,e2,i2,k2 _ rx⟩
     obtain⟨S2,e2,i2,r2⟩:=this;rw[h3] at hk;exact hk _ _ mu' S2 (ex.trans e2) i2 (((hf.ext ex).ext e2).put o.dst r2) (fF _ _ _)
    ·cases hs
   ·cases hs
  | false =>
   simp only[cond_false] at hs;cases hs;rw[if_neg (by simp)]
   rw[h3] at hk;exact⟨fun _ _=>trivial,hk _ _ mu S (.refl _ _ _ _) hi (hf.put o.dst iz) (fF _ _ _)⟩
theorem kj (hg:Good P φ) {ro:Option Nat} {dd:Nat} {an:Nat->Nat} {ops:Array Oper} {ps:List (List Nat)} {Q:Exit->Act->World->Prop} {rest:List Nat} {fr':Fr} :
  ∀ (L:List AOp) (l:List Oper) (i:Nat),eF P an ops ps i l=some L->(∀ j o,l[j]?=some o->ops[i+j]?=some o) ->
   ∀ (mu:Mu) (S:St) (w:World) (H:Hp) (fr:Fr) (a:Act),bP φ L fr H=some (fr',H')->Inv mu S TB w H->RelFr mu S w fr a ->
   (∀ a' w' mu' S',Ext TB mu S w mu' S' w'->Inv mu' S' TB w' H'->RelFr mu' S' w' fr' a'->a'.defers=a.defers->wpOpsIn (Fe ro) dd P ops Q rest a' w')->wpOpsIn (Fe ro) dd P ops Q (List.range' i l.length++rest) a w
 | L,[],i,hc,hl,mu,S,w,H,fr,a,hr,hi,hf,hk=>by
  cases hc;simp only[bP] at hr;cases hr;exact hk a w mu S (.refl _ _ _ _) hi hf rfl
 | L,o::r,i,hc,hl,mu,S,w,H,fr,a,hr,hi,hf,hk=>by
  simp only[eF] at hc;split at hc
  ·rename_i ao g L' h1 h2 h3;cases hc;simp only[bP] at hr;split at hr
   ·rename_i fr1 H1 hs;rw[List.length_cons,List.range'_succ,List.cons_append];refine step_okF hg (by simpa using hl 0 o rfl) h1 h2 rfl hi hf hs fun a' w' mu' S' ex i1 f1 hd=>?_
    exact kj hg L' r (i+1) h3 (fun j o' ho=>by have:=hl (j+1) o' (by simpa using ho);rwa [show i+1+j=i+(j+1) by omega]) mu' S' w' H1 fr1 a' hr i1 f1
     fun a2 w2 mu2 S2 e2 i2 f2 hd2=>hk a2 w2 mu2 S2 (ex.trans e2) i2 f2 (hd2.trans hd)
   ·cases hr
  ·cases hc
theorem uq (hg:Good P φ) (hd:iv P φ) (ro:Option Nat) {dd:Nat} {an:Nat->Nat->Nat} {lv:Nat->List Nat} {n m:Nat} {α:Type} {r:α}:∀ (c:Code) (k k':Nat) (ac:AC),cG P an lv c k=some (ac,k')->(ro.isSome=true->bW c=true∧ac.nd=true) ->
  ∀ (mu:Mu) (S:St) (w:World) (H:Hp) (fr:Fr) (a:Act) (K:Ex->Fr->Hp->Option α) (Q:Exit->Act->World->Prop),gg φ n m ac fr H K=some r->Inv mu S TB w H->RelFr mu S w fr a ->
   (∀ e fr' H' a' w' mu' S',K e fr' H'=some r->ExtM m TB mu S w mu' S' w'->Inv mu' S' TB w' H'->RelFr mu' S' w' fr' a'->a'.defers=a.defers->Q (wy e) a' w')->c.wpIn (Fe ro) dd P Q a w:=by
 have rf:∀ (mu:Mu) (S:St) (w:World),ExtM m TB mu S w mu S w:=fun mu S w=>(Ext.refl TB mu S w).m m
 intro c;induction c with
 | skip=>intro k k' ac hc hro mu S w H fr a K Q hr hi hf hk;cases hc;exact wpIn_skip (hk .normal fr H a w mu S hr (rf _ _ _) hi hf rfl)
 | label l=>intro k k' ac hc hro mu S w H fr a K Q hr hi hf hk;cases hc;exact wpIn_label (hk .normal fr H a w mu S hr (rf _ _ _) hi hf rfl)
 | ret=>intro k k' ac hc hro mu S w H fr a K Q hr hi hf hk;cases hc;exact wpIn_ret (hk .ret fr H a w mu S hr (rf _ _ _) hi hf rfl)
 | exit id=>intro k k' ac hc hro mu S w H fr a K Q hr hi hf hk;cases hc;exact wpIn_exit (hk (.exit id) fr H a w mu S hr (rf _ _ _) hi hf rfl)
 | region id ops dr =>
  intro k k' ac hc hro mu S w H fr a K Q hr hi hf hk;simp only[cG] at hc;split at hc
  ·split at hc
   ·rename_i c hy;cases hc;unfold qv at hy;split at hy
    ·split at hy
     ·split at hy
      ·split at hy
       ·cases hy;simp[gg] at hr
       ·cases hy
      ·cases hy
     ·cases hy
    ·cases hy
   ·cases hc
  ·split at hc
   ·rename_i L hL;cases hc;simp only[gg] at hr;split at hr
    ·rename_i fr1 H1 hrun;have hkk:∀ a' w' mu' S',Ext TB mu S w mu' S' w'->Inv mu' S' TB w' H1->RelFr mu' S' w' fr1 a'->a'.defers=a.defers->Q .normal a' w' :=
      fun a' w' mu' S' ex i1 f1 d1=>hk .normal fr1 H1 a' w' mu' S' hr (ex.m m) i1 f1 d1
     cases dr with
     | true =>
      simp only[cond_true] at hL hrun;cases ro with
      | none=>exact wpIn_wide.2 (hd TB (an id) ops id L hL mu S w H H1 fr fr1 a Q hrun hi hf hkk)
      | some l=>have:=(hro rfl).2;simp[AC.nd] at this
     | false =>
      simp only[cond_false] at hL hrun;refine wpIn_region ?_;have:=kj (ro:=ro) (dd:=dd) (Q:=Q) (rest:=[]) hg L ops.toList 0 hL (fun j o ho=>by simpa using ho) mu S w H fr a hrun hi hf hkk
      rw[List.range_eq_range'];simpa using this
    ·cases hr
   ·cases hc
 | seq x y ihx ihy =>
  intro k k' ac hc hro mu S w H fr a K Q hr hi hf hk;simp only[cG] at hc;split at hc
  ·rename_i x' n1 hx;split at hc
   ·rename_i y' n2 hy;cases hc;simp only[gg] at hr;have hrx:ro.isSome=true->bW x=true∧x'.nd=true:=fun h=>by have:=hro h;simp only[bW,AC.nd,Bool.and_eq_true] at this;exact⟨this.1.1,this.2.1⟩
    have hry:ro.isSome=true->bW y=true∧y'.nd=true:=fun h=>by have:=hro h;simp only[bW,AC.nd,Bool.and_eq_true] at this;exact⟨this.1.2,this.2.2⟩
    refine wpIn_seq (ihx k n1 x' hx hrx mu S w H fr a _ _ hr hi hf fun e fr1 H1 a1 w1 mu1 S1 hK e1 i1 f1 d1=>?_)
    cases e with
    | normal=>exact ihy n1 _ y' hy hry mu1 S1 w1 H1 fr1 a1 K Q hK i1 f1 fun e fr2 H2 a2 w2 mu2 S2 hK2 e2 i2 f2 d2=>hk e fr2 H2 a2 w2 mu2 S2 hK2 (e1.trans e2) i2 f2 (d2.trans d1)
    | exit id=>exact hk (.exit id) fr1 H1 a1 w1 mu1 S1 hK e1 i1 f1 d1
    | ret=>exact hk .ret fr1 H1 a1 w1 mu1 S1 hK e1 i1 f1 d1
   ·cases hc
  ·cases hc
 | cond c x y ihx ihy =>
  intro k k' ac hc hro mu S w H fr a K Q hr hi hf hk;simp only[cG] at hc;split at hc
  ·rename_i c' hcx;split at hc
   ·rename_i x' n1 hx;split at hc
    ·rename_i y' n2 hy;cases hc;simp only[gg] at hr;have hrx:ro.isSome=true->bW x=true∧x'.nd=true:=fun h=>by have:=hro h;simp only[bW,AC.nd,Bool.and_eq_true] at this;exact⟨this.1.1,this.2.1⟩
     have hry:ro.isSome=true->bW y=true∧y'.nd=true:=fun h=>by have:=hro h;simp only[bW,AC.nd,Bool.and_eq_true] at this;exact⟨this.1.2,this.2.2⟩
     split at hr
     ·rename_i t ht;have hb:=(aj hcx hf ht).b_inv;cases t with
      | true=>exact wpIn_cond_true hb (ihx k n1 x' hx hrx mu S w H fr a K Q hr hi hf hk)
      | false=>exact wpIn_cond_false hb (ihy n1 _ y' hy hry mu S w H fr a K Q hr hi hf hk)
     ·cases hr
    ·cases hc
   ·cases hc
  ·cases hc
 | block id c ih =>
  intro k k' ac hc hro mu S w H fr a K Q hr hi hf hk;simp only[cG] at hc;split at hc
  ·rename_i x n1 hx;cases hc;simp only[gg] at hr;refine wpIn_block (ih k _ x hx (fun h=>hro h) mu S w H fr a _ _ hr hi hf fun e fr1 H1 a1 w1 mu1 S1 hK e1 i1 f1 d1=>?_)
   cases e with
   | normal=>exact hk .normal fr1 H1 a1 w1 mu1 S1 hK e1 i1 f1 d1
   | ret=>exact hk .ret fr1 H1 a1 w1 mu1 S1 hK e1 i1 f1 d1
   | exit i =>
    simp only[wy,Exit.inBlock];simp only at hK;split
    ·rename_i h;rw[if_pos h] at hK;exact hk .normal fr1 H1 a1 w1 mu1 S1 hK e1 i1 f1 d1
    ·rename_i h;rw[if_neg h] at hK;exact hk (.exit i) fr1 H1 a1 w1 mu1 S1 hK e1 i1 f1 d1
  ·cases hc
 | loop c ih =>
  intro k k' ac hc hro mu S w H fr a K Q hr hi hf hk;simp only[cG] at hc;split at hc
  ·rename_i x n1 hx;cases hc;simp only[gg] at hr;refine wpIn_loop_rounds n ?_;have key:∀ (q:Nat) (mu1:Mu) (S1:St) (w1:World) (H1:Hp) (fr1:Fr) (a1:Act),jB (gg φ n m x) m (lv k) K q fr1 H1=some r->ExtM m TB mu S w mu1 S1 w1->Inv mu1 S1 TB w1 H1->RelFr mu1 S1 w1 fr1 a1->a1.defers=a.defers->Code.roundsIn (Fe ro) dd P c Q q a1 w1:=by
    intro q;induction q with
    | zero=>intro mu1 S1 w1 H1 fr1 a1 hr;simp[jB] at hr
    | succ q ihq =>
     intro mu1 S1 w1 H1 fr1 a1 hr e1 i1 f1 d1;simp only[jB] at hr;rw[roundsIn_succ];obtain⟨mu2,e2,i2,f2⟩:=AG i1 f1 m (lv k);refine ih (k+1) _ x hx (fun h=>hro h) mu2 S1 w1 _ _ a1 _ _ hr i2 f2 fun e fr3 H3 a3 w3 mu3 S3 hK e3 i3 f3 d3=>?_
     cases e with
     | normal=>exact ihq mu3 S3 w3 H3 fr3 a3 hK ((e1.trans e2).trans e3) i3 f3 (d3.trans d1)
     | exit i=>exact hk (.exit i) fr3 H3 a3 w3 mu3 S3 hK ((e1.trans e2).trans e3) i3 f3 (d3.trans d1)
     | ret=>exact hk .ret fr3 H3 a3 w3 mu3 S3 hK ((e1.trans e2).trans e3) i3 f3 (d3.trans d1)
   exact key n mu S w H fr a hr (rf _ _ _) hi hf rfl
  ·cases hc
 | scope c ih =>
  intro k k' ac hc hro mu S w H fr a K Q hr hi hf hk;simp only[cG] at hc;cases ro with
  | some l=>have:=(hro rfl).1;simp[bW] at this
  | none =>
   refine wpIn_wide.2 (wp_scope_straight (wpIn_wide.1 (ih k k' ac hc (fun h=>by cases h) mu S w H fr a K _ hr hi hf fun e fr1 H1 a1 w1 mu1 S1 hK e1 i1 f1 d1=>?_)))
   cases e with
   | normal=>exact hk .normal fr1 H1 a1 w1 mu1 S1 hK e1 i1 f1 d1
   | exit i=>exact hk (.exit i) fr1 H1 a1 w1 mu1 S1 hK e1 i1 f1 d1
   | ret=>exact hk .ret fr1 H1 a1 w1 mu1 S1 hK e1 i1 f1 d1
 | goto l=>intro k k' ac hc;cases hc
 | rangeFunc f ps as b _ _ =>
  intro k k' ac hc hro mu S w H fr a K Q hr;simp only[cG] at hc;split at hc
  ·split at hc
   ·split at hc
    ·cases hb:(bW as && bW b) with
     | false=>rw[hb] at hc;cases hc
     | true=>rw[hb] at hc;cases hc;simp[gg] at hr
    ·cases hc
   ·cases hc
  ·cases hc
 | refuse why=>intro k k' ac hc;cases hc
theorem tN (hg:Good P φ) (hd:iv P φ) {an:Nat->Nat->Nat} {lv:Nat->List Nat} {n m:Nat} {α:Type} {r:α} (c:Code) (k k':Nat) (ac:AC) (hc:cG P an lv c k=some (ac,k'))
  (mu:Mu) (S:St) (w:World) (H:Hp) (fr:Fr) (a:Act) (K:Ex->Fr->Hp->Option α) (Q:Exit->Act->World->Prop) (hr:gg φ n m ac fr H K=some r) (hi:Inv mu S TB w H) (hf:RelFr mu S w fr a)
   (hk:∀ e fr' H' a' w' mu' S',K e fr' H'=some r->ExtM m TB mu S w mu' S' w'->Inv mu' S' TB w' H'->RelFr mu' S' w' fr' a'->a'.defers=a.defers->Q (wy e) a' w'):c.wp P Q a w :=
 wpIn_wide.1 (uq hg hd none (dd:=0) c k k' ac hc (fun h=>by cases h) mu S w H fr a K Q hr hi hf hk)
theorem uK {m:Nat} {x:L} (h:∀ i∈x.refs,i<m):x.ren (fun i=>if i<m then some i else none)=x:=by
 cases x with
 | p i off=>have:=h i (by simp[L.refs]);simp[L.ren,this]
 | ap i k j=>have:=h i (by simp[L.refs]);simp[L.ren,this]
 | y i k=>have:=h i (by simp[L.refs]);simp[L.ren,this]
 | sp i k=>have:=h i (by simp[L.refs]);simp[L.ren,this]
 | m i=>have:=h i (by simp[L.refs]);simp[L.ren,this]
 | sl i z off n=>have:=h i (by simp[L.refs]);simp[L.ren,this]
 | f fn caps =>
  have:∀ l:List Nat,(∀ i∈l,i<m)->lh (fun i=>if i<m then some i else none) l=some l:=by
   intro l;induction l with
   | nil=>intro _;rfl
   | cons i l ih =>
    intro hl;simp only[lh,if_pos (hl i List.mem_cons_self),ih (fun k hk=>hl k (List.mem_cons_of_mem _ hk))]
  simp[L.ren,this caps (by simpa[L.refs] using h)]
 | _=>rfl
theorem nt {m:Nat} {xs:List L} (h:∀ i∈xs.flatMap L.refs,i<m):xs.map (L.ren (fun i=>if i<m then some i else none))=xs:=by
 conv=>rhs;rw[<- List.map_id xs]
 apply List.map_congr_left;intro x hx;exact uK fun i hi=>h i (List.mem_flatMap.2 ⟨x,hx,hi⟩)
theorem CF {m:Nat} {x:V} (h:∀ i∈x.refs,i<m):x.ren (fun i=>if i<m then some i else none)=x:=by
 cases x with
 | one x=>simp only[V.ren];rw[uK h]
 | agg xs=>simp only[V.ren];rw[nt h]
 | any=>rfl
 | tup xs =>
  simp only[V.ren];congr 1
  conv=>rhs;rw[<- List.map_id xs]
  apply List.map_congr_left;intro c hc;obtain⟨t,ys⟩:=c;simp only[id_eq];congr 1
  exact nt fun i hi=>h i (List.mem_flatMap.2 ⟨(t,ys),hc,hi⟩)
theorem Dr {m:Nat} {b:Box} (h:∀ i∈b.refs,i<m):b.ren (fun i=>if i<m then some i else none)=b:=by
 cases b with
 | cells xs=>simp only[Box.ren];rw[nt h]
 | _=>rfl
theorem Ff {S':St} {w':World} {m:Nat} {r:V} {x:Value} (hdom:∀ i l,mu i=some l->i<m) (he:ExtM m TB mu S w mu' S' w') (hi:Inv mu' S' TB w' H) (hr:RelV mu' S' w' r x) :
  ∃ mu2,Ext TB mu S w mu2 S' w'∧Inv mu2 S' TB w' (trim m r H).2∧RelV mu2 S' w' (trim m r H).1 x:=by
 have e0:∀ {mu2:Mu},(∀ i l,mu i=some l->mu2 i=some l)->Ext TB mu S w mu2 S' w':=fun h=>⟨h,he.ss,he.avoid,he.cell,he.blk,he.size,he.os,he.tape,he.output⟩
 unfold trim;split
 ·rename_i hall;rw[List.all_eq_true] at hall;have hall':∀ i∈r.refs++(H.take m).flatMap Box.refs,i<m:=fun i h=>by simpa using hall i h
  let mu2:Mu:=fun i=>if i<m then mu' i else none
  have hρ:∀ i j,(fun i=>if i<m then some i else none) i=some j->mu2 j=mu' i:=by
   intro i j h;simp only at h;split at h
   ·rename_i hlt;cases h;simp only[mu2,if_pos hlt]
   ·cases h
  refine⟨mu2,e0 fun i l h=>?_,⟨fun i b l hb hl=>?_,fun i l h=>?_,fun i l B h1 h2=>?_,hi.sl,hi.tl,?_⟩,?_⟩
  ·have hlt:=hdom i l h;simp only[mu2,if_pos hlt];exact he.mu i l hlt h
  ·simp only[mu2] at hl;split at hl
   ·rename_i hlt;have hb':H[i]?=some b:=by rw[List.getElem?_take,if_pos hlt] at hb;exact hb
    have:=RelB.ren (TB':=TB) (mu':=mu2) (j:=i) hρ (by simp only[mu2,if_pos hlt]) (fun l B _ _ _ h=>h) (hi.box i b l hb' hl)
    rwa [Dr fun k hk=>hall' k (List.mem_append_right _ (List.mem_flatMap.2 ⟨b,List.mem_of_getElem? hb,hk⟩))] at this
   ·cases hl
  ·simp only[mu2] at h;split at h
   ·have:=hi.dom i l h;simp;omega
   ·cases h
  ·simp only[mu2] at h1;split at h1
   ·exact hi.old i l B h1 h2
   ·cases h1
  ·intro p q bp bq lp lq B hpq hbp hbq hap haq hmp hmq hBp hBq;simp only[mu2] at hmp hmq;split at hmp
   ·split at hmq
    ·rename_i h1 h2;rw[List.getElem?_take,if_pos h1] at hbp;rw[List.getElem?_take,if_pos h2] at hbq;exact hi.one p q bp bq lp lq B hpq hbp hbq hap haq hmp hmq hBp hBq
    ·cases hmq
   ·cases hmp
  ·have:=RelV.ren (mu':=mu2) hρ hr;rwa [CF fun k hk=>hall' k (List.mem_append_left _ hk)] at this
 ·exact⟨mu',e0 fun i l h=>he.mu i l (hdom i l h) h,hi,hr⟩
theorem Bc (hi:Inv mu S TB w H) (hf:RelFr mu S w fr a) {rv:ResultVar} {x:RV} {v:V} (hc:eV P [rv]=some [x]) (hv:x.get fr H=some v) :
  ∃ u,(match rv with | .tmp t=>pure (a.tmps.getD t undef) | .cell c t=>do loadVar t (<- asAddr (a.tmps.getD c undef)):Sem Value).run P w=.ok u w∧RelV mu S w v u:=by
 cases rv with
 | tmp t =>
  cases hc;simp only[RV.get] at hv;obtain⟨u,hu,hr⟩:=hf.rel t v hv;exact⟨u,by simp only[Sem.run_pure,Array.getD_eq_getD_getElem?,hu,Option.getD_some],hr⟩
 | cell c t =>
  simp only[eV] at hc;split at hc
  ·rename_i g l hg hl;cases hl;cases hc;simp only[RV.get] at hv;split at hv
   ·rename_i v' H1 hld;cases hv;obtain⟨ad,u,he,hrun,_,hr⟩:=Kq (x:=.tmp c) hg rfl hi hf hld;refine⟨u,?_,hr⟩;have e0:a.tmps.getD c undef=.pointer (some ad):=he;simp only[Instr.loadAt,Instr.sureAddr,Sem.run_bind,Sem.run_pure,Result.andThen] at hrun;simp only[e0,asAddr,Sem.run_bind,Sem.run_pure,Result.andThen];exact hrun
   ·cases hv
  ·cases hc
theorem jA {rv:ResultVar} {rs:List ResultVar} {ts:List RV} (h:eV P (rv::rs)=some ts):∃ x l,ts=x::l∧eV P [rv]=some [x]∧eV P rs=some l:=by
 cases rv with
 | tmp t =>
  simp only[eV] at h;split at h
  ·rename_i l hl;cases h;exact⟨_,_,rfl,rfl,hl⟩
  ·cases h
 | cell c t =>
  simp only[eV] at h;split at h
  ·rename_i g l hg hl;cases h;exact⟨_,_,rfl,by simp only[eV,hg],hl⟩
  ·cases h
theorem Na {v:V} {c:Bool × List L} {u:Value} (h:FW v=some c) (hr:RelV mu S w v u):RelC mu S w c u:=by
 cases v with
 | one x=>cases h;exact⟨x,rfl,hr⟩
 | agg xs=>cases h;exact hr
 | tup xs=>cases h
 | any=>cases h
theorem o6 {fn:Func} {ts:List RV} {r:V} (hres:eV P fn.results.toList=some ts) (hi:Inv mu S TB w H) (hf:RelFr mu S w fr a) (h:rC fr H ts=some r) :
  ∃ u,(results fn a.tmps).run P w=.ok u w∧RelV mu S w r u:=by
 have key:∀ (rs:List ResultVar) (ts:List RV),eV P rs=some ts->∀ l,wv fr H ts=some l ->
   ∃ us:List Value,(rs.mapM fun | .tmp t=>pure (a.tmps.getD t undef) | .cell c t=>do loadVar t (<- asAddr (a.tmps.getD c undef)):Sem (List Value)).run P w=.ok us w∧us.length=l.length∧rs.length=l.length ∧
    ∀ (j:Nat) (c:Bool × List L),l[j]?=some c->∃ x,us[j]?=some x∧RelC mu S w c x:=by
  intro rs;induction rs with
  | nil=>intro ts h l hl;cases h;cases hl;exact⟨[],rfl,rfl,rfl,fun j c hj=>by simp at hj⟩
  | cons rv rs ih =>
   intro ts h l hl;obtain⟨x,ts',rfl,h1,h2⟩:=jA h;simp only[wv] at hl;split at hl
   ·rename_i v hv;split at hl
    ·rename_i c cs hc hcs;cases hl;obtain⟨u,hu,hr⟩:=Bc hi hf h1 hv;obtain⟨us,hus,g1,g2,g3⟩:=ih ts' h2 cs hcs;refine⟨u::us,?_,by simp[g1],by simp[g2],fun j d hj=>?_⟩
     ·simp only[List.mapM_cons,Sem.run_bind,Sem.run_pure,Result.andThen];erw [hu]
      simp only[hus]
     ·cases j with
      | zero=>simp at hj;subst hj;exact⟨u,rfl,Na hc hr⟩
      | succ j=>simpa using g3 j d (by simpa using hj)
    ·cases hl
   ·cases hl
 have e0:(results fn a.tmps)=(do let vs <- (fn.results.toList.mapM fun | .tmp t=>pure (a.tmps.getD t undef) | .cell c t=>do loadVar t (<- asAddr (a.tmps.getD c undef)):Sem (List Value));pure (if h:vs.toArray.size=1 then vs.toArray[0] else .tuple vs.toArray)):=by
  unfold results;rw[Array.mapM_eq_mapM_toList];simp only[bind_map_left];rfl
 rw[e0];generalize fn.results.toList=rs at hres;match rs,ts,hres,h with
 | [],_,hres,h =>
  cases hres;cases h;exact⟨.tuple #[],rfl,#[],rfl,rfl,fun j c hj=>by simp at hj⟩
 | [rv],ts,hres,h =>
  obtain⟨x,l,rfl,h1,h2⟩:=jA hres;cases h2;simp only[rC] at h;obtain⟨u,hu,hr⟩:=Bc hi hf h1 h;refine⟨u,?_,hr⟩;simp only[List.mapM_cons,List.mapM_nil,Sem.run_bind,Sem.run_pure,Result.andThen];erw [hu]
  simp
 | rv1::rv2::rs,ts,hres,h =>
  obtain⟨x1,l1,rfl,h1,h2⟩:=jA hres;obtain⟨x2,l2,rfl,h3,h4⟩:=jA h2;simp only[rC] at h;split at h
  ·rename_i l hl;cases h;obtain⟨us,hus,g1,g2,g3⟩:=key _ _ hres l hl;refine⟨.tuple us.toArray,?_,us.toArray,rfl,by simpa using g1,fun j c hj=>by simpa using g3 j c hj⟩
   simp only[Sem.run_bind,hus,Result.andThen,Sem.run_pure];rw[dif_neg (by simp[g1,<- g2])]
  ·cases h
theorem LZ (hg:Good P φ) (hd:iv P φ) {f:FuncId} {an:Ann} {af:AF} (hc:oI P f an=some af) {n:Nat} {args:List V} {r:V}
  (hr:gg φ n H.length af.body (args++List.replicate (af.ntmps-args.length) (.tup [])) H (gy af H.length)=some (r,H')):CallOK P f args H r H':=by
 intro mu S TB w vs hi ha;unfold oI at hc;split at hc
 ·split at hc
  ·rename_i fn hfn;split at hc
   ·rename_i c hbody;split at hc
    ·rename_i x k' ts hcc hres;cases hc;simp only at hr;refine calls_of_wp hfn hbody (tN hg hd c 0 k' x hcc mu S w H _ _ _ _ hr hi ?_ ?_)
     ·refine⟨by simp[ha.1],fun t v ht=>?_⟩
      rw[List.getElem?_append] at ht;rw[Array.getElem?_append];simp only[List.size_toArray,ha.1];split at ht
      ·rename_i hlt;rw[if_pos hlt];obtain⟨x,hx,hr⟩:=ha.2 t v ht;exact⟨x,by simpa using hx,hr⟩
      ·rename_i hlt;rw[if_neg hlt];have hrep:=List.mem_replicate.1 (List.mem_of_getElem? ht);have hlt2:=(List.getElem?_eq_some_iff.1 ht).1;simp only[List.length_replicate] at hlt2;refine⟨undef,?_,by rw[hrep.2];exact iz⟩
       simp[hlt2]
     ·intro e fr1 H1 a1 w1 mu1 S1 hK e1 i1 f1 d1;have wA:∀ (r0:V),rC fr1 H1 ts=some r0->(bif an.keep then some (r0,H1) else pj r0 H1)=some (r0,H1)∨True->∀ r1 H2,(bif an.keep then some (r0,H1) else pj r0 H1)=some (r1,H2)->trim H.length r1 H2=(r,H') ->
        a1.defers=[]∧∃ v,(results fn a1.tmps).run P w1=.ok v w1∧∃ x mu' S',Ending.returned v=.returned x∧Ext TB mu S w mu' S' w1∧Inv mu' S' TB w1 H'∧RelV mu' S' w1 r x:=by
       intro r0 hr0 _ r1 H2 hfz htr;obtain⟨ru,hrun,hrel⟩:=o6 hres i1 f1 hr0;refine⟨d1,_,hrun,?_⟩;have:∃ S2,Ext TB mu1 S1 w1 mu1 S2 w1∧Inv mu1 S2 TB w1 H2∧RelV mu1 S2 w1 r1 ru:=by
        cases hkp:an.keep with
        | true=>rw[hkp] at hfz;simp only[cond_true] at hfz;cases hfz;exact⟨S1,.refl _ _ _ _,i1,hrel⟩
        | false =>
         rw[hkp] at hfz;simp only[cond_false] at hfz;obtain⟨S2,e2,i2,k2⟩:=um hfz i1;exact⟨S2,e2,i2,k2 _ hrel⟩
       obtain⟨S2,e2,i2,r2⟩:=this;obtain⟨mu2,e3,i3,r3⟩:=Ff (m:=H.length) (fun i l h=>hi.dom i l h) (e1.trans (e2.m _)) i2 r2
       rw[htr] at i3 r3;exact⟨_,mu2,S2,rfl,e3,i3,r3⟩
      cases e with
      | exit i=>simp[gy] at hK
      | normal =>
       simp only[gy] at hK;split at hK
       ·cases hK
       ·rename_i r0 hr0;split at hK
        ·rename_i r1 H2 hfz;exact wA r0 hr0 (.inr trivial) r1 H2 hfz (by simpa using hK)
        ·cases hK
      | ret =>
       simp only[gy] at hK;split at hK
       ·cases hK
       ·rename_i r0 hr0;split at hK
        ·rename_i r1 H2 hfz;exact wA r0 hr0 (.inr trivial) r1 H2 hfz (by simpa using hK)
        ·cases hK
    ·cases hc
   ·cases hc
  ·cases hc
 ·cases hc
theorem Ext.putObj {B:Nat} {ob ob':Obj} (ht:¬ TB B) (h:w.heap[B]?=some ob) (hn:∀ x y z,ob≠.cells x y z) (hn':∀ x y z,ob'≠.cells x y z):Ext TB mu S w mu S (w.putObj B ob'):=by
 refine⟨fun _ _ h=>h,fun _ _ h=>h,fun _ _ _ h=>h,fun b o _=>?_,fun b hb=>?_,by simp,rfl,rfl,rfl⟩
 ·by_cases e:b=B
  ·subst e;have hl:=(Array.getElem?_eq_some_iff.1 h).1;simp only[World.cell?,World.putObj_heap_same hl,h];cases ob <;> cases ob' <;> first|rfl|exact absurd rfl (hn _ _ _)|exact absurd rfl (hn' _ _ _)
  ·simp only[World.cell?,World.putObj_heap_other e]
 ·exact World.putObj_heap_other fun e=>ht (e ▸ hb)
theorem Inv.putObj {TB':Nat->Prop} {B:Nat} {ob ob':Obj} (hi:Inv mu S TB' w H) (hT:TB' B) (h:w.heap[B]?=some ob) (hn:∀ x y z,ob≠.cells x y z) (hn':∀ x y z,ob'≠.cells x y z):Inv mu S TB' (w.putObj B ob') H:=by
 have e:Ext (fun b=>b≠B∧False) mu S w mu S (w.putObj B ob'):=Ext.putObj (by simp) h hn hn'
 have hs:(w.putObj B ob').heap.size=w.heap.size:=by simp
 refine⟨fun i b l hb hl=>?_,hi.dom,fun i l B h1 h2=>by rw[hs];exact hi.old i l B h1 h2,fun b o hb=>by rw[hs];exact hi.sl b o hb,fun b hb=>by rw[hs];exact hi.tl b hb,hi.one⟩
 have e2:Ext TB' mu S w mu S w:=.refl _ _ _ _;have hbox:=hi.box i b l hb hl;cases b with
 | dead=>trivial
 | mp rows =>
  obtain⟨l,B',h1,h2,h3,h5,h6⟩:=hbox;have hne:B'≠B:=fun e=>h5 (e ▸ hT)
  exact⟨l,B',h1,h2,by rw[World.putObj_heap_other hne];exact h3,h5,h6⟩
 | cells xs =>
  obtain⟨l,B',cur,el,h1,h2,h3,h4,h5,h6⟩:=hbox;have hne:B'≠B:=fun e=>h5 (e ▸ hT)
  exact⟨l,B',cur,el,h1,h2,by rw[World.putObj_heap_other hne];exact h3,h4.ext e,h5,h6⟩
 | arr sz rows fz =>
  obtain⟨l,h1,h2,h3,h4,h5,h6⟩:=hbox;refine⟨l,h1,h2,h3,h4,h5,?_⟩;cases hbk:l.blk with
  | none=>rw[hbk] at h6;exact h6
  | some B' =>
   rw[hbk] at h6;obtain⟨cur,el,ff,k1,k2,k3,k4,k5,k6,k7,k8⟩:=h6;have hne:B'≠B:=fun e=>k7 (e ▸ hT)
   exact⟨cur,el,ff,by rw[World.putObj_heap_other hne];exact k1,k2,k3,k4,k5,fun k j r d hr hd=>by obtain⟨v,hv,hrel⟩:=k6 k j r d hr hd;exact⟨v,hv,hrel.ext e⟩,k7,k8⟩
theorem Ext.weakenT {TB':Nat->Prop} {S':St} {w':World} (h:Ext TB' mu S w mu' S' w') (hT:∀ b,TB b->TB' b):Ext TB mu S w mu' S' w' :=
 ⟨h.mu,h.ss,fun b o t=>h.avoid b o (hT b t),h.cell,fun b t=>h.blk b (hT b t),h.size,h.os,h.tape,h.output⟩
theorem ExtM.weakenT {m:Nat} {TB':Nat->Prop} {S':St} {w':World} (h:ExtM m TB' mu S w mu' S' w') (hT:∀ b,TB b->TB' b):ExtM m TB mu S w mu' S' w' :=
 ⟨h.mu,h.ss,fun b o t=>h.avoid b o (hT b t),h.cell,fun b t=>h.blk b (hT b t),h.size,h.os,h.tape,h.output⟩
theorem ExtM.toExt {m:Nat} {S':St} {w':World} (h:ExtM m TB mu S w mu' S' w') (hd:∀ i l,mu i=some l->i<m):Ext TB mu S w mu' S' w' :=
 ⟨fun i l hl=>h.mu i l (hd i l hl) hl,h.ss,h.avoid,h.cell,h.blk,h.size,h.os,h.tape,h.output⟩
theorem nE {fr:Fr} {d:Option Nat} {v:V} (h:d≠some 0):(put fr d v).head?=fr.head?:=by
 cases d with
 | none=>rfl
 | some d =>
  cases d with
  | zero=>exact absurd rfl h
  | succ d=>cases fr <;> rfl
theorem step_head {o:AOp} {fr':Fr} (h:o.step φ fr H=some (fr',H')) (hz:o.dst≠some 0):fr'.head?=fr.head?:=by
 unfold AOp.step at h;split at h
 ·cases h
 ·rename_i b _;cases b with
  | true =>
   simp only[cond_true] at h;split at h
   ·split at h
    ·cases h;exact nE hz
    ·cases h
   ·cases h
  | false=>simp only[cond_false] at h;cases h;exact nE hz
theorem kY:∀ {L:List AOp} {fr fr':Fr} {H H':Hp},bP φ L fr H=some (fr',H')->qS L=true->fr'.head?=fr.head?
 | [],fr,fr',H,H',h,_=>by simp only[bP] at h;cases h;rfl
 | o::r,fr,fr',H,H',h,hz=>by
  simp only[qS,List.all_cons,Bool.and_eq_true,bne_iff_ne,ne_eq] at hz;simp only[bP] at h;split at h
  ·rename_i fr1 H1 hs;rw[kY h hz.2,step_head hs hz.1]
  ·cases h
theorem oL:∀ {L:List AOp} {lg:List Log0} {fr fr':Fr} {H H':Hp},dx φ L lg fr H=some (fr',H')->qS L=true->fr'.head?=fr.head?
 | [],lg,fr,fr',H,H',h,_=>by simp only[dx] at h;cases h;rfl
 | o::r,lg,fr,fr',H,H',h,hz=>by
  simp only[qS,List.all_cons,Bool.and_eq_true,bne_iff_ne,ne_eq] at hz;simp only[dx] at h;split at h
  ·cases h
  ·split at h
   ·split at h
    ·rw[oL h hz.2,nE hz.1]
    ·cases h
   ·cases h
theorem oB:∀ {L:List AOp} {lg:List Log} {fr fr':Fr} {H H':Hp},cX φ L lg fr H=some (fr',H')->qS L=true->fr'.head?=fr.head?
 | [],lg,fr,fr',H,H',h,_=>by simp only[cX] at h;cases h;rfl
 | o::r,lg,fr,fr',H,H',h,hz=>by
  simp only[qS,List.all_cons,Bool.and_eq_true,bne_iff_ne,ne_eq] at hz;simp only[cX] at h;split at h
  ·cases h
  ·split at h
   ·rename_i v H1 _;generalize hc:(!o.fz && _)=c at h;cases c with
    | true=>simp only[cond_true] at h;rw[oB h hz.2,nE hz.1]
    | false=>cases h
   ·cases h
theorem yJ {L:List AOp} {fr fr':Fr} {H H':Hp} (h:dk φ L fr H=some (fr',H')) (hz:qS L=true):fr'.head?=fr.head?:=by
 unfold dk at h;cases hs:jN L [] with
 | true=>rw[hs] at h;exact oL h hz
 | false=>rw[hs] at h;exact oB h hz
theorem CK {ids:List Nat} (hn:ids.Nodup) {q:Nat} (h:ids[q]?=some q):aG ids q=some q:=by
 cases hp:aG ids q with
 | none =>
  simp only[aG,List.findIdx?_eq_none_iff] at hp;have:=hp q (List.mem_of_getElem? h);simp at this
 | some j=>rw[nX hn (md hp) h]
theorem CT {m q kk:Nat} {lv:List Nat} (h:fr.head?=some (.one (.y q kk))) (hl:lv.contains 0=true) (hq:q<m) (hH:q<H.length):(canon m lv fr H).1.head?=some (.one (.y q kk)):=by
 simp only[canon];obtain⟨h1,h2,h3⟩:=wI m H ((bf lv fr).flatMap V.refs);generalize sr m H ((bf lv fr).flatMap V.refs)=ids at *;cases fr with
 | nil=>simp at h
 | cons v fr =>
  simp only[List.head?_cons,Option.some.injEq] at h;subst h;simp only[bf,List.mapIdx_cons,hl,if_true,List.map_cons,List.head?_cons,V.ren,L.ren,CK h1 (h3 q hq hH)]
theorem RelFr.ghost {q k k':Nat} (hf:RelFr mu S w fr a) (h:fr.head?=some (.one (.y q k))):RelFr mu S w (Vi.put fr (some 0) (.one (.y q k'))) a:=by
 cases fr with
 | nil=>simp at h
 | cons v r =>
  simp only[List.head?_cons,Option.some.injEq] at h;subst h;refine⟨hf.size,fun t v ht=>?_⟩
  cases t with
  | zero =>
   simp[Vi.put] at ht;subst ht;obtain⟨x,hx,hr⟩:=hf.rel 0 (V.one (L.y q k)) rfl;exact⟨x,hx,hr⟩
  | succ t=>exact hf.rel (t+1) v (by simpa[Vi.put] using ht)
theorem GU {xs:List Operand} {ys:List X} {vs:List V} (hc:gV xs=some ys) (he:mW fr ys=some vs) (hf:RelFr mu S w fr a):ArgsRel mu S w vs (xs.map a.eval):=by
 obtain⟨h1,h2⟩:=t9 hc he hf;exact⟨by simp[h1],h2⟩
def EL (P:Program) (TB TBl:Nat->Prop) (m l:Nat) (xC:Mu) (S0:St) (w0:World) (Rc:Nat->World->Prop) (ψ:List V->Hp->Option (Nat × Hp)):Prop :=
 ∀ (vs:List V) (us:List Value) (H H2:Hp) (k:Nat) (mu:Mu) (S:St) (w:World),ψ vs H=some (k,H2)->Inv mu S TBl w H->ArgsRel mu S w vs us->ExtM m TB xC S0 w0 mu S w->Rc 0 w ->
  ∃ f tmps asg body,(Instr.yield l us.toArray).run P w=.ok (.round l f tmps asg body) w ∧
   RoundIn Fence.wide 0 P l f tmps asg body w fun e w'=>∃ mu' S',e=.returned (.bool (k == 0))∧Ext TB mu S w mu' S' w'∧Inv mu' S' TBl w' H2∧Rc k w'
theorem Kg (hg:Good P φ) (hd:iv P φ) {TBl:Nat->Prop} (hTl:∀ b,TB b->TBl b) {ψ:List V->Hp->Option (Nat × Hp)} {Rc:Nat->World->Prop} {q l:Nat} {xC:Mu} {S0:St} {w0:World} {ll:Loc} {an:Nat->Nat->Nat} {lv:Nat->List Nat} {n m:Nat} {α:Type} {r:α}
  (hRc:∀ k w w',Rc k w->(∀ b,TBl b->w'.heap[b]?=w.heap[b]?)->Rc k w') (hq:q<m) (hmq:xC q=some ll) (hll:ll.blk=some l) (hY:EL P TB TBl m l xC S0 w0 Rc ψ) :
  ∀ (c:Code) (k k':Nat) (ac:AC),cG P an lv c k=some (ac,k')->ac.zok=true ->
  ∀ (mu:Mu) (S:St) (w:World) (H:Hp) (fr:Fr) (a:Act) (K:Ex->Fr->Hp->Option α) (Q:Exit->Act->World->Prop),fc φ ψ n m ac fr H K=some r->Inv mu S TBl w H->RelFr mu S w fr a->ExtM m TB xC S0 w0 mu S w ->
   (∃ kk,fr.head?=some (.one (.y q kk))∧Rc kk w) ->
   (∀ e fr' H' a' w' mu' S',K e fr' H'=some r->ExtM m TB xC S0 w0 mu' S' w'->Inv mu' S' TBl w' H'->RelFr mu' S' w' fr' a'->a'.defers=a.defers->(∃ kk,fr'.head?=some (.one (.y q kk))∧Rc kk w')->Q (wy e) a' w')->c.wp P Q a w:=by
 intro c;induction c with
 | skip=>intro k k' ac hc hz mu S w H fr a K Q hr hi hf e0 hj hk;cases hc;exact wp_skip (hk .normal fr H a w mu S hr e0 hi hf rfl hj)
 | label l=>intro k k' ac hc hz mu S w H fr a K Q hr hi hf e0 hj hk;cases hc;exact wp_label (hk .normal fr H a w mu S hr e0 hi hf rfl hj)
 | ret=>intro k k' ac hc hz mu S w H fr a K Q hr hi hf e0 hj hk;cases hc;exact wp_ret (hk .ret fr H a w mu S hr e0 hi hf rfl hj)
 | exit id=>intro k k' ac hc hz mu S w H fr a K Q hr hi hf e0 hj hk;cases hc;exact wp_exit (hk (.exit id) fr H a w mu S hr e0 hi hf rfl hj)
 | region id ops dr =>
  intro k k' ac hc hz mu S w H fr a K Q hr hi hf e0 hj hk;simp only[cG] at hc;split at hc
  ·
   rename_i j hjy;have hdr:dr=false:=by cases dr with|false=>rfl|true=>simp at hjy
   subst hdr;split at hc
   ·rename_i c hy;cases hc;unfold qv at hy;split at hy
    ·rename_i o ho;split at hy
     ·rename_i cl hop hgd;split at hy
      ·rename_i t hcallee;split at hy
       ·rename_i L1 xs L2 hL1 hxs hL2;cases hy;simp only[AC.zok,Bool.and_eq_true,bne_iff_ne,ne_eq] at hz;obtain⟨hz1,hz2,hz3⟩:=hz;simp only[fc] at hr;split at hr
        ·rename_i fr1 H1 hrun1;split at hr
         ·rename_i q1 q' k2 vs hhd hye hvs;split at hr
          ·rename_i hqq;subst hqq;split at hr
           ·rename_i kk H2 hψ;split at hr
            ·rename_i fr3 H3 hrun2;obtain⟨kk0,hj1,hj2⟩:=hj;have hhead1:=kY hrun1 hz1;rw[hhd,hj1] at hhead1;simp only[Option.some.injEq,V.one.injEq,L.y.injEq] at hhead1;obtain⟨rfl,rfl⟩:=hhead1;have hjs:j<ops.size:=(Array.getElem?_eq_some_iff.1 ho).1;have hlist:List.range ops.size=List.range' 0 (ops.toList.take j).length++(j::(List.range' (j+1) (ops.toList.drop (j+1)).length++[])):=by
              have e1:(ops.toList.take j).length=j:=by rw[List.length_take,Array.length_toList];omega
              have e2:(ops.toList.drop (j+1)).length=ops.size-(j+1):=by rw[List.length_drop,Array.length_toList]
              rw[e1,e2,List.append_nil,List.range_eq_range'];obtain⟨s,hs⟩:∃ s,ops.size=j+(s+1):=⟨ops.size-j-1,by omega⟩
              rw[hs,show j+(s+1)-(j+1)=s by omega,<- List.range'_append_1,Nat.zero_add,List.range'_succ]
             refine wpIn_wide.1 (wpIn_region (n:=0) ?_);rw[hlist];refine kj (ro:=none) (dd:=0) hg L1 _ 0 hL1 (fun i o h=>?_) mu S w H fr a hrun1 hi hf fun a1 w1 mu1 S1 ex1 i1 f1 d1=>?_
             ·rw[List.getElem?_take] at h;split at h
              ·rw[Nat.zero_add];simpa using h
              ·cases h
             have e1':ExtM m TB xC S0 w0 mu1 S1 w1:=e0.trans ((ex1.weakenT hTl).m m);have hj1':Rc 0 w1:=hRc _ _ _ hj2 ex1.blk;obtain⟨f,tmps,asg,body,hyr,hround⟩:=hY vs (cl.args.toList.map a1.eval) H1 H2 kk mu1 S1 w1 hψ i1 (GU hxs hvs f1) e1' hj1';have hcv:a1.eval (.tmp t)=.func (.yield l) #[] #[]:=by
              have:=aj (o:=.tmp t) (x:=.t t) rfl f1 hye;obtain⟨l2,B,g1,g2,g3⟩:=this;have:=e1'.mu q' ll hq hmq;rw[g1] at this;cases this;rw[hll] at g2;cases g2;exact g3
             have hex:(execOp a1.eval o).run P w1=.ok (.round l f tmps asg body) w1:=by
              have hargs:(cl.args.map a1.eval)=(cl.args.toList.map a1.eval).toArray:=by apply Array.ext';simp
              simp only[execOp,hop,resolve,hcallee,hcv,Deferred.ofValue,Sem.run_bind,Sem.run_pure,Result.andThen,invoke,Array.append_empty,Array.empty_append,hargs];exact hyr
             simp only[wpOpsIn,ho];rw[if_pos (by simp[Region.wanted,hgd])]
             refine⟨fun _ _=>trivial,?_⟩
             show o.uponIn (Fe none) 0 P a1 _ Q ((execOp a1.eval o).run P w1);rw[hex];refine⟨fun h=>by simp[Fe,Fence.wide] at h,hround.mono fun e w2 he=>?_⟩
             obtain⟨mu2,S2,rfl,ex2,i2,hr2⟩:=he;have f2:RelFr mu2 S2 w2 (put (put fr1 (some 0) (.one (.y q' kk))) o.dst (.one (.d (.b (kk == 0))))) (a1.put o.dst (.bool (kk == 0))) :=
              ((f1.ext ex2).ghost hhd).put o.dst (RelD.b _)
             have hhead2:(put (put fr1 (some 0) (.one (.y q' kk))) o.dst (.one (.d (.b (kk == 0))))).head?=some (.one (.y q' kk)):=by
              rw[nE hz2];cases fr1 with
              | nil=>simp at hhd
              | cons v fr1=>rfl
             refine kj (ro:=none) (dd:=0) (rest:=[]) hg L2 _ (j+1) hL2 (fun i o h=>?_) mu2 S2 w2 H2 _ _ hrun2 i2 f2 fun a3 w3 mu3 S3 ex3 i3 f3 d3=>?_
             ·rw[List.getElem?_drop,Array.getElem?_toList] at h;exact h
             show Q .normal a3 w3;refine hk .normal fr3 H3 a3 w3 mu3 S3 hr ((e1'.trans (ex2.m m)).trans ((ex3.weakenT hTl).m m)) i3 f3 ?_ ⟨kk,?_,hRc _ _ _ hr2 ex3.blk⟩
             ·rw[d3,fF,d1]
             ·rw[kY hrun2 hz3,hhead2]
            ·cases hr
           ·cases hr
          ·cases hr
         ·cases hr
        ·cases hr
       ·cases hy
      ·cases hy
     ·cases hy
    ·cases hy
   ·cases hc
  ·split at hc
   ·rename_i L hL;cases hc;simp only[AC.zok] at hz;simp only[fc] at hr;split at hr
    ·rename_i fr1 H1 hrun;have hhead:fr1.head?=fr.head?:=by
      cases dr with
      | true=>exact yJ hrun hz
      | false=>exact kY hrun hz
     have hkk:∀ a' w' mu' S',Ext TBl mu S w mu' S' w'->Inv mu' S' TBl w' H1->RelFr mu' S' w' fr1 a'->a'.defers=a.defers->Q .normal a' w' :=
      fun a' w' mu' S' ex i1 f1 d1=>hk .normal fr1 H1 a' w' mu' S' hr (e0.trans ((ex.weakenT hTl).m m)) i1 f1 d1 (let ⟨kk,g1,g2⟩:=hj;⟨kk,by rw[hhead];exact g1,hRc _ _ _ g2 ex.blk⟩)
     cases dr with
     | true =>
      simp only[cond_true] at hL hrun;exact hd TBl (an id) ops id L hL mu S w H H1 fr fr1 a Q hrun hi hf hkk
     | false =>
      simp only[cond_false] at hL hrun;refine wpIn_wide.1 (wpIn_region (n:=0) ?_);have:=kj (ro:=none) (dd:=0) (Q:=Q) (rest:=[]) hg L ops.toList 0 hL (fun j o ho=>by simpa using ho) mu S w H fr a hrun hi hf hkk
      rw[List.range_eq_range'];rw[LL] at this;simpa using this
    ·cases hr
   ·cases hc
 | seq x y ihx ihy =>
  intro k k' ac hc hz mu S w H fr a K Q hr hi hf e0 hj hk;simp only[cG] at hc;split at hc
  ·rename_i x' n1 hx;split at hc
   ·rename_i y' n2 hy;cases hc;simp only[AC.zok,Bool.and_eq_true] at hz;simp only[fc] at hr;refine wp_seq (ihx k n1 x' hx hz.1 mu S w H fr a _ _ hr hi hf e0 hj fun e fr1 H1 a1 w1 mu1 S1 hK e1 i1 f1 d1 j1=>?_)
    cases e with
    | normal=>exact ihy n1 _ y' hy hz.2 mu1 S1 w1 H1 fr1 a1 K Q hK i1 f1 e1 j1 fun e fr2 H2 a2 w2 mu2 S2 hK2 e2 i2 f2 d2 j2=>hk e fr2 H2 a2 w2 mu2 S2 hK2 e2 i2 f2 (d2.trans d1) j2
    | exit id=>exact hk (.exit id) fr1 H1 a1 w1 mu1 S1 hK e1 i1 f1 d1 j1
    | ret=>exact hk .ret fr1 H1 a1 w1 mu1 S1 hK e1 i1 f1 d1 j1
   ·cases hc
  ·cases hc
 | cond c x y ihx ihy =>
  intro k k' ac hc hz mu S w H fr a K Q hr hi hf e0 hj hk;simp only[cG] at hc;split at hc
  ·rename_i c' hcx;split at hc
   ·rename_i x' n1 hx;split at hc
    ·rename_i y' n2 hy;cases hc;simp only[AC.zok,Bool.and_eq_true] at hz;simp only[fc] at hr;split at hr
     ·rename_i t ht;have hb:=(aj hcx hf ht).b_inv;cases t with
      | true=>exact wp_cond_true hb (ihx k n1 x' hx hz.1 mu S w H fr a K Q hr hi hf e0 hj hk)
      | false=>exact wp_cond_false hb (ihy n1 _ y' hy hz.2 mu S w H fr a K Q hr hi hf e0 hj hk)
     ·cases hr
    ·cases hc
   ·cases hc
  ·cases hc
 | block id c ih =>
  intro k k' ac hc hz mu S w H fr a K Q hr hi hf e0 hj hk;simp only[cG] at hc;split at hc
  ·rename_i x n1 hx;cases hc;simp only[fc] at hr;refine wp_block (ih k _ x hx hz mu S w H fr a _ _ hr hi hf e0 hj fun e fr1 H1 a1 w1 mu1 S1 hK e1 i1 f1 d1 j1=>?_)
   cases e with
   | normal=>exact hk .normal fr1 H1 a1 w1 mu1 S1 hK e1 i1 f1 d1 j1
   | ret=>exact hk .ret fr1 H1 a1 w1 mu1 S1 hK e1 i1 f1 d1 j1
   | exit i =>
    simp only[wy,Exit.inBlock];simp only at hK;split
    ·rename_i h;rw[if_pos h] at hK;exact hk .normal fr1 H1 a1 w1 mu1 S1 hK e1 i1 f1 d1 j1
    ·rename_i h;rw[if_neg h] at hK;exact hk (.exit i) fr1 H1 a1 w1 mu1 S1 hK e1 i1 f1 d1 j1
  ·cases hc
 | loop c ih =>
  intro k k' ac hc hz mu S w H fr a K Q hr hi hf e0 hj hk;simp only[cG] at hc;split at hc
  ·rename_i x n1 hx;cases hc;simp only[AC.zok,Bool.and_eq_true] at hz;simp only[fc] at hr;refine wp_loop_rounds n ?_;have key:∀ (p:Nat) (mu1:Mu) (S1:St) (w1:World) (H1:Hp) (fr1:Fr) (a1:Act),jB (fc φ ψ n m x) m (lv k) K p fr1 H1=some r->ExtM m TB xC S0 w0 mu1 S1 w1->Inv mu1 S1 TBl w1 H1->RelFr mu1 S1 w1 fr1 a1->a1.defers=a.defers->(∃ kk,fr1.head?=some (.one (.y q kk))∧Rc kk w1)->Code.rounds P c Q p a1 w1:=by
    intro p;induction p with
    | zero=>intro mu1 S1 w1 H1 fr1 a1 hr;simp[jB] at hr
    | succ p ihp =>
     intro mu1 S1 w1 H1 fr1 a1 hr e1 i1 f1 d1 j1;simp only[jB] at hr;rw[rounds_succ];obtain⟨mu2,e2,i2,f2⟩:=AG i1 f1 m (lv k);obtain⟨kk,g1,g2⟩:=j1;have hqH:q<H1.length:=i1.dom q ll (e1.mu q ll hq hmq);refine ih (k+1) _ x hx hz.2 mu2 S1 w1 _ _ a1 _ _ hr i2 f2 (e1.trans (e2.weakenT hTl)) ⟨kk,CT g1 hz.1 hq hqH,g2⟩ fun e fr3 H3 a3 w3 mu3 S3 hK e3 i3 f3 d3 j3=>?_
     cases e with
     | normal=>exact ihp mu3 S3 w3 H3 fr3 a3 hK e3 i3 f3 (d3.trans d1) j3
     | exit i=>exact hk (.exit i) fr3 H3 a3 w3 mu3 S3 hK e3 i3 f3 (d3.trans d1) j3
     | ret=>exact hk .ret fr3 H3 a3 w3 mu3 S3 hK e3 i3 f3 (d3.trans d1) j3
   exact key n mu S w H fr a hr e0 hi hf rfl hj
  ·cases hc
 | scope c ih =>
  intro k k' ac hc hz mu S w H fr a K Q hr hi hf e0 hj hk;simp only[cG] at hc;refine wp_scope_straight (ih k k' ac hc hz mu S w H fr a K _ hr hi hf e0 hj fun e fr1 H1 a1 w1 mu1 S1 hK e1 i1 f1 d1 j1=>?_)
  cases e with
  | normal=>exact hk .normal fr1 H1 a1 w1 mu1 S1 hK e1 i1 f1 d1 j1
  | exit i=>exact hk (.exit i) fr1 H1 a1 w1 mu1 S1 hK e1 i1 f1 d1 j1
  | ret=>exact hk .ret fr1 H1 a1 w1 mu1 S1 hK e1 i1 f1 d1 j1
 | goto l=>intro k k' ac hc;cases hc
 | rangeFunc f ps as b _ _ =>
  intro k k' ac hc hz mu S w H fr a K Q hr;simp only[cG] at hc;split at hc
  ·split at hc
   ·split at hc
    ·cases hb:(bW as && bW b) with
     | false=>rw[hb] at hc;cases hc
     | true=>rw[hb] at hc;cases hc;simp[fc] at hr
    ·cases hc
   ·cases hc
  ·cases hc
 | refuse why=>intro k k' ac hc;cases hc
def vp:Nat->Option Code
 | 0=>none
 | 1=>some .ret
 | i+2=>some (.exit i)
def iT (fn:FuncId) (tmps:Array Value) (ps:Array Tmp) (asg body:Code) (D k:Nat):Loop :=
 { state:=if(vp k).isNone then .ready else .done,pending:=vp k,fn,tmps,params:=ps,assign:=asg,body,defers:=D }
theorem xq {mu:Mu} {S:St} {w:World}:∀ (ps:List Tmp) (args:List V) (us:List Value) (fr:Fr) (tm:Array Value),RelFr mu S w fr ⟨tm,[]⟩->ArgsRel mu S w args us->args.length=ps.length ->
  RelFr mu S w (oE ps args fr) ⟨(ps.zip us).foldl (fun tmps p=>tmps.setIfInBounds p.1 p.2) tm,[]⟩
 | [],args,us,fr,tm,hf,ha,hl=>by
  cases args with
  | nil=>exact hf
  | cons v vs=>simp at hl
 | p::ps,[],us,fr,tm,hf,ha,hl=>by simp at hl
 | p::ps,v::vs,us,fr,tm,hf,ha,hl=>by
  cases us with
  | nil=>have:=ha.1;simp at this
  | cons u us =>
   obtain⟨x,hx,hr⟩:=ha.2 0 v rfl;cases hx;have h1:RelFr mu S w (fr.set p v) ⟨tm.setIfInBounds p u,[]⟩:=hf.put (some p) hr;exact xq ps vs us _ _ h1 ⟨by have:=ha.1;simpa using this,fun j z hz=>by have:=ha.2 (j+1) z (by simpa using hz);simpa using this⟩ (by simpa using hl)
theorem G3 (ps:Array Tmp) (us:List Value) (tm:Array Value):(ps.zip us.toArray).foldl (fun tmps (x:Tmp × Value)=>tmps.setIfInBounds x.1 x.2) tm=(ps.toList.zip us).foldl (fun tmps p=>tmps.setIfInBounds p.1 p.2) tm:=by
 rw[<- Array.foldl_toList];congr 1
 simp
theorem I0 (hg:Good P φ) (hd:iv P φ) {TBl:Nat->Prop} {an:Nat->Nat->Nat} {lv:Nat->List Nat} {n m l D:Nat} {fn:FuncId} {ps:Array Tmp} {asg body:Code} {k0 k1 k2:Nat} {asg' body':AC}
  (hl:¬ TB l) (hTl:∀ b,TBl b↔TB b∨b=l∨b=D) (hca:cG P an lv asg k0=some (asg',k1)) (hcb:cG P an lv body k1=some (body',k2)) (hns:(bW asg && bW body)=true) (hnd:(asg'.nd && body'.nd)=true)
  {xC:Mu} {S0:St} {w0:World} {fr:Fr} {a:Act} (hdom:∀ i l,xC i=some l->i<m) (hf0:RelFr xC S0 w0 fr a) :
  EL P TB TBl m l xC S0 w0 (fun k w=>w.heap[l]?=some (.loop (iT fn a.tmps ps asg body D k))∧w.heap[D]?=some (.deferred (some []))) (m0 φ n fr ps.toList asg' body'):=by
 intro vs us H H2 k mu S w hψ hi ha he0 hR;obtain⟨hR1,hR2⟩:=hR;simp only[Bool.and_eq_true] at hns hnd;simp only[m0] at hψ;split at hψ
 ·rename_i hlen;have hlD:TBl l:=(hTl l).2 (.inr (.inl rfl));have hf:RelFr mu S w fr ⟨a.tmps,[]⟩:=by
   have:=hf0.ext (he0.toExt hdom);exact⟨this.size,this.rel⟩
  have hf1:=xq ps.toList vs us fr a.tmps hf ha hlen;have hus:us.toArray.size=ps.size:=by have:=ha.1;simp[this,hlen]
  have hy:=run_yield (P:=P) hR1 (args:=us.toArray) hus;refine⟨_,_,_,_,hy,?_⟩;refine roundIn_of_wpIn trivial ?_;have hdm:∀ i l,mu i=some l->i<H.length:=hi.dom;have ht:∀ b,TB b->TBl b:=fun b hb=>(hTl b).2 (.inl hb)
  refine uq (TB:=TBl) hg hd (some l) asg k0 k1 asg' hca (fun _=>⟨hns.1,hnd.1⟩) mu S w H _ _ _ _ hψ hi (by rw[G3];exact hf1) fun e fr1 H1 a1 w1 mu1 S1 hK e1 i1 f1 d1=>?_
  cases e with
  | exit i=>cases hK
  | ret=>cases hK
  | normal =>
   simp only at hK;have ex1:=e1.toExt hdm;have hr1:w1.heap[l]?=some (.loop (iT fn a.tmps ps asg body D 0)):=by rw[ex1.blk l hlD];exact hR1
   refine⟨_,run_beginRound hr1 rfl,?_⟩;have hb1:(w1.putObj l (.loop { iT fn a.tmps ps asg body D 0 with state:=.busy })).heap[l]?=some (.loop { iT fn a.tmps ps asg body D 0 with state:=.busy }):=World.putObj_heap_same (Array.getElem?_eq_some_iff.1 hr1).1
   generalize hw2:w1.putObj l (.loop { iT fn a.tmps ps asg body D 0 with state:=.busy })=w2 at hb1
   have ex2:Ext TB mu1 S1 w1 mu1 S1 w2:=by rw[<- hw2];exact Ext.putObj hl hr1 (fun _ _ _ h=>by cases h) (fun _ _ _ h=>by cases h)
   have i2:Inv mu1 S1 TBl w2 H1:=by rw[<- hw2];exact i1.putObj hlD hr1 (fun _ _ _ h=>by cases h) (fun _ _ _ h=>by cases h)
   have f2:RelFr mu1 S1 w2 fr1 a1:=f1.ext ex2;have hD2:l≠D->w2.heap[D]?=some (.deferred (some [])):=fun hne=>by
    rw[<- hw2,World.putObj_heap_other (Ne.symm hne),ex1.blk D ((hTl D).2 (.inr (.inr rfl)))];exact hR2
   have hlD':l≠D:=by
    intro e;subst e;rw[hR1] at hR2;cases hR2
   have hdm1:∀ i l,mu i=some l->i<H.length:=hdm;refine uq (TB:=TBl) hg hd (some l) body k1 k2 body' hcb (fun _=>⟨hns.2,hnd.2⟩) mu1 S1 w2 H1 fr1 a1 _ _ hK i2 f2 fun e fr3 H3 a3 w3 mu3 S3 hK3 e3 i3 f3 d3=>?_
   simp only[Option.some.injEq,Prod.mk.injEq] at hK3;obtain⟨rfl,rfl⟩:=hK3;have ex3:ExtM H.length TB mu S w mu3 S3 w3:=((ex1.weakenT ht).m _).trans ((ex2.m _).trans (e3.weakenT ht));have exT:=ex3.toExt hdm;have hr3:w3.heap[l]?=some (.loop { iT fn a.tmps ps asg body D 0 with state:=.busy }):=by rw[e3.blk l hlD];exact hb1
   have hl3:=(Array.getElem?_eq_some_iff.1 hr3).1;have hD3:w3.heap[D]?=some (.deferred (some [])):=by rw[e3.blk D ((hTl D).2 (.inr (.inr rfl)))];exact hD2 hlD'
   have wA:∀ (j:Option Code) (kk:Nat),vp kk=j->∃ v w',(Instr.endRound l j).run P w3=.ok v w'∧∃ mu' S',Ending.returned v=Ending.returned (.bool (kk == 0))∧Ext TB mu S w mu' S' w'∧Inv mu' S' TBl w' H3 ∧
     (w'.heap[l]?=some (.loop (iT fn a.tmps ps asg body D kk))∧w'.heap[D]?=some (.deferred (some []))):=by
    intro j kk hj;refine⟨_,_,run_endRound j hr3,mu3,S3,?_,exT.trans (Ext.putObj hl hr3 (fun _ _ _ h=>by cases h) (fun _ _ _ h=>by cases h)),i3.putObj hlD hr3 (fun _ _ _ h=>by cases h) (fun _ _ _ h=>by cases h),?_,?_⟩
    ·have:j.isNone=(kk == 0):=by
      rw[<- hj];match kk with
      | 0=>rfl
      | 1=>rfl
      | i+2=>rfl
     rw[this]
    ·rw[World.putObj_heap_same hl3,<- hj];rfl
    ·rw[World.putObj_heap_other (Ne.symm hlD')];exact hD3
   cases e with
   | normal=>exact wA none 0 rfl
   | ret=>exact wA (some .ret) 1 rfl
   | exit i=>exact wA (some (.exit i)) (i+2) rfl
 ·cases hψ
def I2 (T0 TB:Nat->Prop) (ds:List Deferred) (w:World):Prop:=ds=[]∨∃ D,ds=[{ target:=.collected D,args := #[] }]∧w.heap[D]?=some (.deferred (some []))∧TB D∧¬ T0 D
def FU (P:Program) (prog:FuncId->Option AF):Prop:=∀ f af,prog f=some af->∃ an,oI P f an=some af
theorem Pt (hg:Good P φ) (hd:iv P φ) {prog:FuncId->Option AF} (hp:FU P prog) {an:Nat->Nat->Nat} {lv:Nat->List Nat} {n mm:Nat} {α:Type} {r:α} {g:Operand} {ps:Array Tmp} {asg body:Code} {k0 k1 k2:Nat} {g':X} {asg' body':AC}
  (hcg:aA g=some g') (hca:cG P an lv asg k0=some (asg',k1)) (hcb:cG P an lv body k1=some (body',k2)) (hns:(bW asg && bW body)=true)
  {fr:Fr} {a:Act} {K:Ex->Fr->Hp->Option α} {Q:Exit->Act->World->Prop} (hr:vZ φ prog n g' ps.toList asg' body' fr H K=some r) (hi:Inv mu S TB w H) (hf:RelFr mu S w fr a) (hdf:a.defers=[])
  (hk:∀ e fr' H' a' w' mu' S' TB',K e fr' H'=some r->ExtM mm TB mu S w mu' S' w'->(∀ b,TB b->TB' b)->Inv mu' S' TB' w' H'->RelFr mu' S' w' fr' a'->I2 TB TB' a'.defers w'->Q (wy e) a' w') :
  (Code.rangeFunc g ps asg body).wp P Q a w:=by
 simp only[vZ] at hr;split at hr
 ·rename_i gf caps hge;split at hr
  ·rename_i af haf;obtain⟨an2,hcf⟩:=hp gf af haf;cases hzz:((af.res.isEmpty && af.body.zok) && (asg'.nd && body'.nd)) with
   | false=>rw[hzz] at hr;cases hr
   | true =>
    rw[hzz] at hr;simp only[cond_true] at hr;rw[Bool.and_eq_true,Bool.and_eq_true,List.isEmpty_iff] at hzz;have hgv:=aj hcg hf hge;obtain⟨us,hgeq,hul,hur⟩:=hgv;let D:=w.heap.size
    let l:=w.heap.size+1
    let rc:Nat->Loop:=fun k=>iT 0 a.tmps ps asg body D k
    refine(wpIn_wide (n:=0)).1 (wpIn_rangeFunc fun fn _=>?_)
    let W1:World:=(w.alloc (.deferred (some []))).alloc (.loop (iT fn a.tmps ps asg body D 0))
    have hent:(Instr.enterLoop fn a.tmps ps asg body Fence.wide.round).run P w=.ok (l,[{ target:=.collected D,args := #[] }]) W1:=run_enterLoop_outer fn a.tmps ps asg body;have hW1l:W1.heap[l]?=some (.loop (iT fn a.tmps ps asg body D 0)):=by
     have:=World.alloc_heap_new (w.alloc (.deferred (some []))) (.loop (iT fn a.tmps ps asg body D 0));rwa [World.size_alloc] at this
    have hW1o:∀ b,b<w.heap.size->W1.heap[b]?=w.heap[b]?:=fun b hb=>by
     show((w.heap.push _).push _)[b]?=_;rw[Array.getElem?_push,if_neg (by simp;omega),Array.getElem?_push,if_neg (by omega)]
    have hW1D:W1.heap[D]?=some (.deferred (some [])):=by
     show((w.heap.push _).push _)[D]?=_;rw[Array.getElem?_push,if_neg (by simp[D]),Array.getElem?_push,if_pos (by simp[D])]
    have hW1s:W1.heap.size=w.heap.size+2:=by show((w.heap.push _).push _).size=_;simp
    have exW:Ext TB mu S w mu S W1:=⟨fun _ _ h=>h,fun _ _ h=>h,fun _ _ _ h=>h,fun b o hb=>f9 (hW1o b (hi.sl b o hb)),fun b hb=>hW1o b (hi.tl b hb),by omega,rfl,rfl,rfl⟩
    let TBl:Nat->Prop:=fun b=>TB b∨b=l∨b=D
    let ll:Loc:=⟨some l,0,0,0⟩
    let mu1:Mu:=fun i=>if i=H.length then some ll else mu i
    have hmu1:∀ i x,mu i=some x->mu1 i=some x:=fun i x h=>by
     have:=hi.dom i x h;simp only[mu1,if_neg (show i≠H.length by omega),h]
    have ex1:Ext TB mu S w mu1 S W1:=⟨hmu1,exW.ss,exW.avoid,exW.cell,exW.blk,exW.size,exW.os,exW.tape,exW.output⟩;have i1:Inv mu1 S TBl W1 (H++[Box.dead]):=by
     have hget:∀ {i:Nat} {b:Box},(H++[Box.dead])[i]?=some b->alive b=true->H[i]?=some b:=fun {i b} h ha=>by
      rw[List.getElem?_append] at h;split at h
      ·exact h
      ·rename_i hlt;have:b=.dead:=by
        have hh:i-H.length=0:=by
         have:=(List.getElem?_eq_some_iff.1 h).1;simpa using this
        rw[hh] at h;simpa using h.symm
       subst this;cases ha
     have hmb:∀ {i:Nat} {x:Loc},i<H.length->mu1 i=some x->mu i=some x:=fun {i x} h h2=>by simpa only[mu1,if_neg (show i≠H.length by omega)] using h2
     refine⟨fun i b x hb hx=>?_,fun i x hx=>?_,fun i x B h1 h2=>?_,fun b o h=>by have:=hi.sl b o h;omega,fun b h=>?_,fun i j bi bj li lj B hij h1 h2 h3 h4 h5 h6 h7=>?_⟩
     ·cases hal:alive b with
      | false=>cases b <;> first|trivial|cases hal
      | true =>
       have hb':=hget hb hal;have hlt:=(List.getElem?_eq_some_iff.1 hb').1;have hx':=hmb hlt hx;have hbox:=(hi.box i b x hb' hx').keep ex1 (fun l' B h1 h2=>hW1o B (hi.old i l' B h1 h2)) (fun _ _ _ _ _ h=>h)
       have hnew:∀ B,B<w.heap.size->¬ TB B->¬ TBl B:=fun B hB ht h=>by
        rcases h with h|h|h
        ·exact ht h
        ·omega
        ·omega
       cases b with
       | dead=>trivial
       | mp rows =>
        obtain⟨l',B,g1,g2,g3,g5,g6⟩:=hbox;exact⟨l',B,g1,g2,g3,hnew B (hi.old i l' B (hmb hlt g1) g2) g5,g6⟩
       | cells xs =>
        obtain⟨l',B,cur,e,g1,g2,g3,g4,g5,g6⟩:=hbox;exact⟨l',B,cur,e,g1,g2,g3,g4,hnew B (hi.old i l' B (hmb hlt g1) g2) g5,g6⟩
       | arr sz rows fz =>
        obtain⟨l',g1,g2,g3,g4,g5,g6⟩:=hbox;refine⟨l',g1,g2,g3,g4,g5,?_⟩;cases hbk:l'.blk with
        | none=>rw[hbk] at g6;exact g6
        | some B =>
         rw[hbk] at g6;obtain⟨cur,el,ff,q1,q2,q3,q4,q5,q6,q7,q8⟩:=g6;exact⟨cur,el,ff,q1,q2,q3,q4,q5,q6,hnew B (hi.old i l' B (hmb hlt g1) hbk) q7,q8⟩
     ·simp only[mu1] at hx;split at hx
      ·simp;omega
      ·have:=hi.dom i x hx;simp;omega
     ·simp only[mu1] at h1;split at h1
      ·cases h1;cases h2;simp[hW1s,l]
      ·have:=hi.old i x B h1 h2;omega
     ·rcases h with h|h|h
      ·have:=hi.tl b h;omega
      ·subst h;simp[hW1s,l]
      ·subst h;simp[hW1s,D]
     ·have g1:=hget h1 h3;have g2:=hget h2 h4;exact hi.one i j bi bj li lj B hij g1 g2 h3 h4 (hmb (List.getElem?_eq_some_iff.1 g1).1 h5) (hmb (List.getElem?_eq_some_iff.1 g2).1 h6) h7
    have hTlIn:∀ b,TB b->TBl b:=fun b h=>.inl h
    have hlTB:¬ TB l:=fun h=>by have:=hi.tl l h;simp[l] at this;omega
    have hDTB:¬ TB D:=fun h=>by have:=hi.tl D h;simp[D] at this
    have hdom1:∀ i x,mu1 i=some x->i<H.length+1:=fun i x h=>by have:=i1.dom i x h;simpa using this
    have hf1:RelFr mu1 S W1 fr a:=hf.ext ex1;have hY:=I0 (TB:=TB) (n:=n) (m:=H.length+1) (l:=l) (D:=D) (fn:=fn) (ps:=ps) hg hd hlTB (fun b=>Iff.rfl) hca hcb hns hzz.2 hdom1 hf1
    refine⟨l,[{ target:=.collected D,args := #[] }],W1,{ target:=.fn (.func gf) us.toArray,args := #[.func (.yield l) #[] #[]] },W1,gf,(.func (.yield l) #[] #[]::us).toArray,W1,hent,?_,fun _ _=>trivial,?_,fun h=>by simp[Fence.wide] at h,?_⟩
    ·simp only[rangeCall,resolve,hgeq,Deferred.ofValue,Sem.run_bind,Sem.run_pure,Result.andThen];simp[Act.eval]
    ·unfold oI at hcf;split at hcf
     ·rename_i hcb;simp only[invoke];have e:=fQ (P:=P) (w:=W1) hcb (.func (.yield l) #[] #[]::us).toArray;have e2 : #[Value.func (.yield l) #[] #[]]++us.toArray=(Value.func (.yield l) #[] #[]::us).toArray:=by apply Array.ext';simp
      rw[e2];exact e
     ·cases hcf
    refine callsIn_wide.2 ?_;unfold oI at hcf;split at hcf
    ·split at hcf
     ·rename_i fng hfn;split at hcf
      ·rename_i cg hbody;split at hcf
       ·rename_i xg kg ts hcc hres;cases hcf;simp only at hr hzz;refine calls_of_wp hfn hbody (Kg (TB:=TB) (TBl:=TBl) hg hd hTlIn (q:=H.length) (ll:=ll) (fun k w1 w2 h hb=>⟨by rw[hb l (.inr (.inl rfl))];exact h.1,by rw[hb D (.inr (.inr rfl))];exact h.2⟩) (Nat.lt_succ_self _) (by simp only[mu1,if_true]) rfl hY
         cg 0 kg xg hcc hzz.1.2 mu1 S W1 _ _ _ _ _ hr i1 ?_ ((Ext.refl TB mu1 S W1).m _) ⟨0,rfl,hW1l,hW1D⟩ ?_)
        ·have hargs:ArgsRel mu1 S W1 (.one (.y H.length 0)::caps.map fun i=>V.one (.p i 0)) (.func (.yield l) #[] #[]::us):=by
          refine⟨by simp[hul],fun j v hj=>?_⟩
          cases j with
          | zero=>simp at hj;subst hj;exact⟨_,rfl,ll,l,by simp only[mu1,if_true],rfl,rfl⟩
          | succ j =>
           simp only[List.getElem?_cons_succ,List.getElem?_map,Option.map_eq_some_iff] at hj ⊢;obtain⟨i,hi',rfl⟩:=hj;obtain⟨x,hx,hp'⟩:=hur j i hi';exact⟨x,hx,hp'.mono hmu1⟩
         refine⟨by simp[hul];omega,fun t v ht=>?_⟩
         rw[List.getElem?_append] at ht;rw[Array.getElem?_append];simp only[List.size_toArray,hargs.1];split at ht
         ·rename_i hlt;rw[if_pos hlt];obtain⟨x,hx,hr⟩:=hargs.2 t v ht;exact⟨x,by simpa using hx,hr⟩
         ·rename_i hlt;rw[if_neg hlt];have hrep:=List.mem_replicate.1 (List.mem_of_getElem? ht);have hlt2:=(List.getElem?_eq_some_iff.1 ht).1;simp only[List.length_replicate] at hlt2;refine⟨undef,?_,by rw[hrep.2];exact iz⟩
          simp only[List.length_cons,List.length_map] at hlt2 ⊢;rw[Array.getElem?_replicate,if_pos (by simpa using hlt2)]
        ·intro e frg H3 a3 w3 mu3 S3 hK e3 i3 f3 d3 j3;obtain⟨kk,g1,g2,g3⟩:=j3;have wA:e≠.ret->e≠.normal->False:=fun h1 h2=>by cases e with|normal=>exact h2 rfl|ret=>exact h1 rfl|exit i=>simp[nD] at hK
         have hK2:K (mX kk) fr H3=some r:=by
          cases e with
          | exit i=>simp[nD] at hK
          | normal=>simp only[nD,g1] at hK;exact hK
          | ret=>simp only[nD,g1] at hK;exact hK
         have hl3:=(Array.getElem?_eq_some_iff.1 g2).1;have hend:(Instr.endLoop l).run P w3=.ok (vp kk) (w3.putObj l (.loop { iT fn a.tmps ps asg body D kk with state:=.exhausted })) :=
          run_endLoop g2 (by simp only[iT];split <;> simp)
         have hlD:l≠D:=by simp[l,D]
         have post:rangePost Fence.wide 0 P l Q { a with defers:=[{ target:=.collected D,args := #[] }]++a.defers } (.returned (.tuple #[])) w3:=by
          refine⟨vp kk,_,hend,?_⟩;have exP:Ext TB mu3 S3 w3 mu3 S3 (w3.putObj l (.loop { iT fn a.tmps ps asg body D kk with state:=.exhausted })):=Ext.putObj hlTB g2 (fun _ _ _ h=>by cases h) (fun _ _ _ h=>by cases h)
          have iP:=i3.putObj (.inr (.inl rfl)) g2 (ob':=.loop { iT fn a.tmps ps asg body D kk with state:=.exhausted }) (fun _ _ _ h=>by cases h) (fun _ _ _ h=>by cases h)
          have eM:ExtM (H.length+1) TB mu S w mu3 S3 (w3.putObj l (.loop { iT fn a.tmps ps asg body D kk with state:=.exhausted })):=(ex1.m _).trans (e3.trans (exP.m _))
          have eE:=eM.toExt fun i x h=>by have:=hi.dom i x h;omega
          have hQ:Q (wy (mX kk)) { a with defers:=[{ target:=.collected D,args := #[] }]++a.defers } (w3.putObj l (.loop { iT fn a.tmps ps asg body D kk with state:=.exhausted })):=by
           refine hk (mX kk) fr H3 _ _ mu3 S3 TBl hK2 (eE.m mm) hTlIn iP ?_ (.inr ⟨D,by rw[hdf];rfl,by rw[World.putObj_heap_other (Ne.symm hlD)];exact g3,.inr (.inr rfl),hDTB⟩)
           have:=hf.ext eE;exact⟨this.size,this.rel⟩
          match kk,hQ with
          | 0,hQ=>exact hQ
          | 1,hQ=>exact wpIn_ret hQ
          | i+2,hQ=>exact wpIn_exit hQ
         have hresg:∃ v,(results fng a3.tmps).run P w3=.ok v w3:=by
          have hts0:ts=[]:=hzz.1.1;subst hts0;obtain⟨u,hu,_⟩:=o6 hres i3 f3 (r:=.tup []) rfl;exact⟨u,hu⟩
         obtain⟨v,hv⟩:=hresg;have post':rangePost Fence.wide 0 P l Q { a with defers:=[{ target:=.collected D,args := #[] }]++a.defers } (.returned v) w3:=post
         cases e with
         | exit i=>simp[nD] at hK
         | normal=>exact⟨d3,v,hv,post'⟩
         | ret=>exact⟨d3,v,hv,post'⟩
       ·cases hcf
      ·cases hcf
     ·cases hcf
    ·cases hcf
  ·cases hr
 ·cases hr
theorem eA {α:Type} {prog:FuncId->Option AF} {n m:Nat}:∀ (c:AC),c.hasR=false->∀ (fr:Fr) (H:Hp) (K:Ex->Fr->Hp->Option α),fS φ prog n m c fr H K=gg φ n m c fr H K
 | .skip,_,_,_,_=>rfl
 | .reg _ _,_,_,_,_=>rfl
 | .exit _,_,_,_,_=>rfl
 | .ret,_,_,_,_=>rfl
 | .loop _ _,_,_,_,_=>rfl
 | .yld _ _ _ _ _,_,_,_,_=>rfl
 | .rng _ _ _ _,h,_,_,_=>by cases h
 | .seq a b,h,fr,H,K=>by
  simp only[AC.hasR,Bool.or_eq_false_iff] at h;simp only[fS,gg];rw[eA a h.1];congr 1
  funext e fr' H'
  cases e with
  | normal=>exact eA b h.2 _ _ _
  | exit i=>rfl
  | ret=>rfl
 | .cond c a b,h,fr,H,K=>by
  simp only[AC.hasR,Bool.or_eq_false_iff] at h;simp only[fS,gg,eA a h.1,eA b h.2]
 | .block id c,h,fr,H,K=>by
  simp only[AC.hasR] at h;simp only[fS,gg];rw[eA c h]
theorem Ja (hg:Good P φ) (hd:iv P φ) {prog:FuncId->Option AF} (hp:FU P prog) {an:Nat->Nat->Nat} {lv:Nat->List Nat} {n m:Nat} {α:Type} {r:α}:∀ (c:Code) (k k':Nat) (ac:AC),cG P an lv c k=some (ac,k')->me ac=true ->
  ∀ (TB:Nat->Prop) (mu:Mu) (S:St) (w:World) (H:Hp) (fr:Fr) (a:Act) (K:Ex->Fr->Hp->Option α) (Q:Exit->Act->World->Prop),fS φ prog n m ac fr H K=some r->Inv mu S TB w H->RelFr mu S w fr a->a.defers=[] ->
   (∀ e fr' H' a' w' mu' S' TB',K e fr' H'=some r->ExtM m TB mu S w mu' S' w'->(∀ b,TB b->TB' b)->Inv mu' S' TB' w' H'->RelFr mu' S' w' fr' a'->I2 TB TB' a'.defers w'->Q (wy e) a' w')->c.wp P Q a w:=by
 have plain:∀ (c:Code) (k k':Nat) (ac:AC),cG P an lv c k=some (ac,k')->ac.hasR=false ->
  ∀ (TB:Nat->Prop) (mu:Mu) (S:St) (w:World) (H:Hp) (fr:Fr) (a:Act) (K:Ex->Fr->Hp->Option α) (Q:Exit->Act->World->Prop),fS φ prog n m ac fr H K=some r->Inv mu S TB w H->RelFr mu S w fr a->a.defers=[] ->
   (∀ e fr' H' a' w' mu' S' TB',K e fr' H'=some r->ExtM m TB mu S w mu' S' w'->(∀ b,TB b->TB' b)->Inv mu' S' TB' w' H'->RelFr mu' S' w' fr' a'->I2 TB TB' a'.defers w'->Q (wy e) a' w')->c.wp P Q a w:=by
  intro c k k' ac hc hn TB mu S w H fr a K Q hr hi hf hdf hk;rw[eA ac hn] at hr;exact tN hg hd c k k' ac hc mu S w H fr a K Q hr hi hf fun e fr1 H1 a1 w1 mu1 S1 hK e1 i1 f1 d1=>hk e fr1 H1 a1 w1 mu1 S1 TB hK e1 (fun _ h=>h) i1 f1 (.inl (d1.trans hdf))
 intro c;induction c with
 | skip=>intro k k' ac hc ho;exact plain .skip k k' ac hc (by cases hc;rfl)
 | label l=>intro k k' ac hc ho;exact plain _ k k' ac hc (by cases hc;rfl)
 | ret=>intro k k' ac hc ho;exact plain _ k k' ac hc (by cases hc;rfl)
 | exit id=>intro k k' ac hc ho;exact plain _ k k' ac hc (by cases hc;rfl)
 | region id ops dr =>
  intro k k' ac hc ho;refine plain _ k k' ac hc ?_;simp only[cG] at hc;split at hc
  ·split at hc
   ·rename_i c hy;cases hc;unfold qv at hy;split at hy
    ·split at hy
     ·split at hy
      ·split at hy
       ·cases hy;rfl
       ·cases hy
      ·cases hy
     ·cases hy
    ·cases hy
   ·cases hc
  ·split at hc
   ·cases hc;rfl
   ·cases hc
 | loop c ih =>
  intro k k' ac hc ho;refine plain _ k k' ac hc ?_;simp only[cG] at hc;split at hc
  ·cases hc;rfl
  ·cases hc
 | seq x y ihx ihy =>
  intro k k' ac hc ho TB mu S w H fr a K Q hr hi hf hdf hk;have hc0:=hc;simp only[cG] at hc;split at hc
  ·rename_i x' n1 hx;split at hc
   ·rename_i y' n2 hy;cases hc;simp only[me,Bool.or_eq_true,Bool.and_eq_true,Bool.not_eq_true'] at ho;simp only[fS] at hr;rcases ho with⟨ho,hn⟩|⟨hn,ho⟩
    ·refine wp_seq (ihx k n1 x' hx ho TB mu S w H fr a _ _ hr hi hf hdf fun e fr1 H1 a1 w1 mu1 S1 TB1 hK e1 ht1 i1 f1 m1=>?_)
     cases e with
     | normal =>
      simp only at hK;rw[eA y' hn] at hK;refine tN hg hd y n1 _ y' hy mu1 S1 w1 H1 fr1 a1 K Q hK i1 f1 fun e fr2 H2 a2 w2 mu2 S2 hK2 e2 i2 f2 d2=>?_
      refine hk e fr2 H2 a2 w2 mu2 S2 TB1 hK2 (e1.trans (e2.weakenT ht1)) ht1 i2 f2 ?_;rw[d2];rcases m1 with h|⟨D,h1,h2,h3,h4⟩
      ·exact .inl h
      ·exact .inr ⟨D,h1,by rw[e2.blk D h3];exact h2,h3,h4⟩
     | exit id=>exact hk (.exit id) fr1 H1 a1 w1 mu1 S1 TB1 hK e1 ht1 i1 f1 m1
     | ret=>exact hk .ret fr1 H1 a1 w1 mu1 S1 TB1 hK e1 ht1 i1 f1 m1
    ·rw[eA x' hn] at hr;refine wp_seq (tN hg hd x k n1 x' hx mu S w H fr a _ _ hr hi hf fun e fr1 H1 a1 w1 mu1 S1 hK e1 i1 f1 d1=>?_)
     cases e with
     | normal =>
      exact ihy n1 _ y' hy ho TB mu1 S1 w1 H1 fr1 a1 K Q hK i1 f1 (d1.trans hdf) fun e fr2 H2 a2 w2 mu2 S2 TB2 hK2 e2 ht2 i2 f2 m2=>hk e fr2 H2 a2 w2 mu2 S2 TB2 hK2 (e1.trans e2) ht2 i2 f2 m2
     | exit id=>exact hk (.exit id) fr1 H1 a1 w1 mu1 S1 TB hK e1 (fun _ h=>h) i1 f1 (.inl (d1.trans hdf))
     | ret=>exact hk .ret fr1 H1 a1 w1 mu1 S1 TB hK e1 (fun _ h=>h) i1 f1 (.inl (d1.trans hdf))
   ·cases hc
  ·cases hc
 | cond c x y ihx ihy =>
  intro k k' ac hc ho TB mu S w H fr a K Q hr hi hf hdf hk;simp only[cG] at hc;split at hc
  ·rename_i c' hcx;split at hc
   ·rename_i x' n1 hx;split at hc
    ·rename_i y' n2 hy;cases hc;simp only[me,Bool.and_eq_true] at ho;simp only[fS] at hr;split at hr
     ·rename_i t ht;have hb:=(aj hcx hf ht).b_inv;cases t with
      | true=>exact wp_cond_true hb (ihx k n1 x' hx ho.1 TB mu S w H fr a K Q hr hi hf hdf hk)
      | false=>exact wp_cond_false hb (ihy n1 _ y' hy ho.2 TB mu S w H fr a K Q hr hi hf hdf hk)
     ·cases hr
    ·cases hc
   ·cases hc
  ·cases hc
 | block id c ih =>
  intro k k' ac hc ho TB mu S w H fr a K Q hr hi hf hdf hk;simp only[cG] at hc;split at hc
  ·rename_i x n1 hx;cases hc;simp only[me] at ho;simp only[fS] at hr;refine wp_block (ih k _ x hx ho TB mu S w H fr a _ _ hr hi hf hdf fun e fr1 H1 a1 w1 mu1 S1 TB1 hK e1 ht1 i1 f1 m1=>?_)
   cases e with
   | normal=>exact hk .normal fr1 H1 a1 w1 mu1 S1 TB1 hK e1 ht1 i1 f1 m1
   | ret=>exact hk .ret fr1 H1 a1 w1 mu1 S1 TB1 hK e1 ht1 i1 f1 m1
   | exit i =>
    simp only[wy,Exit.inBlock];simp only at hK;split
    ·rename_i h;rw[if_pos h] at hK;exact hk .normal fr1 H1 a1 w1 mu1 S1 TB1 hK e1 ht1 i1 f1 m1
    ·rename_i h;rw[if_neg h] at hK;exact hk (.exit i) fr1 H1 a1 w1 mu1 S1 TB1 hK e1 ht1 i1 f1 m1
  ·cases hc
 | scope c ih =>
  intro k k' ac hc ho TB mu S w H fr a K Q hr hi hf hdf hk;simp only[cG] at hc;refine wp_scope_straight (ih k k' ac hc ho TB mu S w H fr a K _ hr hi hf hdf fun e fr1 H1 a1 w1 mu1 S1 TB1 hK e1 ht1 i1 f1 m1=>?_)
  cases e with
  | normal=>exact hk .normal fr1 H1 a1 w1 mu1 S1 TB1 hK e1 ht1 i1 f1 m1
  | exit i=>exact hk (.exit i) fr1 H1 a1 w1 mu1 S1 TB1 hK e1 ht1 i1 f1 m1
  | ret=>exact hk .ret fr1 H1 a1 w1 mu1 S1 TB1 hK e1 ht1 i1 f1 m1
 | goto l=>intro k k' ac hc;cases hc
 | rangeFunc f ps as b _ _ =>
  intro k k' ac hc ho TB mu S w H fr a K Q hr hi hf hdf hk;simp only[cG] at hc;split at hc
  ·rename_i g' hg';split at hc
   ·rename_i a1 n1 h1;split at hc
    ·rename_i b1 n2 h2;cases hb:(bW as && bW b) with
     | false=>rw[hb] at hc;cases hc
     | true =>
      rw[hb] at hc;cases hc;simp only[fS] at hr;exact Pt hg hd hp hg' h1 h2 hb hr hi hf hdf hk
    ·cases hc
   ·cases hc
  ·cases hc
 | refuse why=>intro k k' ac hc;cases hc
theorem K1 (hg:Good P φ) (hd:iv P φ) {prog:FuncId->Option AF} (hp:FU P prog) {f:FuncId} {an:Ann} {af:AF} (hc:oI P f an=some af) (ho:me af.body=true) {n:Nat} {args:List V} {r:V}
  (hr:fS φ prog n H.length af.body (args++List.replicate (af.ntmps-args.length) (.tup [])) H (gy af H.length)=some (r,H')):CallOK P f args H r H':=by
 intro mu S TB w vs hi ha;unfold oI at hc;split at hc
 ·split at hc
  ·rename_i fn hfn;split at hc
   ·rename_i c hbody;split at hc
    ·rename_i x k' ts hcc hres;cases hc;simp only at hr ho;refine(callsIn_wide (n:=0)).1 (callsIn_of_wp_marks hfn hbody trivial (wpIn_wide.2 (Ja hg hd hp c 0 k' x hcc ho TB mu S w H _ _ _ _ hr hi ?_ rfl ?_)))
     ·refine⟨by simp[ha.1],fun t v ht=>?_⟩
      rw[List.getElem?_append] at ht;rw[Array.getElem?_append];simp only[List.size_toArray,ha.1];split at ht
      ·rename_i hlt;rw[if_pos hlt];obtain⟨x,hx,hr⟩:=ha.2 t v ht;exact⟨x,by simpa using hx,hr⟩
      ·rename_i hlt;rw[if_neg hlt];have hrep:=List.mem_replicate.1 (List.mem_of_getElem? ht);have hlt2:=(List.getElem?_eq_some_iff.1 ht).1;simp only[List.length_replicate] at hlt2;refine⟨undef,?_,by rw[hrep.2];exact iz⟩
       simp[hlt2]
     ·intro e fr1 H1 a1 w1 mu1 S1 TB1 hK e1 ht1 i1 f1 m1;have leave:∀ (W:World),Ext TB mu1 S1 w1 mu1 S1 W->Inv mu1 S1 TB1 W H1->RelFr mu1 S1 W fr1 a1->∀ (r0:V),rC fr1 H1 ts=some r0->∀ r1 H2,(bif an.keep then some (r0,H1) else pj r0 H1)=some (r1,H2)->trim H.length r1 H2=(r,H') ->
        ∃ v,(results fn a1.tmps).run P W=.ok v W∧∃ x mu' S',Ending.returned v=.returned x∧Ext TB mu S w mu' S' W∧Inv mu' S' TB W H'∧RelV mu' S' W r x:=by
       intro W eW iW fW r0 hr0 r1 H2 hfz htr;obtain⟨ru,hrun,hrel⟩:=o6 hres iW fW hr0;refine⟨_,hrun,?_⟩;have:∃ S2,Ext TB1 mu1 S1 W mu1 S2 W∧Inv mu1 S2 TB1 W H2∧RelV mu1 S2 W r1 ru:=by
        cases hkp:an.keep with
        | true=>rw[hkp] at hfz;simp only[cond_true] at hfz;cases hfz;exact⟨S1,.refl _ _ _ _,iW,hrel⟩
        | false =>
         rw[hkp] at hfz;simp only[cond_false] at hfz;obtain⟨S2,e2,i2,k2⟩:=um hfz iW;exact⟨S2,e2,i2,k2 _ hrel⟩
       obtain⟨S2,e2,i2,r2⟩:=this;obtain⟨mu2,e3,i3,r3⟩:=Ff (m:=H.length) (fun i l h=>hi.dom i l h) ((e1.trans (eW.m _)).trans ((e2.weakenT ht1).m _)) (i2.weaken ht1) r2
       rw[htr] at i3 r3;exact⟨_,mu2,S2,rfl,e3,i3,r3⟩
      have wA:∀ (r0:V),rC fr1 H1 ts=some r0->∀ r1 H2,(bif an.keep then some (r0,H1) else pj r0 H1)=some (r1,H2)->trim H.length r1 H2=(r,H') ->
        LeavesInM Fence.wide 0 P fn a1.tmps (fun e w'=>∃ x mu' S',e=.returned x∧Ext TB mu S w mu' S' w'∧Inv mu' S' TB w' H'∧RelV mu' S' w' r x) a1.defers .returning w1:=by
       intro r0 hr0 r1 H2 hfz htr;rcases m1 with h|⟨D,h1,h2,h3,hDT⟩
       ·rw[h];exact leave w1 (.refl _ _ _ _) i1 f1 r0 hr0 r1 H2 hfz htr
       ·rw[h1];refine⟨by simp,.inl ⟨D,w1.putObj D (.deferred none),rfl,run_takeDeferred h2,?_⟩⟩
        have eP:Ext TB mu1 S1 w1 mu1 S1 (w1.putObj D (.deferred none)):=Ext.putObj hDT h2 (fun _ _ _ h=>by cases h) (fun _ _ _ h=>by cases h)
        exact leave _ eP (i1.putObj h3 h2 (fun _ _ _ h=>by cases h) (fun _ _ _ h=>by cases h)) (f1.ext eP) r0 hr0 r1 H2 hfz htr
      cases e with
      | exit i=>simp[gy] at hK
      | normal =>
       simp only[gy] at hK;split at hK
       ·cases hK
       ·rename_i r0 hr0;split at hK
        ·rename_i r1 H2 hfz;exact wA r0 hr0 r1 H2 hfz (by simpa using hK)
        ·cases hK
      | ret =>
       simp only[gy] at hK;split at hK
       ·cases hK
       ·rename_i r0 hr0;split at hK
        ·rename_i r1 H2 hfz;exact wA r0 hr0 r1 H2 hfz (by simpa using hK)
        ·cases hK
    ·cases hc
   ·cases hc
  ·cases hc
 ·cases hc
theorem oP (hd:∀ φ,Good P φ->iv P φ) {prog:FuncId->Option AF} (hp:FU P prog) {pr:FuncId->List V->Hp->Option (V × Hp)} (hpr:Good P pr):∀ n,Good P (kM prog pr n)
 | 0=>⟨fun f args H r H' h=>by simp[kM] at h,fun f args H r H' h=>by simp[kM] at h⟩
 | n+1=>by
  have ih:=oP hd hp hpr n;refine⟨fun f args H r H' h=>?_,fun f args H r H' h=>?_⟩
  ·simp only[kM] at h;split at h
   ·exact hpr.ok _ _ _ _ _ h
   ·rename_i af haf;obtain⟨an,han⟩:=hp f af haf;cases hR:af.body.hasR with
    | false=>rw[hR] at h;exact LZ ih (hd _ ih) han h
    | true =>
     rw[hR] at h;simp only[cond_true] at h;cases hO:me af.body with
     | false=>rw[hO] at h;cases h
     | true=>rw[hO] at h;exact K1 ih (hd _ ih) hp han hO h
  ·simp only[kM] at h;split at h
   ·exact hpr.can _ _ _ _ _ h
   ·rename_i af haf;obtain⟨an,han⟩:=hp f af haf;unfold oI at han;split at han
    ·assumption
    ·cases han
end
abbrev cI:=FuncId->List V->Hp->Option (V × Hp)
def Lim {α:Type} (F:Nat->Option α) (x:Option α):Prop:=∀ z,x=some z->∃ n0,∀ n,n0<=n->F n=some z
theorem Lim.const {α:Type} (x:Option α):Lim (fun _=>x) x:=fun z h=>⟨0,fun _ _=>h⟩
theorem Lim.seq {α β:Type} {F:Nat->Option α} {x:Option α} {A:Nat->Option β} {b:Option β} (h:Lim F x) (hn:x=none->b=none)
  (hs:∀ a,x=some a->∃ G:Nat->Option β,Lim G b∧∀ n,F n=some a->A n=G n):Lim A b:=by
 intro z hz;cases hx:x with
 | none=>rw[hn hx] at hz;cases hz
 | some a =>
  obtain⟨G,hG,hA⟩:=hs a hx;obtain⟨n1,h1⟩:=h a hx;obtain⟨n2,h2⟩:=hG z hz;exact⟨max n1 n2,fun n hle=>by rw[hA n (h1 n (by omega))];exact h2 n (by omega)⟩
def gr (Φ:Nat->cI) (φ:cI):Prop:=∀ f args H,Lim (fun n=>Φ n f args H) (φ f args H)
section
variable {Φ:Nat->cI} {φ:cI}
theorem kL (h:gr Φ φ) (f:FuncId) (args:List V) (H:Hp):Lim (fun n=>ak (Φ n) f args H) (ak φ f args H):=by
 intro z hz;unfold ak at hz ⊢;simp only at hz ⊢;split at hz
 ·cases hz
 ·rename_i r H1 hr;obtain⟨n0,hn⟩:=h _ _ _ _ hr;exact⟨n0,fun n hle=>by simp only[hn n hle];exact hz⟩
theorem nW (h:gr Φ φ) (fr:Fr) (H:Hp) (a:A):Lim (fun n=>a.run (Φ n) fr H) (a.run φ fr H):=by
 cases a;case call f xs =>
  simp only[A.run];cases mW fr xs with
  | none=>exact Lim.const _
  | some vs=>exact kL h _ _ _
 case calln f xs =>
  simp only[A.run];cases mW fr xs with
  | none=>exact Lim.const _
  | some vs=>exact kL h _ _ _
 case callp f xs =>
  simp only[A.run];cases mW fr xs with
  | none=>exact Lim.const _
  | some vs =>
   simp only;cases f7 vs with
   | none=>exact Lim.const _
   | some ds =>
    simp only;intro z hz;split at hz
    ·rename_i r hr;obtain⟨n0,hn⟩:=h _ _ _ _ hr;exact⟨n0,fun n hle=>by simp only[hn n hle];exact hz⟩
    ·cases hz
 case callz f xs =>
  simp only[A.run];cases mW fr xs with
  | none=>exact Lim.const _
  | some vs =>
   simp only;cases oU vs H with
   | none=>exact Lim.const _
   | some q =>
    simp only;cases f7 q.1 with
    | none=>exact Lim.const _
    | some ds =>
     simp only;intro z hz;split at hz
     ·rename_i r hr;obtain⟨n0,hn⟩:=h _ _ _ _ hr;exact⟨n0,fun n hle=>by simp only[hn n hle];exact hz⟩
     ·cases hz
 case callv x xs =>
  simp only[A.run];intro z hz;split at hz
  ·rename_i g caps vs h1 h2;simp only[h1,h2];exact kL h _ _ _ z hz
  ·rename_i g caps vs h1 h2;simp only[h1,h2];exact kL h _ _ _ z hz
  ·cases hz
 case nilc k neg x=>rcases k with _|_|k <;> exact Lim.const _
 case len str x=>cases str <;> exact Lim.const _
 all_goals exact Lim.const _
theorem Jq (h:gr Φ φ) (o:AOp) (fr:Fr) (H:Hp):Lim (fun n=>o.step (Φ n) fr H) (o.step φ fr H):=by
 unfold AOp.step;cases wantedV fr o.g with
 | none=>exact Lim.const _
 | some w =>
  cases w with
  | false=>exact Lim.const _
  | true =>
   simp only[cond_true];exact Lim.seq (nW h fr H o.a) (fun h=>by rw[h]) (fun a ha=>⟨_,Lim.const _,fun n hn=>by rw[hn,ha]⟩)
theorem jS (h:gr Φ φ):∀ (ops:List AOp) (fr:Fr) (H:Hp),Lim (fun n=>bP (Φ n) ops fr H) (bP φ ops fr H)
 | [],_,_=>Lim.const _
 | o::r,fr,H=>by
  simp only[bP];exact Lim.seq (Jq h o fr H) (fun h=>by rw[h]) (fun a ha=>⟨_,by rw[ha];exact jS h r a.1 a.2,fun n hn=>by rw[hn]⟩)
theorem mi (h:gr Φ φ):∀ (ops:List AOp) (lg:List Log0) (fr:Fr) (H:Hp),Lim (fun n=>dx (Φ n) ops lg fr H) (dx φ ops lg fr H)
 | [],_,_,_=>Lim.const _
 | o::r,lg,fr,H=>by
  simp only[dx];cases hw:wantedV fr o.g with
  | none=>exact Lim.const _
  | some w =>
   simp only;split
   ·cases w with
    | false=>simp only[cond_false];exact mi h r _ _ _
    | true =>
     simp only[cond_true];exact Lim.seq (nW h fr H o.a) (fun h=>by rw[h]) (fun a ha=>⟨_,by rw[ha];exact mi h r _ _ a.2,fun n hn=>by rw[hn]⟩)
   ·exact Lim.const _
theorem Lr (h:gr Φ φ) (o:AOp) (fr:Fr) (H:Hp):Lim (fun n=>aY (Φ n) o fr H) (aY φ o fr H):=by
 simp only[aY];exact Lim.seq (nW h _ _ o.a) (fun h=>by rw[h]) (fun a ha=>⟨_,by rw[ha];exact Lim.const _,fun n hn=>by rw[hn]⟩)
theorem yU (h:gr Φ φ) (o:AOp) (k:Nat) (w:Bool) (fr:Fr) (H:Hp):Lim (fun n=>drawStep (Φ n) o k w fr H) (drawStep φ o k w fr H):=by
 cases w with
 | false=>exact Lim.const _
 | true =>
  match k with
  | 0=>exact nW h _ _ _
  | 1=>exact nW h _ _ _
  | 2=>exact Lr h _ _ _
  | n+3=>exact nW h _ _ _
theorem pO (h:gr Φ φ):∀ (ops:List AOp) (lg:List Log) (fr:Fr) (H:Hp),Lim (fun n=>cX (Φ n) ops lg fr H) (cX φ ops lg fr H)
 | [],_,_,_=>Lim.const _
 | o::r,lg,fr,H=>by
  simp only[cX];cases hw:wantedV fr o.g with
  | none=>exact Lim.const _
  | some w =>
   simp only;refine Lim.seq (yU h o (bif w then o.a.kind fr else 0) w fr H) (fun h=>by rw[h]) (fun a ha=>⟨fun n=>bif (!o.fz && (o.pre.all (fun j=>decide (j<lg.length)) && gi o.pre ⟨bif w then o.a.kind fr else 0,o.dst,o.slots,touch (bif w then o.a.kind fr else 0) o fr H a.2⟩ 0 lg)) then cX (Φ n) r (lg++[⟨bif w then o.a.kind fr else 0,o.dst,o.slots,touch (bif w then o.a.kind fr else 0) o fr H a.2⟩]) (put fr o.dst a.1) a.2 else none,?_,fun n hn=>by rw[hn]⟩)
   rw[ha];simp only;cases (!o.fz && (o.pre.all (fun j=>decide (j<lg.length)) && gi o.pre ⟨bif w then o.a.kind fr else 0,o.dst,o.slots,touch (bif w then o.a.kind fr else 0) o fr H a.2⟩ 0 lg)) with
   | false=>exact Lim.const _
   | true=>exact pO h r _ _ _
theorem th (h:gr Φ φ) (ops:List AOp) (fr:Fr) (H:Hp):Lim (fun n=>dk (Φ n) ops fr H) (dk φ ops fr H):=by
 simp only[dk];cases jN ops [] with
 | true=>exact mi h ops [] fr H
 | false=>exact pO h ops [] fr H
open Classical in
noncomputable def jo {α:Type} (body:Fr->Hp->(Ex->Fr->Hp->Option α)->Option α) (m:Nat) (lv:List Nat) (K:Ex->Fr->Hp->Option α) (fr:Fr) (H:Hp):Option α :=
 if h:∃ z k,jB body m lv K k fr H=some z then some h.choose else none
noncomputable def bJ {α:Type} (φ:cI) (m:Nat):AC->Fr->Hp->(Ex->Fr->Hp->Option α)->Option α
 | .skip,fr,H,K=>K .normal fr H
 | .reg ops dr,fr,H,K=>match (bif dr then dk φ ops fr H else bP φ ops fr H) with|some (fr,H)=>K .normal fr H|none=>none
 | .seq a b,fr,H,K=>bJ φ m a fr H fun e fr H=>match e with | .normal=>bJ φ m b fr H K|e=>K e fr H
 | .cond c a b,fr,H,K=>match c.ev fr with
  | some (.one (.d (.b x)))=>bif x then bJ φ m a fr H K else bJ φ m b fr H K
  | _=>none
 | .block id c,fr,H,K=>bJ φ m c fr H fun e fr H=>match e with | .exit i=>if i=id then K .normal fr H else K (.exit i) fr H|e=>K e fr H
 | .loop lv c,fr,H,K=>jo (bJ φ m c) m lv K fr H
 | .exit id,fr,H,K=>K (.exit id) fr H
 | .ret,fr,H,K=>K .ret fr H
 | .yld _ _ _ _ _,_,_,_=>none
 | .rng _ _ _ _,_,_,_=>none
def rK {α:Type} (K:Nat->Ex->Fr->Hp->Option α) (k:Ex->Fr->Hp->Option α):Prop:=∀ e fr H,Lim (fun n=>K n e fr H) (k e fr H)
theorem gY {α:Type} {B:Nat->Fr->Hp->(Ex->Fr->Hp->Option α)->Option α} {b:Fr->Hp->(Ex->Fr->Hp->Option α)->Option α}
  (hb:∀ fr H K k,rK K k->Lim (fun n=>B n fr H (K n)) (b fr H k)) {m:Nat} {lv:List Nat} {K:Nat->Ex->Fr->Hp->Option α} {k:Ex->Fr->Hp->Option α} (hk:rK K k) :
  ∀ (j:Nat) (fr:Fr) (H:Hp),Lim (fun n=>jB (B n) m lv (K n) n fr H) (jB b m lv k j fr H):=by
 have key:∀ (j:Nat) (fr:Fr) (H:Hp) (F:Nat->Nat),(∃ N,∀ n,N<=n->j<=F n)->Lim (fun n=>jB (B n) m lv (K n) (F n) fr H) (jB b m lv k j fr H):=by
  intro j;induction j with
  | zero=>intro fr H F hF z hz;cases hz
  | succ j ih =>
   intro fr H F ⟨N,hN⟩ z hz;simp only[jB] at hz;have:=hb (canon m lv fr H).1 (canon m lv fr H).2 (fun n e fr' H'=>match e with | .normal=>jB (B n) m lv (K n) (F n-1) fr' H'|e=>K n e fr' H') _ (fun e fr' H'=>?_) z hz
   ·obtain⟨n0,h0⟩:=this;refine⟨max n0 N,fun n hn=>?_⟩
    have hF:=hN n (by omega)
    obtain⟨q,hq⟩:∃ q,F n=q+1:=⟨F n-1,by omega⟩
    have h0':=h0 n (by omega)
    simp only[hq] at h0' ⊢;simp only[jB];exact h0'
   ·cases e with
    | normal=>exact ih fr' H' (fun n=>F n-1) ⟨N,fun n hn=>by have:=hN n hn;omega⟩
    | exit i=>exact hk _ _ _
    | ret=>exact hk _ _ _
 intro j fr H;exact key j fr H (fun n=>n) ⟨j,fun n hn=>hn⟩
theorem rh {α:Type} {B:Nat->Fr->Hp->(Ex->Fr->Hp->Option α)->Option α} {b:Fr->Hp->(Ex->Fr->Hp->Option α)->Option α}
  (hb:∀ fr H K k,rK K k->Lim (fun n=>B n fr H (K n)) (b fr H k)) {m:Nat} {lv:List Nat} {K:Nat->Ex->Fr->Hp->Option α} {k:Ex->Fr->Hp->Option α} (hk:rK K k) (fr:Fr) (H:Hp) :
  Lim (fun n=>jB (B n) m lv (K n) n fr H) (jo b m lv k fr H):=by
 intro z hz;unfold jo at hz;split at hz
 ·rename_i h;obtain⟨j,hj⟩:=h.choose_spec;cases hz;exact gY hb hk j fr H _ hj
 ·cases hz
theorem fw {α:Type} (h:gr Φ φ) (m:Nat):∀ (c:AC) (fr:Fr) (H:Hp) (K:Nat->Ex->Fr->Hp->Option α) (k:Ex->Fr->Hp->Option α),rK K k->Lim (fun n=>gg (Φ n) n m c fr H (K n)) (bJ φ m c fr H k)
 | .skip,fr,H,K,k,hk=>hk _ _ _
 | .reg ops dr,fr,H,K,k,hk=>by
  simp only[gg,bJ];cases dr with
  | false=>simp only[cond_false];exact Lim.seq (jS h ops fr H) (fun h=>by rw[h]) (fun a ha=>⟨_,by rw[ha];exact hk .normal a.1 a.2,fun n hn=>by rw[hn]⟩)
  | true=>simp only[cond_true];exact Lim.seq (th h ops fr H) (fun h=>by rw[h]) (fun a ha=>⟨_,by rw[ha];exact hk .normal a.1 a.2,fun n hn=>by rw[hn]⟩)
 | .seq a b,fr,H,K,k,hk=>by
  simp only[gg,bJ];refine fw h m a fr H (fun n e fr H=>match e with | .normal=>gg (Φ n) n m b fr H (K n)|e=>K n e fr H) _ (fun e fr' H'=>?_)
  cases e with
  | normal=>exact fw h m b fr' H' K k hk
  | exit i=>exact hk _ _ _
  | ret=>exact hk _ _ _
 | .cond c a b,fr,H,K,k,hk=>by
  simp only[gg,bJ];intro z hz;split at hz
  ·rename_i x hx;simp only[hx];cases x with
   | true=>simp only[cond_true] at hz ⊢;exact fw h m a fr H K k hk z hz
   | false=>simp only[cond_false] at hz ⊢;exact fw h m b fr H K k hk z hz
  ·cases hz
 | .block id c,fr,H,K,k,hk=>by
  simp only[gg,bJ];refine fw h m c fr H (fun n e fr H=>match e with | .exit i=>if i=id then K n .normal fr H else K n (.exit i) fr H|e=>K n e fr H) _ (fun e fr' H'=>?_)
  cases e with
  | normal=>exact hk _ _ _
  | exit i=>simp only;split <;> exact hk _ _ _
  | ret=>exact hk _ _ _
 | .loop lv c,fr,H,K,k,hk=>by
  simp only[gg,bJ];exact rh (fun fr H K' k' hk'=>fw h m c fr H K' k' hk') hk fr H
 | .exit id,fr,H,K,k,hk=>hk _ _ _
 | .ret,fr,H,K,k,hk=>hk _ _ _
 | .yld _ _ _ _ _,_,_,_,_,_=>Lim.const _
 | .rng _ _ _ _,_,_,_,_,_=>Lim.const _
end
open Classical in
noncomputable def eB (prog:FuncId->Option AF) (pr:cI) (f:FuncId) (args:List V) (H:Hp):Option (V × Hp) :=
 if h:∃ z,∃ n0,∀ n,n0<=n->kM prog pr n f args H=some z then some h.choose else none
theorem oj {prog:FuncId->Option AF} {pr:cI}:gr (fun n=>kM prog pr n) (eB prog pr):=by
 intro f args H z hz;unfold eB at hz;split at hz
 ·rename_i h;cases hz;exact h.choose_spec
 ·cases hz
theorem vH {prog:FuncId->Option AF} {pr:cI} {f:FuncId} {args:List V} {H:Hp} {z:V × Hp} {n0:Nat} (h:∀ n,n0<=n->kM prog pr n f args H=some z):eB prog pr f args H=some z:=by
 have hx:∃ z,∃ n0,∀ n,n0<=n->kM prog pr n f args H=some z:=⟨z,n0,h⟩;unfold eB;rw[dif_pos hx];obtain⟨n1,h1⟩:=hx.choose_spec;have a1:=h1 (max n0 n1) (by omega)
 have a2:=h (max n0 n1) (by omega)
 rw[a1] at a2;exact a2
theorem A7 {prog:FuncId->Option AF} {pr:cI} {f:FuncId} {args:List V} {H:Hp} {z:V × Hp} {af:AF} (hf:prog f=some af) (hR:af.body.hasR=false)
  (h:bJ (eB prog pr) H.length af.body (args++List.replicate (af.ntmps-args.length) (.tup [])) H (gy af H.length)=some z):eB prog pr f args H=some z:=by
 obtain⟨n0,hn⟩:=fw (α:=V × Hp) oj H.length af.body _ H (fun _=>gy af H.length) _ (fun e fr H=>Lim.const _) z h
 refine vH (n0:=n0+1) fun n hle=>?_
 obtain⟨q,rfl⟩:∃ q,n=q+1:=⟨n-1,by omega⟩
 simp only[kM,hf,hR,cond_false];exact hn q (by omega)
theorem vJ {prog:FuncId->Option AF} {pr:cI} {f:FuncId} {args:List V} {H:Hp} {z:V × Hp} (hf:prog f=none) (h:pr f args H=some z):eB prog pr f args H=some z:=by
 refine vH (n0:=1) fun n hle=>?_
 obtain⟨q,rfl⟩:∃ q,n=q+1:=⟨n-1,by omega⟩
 simp only[kM,hf];exact h
theorem sU {α:Type} {body:Fr->Hp->(Ex->Fr->Hp->Option α)->Option α} (hb:∀ fr H (K:Nat->Ex->Fr->Hp->Option α) k,rK K k->Lim (fun n=>body fr H (K n)) (body fr H k))
  {m:Nat} {lv:List Nat} {K:Ex->Fr->Hp->Option α} {fr:Fr} {H:Hp} {z:α}
  (h:body (canon m lv fr H).1 (canon m lv fr H).2 (fun e fr' H'=>match e with | .normal=>jo body m lv K fr' H'|e=>K e fr' H')=some z):jo body m lv K fr H=some z:=by
 obtain⟨n0,hn⟩:=hb _ _ (fun n e fr' H'=>match e with | .normal=>jB body m lv K n fr' H'|e=>K e fr' H') _ (fun e fr' H'=>by
  cases e with
  | normal=>exact rh (B:=fun _=>body) (K:=fun _=>K) hb (fun e fr H=>Lim.const _) fr' H'
  | exit i=>exact Lim.const _
  | ret=>exact Lim.const _) z h
 have hx:∃ z k,jB body m lv K k fr H=some z:=⟨z,n0+1,by simp only[jB];exact hn n0 (Nat.le_refl _)⟩
 unfold jo;rw[dif_pos hx];obtain⟨k,hk⟩:=hx.choose_spec;obtain⟨n1,h1⟩:=gY (B:=fun _=>body) (K:=fun _=>K) hb (fun e fr H=>Lim.const _) k fr H _ hk
 obtain⟨n2,h2⟩:=gY (B:=fun _=>body) (K:=fun _=>K) hb (fun e fr H=>Lim.const _) (n0+1) fr H z (by simp only[jB];exact hn n0 (Nat.le_refl _))
 have a1:=h1 (max n1 n2) (by omega)
 have a2:=h2 (max n1 n2) (by omega)
 rw[a1] at a2;exact a2
theorem K9 {α:Type} (φ:cI) (m:Nat) (c:AC):∀ fr H (K:Nat->Ex->Fr->Hp->Option α) k,rK K k->Lim (fun n=>bJ φ m c fr H (K n)) (bJ φ m c fr H k):=by
 induction c with
 | skip=>intro fr H K k hk;exact hk _ _ _
 | reg ops dr =>
  intro fr H K k hk;simp only[bJ];exact Lim.seq (Lim.const (bif dr then dk φ ops fr H else bP φ ops fr H)) (fun h=>by rw[h]) (fun a ha=>⟨_,by rw[ha];exact hk .normal a.1 a.2,fun n hn=>by rw[hn]⟩)
 | seq a b iha ihb =>
  intro fr H K k hk;simp only[bJ];refine iha fr H (fun n e fr H=>match e with | .normal=>bJ φ m b fr H (K n)|e=>K n e fr H) _ (fun e fr' H'=>?_)
  cases e with
  | normal=>exact ihb fr' H' K k hk
  | exit i=>exact hk _ _ _
  | ret=>exact hk _ _ _
 | cond c a b iha ihb =>
  intro fr H K k hk;simp only[bJ];intro z hz;split at hz
  ·rename_i x hx;simp only[hx];cases x with
   | true=>simp only[cond_true] at hz ⊢;exact iha fr H K k hk z hz
   | false=>simp only[cond_false] at hz ⊢;exact ihb fr H K k hk z hz
  ·cases hz
 | block id c ih =>
  intro fr H K k hk;simp only[bJ];refine ih fr H (fun n e fr H=>match e with | .exit i=>if i=id then K n .normal fr H else K n (.exit i) fr H|e=>K n e fr H) _ (fun e fr' H'=>?_)
  cases e with
  | normal=>exact hk _ _ _
  | exit i=>simp only;split <;> exact hk _ _ _
  | ret=>exact hk _ _ _
 | loop lv c ih =>
  intro fr H K k hk z hz;simp only[bJ] at hz ⊢;unfold jo at hz;split at hz
  ·rename_i hx;cases hz;obtain⟨j,hj⟩:=hx.choose_spec;obtain⟨n0,hn⟩:=gY (B:=fun _=>bJ φ m c) (K:=K) ih hk j fr H _ hj
   refine⟨n0,fun n hle=>?_⟩
   have hx2:∃ z k,jB (bJ φ m c) m lv (K n) k fr H=some z:=⟨_,n,hn n hle⟩;unfold jo;rw[dif_pos hx2];obtain⟨k2,hk2⟩:=hx2.choose_spec;obtain⟨n1,h1⟩:=gY (B:=fun _=>bJ φ m c) (K:=fun _=>K n) ih (fun e fr H=>Lim.const _) k2 fr H _ hk2
   obtain⟨n2,h2⟩:=gY (B:=fun _=>bJ φ m c) (K:=fun _=>K n) ih (fun e fr H=>Lim.const _) n fr H _ (hn n hle)
   have a1:=h1 (max n1 n2) (by omega)
   have a2:=h2 (max n1 n2) (by omega)
   rw[a1] at a2;exact a2
  ·cases hz
 | exit id=>intro fr H K k hk;exact hk _ _ _
 | ret=>intro fr H K k hk;exact hk _ _ _
 | yld=>intro fr H K k hk;exact Lim.const _
 | rng=>intro fr H K k hk;exact Lim.const _
theorem vU {α:Type} {φ:cI} {c:AC} {m:Nat} {lv:List Nat} {K:Ex->Fr->Hp->Option α} {fr:Fr} {H:Hp} {z:α}
  (h:bJ φ m c (canon m lv fr H).1 (canon m lv fr H).2 (fun e fr' H'=>match e with | .normal=>jo (bJ φ m c) m lv K fr' H'|e=>K e fr' H')=some z):jo (bJ φ m c) m lv K fr H=some z :=
 sU (K9 φ m c) h
theorem u6 {P:Program} (hd:∀ φ,Good P φ->iv P φ) {prog:FuncId->Option AF} (hp:FU P prog) {pr:cI} (hpr:Good P pr):Good P (eB prog pr):=by
 refine⟨fun f args H r H' h=>?_,fun f args H r H' h=>?_⟩
 ·obtain⟨n0,hn⟩:=oj _ _ _ _ h;exact(oP hd hp hpr n0).ok _ _ _ _ _ (hn n0 (Nat.le_refl _))
 ·obtain⟨n0,hn⟩:=oj _ _ _ _ h;exact(oP hd hp hpr n0).can _ _ _ _ _ (hn n0 (Nat.le_refl _))
abbrev oK:=List V->Hp->Option (Nat × Hp)
def IK (Ψ:Nat->oK) (ψ:oK):Prop:=∀ args H,Lim (fun n=>Ψ n args H) (ψ args H)
noncomputable def bm {α:Type} (φ:cI) (ψ:oK) (m:Nat):AC->Fr->Hp->(Ex->Fr->Hp->Option α)->Option α
 | .skip,fr,H,K=>K .normal fr H
 | .reg ops dr,fr,H,K=>match (bif dr then dk φ ops fr H else bP φ ops fr H) with|some (fr,H)=>K .normal fr H|none=>none
 | .seq a b,fr,H,K=>bm φ ψ m a fr H fun e fr H=>match e with | .normal=>bm φ ψ m b fr H K|e=>K e fr H
 | .cond c a b,fr,H,K=>match c.ev fr with
  | some (.one (.d (.b x)))=>bif x then bm φ ψ m a fr H K else bm φ ψ m b fr H K
  | _=>none
 | .block id c,fr,H,K=>bm φ ψ m c fr H fun e fr H=>match e with | .exit i=>if i=id then K .normal fr H else K (.exit i) fr H|e=>K e fr H
 | .loop lv c,fr,H,K=>jo (bm φ ψ m c) m lv K fr H
 | .exit id,fr,H,K=>K (.exit id) fr H
 | .ret,fr,H,K=>K .ret fr H
 | .yld ops1 d y xs ops2,fr,H,K=>match bP φ ops1 fr H with
  | some (fr1,H1)=>match fr1.head?,y.ev fr1,mW fr1 xs with
   | some (.one (.y q 0)),some (.one (.y q' _)),some vs=>if q'=q then
     (match ψ vs H1 with
     | some (k,H2)=>match bP φ ops2 (put (put fr1 (some 0) (.one (.y q k))) d (.one (.d (.b (k == 0))))) H2 with
      | some (fr3,H3)=>K .normal fr3 H3
      | none=>none
     | none=>none) else none
   | _,_,_=>none
  | none=>none
 | .rng _ _ _ _,_,_,_=>none
theorem GK {α:Type} (φ:cI) (ψ:oK) (m:Nat) (c:AC):∀ fr H (K:Nat->Ex->Fr->Hp->Option α) k,rK K k->Lim (fun n=>bm φ ψ m c fr H (K n)) (bm φ ψ m c fr H k):=by
 induction c with
 | skip=>intro fr H K k hk;exact hk _ _ _
 | reg ops dr =>
  intro fr H K k hk;simp only[bm];exact Lim.seq (Lim.const (bif dr then dk φ ops fr H else bP φ ops fr H)) (fun h=>by rw[h]) (fun a ha=>⟨_,by rw[ha];exact hk .normal a.1 a.2,fun n hn=>by rw[hn]⟩)
 | seq a b iha ihb =>
  intro fr H K k hk;simp only[bm];refine iha fr H (fun n e fr H=>match e with | .normal=>bm φ ψ m b fr H (K n)|e=>K n e fr H) _ (fun e fr' H'=>?_)
  cases e with
  | normal=>exact ihb fr' H' K k hk
  | exit i=>exact hk _ _ _
  | ret=>exact hk _ _ _
 | cond c a b iha ihb =>
  intro fr H K k hk;simp only[bm];intro z hz;split at hz
  ·rename_i x hx;simp only[hx];cases x with
   | true=>simp only[cond_true] at hz ⊢;exact iha fr H K k hk z hz
   | false=>simp only[cond_false] at hz ⊢;exact ihb fr H K k hk z hz
  ·cases hz
 | block id c ih =>
  intro fr H K k hk;simp only[bm];refine ih fr H (fun n e fr H=>match e with | .exit i=>if i=id then K n .normal fr H else K n (.exit i) fr H|e=>K n e fr H) _ (fun e fr' H'=>?_)
  cases e with
  | normal=>exact hk _ _ _
  | exit i=>simp only;split <;> exact hk _ _ _
  | ret=>exact hk _ _ _
 | loop lv c ih =>
  intro fr H K k hk z hz;simp only[bm] at hz ⊢;unfold jo at hz;split at hz
  ·rename_i hx;cases hz;obtain⟨j,hj⟩:=hx.choose_spec;obtain⟨n0,hn⟩:=gY (B:=fun _=>bm φ ψ m c) (K:=K) ih hk j fr H _ hj
   refine⟨n0,fun n hle=>?_⟩
   have hx2:∃ z k,jB (bm φ ψ m c) m lv (K n) k fr H=some z:=⟨_,n,hn n hle⟩;unfold jo;rw[dif_pos hx2];obtain⟨k2,hk2⟩:=hx2.choose_spec;obtain⟨n1,h1⟩:=gY (B:=fun _=>bm φ ψ m c) (K:=fun _=>K n) ih (fun e fr H=>Lim.const _) k2 fr H _ hk2
   obtain⟨n2,h2⟩:=gY (B:=fun _=>bm φ ψ m c) (K:=fun _=>K n) ih (fun e fr H=>Lim.const _) n fr H _ (hn n hle)
   have a1:=h1 (max n1 n2) (by omega)
   have a2:=h2 (max n1 n2) (by omega)
   rw[a1] at a2;exact a2
  ·cases hz
 | exit id=>intro fr H K k hk;exact hk _ _ _
 | ret=>intro fr H K k hk;exact hk _ _ _
 | yld o1 d y xs o2 =>
  intro fr H K k hk;simp only[bm];cases bP φ o1 fr H with
  | none=>exact Lim.const _
  | some p =>
   simp only;split
   ·split
    ·split
     ·split
      ·exact hk _ _ _
      ·exact Lim.const _
     ·exact Lim.const _
    ·exact Lim.const _
   ·exact Lim.const _
 | rng=>intro fr H K k hk;exact Lim.const _
theorem zx {α:Type} {φ:cI} {ψ:oK} {c:AC} {m:Nat} {lv:List Nat} {K:Ex->Fr->Hp->Option α} {fr:Fr} {H:Hp} {z:α}
  (h:bm φ ψ m c (canon m lv fr H).1 (canon m lv fr H).2 (fun e fr' H'=>match e with | .normal=>jo (bm φ ψ m c) m lv K fr' H'|e=>K e fr' H')=some z):jo (bm φ ψ m c) m lv K fr H=some z :=
 sU (GK φ ψ m c) h
noncomputable def gC (φ:cI) (fr:Fr) (ps:List Nat) (asg body:AC):oK:=fun args H =>
 if args.length=ps.length then
  bJ φ H.length asg (oE ps args fr) H fun e fr1 H1=>match e with
   | .normal=>bJ φ H.length body fr1 H1 fun e2 _ H2=>some (pa e2,H2)
   | _=>none
 else none
noncomputable def t8 {α:Type} (φ:cI) (prog:FuncId->Option AF) (g:X) (ps:List Nat) (asg body:AC) (fr:Fr) (H:Hp) (K:Ex->Fr->Hp->Option α):Option α :=
 match g.ev fr with
 | some (.one (.f gf caps))=>match prog gf with
  | some af=>bif (af.res.isEmpty && af.body.zok) && (asg.nd && body.nd) then
    bm φ (gC φ fr ps asg body) (H.length+1) af.body
     ((.one (.y H.length 0)::caps.map fun i=>V.one (.p i 0))++List.replicate (af.ntmps-(caps.length+1)) (.tup [])) (H++[Box.dead]) (nD fr K)
   else none
  | none=>none
 | _=>none
noncomputable def bX {α:Type} (φ:cI) (prog:FuncId->Option AF) (m:Nat):AC->Fr->Hp->(Ex->Fr->Hp->Option α)->Option α
 | .seq a b,fr,H,K=>bX φ prog m a fr H fun e fr H=>match e with | .normal=>bX φ prog m b fr H K|e=>K e fr H
 | .cond c a b,fr,H,K=>match c.ev fr with
  | some (.one (.d (.b x)))=>bif x then bX φ prog m a fr H K else bX φ prog m b fr H K
  | _=>none
 | .block id c,fr,H,K=>bX φ prog m c fr H fun e fr H=>match e with | .exit i=>if i=id then K .normal fr H else K (.exit i) fr H|e=>K e fr H
 | .rng g ps asg body,fr,H,K=>t8 φ prog g ps asg body fr H K
 | .loop lv c,fr,H,K=>bJ φ m (.loop lv c) fr H K
 | .skip,fr,H,K=>K .normal fr H
 | .reg ops dr,fr,H,K=>match (bif dr then dk φ ops fr H else bP φ ops fr H) with|some (fr,H)=>K .normal fr H|none=>none
 | .exit id,fr,H,K=>K (.exit id) fr H
 | .ret,fr,H,K=>K .ret fr H
 | .yld _ _ _ _ _,_,_,_=>none
section
variable {Φ:Nat->cI} {φ:cI}
theorem iq {α:Type} (h:gr Φ φ) {Ψ:Nat->oK} {ψ:oK} (hψ:IK Ψ ψ) (m:Nat):∀ (c:AC) (fr:Fr) (H:Hp) (K:Nat->Ex->Fr->Hp->Option α) (k:Ex->Fr->Hp->Option α),rK K k->Lim (fun n=>fc (Φ n) (Ψ n) n m c fr H (K n)) (bm φ ψ m c fr H k)
 | .skip,fr,H,K,k,hk=>hk _ _ _
 | .reg ops dr,fr,H,K,k,hk=>by
  simp only[fc,bm];cases dr with
  | false=>simp only[cond_false];exact Lim.seq (jS h ops fr H) (fun h=>by rw[h]) (fun a ha=>⟨_,by rw[ha];exact hk .normal a.1 a.2,fun n hn=>by rw[hn]⟩)
  | true=>simp only[cond_true];exact Lim.seq (th h ops fr H) (fun h=>by rw[h]) (fun a ha=>⟨_,by rw[ha];exact hk .normal a.1 a.2,fun n hn=>by rw[hn]⟩)
 | .seq a b,fr,H,K,k,hk=>by
  simp only[fc,bm];refine iq h hψ m a fr H (fun n e fr H=>match e with | .normal=>fc (Φ n) (Ψ n) n m b fr H (K n)|e=>K n e fr H) _ (fun e fr' H'=>?_)
  cases e with
  | normal=>exact iq h hψ m b fr' H' K k hk
  | exit i=>exact hk _ _ _
  | ret=>exact hk _ _ _
 | .cond c a b,fr,H,K,k,hk=>by
  simp only[fc,bm];intro z hz;split at hz
  ·rename_i x hx;simp only[hx];cases x with
   | true=>simp only[cond_true] at hz ⊢;exact iq h hψ m a fr H K k hk z hz
   | false=>simp only[cond_false] at hz ⊢;exact iq h hψ m b fr H K k hk z hz
  ·cases hz
 | .block id c,fr,H,K,k,hk=>by
  simp only[fc,bm];refine iq h hψ m c fr H (fun n e fr H=>match e with | .exit i=>if i=id then K n .normal fr H else K n (.exit i) fr H|e=>K n e fr H) _ (fun e fr' H'=>?_)
  cases e with
  | normal=>exact hk _ _ _
  | exit i=>simp only;split <;> exact hk _ _ _
  | ret=>exact hk _ _ _
 | .loop lv c,fr,H,K,k,hk=>by
  simp only[fc,bm];exact rh (fun fr H K' k' hk'=>iq h hψ m c fr H K' k' hk') hk fr H
 | .exit id,fr,H,K,k,hk=>hk _ _ _
 | .ret,fr,H,K,k,hk=>hk _ _ _
 | .yld o1 d y xs o2,fr,H,K,k,hk=>by
  simp only[fc,bm];refine Lim.seq (jS h o1 fr H) (fun h=>by rw[h]) (fun p hp=>⟨fun n=>_,?_,fun n hn=>by rw[hn]⟩)
  rw[hp];simp only;intro z hz;split at hz
  ·rename_i q q' kk vs h1 h2 h3;split at hz
   ·rename_i hq;split at hz
    ·rename_i k2 H2 h4;split at hz
     ·rename_i fr3 H3 h5;obtain⟨n1,hn1⟩:=hψ vs p.2 _ h4;obtain⟨n2,hn2⟩:=jS h o2 _ H2 _ h5;obtain⟨n3,hn3⟩:=hk .normal fr3 H3 z hz;refine⟨max n1 (max n2 n3),fun n hn=>?_⟩
      simp only[h1,h2,h3,if_pos hq,hn1 n (by omega),hn2 n (by omega)]
      exact hn3 n (by omega)
     ·cases hz
    ·cases hz
   ·cases hz
  ·cases hz
 | .rng _ _ _ _,_,_,_,_,_=>Lim.const _
theorem Gg (h:gr Φ φ) (fr:Fr) (ps:List Nat) (asg body:AC):IK (fun n=>m0 (Φ n) n fr ps asg body) (gC φ fr ps asg body):=by
 intro args H;simp only[m0,gC];split
 ·refine fw h H.length asg (oE ps args fr) H _ _ fun e fr1 H1=>?_
  cases e with
  | normal=>exact fw h H.length body fr1 H1 _ _ fun e fr2 H2=>Lim.const _
  | exit i=>exact Lim.const _
  | ret=>exact Lim.const _
 ·exact Lim.const _
theorem IX {α:Type} {fr:Fr} {K:Nat->Ex->Fr->Hp->Option α} {k:Ex->Fr->Hp->Option α} (hk:rK K k):rK (fun n=>nD fr (K n)) (nD fr k):=by
 intro e frg H;cases e with
 | exit i=>exact Lim.const _
 | normal =>
  intro z hz;simp only[nD] at hz ⊢;split at hz
  ·rename_i h;first|exact hk _ _ _ z hz|(simp only[h];exact hk _ _ _ z hz)
  ·cases hz
 | ret =>
  intro z hz;simp only[nD] at hz ⊢;split at hz
  ·rename_i h;first|exact hk _ _ _ z hz|(simp only[h];exact hk _ _ _ z hz)
  ·cases hz
theorem Mx {α:Type} (h:gr Φ φ) {prog:FuncId->Option AF} (g:X) (ps:List Nat) (asg body:AC) (fr:Fr) (H:Hp) (K:Nat->Ex->Fr->Hp->Option α) (k:Ex->Fr->Hp->Option α) (hk:rK K k) :
  Lim (fun n=>vZ (Φ n) prog n g ps asg body fr H (K n)) (t8 φ prog g ps asg body fr H k):=by
 intro z hz;simp only[vZ,t8] at hz ⊢;split at hz
 ·rename_i gf caps hg;split at hz
  ·rename_i af haf;simp only[hg,haf];cases hc:((af.res.isEmpty && af.body.zok) && (asg.nd && body.nd)) with
   | false=>rw[hc] at hz;cases hz
   | true =>
    rw[hc] at hz;simp only[cond_true] at hz ⊢;exact iq h (Gg h fr ps asg body) _ af.body _ _ _ _ (IX hk) z hz
  ·cases hz
 ·cases hz
theorem jE {α:Type} (h:gr Φ φ) {prog:FuncId->Option AF} (m:Nat):∀ (c:AC) (fr:Fr) (H:Hp) (K:Nat->Ex->Fr->Hp->Option α) (k:Ex->Fr->Hp->Option α),rK K k->Lim (fun n=>fS (Φ n) prog n m c fr H (K n)) (bX φ prog m c fr H k)
 | .skip,fr,H,K,k,hk=>hk _ _ _
 | .reg ops dr,fr,H,K,k,hk=>fw h m (.reg ops dr) fr H K k hk
 | .seq a b,fr,H,K,k,hk=>by
  simp only[fS,bX];refine jE h m a fr H (fun n e fr H=>match e with | .normal=>fS (Φ n) prog n m b fr H (K n)|e=>K n e fr H) _ (fun e fr' H'=>?_)
  cases e with
  | normal=>exact jE h m b fr' H' K k hk
  | exit i=>exact hk _ _ _
  | ret=>exact hk _ _ _
 | .cond c a b,fr,H,K,k,hk=>by
  simp only[fS,bX];intro z hz;split at hz
  ·rename_i x hx;simp only[hx];cases x with
   | true=>simp only[cond_true] at hz ⊢;exact jE h m a fr H K k hk z hz
   | false=>simp only[cond_false] at hz ⊢;exact jE h m b fr H K k hk z hz
  ·cases hz
 | .block id c,fr,H,K,k,hk=>by
  simp only[fS,bX];refine jE h m c fr H (fun n e fr H=>match e with | .exit i=>if i=id then K n .normal fr H else K n (.exit i) fr H|e=>K n e fr H) _ (fun e fr' H'=>?_)
  cases e with
  | normal=>exact hk _ _ _
  | exit i=>simp only;split <;> exact hk _ _ _
  | ret=>exact hk _ _ _
 | .loop lv c,fr,H,K,k,hk=>fw h m (.loop lv c) fr H K k hk
 | .exit id,fr,H,K,k,hk=>hk _ _ _
 | .ret,fr,H,K,k,hk=>hk _ _ _
 | .yld _ _ _ _ _,_,_,_,_,_=>Lim.const _
 | .rng g ps asg body,fr,H,K,k,hk=>Mx h g ps asg body fr H K k hk
end
theorem y6 {prog:FuncId->Option AF} {pr:cI} {f:FuncId} {args:List V} {H:Hp} {z:V × Hp} {af:AF} (hf:prog f=some af) (hR:(af.body.hasR && me af.body)=true)
  (h:bX (eB prog pr) prog H.length af.body (args++List.replicate (af.ntmps-args.length) (.tup [])) H (gy af H.length)=some z):eB prog pr f args H=some z:=by
 rw[Bool.and_eq_true] at hR;obtain⟨n0,hn⟩:=jE (α:=V × Hp) oj H.length af.body _ H (fun _=>gy af H.length) _ (fun e fr H=>Lim.const _) z h
 refine vH (n0:=n0+1) fun n hle=>?_
 obtain⟨q,rfl⟩:∃ q,n=q+1:=⟨n-1,by omega⟩
 simp only[kM,hf,hR,cond_true];exact hn q (by omega)
abbrev Fn:=Nat->V
def aa (N:Nat) (f:Fn):Fr:=(List.range N).map f
def PY (f:Fn) (d:Nat) (v:V):Fn:=fun i=>if i=d then v else f i
def ny (lv:List Nat) (f:Fn):Fn:=fun i=>if lv.contains i then f i else .any
def uH (args:List V):Fn:=fun i=>args.getD i (.tup [])
theorem JU (f:Fn) (d:Nat) (v:V):PY f d v d=v:=by simp[PY]
theorem Ph (f:Fn) {d n:Nat} (v:V) (h:n≠d):PY f d v n=f n:=by simp[PY,h]
theorem Bu (lv:List Nat) (f:Fn) (n:Nat):ny lv f n=if lv.contains n then f n else .any:=rfl
theorem qk {N n:Nat} {f:Fn} (h:n<N):X.ev (aa N f) (.t n)=some (f n):=by
 simp[X.ev,aa,h]
theorem Ul (fr:Fr) (x:V):X.ev fr (.c x)=some x:=rfl
theorem As (N d:Nat) (f:Fn) (v:V):put (aa N f) (some d) v=aa N (PY f d v):=by
 simp only[put,aa];apply List.ext_getElem
 ·simp
 ·intro i h1 h2;simp only[List.length_map,List.length_range,List.length_set] at h1 h2;simp only[List.getElem_set,List.getElem_map,List.getElem_range,PY];by_cases h:d=i
  ·simp[h]
  ·rw[if_neg h,if_neg (fun e=>h e.symm)]
theorem HW (fr:Fr) (v:V):put fr none v=fr:=rfl
theorem AZ (fr:Fr):wantedV fr none=some true:=rfl
theorem Bd {N n:Nat} {f:Fn} (w:Bool) (h:n<N):wantedV (aa N f) (some (n,w))=match f n with | .one (.d (.b x))=>some (x == w) | .tup []=>some false|_=>none:=by
 have:(aa N f)[n]?=some (f n):=by simp[aa,h]
 simp only[wantedV,this];split <;> simp_all
theorem Dt {args:List V} {N:Nat} (h:args.length<=N):args++List.replicate (N-args.length) (.tup [])=aa N (uH args):=by
 apply List.ext_getElem
 ·simp[aa];omega
 ·intro i h1 h2;simp only[aa,List.getElem_map,List.getElem_range,uH];by_cases hi:i<args.length
  ·rw[List.getElem_append_left hi];simp[List.getD,hi]
  ·rw[List.getElem_append_right (by omega)];simp[List.getD,List.getElem?_eq_none (by omega:args.length<=i)]
theorem cd {N n:Nat} {f:Fn} (h:n<N):(aa N f)[n]?=some (f n):=by simp[aa,h]
theorem mf (lv:List Nat) (N:Nat) (f:Fn):bf lv (aa N f)=aa N (ny lv f):=by
 apply List.ext_getElem
 ·simp[bf,aa]
 ·intro i h1 h2;simp[bf,aa,ny]
def L.pure:L->Bool
 | .p _ _ | .ap _ _ _ | .sl _ _ _ _ | .y _ _ | .sp _ _ | .m _=>false
 | .f _ caps=>caps.isEmpty
 | _=>true
def V.pure:V->Bool
 | .one x=>x.pure
 | .agg xs=>xs.all L.pure
 | .tup xs=>xs.all fun c=>c.2.all L.pure
 | .any=>true
theorem L.pure_d (x:D):(L.d x).pure=true:=Eq.trans rfl rfl
theorem L.pure_ip (x:List D):(L.ip x).pure=true:=Eq.trans rfl rfl
theorem L.pure_cl (x:List (List D)):(L.cl x).pure=true:=Eq.trans rfl rfl
theorem L.pure_ns:L.ns.pure=true:=Eq.trans rfl rfl
theorem L.pure_np:L.np.pure=true:=Eq.trans rfl rfl
theorem L.pure_nf:L.nf.pure=true:=Eq.trans rfl rfl
theorem L.pure_f (f:FuncId):(L.f f []).pure=true:=Eq.trans rfl rfl
theorem Ls.pure_map (xs:List D):(xs.map L.d).all L.pure=true:=by simp[L.pure_d]
theorem V.pure_one (x:L):(V.one x).pure=x.pure:=Eq.trans rfl rfl
theorem V.pure_agg (xs:List L):(V.agg xs).pure=xs.all L.pure:=Eq.trans rfl rfl
theorem V.pure_tup (xs:List (Bool × List L)):(V.tup xs).pure=xs.all fun c=>c.2.all L.pure:=Eq.trans rfl rfl
theorem V.pure_any:V.any.pure=true:=Eq.trans rfl rfl
theorem L.pure_ren {x:L} (h:x.pure=true) (ρ:Nat->Option Nat):x.ren ρ=x:=by
 cases x with
 | f fn caps=>simp[L.pure] at h;subst h;rfl
 | p=>cases h
 | ap=>cases h
 | sl=>cases h
 | y=>cases h
 | sp=>cases h
 | m=>cases h
 | _=>rfl
theorem L.pure_refs {x:L} (h:x.pure=true):x.refs=[]:=by
 cases x with
 | f fn caps=>simp[L.pure] at h;subst h;rfl
 | p=>cases h
 | ap=>cases h
 | sl=>cases h
 | y=>cases h
 | sp=>cases h
 | m=>cases h
 | _=>rfl
theorem Ls.pure_ren {xs:List L} (h:xs.all L.pure=true) (ρ:Nat->Option Nat):xs.map (L.ren ρ)=xs:=by
 induction xs with
 | nil=>rfl
 | cons x r ih=>simp only[List.all_cons,Bool.and_eq_true] at h;simp[L.pure_ren h.1,ih h.2]
theorem Ls.pure_refs {xs:List L} (h:xs.all L.pure=true):xs.flatMap L.refs=[]:=by
 induction xs with
 | nil=>rfl
 | cons x r ih=>simp only[List.all_cons,Bool.and_eq_true] at h;simp[L.pure_refs h.1,ih h.2]
theorem V.pure_ren {v:V} (h:v.pure=true) (ρ:Nat->Option Nat):v.ren ρ=v:=by
 cases v with
 | one x=>simp only[V.ren,L.pure_ren h]
 | agg xs=>simp only[V.ren,Ls.pure_ren h]
 | tup xs =>
  simp only[V.ren,V.tup.injEq];simp only[V.pure] at h;induction xs with
  | nil=>rfl
  | cons c r ih=>simp only[List.all_cons,Bool.and_eq_true] at h;simp only[List.map_cons,ih h.2,Ls.pure_ren h.1]
 | any=>rfl
theorem V.pure_refs {v:V} (h:v.pure=true):v.refs=[]:=by
 cases v with
 | one x=>simp only[V.refs,L.pure_refs h]
 | agg xs=>simp only[V.refs,Ls.pure_refs h]
 | tup xs =>
  simp only[V.refs];simp only[V.pure] at h;induction xs with
  | nil=>rfl
  | cons c r ih=>simp only[List.all_cons,Bool.and_eq_true] at h;simp only[List.flatMap_cons,ih h.2,Ls.pure_refs h.1,List.append_nil]
 | any=>rfl
theorem qW (H:Hp) (n:Nat) (seen:List Nat):aD H n [] seen=seen:=by cases n <;> rfl
theorem tp:∀ (n:Nat) (todo seen:List Nat),aD [] n todo seen=seen
 | 0,_,_=>rfl
 | n+1,[],_=>rfl
 | n+1,i::todo,seen=>by simp only[aD,List.getElem?_nil];exact tp n todo seen
theorem D2 {N:Nat} {lv:List Nat} {f:Fn} (h:lv.all (fun i=>(f i).pure)=true):canon 0 lv (aa N f) []=(aa N (ny lv f),[]):=by
 have hp:∀ i,(ny lv f i).pure=true:=by
  intro i;simp only[ny];split
  ·rename_i hi;exact(List.all_eq_true.1 h) i (by simpa using hi)
  ·rfl
 simp only[canon,mf,sr,List.length_nil,Nat.zero_min,List.range_zero,List.flatMap_nil,List.nil_append,tp,aw,List.map_nil];refine Prod.ext ?_ rfl;simp only[aa,List.map_map];apply List.map_congr_left;intro i _;exact V.pure_ren (hp i) _
theorem refs_pure {args:List V} (h:args.all V.pure=true):args.flatMap V.refs=[]:=by
 induction args with
 | nil=>rfl
 | cons v r ih=>simp only[List.all_cons,Bool.and_eq_true] at h;simp[V.pure_refs h.1,ih h.2]
theorem ren_pure {args:List V} (h:args.all V.pure=true) (ρ:Nat->Option Nat):args.map (V.ren ρ)=args:=by
 induction args with
 | nil=>rfl
 | cons v r ih=>simp only[List.all_cons,Bool.and_eq_true] at h;simp[V.pure_ren h.1,ih h.2]
theorem callIso_pure {φ:cI} {f:FuncId} {args:List V} {H:Hp} {r:V} (h:args.all V.pure=true) (hr:φ f args []=some (r,[])) (hp:r.pure=true):ak φ f args H=some (r,H):=by
 simp only[ak,aI,refs_pure h,qW,aw,List.map_nil,ren_pure h,hr,V.pure_ren hp,List.length_nil,List.take_nil,List.drop_nil,cu,List.append_nil]
theorem trim_pure {r:V} {H:Hp} (hp:r.pure=true):trim 0 r H=(r,[]):=by
 simp[trim,V.pure_refs hp]
inductive KI where
 | s (b:AC)|k (id:Nat)
noncomputable def KS {α:Type} (φ:cI) (m:Nat) (K:Ex->Fr->Hp->Option α):List KI->Ex->Fr->Hp->Option α
 | []=>K
 | .s b::st=>fun e fr H=>match e with | .normal=>bJ φ m b fr H (KS φ m K st)|e=>KS φ m K st e fr H
 | .k id::st=>fun e fr H=>match e with | .exit i=>if i=id then KS φ m K st .normal fr H else KS φ m K st (.exit i) fr H|e=>KS φ m K st e fr H
noncomputable def kw {α:Type} (φ:cI) (m:Nat) (K:Ex->Fr->Hp->Option α) (e:Ex) (fr:Fr) (H:Hp) (st:List KI):Option α:=KS φ m K st e fr H
noncomputable def kU {α:Type} (φ:cI) (m:Nat) (K:Ex->Fr->Hp->Option α) (c:AC) (fr:Fr) (H:Hp) (st:List KI):Option α:=bJ φ m c fr H (KS φ m K st)
noncomputable def tB {α:Type} (φ:cI) (m:Nat) (K:Ex->Fr->Hp->Option α) (ops:List AOp) (fr:Fr) (H:Hp) (st:List KI):Option α :=
 match bP φ ops fr H with|some (fr,H)=>kw φ m K .normal fr H st|none=>none
noncomputable def Qd {α:Type} (φ:cI) (m:Nat) (K:Ex->Fr->Hp->Option α) (x:Option (V × Hp)) (d:Option Nat) (r:List AOp) (fr:Fr) (st:List KI):Option α :=
 match x with|some (v,H)=>tB φ m K r (put fr d v) H st|none=>none
noncomputable def ML {α:Type} (φ:cI) (m:Nat) (K:Ex->Fr->Hp->Option α) (x:Option (V × Hp)) (d:Option Nat) (r:List AOp) (fr:Fr) (st:List KI):Option α :=
 match x with|some (v,H)=>Qd φ m K (pj v H) d r fr st|none=>none
noncomputable def Tm {α:Type} (φ:cI) (m:Nat) (K:Ex->Fr->Hp->Option α) (w:Option Bool) (d:Option Nat) (a:A) (r:List AOp) (fr:Fr) (H:Hp) (st:List KI):Option α :=
 match w with|none=>none|some true=>Qd φ m K (a.run φ fr H) d r fr st|some false=>tB φ m K r (put fr d (.tup [])) H st
noncomputable def LO {α:Type} (φ:cI) (m:Nat) (K:Ex->Fr->Hp->Option α) (w:Option Bool) (d:Option Nat) (a:A) (r:List AOp) (fr:Fr) (H:Hp) (st:List KI):Option α :=
 match w with|none=>none|some true=>ML φ m K (a.run φ fr H) d r fr st|some false=>tB φ m K r (put fr d (.tup [])) H st
noncomputable def S9 {α:Type} (φ:cI) (m:Nat) (K:Ex->Fr->Hp->Option α) (c:Option V) (a b:AC) (fr:Fr) (H:Hp) (st:List KI):Option α :=
 match c with|some (.one (.d (.b true)))=>kU φ m K a fr H st|some (.one (.d (.b false)))=>kU φ m K b fr H st|_=>none
noncomputable def vI {α:Type} (φ:cI) (m:Nat) (K:Ex->Fr->Hp->Option α) (ops:List AOp) (lg:List Log) (fr:Fr) (H:Hp) (st:List KI):Option α :=
 match cX φ ops lg fr H with|some (fr,H)=>kw φ m K .normal fr H st|none=>none
def HJ (o:AOp) (e:Log) (lg:List Log):Bool := !o.fz && (o.pre.all (fun j=>decide (j<lg.length)) && gi o.pre e 0 lg)
noncomputable def T3 {α:Type} (φ:cI) (m:Nat) (K:Ex->Fr->Hp->Option α) (c:Bool) (r:List AOp) (lg:List Log) (fr:Fr) (H:Hp) (st:List KI):Option α :=
 match c with|true=>vI φ m K r lg fr H st|false=>none
noncomputable def Mj {α:Type} (φ:cI) (m:Nat) (K:Ex->Fr->Hp->Option α) (k:Nat) (x:Option (V × Hp)) (o:AOp) (r:List AOp) (lg:List Log) (fr:Fr) (H:Hp) (st:List KI):Option α :=
 match x with|some (v,H1)=>T3 φ m K (HJ o ⟨k,o.dst,o.slots,touch k o fr H H1⟩ lg) r (lg++[⟨k,o.dst,o.slots,touch k o fr H H1⟩]) (put fr o.dst v) H1 st|none=>none
noncomputable def QF {α:Type} (φ:cI) (m:Nat) (K:Ex->Fr->Hp->Option α) (k:Nat) (o:AOp) (r:List AOp) (lg:List Log) (fr:Fr) (H:Hp) (st:List KI):Option α :=
 Mj φ m K k (drawStep φ o k true fr H) o r lg fr H st
noncomputable def Td {α:Type} (φ:cI) (m:Nat) (K:Ex->Fr->Hp->Option α) (w:Option Bool) (o:AOp) (r:List AOp) (lg:List Log) (fr:Fr) (H:Hp) (st:List KI):Option α :=
 match w with|none=>none|some true=>QF φ m K (o.a.kind fr) o r lg fr H st|some false=>Mj φ m K 0 (some (.tup [],H)) o r lg fr H st
def KL {α:Type} (R:Fr->Hp->Option α) (k:Ex->Fr->Hp->Option α):Ex->Fr->Hp->Option α:=fun e fr H=>match e with | .normal=>R fr H|e=>k e fr H
section
variable {α:Type} {φ:cI} {m:Nat} {K:Ex->Fr->Hp->Option α} {fr:Fr} {H:Hp} {st:List KI}
theorem go_skip:kU φ m K .skip fr H st=kw φ m K .normal fr H st:=rfl
theorem go_seq (a b:AC):kU φ m K (.seq a b) fr H st=kU φ m K a fr H (.s b::st):=rfl
theorem go_reg (ops:List AOp):kU φ m K (.reg ops false) fr H st=tB φ m K ops fr H st:=rfl
theorem go_draw (ops:List AOp) (h:jN ops []=false):kU φ m K (.reg ops true) fr H st=vI φ m K ops [] fr H st:=by
 simp only[kU,bJ,vI,cond_true,dk,h,cond_false];rfl
theorem Jc (lg:List Log):vI φ m K [] lg fr H st=kw φ m K .normal fr H st:=rfl
theorem Hb (o:AOp) (r:List AOp) (lg:List Log):vI φ m K (o::r) lg fr H st=Td φ m K (wantedV fr o.g) o r lg fr H st:=by
 simp only[vI,cX,Td];cases wantedV fr o.g with
 | none=>rfl
 | some w =>
  cases w with
  | false =>
   simp only[Mj,cond_false,drawStep,HJ];cases (!o.fz && (o.pre.all (fun j=>decide (j<lg.length)) && gi o.pre ⟨0,o.dst,o.slots,touch 0 o fr H H⟩ 0 lg)) <;> rfl
  | true =>
   simp only[QF,Mj,cond_true];cases drawStep φ o (o.a.kind fr) true fr H with
   | none=>rfl
   | some q =>
    simp only[HJ];cases (!o.fz && (o.pre.all (fun j=>decide (j<lg.length)) && gi o.pre ⟨o.a.kind fr,o.dst,o.slots,touch (o.a.kind fr) o fr H q.2⟩ 0 lg)) <;> rfl
theorem H5 (o:AOp) (r:List AOp) (lg:List Log):Td φ m K (some true) o r lg fr H st=QF φ m K (o.a.kind fr) o r lg fr H st:=rfl
theorem GJ (o:AOp) (r:List AOp) (lg:List Log):Td φ m K (some false) o r lg fr H st=Mj φ m K 0 (some (.tup [],H)) o r lg fr H st:=rfl
theorem Ru (o:AOp) (r:List AOp) (lg:List Log):QF φ m K 0 o r lg fr H st=Mj φ m K 0 (o.a.run φ fr H) o r lg fr H st:=rfl
theorem Q7 (o:AOp) (r:List AOp) (lg:List Log):QF φ m K 1 o r lg fr H st=Mj φ m K 1 (o.a.run φ fr H) o r lg fr H st:=rfl
theorem Rm (o:AOp) (r:List AOp) (lg:List Log):QF φ m K 2 o r lg fr H st=Mj φ m K 2 (aY φ o fr H) o r lg fr H st:=rfl
theorem Ka (k:Nat) (v:V) (H1:Hp) (o:AOp) (r:List AOp) (lg:List Log):Mj φ m K k (some (v,H1)) o r lg fr H st =
  T3 φ m K (HJ o ⟨k,o.dst,o.slots,touch k o fr H H1⟩ lg) r (lg++[⟨k,o.dst,o.slots,touch k o fr H H1⟩]) (put fr o.dst v) H1 st:=rfl
theorem go_cond (c:X) (a b:AC):kU φ m K (.cond c a b) fr H st=S9 φ m K (c.ev fr) a b fr H st:=by
 simp only[kU,bJ,S9];rcases c.ev fr with _|v
 ·rfl
 ·cases v with
  | one x=>cases x with
   | d x=>cases x with
    | b b=>cases b <;> rfl
    | _=>rfl
   | _=>rfl
  | _=>rfl
theorem Ku (a b:AC):S9 φ m K (some (.one (.d (.b true)))) a b fr H st=kU φ m K a fr H st:=rfl
theorem Gc (a b:AC):S9 φ m K (some (.one (.d (.b false)))) a b fr H st=kU φ m K b fr H st:=rfl
theorem IN (d:Option Nat) (r:List AOp) (v:V) (H1:Hp):Qd φ m K (some (v,H1)) d r fr st=tB φ m K r (put fr d v) H1 st:=rfl
theorem Hq (d:Option Nat) (r:List AOp) (v:V) (H1:Hp):ML φ m K (some (v,H1)) d r fr st=Qd φ m K (pj v H1) d r fr st:=rfl
theorem Kh (d:Option Nat) (a:A) (r:List AOp):Tm φ m K (some true) d a r fr H st=Qd φ m K (a.run φ fr H) d r fr st:=rfl
theorem FP (d:Option Nat) (a:A) (r:List AOp):Tm φ m K (some false) d a r fr H st=tB φ m K r (put fr d (.tup [])) H st:=rfl
theorem Hf (d:Option Nat) (a:A) (r:List AOp):LO φ m K (some true) d a r fr H st=ML φ m K (a.run φ fr H) d r fr st:=rfl
theorem DS (d:Option Nat) (a:A) (r:List AOp):LO φ m K (some false) d a r fr H st=tB φ m K r (put fr d (.tup [])) H st:=rfl
theorem go_block (id:Nat) (c:AC):kU φ m K (.block id c) fr H st=kU φ m K c fr H (.k id::st):=rfl
theorem go_exit (id:Nat):kU φ m K (.exit id) fr H st=kw φ m K (.exit id) fr H st:=rfl
theorem go_ret:kU φ m K .ret fr H st=kw φ m K .ret fr H st:=rfl
theorem Lo (e:Ex):kw φ m K e fr H []=K e fr H:=rfl
theorem Q6 (b:AC):kw φ m K .normal fr H (.s b::st)=kU φ m K b fr H st:=rfl
theorem PC (b:AC) (i:Nat):kw φ m K (.exit i) fr H (.s b::st)=kw φ m K (.exit i) fr H st:=rfl
theorem Py (b:AC):kw φ m K .ret fr H (.s b::st)=kw φ m K .ret fr H st:=rfl
theorem Q9 (id:Nat):kw φ m K .normal fr H (.k id::st)=kw φ m K .normal fr H st:=rfl
theorem Pw (id i:Nat):kw φ m K (.exit i) fr H (.k id::st)=if i=id then kw φ m K .normal fr H st else kw φ m K (.exit i) fr H st:=rfl
theorem OR (id:Nat):kw φ m K .ret fr H (.k id::st)=kw φ m K .ret fr H st:=rfl
theorem LI:tB φ m K [] fr H st=kw φ m K .normal fr H st:=rfl
theorem ui (d:Option Nat) (a:A) (g:Option (Nat × Bool)) (p:List Nat) (r:List AOp):tB φ m K (⟨d,a,g,p,false⟩::r) fr H st =
  Tm φ m K (wantedV fr g) d a r fr H st:=by
 simp only[tB,bP,AOp.step,Tm,Qd];cases wantedV fr g with
 | none=>rfl
 | some w =>
  cases w with
  | false=>rfl
  | true =>
   simp only[cond_true,cond_false];cases a.run φ fr H with
   | none=>rfl
   | some q=>rfl
theorem sf (d:Option Nat) (a:A) (g:Option (Nat × Bool)) (p:List Nat) (r:List AOp):tB φ m K (⟨d,a,g,p,true⟩::r) fr H st =
  LO φ m K (wantedV fr g) d a r fr H st:=by
 simp only[tB,bP,AOp.step,LO,Qd,ML];cases wantedV fr g with
 | none=>rfl
 | some w =>
  cases w with
  | false=>rfl
  | true =>
   simp only[cond_true,cond_false];cases a.run φ fr H with
   | none=>rfl
   | some q =>
    obtain⟨v,H1⟩:=q;simp only;cases pj v H1 with
    | none=>rfl
    | some q=>rfl
theorem GF (R:Fr->Hp->Option α):KL R (KS φ m K st) .normal fr H=R fr H:=rfl
theorem Mb (R:Fr->Hp->Option α) (i:Nat):KL R (KS φ m K st) (.exit i) fr H=kw φ m K (.exit i) fr H st:=rfl
theorem PS (R:Fr->Hp->Option α):KL R (KS φ m K st) .ret fr H=kw φ m K .ret fr H st:=rfl
end
theorem rk {α σ:Type} {φ:cI} {m N:Nat} {lv:List Nat} {c:AC} {K:Ex->Fr->Hp->Option α} {st:List KI} (μ:σ->Nat) (I:σ->Fn->Hp->Prop) (Z:σ->α)
  (hs:∀ s f H,I s f H->∀ R:Fr->Hp->Option α,(∀ s' f' H',μ s'<μ s->I s' f' H'->R (aa N f') H'=some (Z s')) ->
   kU φ m (KL R (KS φ m K st)) c (canon m lv (aa N f) H).1 (canon m lv (aa N f) H).2 []=some (Z s)) :
  ∀ s f H,I s f H->kU φ m K (.loop lv c) (aa N f) H st=some (Z s):=by
 have key:∀ k s f H,μ s<k->I s f H->kU φ m K (.loop lv c) (aa N f) H st=some (Z s):=by
  intro k;induction k with
  | zero=>intro s f H h;omega
  | succ k ih =>
   intro s f H hk hi;simp only[kU,bJ];apply vU;exact hs s f H hi _ (fun s' f' H' hlt hi'=>by have:=ih s' f' H' (by omega) hi';simpa only[kU,bJ] using this)
 exact fun s f H hi=>key (μ s+1) s f H (Nat.lt_succ_self _) hi
def wA (res:List RV) (keep:Bool) (m:Nat) (fr:Fr) (H:Hp):Option (V × Hp):=match rC fr H res with
  | none=>none
  | some r=>match (bif keep then some (r,H) else pj r H) with
   | some (r,H)=>some (trim m r H)
   | none=>none
def Cn (res:List RV) (keep:Bool) (m:Nat):Ex->Fr->Hp->Option (V × Hp):=fun e fr H=>match e with
 | .exit _=>none
 | _=>wA res keep m fr H
theorem At (res:List RV) (keep:Bool) (m:Nat) (fr:Fr) (H:Hp):Cn res keep m .normal fr H=wA res keep m fr H:=rfl
theorem JS (res:List RV) (keep:Bool) (m:Nat) (fr:Fr) (H:Hp):Cn res keep m .ret fr H=wA res keep m fr H:=rfl
theorem wO (af:AF) (m:Nat):gy af m=Cn af.res af.keep m:=by
 funext e fr H
 cases e <;> rfl
theorem enter {prog:FuncId->Option AF} {pr:cI} {f:FuncId} {args:List V} {H:Hp} {z:V × Hp} {af:AF} (hf:prog f=some af) (hR:af.body.hasR=false) (hl:Nat.ble args.length af.ntmps=true)
  (h:kU (eB prog pr) H.length (Cn af.res af.keep H.length) af.body (aa af.ntmps (uH args)) H []=some z):eB prog pr f args H=some z :=
 A7 hf hR (by rw[Dt (Nat.le_of_ble_eq_true hl),wO];exact h)
theorem Tt {N n:Nat} {f:Fn} (H:Hp) (h:n<N):RV.get (aa N f) H (.t n)=some (f n):=by simp only[RV.get,cd h]
theorem Ub (fr:Fr) (H:Hp) (ag:Option Nat) (n:Nat):RV.get fr H (.c ag n)=match A.run (fun _ _ _=>none) fr H (.ld ag (.t n)) with|some (v,_)=>some v|none=>none:=rfl
theorem PJ (res:List RV) (m:Nat) (fr:Fr) (H:Hp):wA res false m fr H=match rC fr H res with
  | none=>none
  | some r=>match pj r H with|some (r,H)=>some (trim m r H)|none=>none:=by
 simp only[wA,cond_false]
theorem K0 (res:List RV) (m:Nat) (fr:Fr) (H:Hp):wA res true m fr H=match rC fr H res with
  | none=>none
  | some r=>some (trim m r H):=by
 simp only[wA,cond_true]
theorem Kc (fr:Fr) (H:Hp):rC fr H []=some (.tup []):=rfl
theorem IR (fr:Fr) (H:Hp) (t:RV):rC fr H [t]=t.get fr H:=rfl
theorem HX (fr:Fr) (H:Hp) (t s:RV) (l:List RV):rC fr H (t::s::l)=match wv fr H (t::s::l) with|some l=>some (.tup l)|none=>none:=rfl
theorem H8 (fr:Fr) (H:Hp):wv fr H []=some []:=rfl
theorem FC (fr:Fr) (H:Hp) (t:RV) (l:List RV):wv fr H (t::l)=match t.get fr H with
  | some v=>(match FW v with|some x=>(match wv fr H l with|some xs=>some (x::xs)|none=>none)|none=>none)
  | none=>none:=by
 simp only[wv];cases t.get fr H with
 | none=>rfl
 | some v=>simp only;cases FW v <;> cases wv fr H l <;> rfl
abbrev vi (n:Int):V:=.one (.d (.i .i64 n))
abbrev vk (k:IntKind) (n:Int):V:=.one (.d (.i k n))
abbrev vb (b:Bool):V:=.one (.d (.b b))
abbrev vs (l:List UInt8):V:=.one (.d (.s l))
abbrev vl (rows:List (List D)):V:=.one (.d (.l rows))
abbrev kc (n:Int):X:=.c (.one (.d (.i .i64 n)))
abbrev kb (b:Bool):X:=.c (.one (.d (.b b)))
abbrev ks (s:List UInt8):X:=.c (.one (.d (.s s)))
abbrev kx (x:L):X:=.c (.one x)
abbrev o (d:Nat) (a:A):AOp:=⟨some d,a,none,[],false⟩
abbrev oz (d:Nat) (a:A):AOp:=⟨some d,a,none,[],true⟩
abbrev on (a:A):AOp:=⟨none,a,none,[],false⟩
abbrev og (d:Nat) (t:Nat) (w:Bool) (a:A):AOp:=⟨some d,a,some (t,w),[],false⟩
abbrev od (d:Nat) (p:List Nat) (a:A):AOp:=⟨some d,a,none,p,false⟩
abbrev T4 (d:Nat) (t:Nat) (w:Bool) (p:List Nat) (a:A):AOp:=⟨some d,a,some (t,w),p,false⟩
abbrev rg (l:List AOp):AC:=.reg l false
abbrev rd (l:List AOp):AC:=.reg l true
theorem FG {n:Int} (h : -9223372036854775808<=n) (h2:n<9223372036854775808):IntKind.i64.wrap n=n:=by
 rw[IntWalk.i64_left,IntWalk.wrap64_in n ⟨h,by omega⟩]
theorem xx {n k:Nat} (h:k<=n):cS n n (some ((k:Nat):Int)) none none=some (k,n,n):=by
 have h1:(0:Int)<=k∧(k:Int)<=n:=by omega
 simp[cS,h1,h]
theorem xA {n k:Nat} (h:k<=n):cS n n none (some ((k:Nat):Int)) none=some (0,k,n):=by
 have h1:(0:Int)<=k∧(k:Int)<=n:=by omega
 simp[cS,h1,h]
theorem wR {n k:Nat} (h:k<=n):cS n n none (some ((k:Nat):Int)) (some ((k:Nat):Int))=some (0,k,k):=by
 have h1:(0:Int)<=k∧(k:Int)<=n:=by omega
 simp[cS,h1,h]
theorem aZ {α:Type} {g:α->List D} {sz:Nat} (h:∀ x,(g x).length=sz) (q:List α):aV sz (q.map g)=true:=by
 simp[aV,h]
theorem JF (x:L):FW (.one x)=some (false,[x]):=rfl
theorem Ks (xs:List L):FW (.agg xs)=some (true,xs):=rfl
section
variable {φ:FuncId->List V->Hp->Option (V × Hp)} {fr fr2:Fr} {H H':Hp} {v:V}
theorem aS {x:X} (h:∀ t∈x.slot,fr[t]?=fr2[t]?):x.ev fr=x.ev fr2:=by
 cases x with
 | t n=>exact h n (by simp[X.slot])
 | c y=>rfl
theorem iu:∀ {xs:List X},(∀ t∈xs.flatMap X.slot,fr[t]?=fr2[t]?)->mW fr xs=mW fr2 xs
 | [],_=>rfl
 | x::r,h=>by
  simp only[mW];rw[aS (x:=x) (fun t ht=>h t (by simp[ht])),iu (xs:=r) (fun t ht=>h t (by rw[List.flatMap_cons];exact List.mem_append_right _ ht))]
theorem lD {x:X} (h:∀ t∈x.slot,fr[t]?=fr2[t]?):G0 fr x=G0 fr2 x:=by simp only[G0,aS h]
theorem iV {x:Option X} (h:∀ t∈(co x).flatMap X.slot,fr[t]?=fr2[t]?):i7 fr x=i7 fr2 x:=by
 cases x with
 | none=>rfl
 | some x=>simp only[i7];rw[aS (x:=x) (fun t ht=>h t (by simp[co,ht]))]
theorem qY:∀ {ps:List (Nat × Nat × X)},(∀ t∈(ps.map fun q=>q.2.2).flatMap X.slot,fr[t]?=fr2[t]?)->HN fr ps=HN fr2 ps
 | [],_=>rfl
 | (a,b,x)::r,h=>by
  simp only[HN];rw[aS (x:=x) (fun t ht=>h t (by simp[ht])),qY (ps:=r) (fun t ht=>h t (by rw[List.map_cons,List.flatMap_cons];exact List.mem_append_right _ ht))]
theorem sE {sz:Nat}:∀ {ps:List (Nat × X)} {rows:List (List D)} {H:Hp},(∀ t∈(ps.map fun q=>q.2).flatMap X.slot,fr[t]?=fr2[t]?)->kO fr sz rows ps H=kO fr2 sz rows ps H
 | [],_,_,_=>rfl
 | (k,x)::r,rows,H,h=>by
  simp only[kO];rw[aS (x:=x) (fun t ht=>h t (by simp[ht]))]
  have ih:∀ rows H,kO fr sz rows r H=kO fr2 sz rows r H:=fun rows H=>sE (fun t ht=>h t (by rw[List.map_cons,List.flatMap_cons];exact List.mem_append_right _ ht))
  simp only[ih]
theorem rD {a:A} (h:∀ t∈a.xs.flatMap X.slot,fr[t]?=fr2[t]?):a.run φ fr H=a.run φ fr2 H:=by
 cases a;case own=>rfl
 case alloc=>rfl
 case mkf f xs=>simp only[A.run];rw[iu (xs:=xs) h]
 case call f xs=>simp only[A.run];rw[iu (xs:=xs) h]
 case calln f xs=>simp only[A.run];rw[iu (xs:=xs) h]
 case callp f xs=>simp only[A.run];rw[iu (xs:=xs) h]
 case callz f xs=>simp only[A.run];rw[iu (xs:=xs) h]
 case callv x xs =>
  simp only[A.run];rw[aS (x:=x) (fun t ht=>h t (by simp[A.xs,ht])),iu (xs:=xs) (fun t ht=>h t (by simp only[A.xs,List.flatMap_cons];exact List.mem_append_right _ ht))]
 case build zs ps=>simp only[A.run];rw[qY (ps:=ps) h]
 case bsp n zs ps=>simp only[A.run];rw[qY (ps:=ps) h]
 case mkm=>rfl
 case mset x y z=>simp only[A.run];rw[aS (x:=x) (fun t ht=>h t (by simp[A.xs,ht])),aS (x:=y) (fun t ht=>h t (by simp[A.xs,ht])),aS (x:=z) (fun t ht=>h t (by simp[A.xs,ht]))]
 case mget x y=>simp only[A.run];rw[aS (x:=x) (fun t ht=>h t (by simp[A.xs,ht])),aS (x:=y) (fun t ht=>h t (by simp[A.xs,ht]))]
 case bs1 sz x=>simp only[A.run];rw[aS (x:=x) (fun t ht=>h t (by simp[A.xs,ht]))]
 case bsl sz z ps=>simp only[A.run];rw[sE (ps:=ps) h]
 case sls x lo hi =>
  simp only[A.run];rw[aS (x:=x) (fun t ht=>h t (by simp[A.xs,ht])),iV (x:=lo) (fun t ht=>h t (by simp only[A.xs,List.flatMap_cons,List.flatMap_append,List.mem_append];exact .inr (.inl ht))),
   iV (x:=hi) (fun t ht=>h t (by simp only[A.xs,List.flatMap_cons,List.flatMap_append,List.mem_append];exact .inr (.inr ht)))]
 case slc sz x lo hi mx =>
  simp only[A.run];rw[aS (x:=x) (fun t ht=>h t (by simp[A.xs,ht])),iV (x:=lo) (fun t ht=>h t (by simp only[A.xs,List.flatMap_cons,List.flatMap_append,List.mem_append];exact .inr (.inl (.inl ht)))),
   iV (x:=hi) (fun t ht=>h t (by simp only[A.xs,List.flatMap_cons,List.flatMap_append,List.mem_append];exact .inr (.inl (.inr ht)))),
   iV (x:=mx) (fun t ht=>h t (by simp only[A.xs,List.flatMap_cons,List.flatMap_append,List.mem_append];exact .inr (.inr ht)))]
 case pick a b c =>
  simp only[A.run];rw[aS (x:=a) (fun t ht=>h t (by simp[A.xs,ht])),aS (x:=b) (fun t ht=>h t (by simp[A.xs,ht])),aS (x:=c) (fun t ht=>h t (by simp[A.xs,ht]))]
 case nilc k n x =>
  rcases k with _|_|k <;> simp only[A.run] <;> rw[aS (x:=x) (fun t ht=>h t (by simp[A.xs,ht]))]
 case len s x =>
  cases s <;> simp only[A.run] <;> rw[aS (x:=x) (fun t ht=>h t (by simp[A.xs,ht]))]
 case ixs x i=>simp only[A.run];rw[aS (x:=x) (fun t ht=>h t (by simp[A.xs,ht])),lD (x:=i) (fun t ht=>h t (by simp[A.xs,ht]))]
 case ia sz x i=>simp only[A.run];rw[aS (x:=x) (fun t ht=>h t (by simp[A.xs,ht])),lD (x:=i) (fun t ht=>h t (by simp[A.xs,ht]))]
 case iar l sz x i=>simp only[A.run];rw[aS (x:=x) (fun t ht=>h t (by simp[A.xs,ht])),lD (x:=i) (fun t ht=>h t (by simp[A.xs,ht]))]
 case mks s b z x y=>simp only[A.run];rw[lD (x:=x) (fun t ht=>h t (by simp[A.xs,ht])),lD (x:=y) (fun t ht=>h t (by simp[A.xs,ht]))]
 case st n x y=>simp only[A.run];rw[aS (x:=x) (fun t ht=>h t (by simp[A.xs,ht])),aS (x:=y) (fun t ht=>h t (by simp[A.xs,ht]))]
 case bin op x y=>simp only[A.run];rw[aS (x:=x) (fun t ht=>h t (by simp[A.xs,ht])),aS (x:=y) (fun t ht=>h t (by simp[A.xs,ht]))]
 case eqb n x y=>simp only[A.run];rw[aS (x:=x) (fun t ht=>h t (by simp[A.xs,ht])),aS (x:=y) (fun t ht=>h t (by simp[A.xs,ht]))]
 case eqa n k x y=>simp only[A.run];rw[aS (x:=x) (fun t ht=>h t (by simp[A.xs,ht])),aS (x:=y) (fun t ht=>h t (by simp[A.xs,ht]))]
 case mm m x y=>simp only[A.run];rw[aS (x:=x) (fun t ht=>h t (by simp[A.xs,ht])),aS (x:=y) (fun t ht=>h t (by simp[A.xs,ht]))]
 case app st s b x y=>simp only[A.run];rw[aS (x:=x) (fun t ht=>h t (by simp[A.xs,ht])),aS (x:=y) (fun t ht=>h t (by simp[A.xs,ht]))]
 case ext x i=>simp only[A.run];rw[aS (x:=x) (fun t ht=>h t (by simp[A.xs,ht]))]
 all_goals (rename_i x;simp only[A.run];rw[aS (x:=x) (fun t ht=>h t (by simp[A.xs,ht]))])
theorem uj {x:X} (h:∀ t∈x.slot,fr[t]?=fr2[t]?):xk fr x=xk fr2 x:=by
 cases x with
 | t n=>simp only[xk,vj,aS (x:=.t n) h]
 | c y=>rfl
theorem Cu {a:A} (h:∀ t∈a.xs.flatMap X.slot,fr[t]?=fr2[t]?):a.kind fr=a.kind fr2:=by
 cases a <;> try rfl
 case ld ag x=>exact uj (x:=x) fun t ht=>h t (by simp[A.xs,ht])
 case b2s x=>exact uj (x:=x) fun t ht=>h t (by simp[A.xs,ht])
 case app st s b x y =>
  simp only[A.kind];rw[aS (x:=x) (fun t ht=>h t (by simp[A.xs,ht])),uj (x:=y) (fun t ht=>h t (by simp[A.xs,ht]))]
theorem Kd {x:X} (h:x.ev fr=some v):vj fr x=v.refs:=by simp only[vj,h]
theorem tM {x:X} (hk:xk fr x=0) (h:x.ev fr=some v):v.refs=[]:=by
 cases x with
 | t n =>
  simp only[xk,Kd h] at hk;cases hw:v.refs with
  | nil=>rfl
  | cons a b=>rw[hw] at hk;simp at hk
 | c y =>
  simp only[X.ev,Option.some.injEq] at h;subst h;simp only[xk] at hk;cases hw:y.refs with
  | nil=>rfl
  | cons a b=>rw[hw] at hk;simp at hk
theorem Cr {x:X} (hk:xk fr x=1) (h:x.ev fr=some v):∀ b∈v.refs,b∈aB fr x.slot:=by
 cases x with
 | t n =>
  simp only[X.ev] at h;intro b hb;simpa[aB,X.slot,h] using hb
 | c y =>
  simp only[xk] at hk;cases hh:y.refs.isEmpty <;> rw[hh] at hk <;> cases hk
theorem lz {y:L} (hy:y.refs=[]) {H2:Hp} {sz:Nat}:cO H2 sz y=cO H sz y:=by
 cases y with
 | d x=>cases x <;> rfl
 | sl=>simp[L.refs] at hy
 | _=>rfl
theorem nY {a:A} (hk:a.kind fr=0) (hr:a.run φ fr H=some (v,H')):H'=H∧∀ H2,a.run φ fr H2=some (v,H2):=by
 cases a;case own=>simp[A.kind] at hk
 case alloc=>simp[A.kind] at hk
 case box=>simp[A.kind] at hk
 case bsl=>simp[A.kind] at hk
 case bsp=>simp[A.kind] at hk
 case bs1=>simp[A.kind] at hk
 case mkm=>simp[A.kind] at hk
 case mset=>simp[A.kind] at hk
 case mget=>simp[A.kind] at hk
 case st=>simp[A.kind] at hk
 case mks=>simp[A.kind] at hk
 case s2b=>simp[A.kind] at hk
 case slar=>simp[A.kind] at hk
 case call=>simp[A.kind] at hk
 case calln=>simp[A.kind] at hk
 case callz=>simp[A.kind] at hk
 case callv=>simp[A.kind] at hk
 case ld ag x =>
  simp only[A.kind] at hk;simp only[A.run] at hr ⊢;split at hr
  ·rename_i i off hx;have:=tM hk hx;simp[V.refs,L.refs] at this
  ·rename_i i k j hx;have:=tM hk hx;simp[V.refs,L.refs] at this
  ·rename_i cs hx;try simp only[hx]
   split at hr
   ·split at hr
    ·cases hr;exact⟨rfl,fun H2=>by simp[*]⟩
    ·cases hr
   ·split at hr
    ·cases hr;exact⟨rfl,fun H2=>by simp[*]⟩
    ·cases hr
  ·cases hr
 case b2s x =>
  simp only[A.kind] at hk;simp only[A.run] at hr ⊢;split at hr
  ·rename_i y hx;try simp only[hx]
   have hy:y.refs=[]:=by have:=tM hk hx;simpa only[V.refs] using this
   have hw:∀ H2,cO H2 1 y=cO H 1 y:=fun H2=>lz hy
   simp only[hw];split at hr
   ·split at hr
    ·cases hr;exact⟨rfl,fun H2=>by simp[*]⟩
    ·cases hr
   ·cases hr
  ·cases hr
 case app str sz bytes s x =>
  simp only[A.kind] at hk;split at hk
  ·rename_i rows hs;simp only[A.run] at hr ⊢;simp only[hs] at hr ⊢;cases hx:x.ev fr with
   | none=>rw[hx] at hr;simp at hr
   | some w =>
    rw[hx] at hr;have hy:w.refs=[]:=tM hk hx;cases w with
    | one y =>
     have hw:∀ H2,cO H2 sz y=cO H sz y:=fun H2=>lz (by simpa only[V.refs] using hy)
     simp only[hw] at hr ⊢;split at hr
     ·cases hr
     ·rename_i news hn;try simp only[hn]
      split at hr
      ·cases hr;exact⟨rfl,fun H2=>by simp[*]⟩
      ·cases hr
    | agg xs=>simp at hr
    | tup xs=>simp at hr
    | any=>simp at hr
  ·simp at hk
 case callp f xs =>
  simp only[A.run] at hr ⊢;split at hr
  ·rename_i vs hvs;try simp only[hvs]
   split at hr
   ·rename_i ds hds;try simp only[hds]
    split at hr
    ·cases hr;exact⟨rfl,fun H2=>by simp[*]⟩
    ·cases hr
   ·cases hr
  ·cases hr
 case nilc k n x =>
  rcases k with _|_|k <;> simp only[A.run] at hr ⊢ <;> repeat' (split at hr)
  all_goals first|(cases hr;done)|(cases hr;exact⟨rfl,fun H2=>by simp[*]⟩)
 case len s x =>
  cases s <;> simp only[A.run] at hr ⊢ <;> repeat' (split at hr)
  all_goals first|(cases hr;done)|(cases hr;exact⟨rfl,fun H2=>by simp[*]⟩)
 all_goals
  simp only[A.run] at hr ⊢;repeat' (split at hr)
  all_goals first|(cases hr;done)|(cases hr;exact⟨rfl,fun H2=>by simp[*]⟩)
theorem II (fr:Fr) (x:X):xk fr x<=2:=by
 cases x with
 | t n=>simp only[xk];cases (vj fr (.t n)).isEmpty <;> decide
 | c v=>simp only[xk];cases v.refs.isEmpty <;> decide
theorem Br (fr:Fr) (a:A):a.kind fr<=2:=by
 cases a <;> simp only[A.kind] <;> (try omega)
 case ld=>exact II _ _
 case b2s=>exact II _ _
 case app=>split;exact II _ _;omega
theorem ue {a:A} (hk:a.kind fr≠2) (hr:a.run φ fr H=some (v,H')):H'=H:=by
 by_cases h0:a.kind fr=0
 ·exact(nY h0 hr).1
 cases a;case ld ag x =>
  simp only[A.run] at hr;repeat' (split at hr)
  all_goals first|(cases hr;done)|(cases hr;rfl)
 case b2s x =>
  simp only[A.run] at hr;repeat' (split at hr)
  all_goals first|(cases hr;done)|(cases hr;rfl)
 case app str sz bytes s x =>
  simp only[A.kind] at hk;split at hk
  ·rename_i rows hs;simp only[A.run] at hr;simp only[hs] at hr;cases hx:x.ev fr with
   | none=>rw[hx] at hr;simp at hr
   | some w =>
    rw[hx] at hr;cases w with
    | one y =>
     simp only at hr;split at hr
     ·cases hr
     ·split at hr
      ·cases hr;rfl
      ·cases hr
    | agg xs=>simp at hr
    | tup xs=>simp at hr
    | any=>simp at hr
  ·exact absurd rfl hk
 all_goals first|exact absurd rfl hk|exact absurd rfl h0
theorem qd {y:L} {Y:Hp} {sz:Nat} {r:List (List D)} (h:cO H sz y=some r) (hY:∀ b∈y.refs,b<H.length->Y[b]?=H[b]?):cO Y sz y=some r:=by
 cases y with
 | sl i z off n =>
  simp only[cO] at h ⊢;split at h
  ·rename_i b hb;rw[hY i (by simp[L.refs]) (List.getElem?_eq_some_iff.1 hb).1,hb]
   exact h
  ·cases h
 | d x=>cases x <;> exact h
 | _=>exact h
theorem wU {a:A} (hk:a.kind fr=1) (hr:a.run φ fr H=some (v,H')) {Y:Hp} (hY:∀ b∈aB fr (a.xs.flatMap X.slot),b<H.length->Y[b]?=H[b]?):a.run φ fr Y=some (v,Y):=by
 cases a;case ld ag x =>
  simp only[A.kind] at hk;simp only[A.run] at hr ⊢;have hxs:∀ u,x.ev fr=some u->∀ b∈u.refs,b<H.length->Y[b]?=H[b]?:=fun u hu b hb hl=>hY b (by simpa[A.xs] using Cr hk hu b hb) hl
  split at hr
  ·rename_i i off hx;split at hr
   ·rename_i xs hb;have hYi:=hxs _ hx i (by simp[V.refs,L.refs]) (List.getElem?_eq_some_iff.1 hb).1
    simp only[hx,hYi,hb];split at hr
    ·split at hr
     ·cases hr;simp[*]
     ·cases hr
    ·split at hr
     ·cases hr;simp[*]
     ·cases hr
   ·cases hr
  ·rename_i i k j hx;split at hr
   ·rename_i sz rows fz hb;have hYi:=hxs _ hx i (by simp[V.refs,L.refs]) (List.getElem?_eq_some_iff.1 hb).1
    simp only[hx,hYi,hb];split at hr
    ·split at hr
     ·split at hr
      ·cases hr;simp[*]
      ·cases hr
     ·split at hr
      ·cases hr;simp[*]
      ·cases hr
    ·cases hr
   ·cases hr
  ·rename_i cs hx;try simp only[hx]
   split at hr
   ·split at hr
    ·cases hr;simp[*]
    ·cases hr
   ·split at hr
    ·cases hr;simp[*]
    ·cases hr
  ·cases hr
 case b2s x =>
  simp only[A.kind] at hk;simp only[A.run] at hr ⊢;split at hr
  ·rename_i y hx;split at hr
   ·rename_i rows hrow;have:=qd hrow (Y:=Y) fun b hb hl=>hY b (by simpa[A.xs] using Cr hk hx b (by simpa[V.refs] using hb)) hl
    try simp only[hx,this]
    split at hr
    ·cases hr;simp[*]
    ·cases hr
   ·cases hr
  ·cases hr
 case app str sz bytes s x =>
  simp only[A.kind] at hk;split at hk
  ·rename_i rows hs;simp only[A.run] at hr ⊢;simp only[hs] at hr ⊢;cases hx:x.ev fr with
   | none=>rw[hx] at hr;simp at hr
   | some w =>
    rw[hx] at hr;cases w with
    | one y =>
     have hw:∀ r,cO H sz y=some r->cO Y sz y=some r:=fun r h=>qd h fun b hb hl=>hY b (by
      have:=Cr hk hx b (by simpa[V.refs] using hb)
      simp only[A.xs,List.flatMap_cons,List.flatMap_nil,List.append_nil,aB,List.flatMap_append,List.mem_append] at this ⊢;exact .inr this) hl
     cases str with
     | true =>
      simp only[cond_true] at hr ⊢;split at hr
      ·cases hr
      ·rename_i news hn;try simp only[hn]
       split at hr
       ·cases hr;simp[*]
       ·cases hr
     | false =>
      simp only[cond_false] at hr ⊢;split at hr
      ·cases hr
      ·rename_i news hn;simp only[hw _ hn];split at hr
       ·cases hr;simp[*]
       ·cases hr
    | agg xs=>simp at hr
    | tup xs=>simp at hr
    | any=>simp at hr
  ·simp at hk
 all_goals simp[A.kind] at hk
end
section
variable {P:Program} {mu mu' mu1:Mu} {S S1:St} {TB:Nat->Prop} {w w':World} {H H1 H2:Hp} {ids:List Nat} {q:Nat}
def zu (mu mu1:Mu) (m q d:Nat):Mu:=fun i=>if q<=i∧i<q+d then mu1 (m+(i-q)) else mu i
theorem FX (hi:Inv mu S TB w H) (hn:ids.Nodup) (hal:∀ i∈ids,i<H.length) (hmu:∀ i∈ids,(mu i).isSome=true)
  (hq:∀ i,q<=i->i<q+(H1.length-ids.length)->mu i=none) (hqi:∀ i∈ids,i<q∨q+(H1.length-ids.length)<=i)
  (hm1:ids.length<=H1.length) (hl:H2.length=H.length) (hql:q+(H1.length-ids.length)<=H.length)
  (ex:Ext (vg mu TB H ids) (mJ mu ids) S w mu1 S1 w') (i1:Inv mu1 S1 (vg mu TB H ids) w' H1)
  (g1:∀ (j i:Nat),ids[j]?=some i->H2[i]?=(H1[j]?).map (Box.ren (ct ids q (H1.length-ids.length))))
  (g2:∀ t,t<H1.length-ids.length->H2[q+t]?=(H1[ids.length+t]?).map (Box.ren (ct ids q (H1.length-ids.length))))
  (g3:∀ i,i ∉ ids->(i<q∨q+(H1.length-ids.length)<=i)->H2[i]?=H[i]?) :
  Ext TB mu S w (zu mu mu1 ids.length q (H1.length-ids.length)) S1 w'∧Inv (zu mu mu1 ids.length q (H1.length-ids.length)) S1 TB w' H2 ∧
   ∀ j i,ct ids q (H1.length-ids.length) j=some i->zu mu mu1 ids.length q (H1.length-ids.length) i=mu1 j:=by
 have hmu0:∀ j i,ids[j]?=some i->∃ l,mu i=some l∧mJ mu ids j=some l∧mu1 j=some l:=by
  intro j i hj;obtain⟨l,hl⟩:=Option.isSome_iff_exists.1 (hmu i (List.mem_of_getElem? hj));have h0:mJ mu ids j=some l:=by simp[mJ,hj,hl]
  exact⟨l,hl,h0,ex.mu _ _ h0⟩
 have hβ:∀ j i,ct ids q (H1.length-ids.length) j=some i->zu mu mu1 ids.length q (H1.length-ids.length) i=mu1 j:=by
  intro j i hj;simp only[ct] at hj;split at hj
  ·rename_i hlt;obtain⟨l,h1,_,h3⟩:=hmu0 j i hj;have:=hqi i (List.mem_of_getElem? hj);simp only[zu];rw[if_neg (by omega),h1,h3]
  ·split at hj
   ·cases hj;simp only[zu];rw[if_pos (by omega)]
    congr 1;omega
   ·cases hj
 have hmu2:∀ i l,mu i=some l->zu mu mu1 ids.length q (H1.length-ids.length) i=some l:=by
  intro i l h;simp only[zu];rw[if_neg (fun hc=>by rw[hq i hc.1 hc.2] at h;cases h),h]
 have e2:Ext TB mu S w (zu mu mu1 ids.length q (H1.length-ids.length)) S1 w':=⟨hmu2,ex.ss,fun b q ht hs=>ex.avoid b q (.inl ht) hs,ex.cell,fun b ht=>ex.blk b (.inl ht),ex.size,ex.os,ex.tape,ex.output⟩
 refine⟨e2,?_,hβ⟩;have hget:∀ (i:Nat) (b:Box),H2[i]?=some b ->
   (∃ (j:Nat) (b1:Box),ct ids q (H1.length-ids.length) j=some i∧H1[j]?=some b1∧b=b1.ren (ct ids q (H1.length-ids.length)))∨(i ∉ ids∧(i<q∨q+(H1.length-ids.length)<=i)∧H[i]?=some b):=by
  intro i b hb;by_cases hm:i∈ids
  ·left
   obtain⟨j,hj,rfl⟩:=List.getElem_of_mem hm;rw[g1 j ids[j] (by simp[hj]),Option.map_eq_some_iff] at hb
   obtain⟨b1,hb1,rfl⟩:=hb;exact⟨j,b1,by simp[ct,hj],hb1,rfl⟩
  ·by_cases hr:q<=i∧i<q+(H1.length-ids.length)
   ·left
    have:=g2 (i-q) (by omega)
    rw[show q+(i-q)=i by omega,hb] at this
    obtain⟨b1,hb1,rfl⟩:=Option.map_eq_some_iff.1 this.symm;exact⟨ids.length+(i-q),b1,by simp only[ct];rw[if_neg (by omega),if_pos (by omega)];congr 1;omega,hb1,rfl⟩
   ·right
    have hr':i<q∨q+(H1.length-ids.length)<=i:=by omega
    rw[g3 i hm hr'] at hb;exact⟨hm,hr',hb⟩
 have hTB:∀ {j:Nat} {b1:Box} {l:Loc} {B:Nat},H1[j]?=some b1->alive b1=true->mu1 j=some l->l.blk=some B->¬ vg mu TB H ids B:=by
  intro j b1 l B hb1 ha1 hl hB;have:=i1.box j b1 l hb1 hl;cases b1 with
  | dead=>cases ha1
  | mp rows =>
   obtain⟨l',B',g1,g2,g3,g5,g6⟩:=this;rw[hl] at g1;cases g1;rw[hB] at g2;cases g2;exact g5
  | cells xs =>
   obtain⟨l',B',cur,el,g1,g2,g3,g4,g5,g6⟩:=this;rw[hl] at g1;cases g1;rw[hB] at g2;cases g2;exact g5
  | arr sz rows fz =>
   obtain⟨l',g1,g2,g3,g4,g5,g6⟩:=this;rw[hl] at g1;cases g1;rw[hB] at g6;obtain⟨cur,el,ff,k1,k2,k3,k4,k5,k6,k7,k8⟩:=g6;exact k7
 have hold:∀ i,i ∉ ids->(i<q∨q+(H1.length-ids.length)<=i)->zu mu mu1 ids.length q (H1.length-ids.length) i=mu i:=by
  intro i _ h;simp only[zu];rw[if_neg (by omega)]
 refine⟨fun i b l0 hb hl0=>?_,fun i l hli=>?_,fun i l B h1 h2=>?_,i1.sl,fun b ht=>Nat.lt_of_lt_of_le (hi.tl b ht) ex.size,?_⟩
 ·rcases hget i b hb with⟨j,b1,hj,hb1,rfl⟩|⟨hm,hr,hb1⟩
  ·have hbj:=hβ j i hj;exact RelB.ren hβ hbj (fun l B _ _ _ h=>fun ht=>h (.inl ht)) (i1.box j b1 l0 hb1 (by rw[<- hbj];exact hl0))
  ·cases hal1:alive b with
   | false=>cases b <;> first|trivial|cases hal1
   | true =>
    have hT:∀ l B,mu i=some l->l.blk=some B->vg mu TB H ids B:=fun l B h1 h2=>.inr ⟨i,b,l,hm,hb1,hal1,h1,h2⟩
    have hl0':mu i=some l0:=by rw[<- hold i hm hr];exact hl0
    exact(hi.box i b l0 hb1 hl0').keep e2 (fun l B h1 h2=>ex.blk B (hT l B h1 h2)) (fun l B q h1 h2 h3=>ex.avoid B q (hT l B h1 h2) h3)
 ·simp only[zu] at hli;split at hli
  ·omega
  ·have:=hi.dom _ _ hli;omega
 ·simp only[zu] at h1;split at h1
  ·exact i1.old _ l B h1 h2
  ·exact Nat.lt_of_lt_of_le (hi.old i l B h1 h2) ex.size
 ·have key:∀ (p:Nat) (b:Box) (l:Loc) (B:Nat),H2[p]?=some b->alive b=true->zu mu mu1 ids.length q (H1.length-ids.length) p=some l->l.blk=some B ->
    (∃ (j:Nat) (b1:Box),ct ids q (H1.length-ids.length) j=some p∧H1[j]?=some b1∧alive b1=true∧mu1 j=some l)∨(p ∉ ids∧H[p]?=some b∧mu p=some l):=by
   intro p b l B hb hab hl hB;rcases hget p b hb with⟨j,b1,hj,hb1,rfl⟩|⟨hm,hr,hb1⟩
   ·exact .inl ⟨j,b1,hj,hb1,by rw[lB] at hab;exact hab,by rw[<- hβ j p hj];exact hl⟩
   ·exact .inr ⟨hm,hb1,by rw[<- hold p hm hr];exact hl⟩
  intro p r bp br lp lr B hpq hbp hbq hap haq hmp hmq hBp hBq;rcases key p bp lp B hbp hap hmp hBp with⟨j,b1,hj,hb1,ha1,hl1⟩|⟨hm1',hb1,hl1⟩
  ·rcases key r br lr B hbq haq hmq hBq with⟨k,b2,hk,hb2,ha2,hl2⟩|⟨hm2,hb2,hl2⟩
   ·have hjk:j≠k:=by intro e;subst e;rw[hj] at hk;cases hk;exact hpq rfl
    exact i1.one j k b1 b2 lp lr B hjk hb1 hb2 ha1 ha2 hl1 hl2 hBp hBq
   ·exact hTB hb1 ha1 hl1 hBp (.inr ⟨r,br,lr,hm2,hb2,haq,hl2,hBq⟩)
  ·rcases key r br lr B hbq haq hmq hBq with⟨k,b2,hk,hb2,ha2,hl2⟩|⟨hm2,hb2,hl2⟩
   ·exact hTB hb2 ha2 hl2 hBq (.inr ⟨p,bp,lp,hm1',hb1,hap,hl1,hBp⟩)
   ·exact hi.one p r bp br lp lr B hpq hb1 hb2 hap haq hl1 hl2 hBp hBq
end
section
variable {P:Program} {φ:FuncId->List V->Hp->Option (V × Hp)} {mu:Mu} {S:St} {TB:Nat->Prop} {w:World} {H H1 H2:Hp} {fr:Fr} {a:Act} {r:V} {o:Oper} {ids:List Nat} {q:Nat}
theorem RelFr.ren {mu':Mu} {ρ:Nat->Option Nat} (h:∀ i j,ρ i=some j->mu' j=mu i) (hf:RelFr mu S w fr a):RelFr mu' S w (fr.map (V.ren ρ)) a:=by
 refine⟨by simp[hf.size],fun t v ht=>?_⟩
 rw[List.getElem?_map,Option.map_eq_some_iff] at ht;obtain⟨u,hu,rfl⟩:=ht;obtain⟨x,hx,hr⟩:=hf.rel t u hu;exact⟨x,hx,hr.ren h⟩
theorem P7 (hg:Good P φ) {fl:Nat} {ao:A} (hc:bQ P fl o.op=some ao) (hi:Inv mu S TB w H) (hf:RelFr mu S w fr a)
  (hn:ids.Nodup) (hal:∀ i∈ids,i<H.length) (hmu:∀ i∈ids,(mu i).isSome=true)
  (hr:ao.run φ (fr.map (V.ren (aG ids))) (aw H ids)=some (r,H1))
  (hq:∀ i,q<=i->i<q+(H1.length-ids.length)->mu i=none) (hqi:∀ i∈ids,i<q∨q+(H1.length-ids.length)<=i)
  (hl:H2.length=H.length) (hql:q+(H1.length-ids.length)<=H.length)
  (g1:ids.length<=H1.length->∀ (j i:Nat),ids[j]?=some i->H2[i]?=(H1[j]?).map (Box.ren (ct ids q (H1.length-ids.length))))
  (g2:ids.length<=H1.length->∀ t,t<H1.length-ids.length->H2[q+t]?=(H1[ids.length+t]?).map (Box.ren (ct ids q (H1.length-ids.length))))
  (g3:∀ i,i ∉ ids->(i<q∨q+(H1.length-ids.length)<=i)->H2[i]?=H[i]?) :
  ∀ (next:Act->World->Prop) (Q:Exit->Act->World->Prop),
   (∀ x w' mu1 S',Ext TB mu S w (zu mu mu1 ids.length q (H1.length-ids.length)) S' w'->Inv (zu mu mu1 ids.length q (H1.length-ids.length)) S' TB w' H2 ->
    RelV (zu mu mu1 ids.length q (H1.length-ids.length)) S' w' (r.ren (ct ids q (H1.length-ids.length))) x->next (a.put o.dst x) w')->o.wp P a w next Q:=by
 intro next Q hk;refine BY hg hc (hi.canon hn hal) (hf.ren mg) hr next Q fun x w' mu1 S1 ex i1 rx=>?_
 have hm1:ids.length<=H1.length:=by
  rcases Nat.eq_zero_or_pos ids.length with h|h
  ·omega
  ·obtain⟨l,hl⟩:=Option.isSome_iff_exists.1 (hmu ids[ids.length-1] (by simp))
   have:=i1.dom (ids.length-1) l (ex.mu _ _ (by simp only[mJ];rw[List.getElem?_eq_getElem (by omega)];exact hl))
   omega
 obtain⟨e2,i2,hβ⟩:=FX hi hn hal hmu hq hqi hm1 hl hql ex i1 (g1 hm1) (g2 hm1) g3;exact hk x w' mu1 S1 e2 i2 (rx.ren hβ)
theorem ri {o:AOp} {v:V} {H':Hp} (h:aY φ o fr H=some (v,H')):∃ r H1,o.a.run φ ((bf o.slots fr).map (V.ren (aG (aM o fr H)))) (aw H (aM o fr H))=some (r,H1) ∧
  v=r.ren (ct (aM o fr H) H.length (H1.length-(aM o fr H).length))∧H'.length=H.length+(H1.length-(aM o fr H).length) ∧
  (∀ i,i ∉ aM o fr H->i<H.length->H'[i]?=H[i]?) ∧
  ((aM o fr H).length<=H1.length->∀ (j i:Nat),(aM o fr H)[j]?=some i->H'[i]?=(H1[j]?).map (Box.ren (ct (aM o fr H) H.length (H1.length-(aM o fr H).length)))) ∧
  ((aM o fr H).length<=H1.length->∀ t,t<H1.length-(aM o fr H).length->H'[H.length+t]?=(H1[(aM o fr H).length+t]?).map (Box.ren (ct (aM o fr H) H.length (H1.length-(aM o fr H).length)))):=by
 simp only[aY] at h;obtain⟨hn,hal⟩:(aM o fr H).Nodup∧∀ i∈aM o fr H,∃ b,H[i]?=some b∧alive b=true:=iy H _;generalize aM o fr H=ids at *;split at h
 ·cases h
 ·rename_i r H1 hr;cases h;refine⟨r,H1,hr,rfl,?_,fun i hi hl=>?_,fun hm j i hj=>?_,fun hm t ht=>?_⟩
  ·rw[List.length_append,dv];simp
  ·rw[List.getElem?_append_left (by rw[dv];exact hl),fJ _ _ _ _ hi]
  ·obtain⟨b,hb,_⟩:=hal i (List.mem_of_getElem? hj);have hlt:=(List.getElem?_eq_some_iff.1 hb).1;have hjl:=(List.getElem?_eq_some_iff.1 hj).1;rw[List.getElem?_append_left (by rw[dv];exact hlt),lS ids H _ j i hn (by simp;omega) hj hlt,List.getElem?_map,List.getElem?_take,if_pos hjl]
  ·rw[List.getElem?_append_right (by rw[dv];omega),dv,List.getElem?_map,List.getElem?_drop]
   congr 3;omega
def Oh:Loc:=⟨none,0,0,1⟩
def A5 (mu:Mu) (n:Nat):Mu:=fun i=>match mu i with|some l=>some l|none=>if i<n then some Oh else none
def pS (mu:Mu) (H:Hp):Hp:=H.mapIdx fun i b=>match mu i with|some _=>b|none=>.dead
theorem nr {n i:Nat} {l:Loc} (h:mu i=some l):A5 mu n i=some l:=by simp[A5,h]
theorem ga {n i:Nat} {l:Loc} (h:A5 mu n i=some l):mu i=some l∨(mu i=none∧l=Oh):=by
 simp only[A5] at h;split at h
 ·rename_i l' hl;cases h;exact .inl hl
 ·rename_i hl;split at h
  ·cases h;exact .inr ⟨hl,rfl⟩
  ·cases h
theorem lQ {i:Nat} (h:(mu i).isSome=true):(pS mu H)[i]?=H[i]?:=by
 obtain⟨l,hl⟩:=Option.isSome_iff_exists.1 h;simp only[pS,List.getElem?_mapIdx,hl];cases H[i]? <;> rfl
theorem CL {i:Nat} {b:Box} (h:mu i=none) (hb:(pS mu H)[i]?=some b):b=.dead:=by
 simp only[pS,List.getElem?_mapIdx,h,Option.map_eq_some_iff] at hb;obtain⟨_,_,rfl⟩:=hb;rfl
theorem Bb {n i off:Nat} {x:Value} (h:ptrTo (A5 mu n) i off x):ptrTo mu i off x:=by
 obtain⟨l,B,h1,h2,h3⟩:=h;rcases ga h1 with h1|⟨_,rfl⟩
 ·exact⟨l,B,h1,h2,h3⟩
 ·cases h2
theorem rX {n:Nat} {x:L} {v:Value} (h:RelL (A5 mu n) S w x v):RelL mu S w x v:=by
 cases x with
 | p i off=>exact Bb h
 | ap i k j =>
  obtain⟨l,B,h1,h2,h3⟩:=h;rcases ga h1 with h1|⟨_,rfl⟩
  ·exact⟨l,B,h1,h2,h3⟩
  ·cases h2
 | sl i z off n =>
  obtain⟨l,h1,h2,h3,h4⟩:=h;rcases ga h1 with h1|⟨_,rfl⟩
  ·exact⟨l,h1,h2,h3,h4⟩
  ·obtain⟨_,_,_,h5⟩:=h4;have:=h5.2.2.2;cases this
 | f fn caps =>
  obtain⟨vs,h1,h2,h3⟩:=h;exact⟨vs,h1,h2,fun j i hj=>let ⟨x,hx,hp⟩:=h3 j i hj;⟨x,hx,Bb hp⟩⟩
 | y i k =>
  obtain⟨l,B,h1,h2,h3⟩:=h;rcases ga h1 with h1|⟨_,rfl⟩
  ·exact⟨l,B,h1,h2,h3⟩
  ·cases h2
 | sp i k =>
  obtain⟨l,B,h1,h2,h3⟩:=h;rcases ga h1 with h1|⟨_,rfl⟩
  ·exact⟨l,B,h1,h2,h3⟩
  ·cases h2
 | m i =>
  obtain⟨l,B,h1,h2,h3⟩:=h;rcases ga h1 with h1|⟨_,rfl⟩
  ·exact⟨l,B,h1,h2,h3⟩
  ·cases h2
 | nm=>exact h
 | d x=>exact h
 | ip cs=>exact h
 | np=>exact h
 | nf=>exact h
 | ns=>exact h
 | cl rows=>exact h
 | nn rows=>exact h
 | u=>exact h
theorem pd {n:Nat} {x:List L} {v:List Value} (h:RelLs (A5 mu n) S w x v):RelLs mu S w x v :=
 ⟨h.1,fun j x hj=>let ⟨v,hv,hr⟩:=h.2 j x hj;⟨v,hv,rX hr⟩⟩
theorem FR {n:Nat} {x:V} {v:Value} (h:RelV (A5 mu n) S w x v):RelV mu S w x v:=by
 cases x with
 | one x=>exact rX (x:=x) h
 | agg xs=>obtain⟨cs,h1,h2⟩:=h;exact⟨cs,h1,pd h2⟩
 | tup xs =>
  obtain⟨vs,h1,h2,h3⟩:=h;refine⟨vs,h1,h2,fun j c hj=>?_⟩
  obtain⟨x,hx,hr⟩:=h3 j c hj;refine⟨x,hx,?_⟩;obtain⟨t,xs⟩:=c;cases t with
  | true=>obtain⟨cs,h1,h2⟩:=hr;exact⟨cs,h1,pd h2⟩
  | false=>obtain⟨x,h1,h2⟩:=hr;exact⟨x,h1,rX h2⟩
 | any=>trivial
theorem FZ {n i:Nat} {b:Box} {l:Loc} (hl:mu i=some l) (h:RelB (A5 mu n) S TB w i b):RelB mu S TB w i b:=by
 have hp:A5 mu n i=some l:=nr hl;cases b with
 | dead=>trivial
 | mp rows =>
  obtain⟨l',B,h1,h2,h3,h4⟩:=h;rw[hp] at h1;cases h1;exact⟨l,B,hl,h2,h3,h4⟩
 | cells xs =>
  obtain⟨l',B,cur,e,h1,h2,h3,h4,h5⟩:=h;rw[hp] at h1;cases h1;exact⟨l,B,cur,e,hl,h2,h3,pd h4,h5⟩
 | arr sz rows fz =>
  obtain⟨l',h1,h2⟩:=h;rw[hp] at h1;cases h1;exact⟨l,hl,h2⟩
theorem Hm (hg:Good P φ) {fl:Nat} {ao:A} (hc:bQ P fl o.op=some ao) {X:Hp} (hi:Inv mu S TB w X) (hf:RelFr mu S w fr a) {v:V}
  (hk:ao.kind fr≠2) (hr:ao.run φ fr X=some (v,X)) :
  ∀ (next:Act->World->Prop) (Q:Exit->Act->World->Prop),
   (∀ x w' S',Ext TB mu S w mu S' w'->Inv mu S' TB w' X->RelV mu S' w' v x->next (a.put o.dst x) w')->o.wp P a w next Q:=by
 intro next Q hn;have hfr:RelFr (A5 mu X.length) S w fr a:=⟨hf.size,fun t v ht=>let ⟨x,hx,hr⟩:=hf.rel t v ht;⟨x,hx,hr.ext (TB:=TB) ⟨fun _ _ h=>nr h,fun _ _ h=>h,fun _ _ _ h=>h,fun _ _ _=>rfl,fun _ _=>rfl,Nat.le_refl _,rfl,rfl,rfl⟩⟩⟩
 have hll:(pS mu X).length=X.length:=by simp[pS]
 have hi2:Inv (A5 mu X.length) S TB w (pS mu X):=by
  have e0:Ext TB mu S w (A5 mu X.length) S w:=⟨fun _ _ h=>nr h,fun _ _ h=>h,fun _ _ _ h=>h,fun _ _ _=>rfl,fun _ _=>rfl,Nat.le_refl _,rfl,rfl,rfl⟩
  refine⟨fun i b l hb hl=>?_,fun i l hl=>?_,fun i l B h1 h2=>?_,hi.sl,hi.tl,fun i j bi bj li lj B hij hbi hbj hai haj hmi hmj h1 h2=>?_⟩
  ·rcases ga hl with h|⟨h,rfl⟩
   ·rw[lQ (by rw[h];rfl)] at hb
    exact(hi.box i b l hb h).keep e0 (fun _ _ _ _=>rfl) (fun _ _ _ _ _ h=>h)
   ·rw[CL h hb];trivial
  ·rw[hll];simp only[A5] at hl;split at hl
   ·rename_i h;exact hi.dom _ _ h
   ·split at hl
    ·assumption
    ·cases hl
  ·rcases ga h1 with h|⟨_,rfl⟩
   ·exact hi.old i l B h h2
   ·cases h2
  ·rcases ga hmi with h|⟨_,rfl⟩
   ·rcases ga hmj with h'|⟨_,rfl⟩
    ·rw[lQ (by rw[h];rfl)] at hbi
     rw[lQ (by rw[h'];rfl)] at hbj
     exact hi.one i j bi bj li lj B hij hbi hbj hai haj h h' h1 h2
    ·cases h2
   ·cases h1
 have hr2:ao.run φ fr (pS mu X)=some (v,pS mu X):=by
  have h01:ao.kind fr=0∨ao.kind fr=1∨2<ao.kind fr:=by omega
  rcases h01 with h|h|h
  ·exact(nY h hr).2 _
  ·refine wU h hr fun b hb _=>lQ ?_
   simp only[aB,List.mem_flatMap] at hb;obtain⟨t,_,hb⟩:=hb;cases ht:fr[t]? with
   | none=>rw[ht] at hb;simp at hb
   | some u =>
    rw[ht] at hb;obtain⟨x,_,hx⟩:=hf.rel t u ht;exact hx.refs b hb
  ·exact absurd (Nat.lt_of_lt_of_le h (Br fr ao)) (Nat.lt_irrefl _)
 refine BY hg hc hi2 hfr hr2 next Q fun x w' mu' S' ex i1 rx=>?_
 have hmu:mu'=A5 mu X.length:=by
  funext i
  cases h:A5 mu X.length i with
  | some l=>exact ex.mu i l h
  | none =>
   cases h2:mu' i with
   | none=>rfl
   | some l =>
    have:=i1.dom i l h2;rw[hll] at this;simp only[A5] at h;split at h
    ·cases h
    ·rw[if_pos this] at h;cases h
 subst hmu;refine hn x w' S' ⟨fun _ _ h=>h,ex.ss,ex.avoid,ex.cell,ex.blk,ex.size,ex.os,ex.tape,ex.output⟩ ⟨fun i b l hb hl=>?_,hi.dom,fun i l B h1 h2=>i1.old i l B (nr h1) h2,i1.sl,i1.tl,hi.one⟩ (FR rx)
 exact FZ hl (i1.box i b l (by rw[lQ (by rw[hl];rfl)];exact hb) (nr hl))
end
section
variable {P:Program} {φ:FuncId->List V->Hp->Option (V × Hp)}
structure StepAt (φ:FuncId->List V->Hp->Option (V × Hp)) (F:Nat->Fr) (G:Nat->Hp) (E:Nat->Log) (k:Nat) (o:AOp):Prop where
 ex:∃ (b:Bool) (v:V),wantedV (F k) o.g=some b∧(E k).kind=(bif b then o.a.kind (F k) else 0)∧F (k+1)=put (F k) o.dst v ∧
  drawStep φ o (E k).kind b (F k) (G k)=some (v,G (k+1))
 tch:(E k).tch=touch (E k).kind o (F k) (G k) (G (k+1))
 dst:(E k).dst=o.dst
 rds:(E k).rds=o.slots
 fz:o.fz=false
 pre:∀ j∈o.pre,j<k
 free:∀ j,j<k->j∈o.pre∨(E j).free (E k)=true
theorem p9 {pre:List Nat} {e:Log}:∀ {l:List Log} {i:Nat},gi pre e i l=true->∀ (j:Nat) (x:Log),l[j]?=some x->(i+j)∈pre∨x.free e=true
 | [],i,h,j,x,hx=>by simp at hx
 | y::r,i,h,j,x,hx=>by
  simp only[gi,Bool.and_eq_true,Bool.or_eq_true] at h;cases j with
  | zero =>
   simp at hx;subst hx;rcases h.1 with h1|h1
   ·exact .inl (by simpa using h1)
   ·exact .inr h1
  | succ j =>
   have:=p9 h.2 j x (by simpa using hx)
   rwa [show i+1+j=i+(j+1) by omega] at this
theorem Am {fr':Fr} {H':Hp}:∀ (r:List AOp) (lg:List Log) (fr:Fr) (H:Hp),cX φ r lg fr H=some (fr',H') ->
  ∃ (F:Nat->Fr) (G:Nat->Hp) (E:Nat->Log),F lg.length=fr∧G lg.length=H∧F (lg.length+r.length)=fr'∧G (lg.length+r.length)=H' ∧
   (∀ (j:Nat) (l:Log),lg[j]?=some l->E j=l)∧∀ (k:Nat) (o:AOp),r[k]?=some o->StepAt φ F G E (lg.length+k) o
 | [],lg,fr,H,h=>by
  simp only[cX] at h;cases h;exact⟨fun _=>fr',fun _=>H',fun j=>lg.getD j ⟨0,none,[],⟨[],true,[]⟩⟩,rfl,rfl,rfl,rfl,fun j l hj=>by simp[List.getD,hj],fun k o hk=>by simp at hk⟩
 | o::r,lg,fr,H,h=>by
  simp only[cX] at h;split at h
  ·cases h
  ·rename_i b hb;split at h
   ·rename_i v H1 hrun;cases hchk:(!o.fz && (o.pre.all (fun j=>decide (j<lg.length)) && gi o.pre ⟨bif b then o.a.kind fr else 0,o.dst,o.slots,touch (bif b then o.a.kind fr else 0) o fr H H1⟩ 0 lg)) with
    | false=>rw[hchk] at h;cases h
    | true =>
     rw[hchk] at h;simp only[cond_true] at h;simp only[Bool.and_eq_true,Bool.not_eq_true'] at hchk;obtain⟨hfz,hpre,hfree⟩:=hchk;obtain⟨F,G,E,hF,hG,hF',hG',hE,hS⟩:=Am r _ _ _ h;simp only[List.length_append,List.length_cons,List.length_nil] at hF hG hF' hG' hS;have hEk:E lg.length=⟨bif b then o.a.kind fr else 0,o.dst,o.slots,touch (bif b then o.a.kind fr else 0) o fr H H1⟩:=hE lg.length _ (by simp)
     refine⟨fun j=>if j=lg.length then fr else F j,fun j=>if j=lg.length then H else G j,E,by simp,by simp,?_,?_,fun j l hj=>hE j l ?_,?_⟩
     ·show(if lg.length+(o::r).length=lg.length then fr else F (lg.length+(o::r).length))=fr'
      rw[if_neg (by simp only[List.length_cons];omega),<- hF',show lg.length+(o::r).length=lg.length+(0+1)+r.length by simp only[List.length_cons];omega]
     ·show(if lg.length+(o::r).length=lg.length then H else G (lg.length+(o::r).length))=H'
      rw[if_neg (by simp only[List.length_cons];omega),<- hG',show lg.length+(o::r).length=lg.length+(0+1)+r.length by simp only[List.length_cons];omega]
     ·have hj':j<lg.length:=by
       rcases Nat.lt_or_ge j lg.length with h|h
       ·exact h
       ·rw[List.getElem?_eq_none h] at hj;cases hj
      rw[List.getElem?_append_left hj'];exact hj
     ·intro k o' hk;cases k with
      | zero =>
       simp at hk;subst hk;refine⟨⟨b,v,by simpa using hb,by simp[hEk],?_,?_⟩,?_,by simp[hEk],by simp[hEk],hfz,?_,?_⟩
       ·simp[hF]
       ·simpa[hEk,hG] using hrun
       ·simp[hEk,hG]
       ·intro j hj;have:=(List.all_eq_true.1 hpre) j hj;simpa using this
       ·intro j hj;have hj':j<lg.length:=by simpa using hj
        have hx:=p9 hfree j lg[j] (by simp[hj'])
        rw[Nat.zero_add] at hx;have hEj:E j=lg[j]:=hE j _ (by rw[List.getElem?_append_left hj'];simp[hj'])
        rw[Nat.add_zero,hEk,hEj];exact hx
      | succ k =>
       have hs:=hS k o' (by simpa using hk)
       rw[show lg.length+1+k=lg.length+(k+1) by omega] at hs
       obtain⟨⟨b',v',x1,x2,x3,x4⟩,z,y1,y2,y3,y4,y5⟩:=hs;have e1:¬ (lg.length+(k+1)=lg.length):=by omega
       have e2:¬ (lg.length+(k+1)+1=lg.length):=by omega
       exact⟨⟨b',v',by simpa only[if_neg e1] using x1,by simpa only[if_neg e1] using x2,by simpa only[if_neg e1,if_neg e2] using x3,
        by simpa only[if_neg e1,if_neg e2] using x4⟩,by simpa only[if_neg e1,if_neg e2] using z,y1,y2,y3,y4,y5⟩
   ·cases h
theorem pP {o:AOp} {k:Nat} {fr:Fr} {H:Hp} (h:k≠2):drawStep φ o k true fr H=o.a.run φ fr H:=by
 match k,h with
 | 0,_=>rfl
 | 1,_=>rfl
 | n+3,_=>rfl
def wr (E:Nat->Log) (k b:Nat):Prop:=(E k).kind=2∧b∈(E k).tch.chg
theorem tP {t:Tc} {b:Nat} (h:b∈t.chg):b∈t.all:=by
 simp only[Tc.chg,Tc.all,List.mem_append] at h ⊢;rcases h with h|h
 ·cases hu:t.un with
  | true=>rw[hu] at h;simp at h
  | false=>rw[hu] at h;exact .inl h
 ·exact .inr h
section
variable {F:Nat->Fr} {G:Nat->Hp} {E:Nat->Log} {k:Nat} {o:AOp}
theorem step_same (h:StepAt φ F G E k o) (hk:(E k).kind≠2):G (k+1)=G k:=by
 obtain⟨b,v,x1,x2,x3,x4⟩:=h.ex;cases b with
 | false=>simp only[drawStep,Option.some.injEq,Prod.mk.injEq] at x4;exact x4.2.symm
 | true =>
  rw[pP hk] at x4;exact ue (by simp only[cond_true] at x2;rw[<- x2];exact hk) x4
theorem step_iso (h:StepAt φ F G E k o) (hk:(E k).kind=2):∃ v,wantedV (F k) o.g=some true∧F (k+1)=put (F k) o.dst v∧aY φ o (F k) (G k)=some (v,G (k+1)):=by
 obtain⟨b,v,x1,x2,x3,x4⟩:=h.ex;cases b with
 | false=>simp only[cond_false] at x2;omega
 | true=>rw[hk] at x4;exact⟨v,x1,x3,x4⟩
theorem step_len (h:StepAt φ F G E k o):(G k).length<=(G (k+1)).length:=by
 by_cases hk:(E k).kind=2
 ·obtain⟨v,_,_,hi⟩:=step_iso h hk;obtain⟨_,_,_,_,h3,_⟩:=ri hi;omega
 ·rw[step_same h hk];exact Nat.le_refl _
theorem step_get (h:StepAt φ F G E k o) {b:Nat} (hw:¬ wr E k b):(G (k+1))[b]?=(G k)[b]?:=by
 by_cases hk:(E k).kind=2
 ·obtain⟨v,_,_,hi⟩:=step_iso h hk;obtain⟨_,_,_,_,h3,h4,_⟩:=ri hi;have ht:=h.tch;rw[hk] at ht;have hb:b ∉ (E k).tch.chg:=fun hb=>hw ⟨hk,hb⟩
  rw[ht] at hb;simp only[touch,Tc.chg,List.mem_append,not_or,List.mem_range'_1] at hb;rcases Nat.lt_or_ge b (G k).length with hl|hl
  ·cases hu:PH o.a.isN (G k) (G (k+1)) with
   | false=>rw[hu] at hb;exact h4 b hb.1 hl
   | true =>
    simp only[PH] at hu;cases hn:o.a.isN with
    | false=>rw[hn] at hu;cases hu
    | true =>
     rw[hn] at hu;simp only[cond_true,decide_eq_true_eq] at hu;rw[<- List.getElem?_take_of_lt hl,hu]
  ·rw[List.getElem?_eq_none hl,List.getElem?_eq_none (by omega)]
 ·rw[step_same h hk]
theorem QT (h:StepAt φ F G E k o) {b:Nat} (hw:wr E k b):b<(G (k+1)).length:=by
 obtain⟨hk,hb⟩:=hw;have hle:=step_len h;have hb:=tP hb;rw[h.tch,hk] at hb;simp only[touch,Tc.all,List.mem_append,List.mem_range'_1] at hb;rcases hb with hb|hb
 ·obtain⟨x,hx,_⟩:=(iy (G k) (aB (F k) o.slots)).2 b hb;have:=(List.getElem?_eq_some_iff.1 hx).1;omega
 ·omega
end
theorem rL {x:Nat}:∀ {l s:List Nat},x∈sA l s↔x∈l∨x∈s
 | [],s=>by simp[sA]
 | y::r,s=>by
  simp only[sA];split
  ·rename_i h;have h':y∈s:=by simpa using h
   rw[rL,List.mem_cons];constructor
   ·rintro(h1|h1)
    ·exact .inl (.inr h1)
    ·exact .inr h1
   ·rintro((h1|h1)|h1)
    ·subst h1;exact .inr h'
    ·exact .inl h1
    ·exact .inr h1
  ·rw[rL,List.mem_cons,List.mem_cons];constructor
   ·rintro(h1|h1|h1)
    ·exact .inl (.inr h1)
    ·exact .inl (.inl h1)
    ·exact .inr h1
   ·rintro((h1|h1)|h1)
    ·exact .inr (.inl h1)
    ·exact .inl h1
    ·exact .inr (.inr h1)
def mc (acc:List (List Nat)) (l:List Edge) (s:List Nat):List Nat:=l.foldl (fun s e=>if Region.binds .any e then sA (e.on::acc.getD e.on []) s else s) s
theorem vM {acc:List (List Nat)} {x:Nat}:∀ {l:List Edge} {s:List Nat},x∈mc acc l s↔x∈s∨∃ e∈l,Region.binds .any e=true∧(x=e.on∨x∈acc.getD e.on [])
 | [],s=>by simp[mc]
 | e::r,s=>by
  have:mc acc (e::r) s=mc acc r (if Region.binds .any e then sA (e.on::acc.getD e.on []) s else s):=rfl
  rw[this,vM];split
  ·rename_i hb;rw[rL,List.mem_cons];constructor
   ·rintro((h|h)|⟨e',he,hb',h⟩)
    ·exact .inr ⟨e,List.mem_cons_self ..,hb,h⟩
    ·exact .inl h
    ·exact .inr ⟨e',List.mem_cons_of_mem _ he,hb',h⟩
   ·rintro(h|⟨e',he,hb',h⟩)
    ·exact .inl (.inr h)
    ·rcases List.mem_cons.1 he with rfl|he
     ·exact .inl (.inl h)
     ·exact .inr ⟨e',he,hb',h⟩
  ·rename_i hb;constructor
   ·rintro(h|⟨e',he,hb',h⟩)
    ·exact .inl h
    ·exact .inr ⟨e',List.mem_cons_of_mem _ he,hb',h⟩
   ·rintro(h|⟨e',he,hb',h⟩)
    ·exact .inl h
    ·rcases List.mem_cons.1 he with rfl|he
     ·exact absurd hb' hb
     ·exact .inr ⟨e',he,hb',h⟩
theorem uc:∀ (l:List Oper) (acc:List (List Nat)),(fE l acc).length=acc.length+l.length∧(∀ j,j<acc.length->(fE l acc)[j]?=acc[j]?) ∧
  ∀ (k:Nat) (o:Oper),l[k]?=some o->(fE l acc)[acc.length+k]?=some (mc ((fE l acc).take (acc.length+k)) o.after.toList [])
 | [],acc=>⟨by simp[fE],fun j hj=>by simp[fE],fun k o h=>by simp at h⟩
 | o::r,acc=>by
  have e:fE (o::r) acc=fE r (acc++[mc acc o.after.toList []]):=rfl;rw[e];obtain⟨h1,h2,h3⟩:=uc r (acc++[mc acc o.after.toList []]);simp only[List.length_append,List.length_cons,List.length_nil] at h1 h2 h3;refine⟨by rw[h1];simp;omega,fun j hj=>?_,fun k o' hk=>?_⟩
  ·rw[h2 j (by omega),List.getElem?_append_left hj]
  ·cases k with
   | zero =>
    simp at hk;subst hk;rw[Nat.add_zero,h2 acc.length (by omega)]
    have:(fE r (acc++[mc acc o.after.toList []])).take acc.length=acc:=by
     apply List.ext_getElem?;intro j;rw[List.getElem?_take];split
     ·rename_i hj;rw[h2 j (by omega),List.getElem?_append_left hj]
     ·rename_i hj;rw[List.getElem?_eq_none (by omega)]
    rw[this];simp
   | succ k =>
    have:=h3 k o' (by simpa using hk)
    rw[show acc.length+1+k=acc.length+(k+1) by omega] at this
    exact this
theorem kP {ops:List Oper} {k:Nat} {o:Oper} (ho:ops[k]?=some o) {x:Nat} :
  x∈(fE ops []).getD k []↔∃ e∈o.after.toList,Region.binds .any e=true∧(x=e.on∨(e.on<k∧x∈(fE ops []).getD e.on [])):=by
 obtain⟨_,_,h3⟩:=uc ops [];have:=h3 k o ho;simp only[List.length_nil,Nat.zero_add] at this;have hg:(fE ops []).getD k []=mc ((fE ops []).take k) o.after.toList []:=by simp[List.getD,this]
 rw[hg,vM];have ht:∀ j,x∈((fE ops []).take k).getD j []↔j<k∧x∈(fE ops []).getD j []:=by
  intro j;simp only[List.getD,List.getElem?_take];by_cases hj:j<k
  ·simp[hj]
  ·simp[hj]
 simp only[ht,List.not_mem_nil,false_or]
end
end Go.Vi
