import Derived.Test.YtghfhomfppbooaaGreatT06
import Derived.Test.YtghfhomfppbooaaGreatT04
import Derived.Test.YtghfhomfppbooaaGreatT05
import Derived.Test.YtghfhomfppbooaaGreatVid
import Derived.Test.YtghfhomfppbooaaGreatT02
set_option linter.unusedSimpArgs false
set_option linter.unusedVariables false
namespace Go.Proofs.YtghfhomfppbooaaGreat
open Go.Vi
theorem DJ {s:List UInt8} {l:List Pr} (h:ch s=some l):oN l:=by
 have hr:fF l=true:=by
  unfold ch at h;split at h
  ·split at h
   ·cases h
   ·unfold nb at h;split at h
    ·split at h
     ·rename_i hc;cases h;exact hc.2
     ·cases h
    ·cases h
  ·cases h
 have key:∀ i,(hi:i+1<l.length)->l[i].key<l[i+1].key:=by
  intro i hi;have:=(List.all_eq_true.1 hr) (i+1) (by simpa using hi)
  simp only[qR,List.getElem?_eq_getElem hi,Bool.and_eq_true,Bool.or_eq_true,decide_eq_true_eq] at this;have h2:=this.2.resolve_left (by omega)
  have e:jF l (i+1-1)=l[i].key:=by simp[jF,List.getElem?_eq_getElem (show i<l.length by omega)]
  rwa [e] at h2
 have mono:∀ d i,(hi:i+1+d<l.length)->l[i].key<l[i+1+d].key:=by
  intro d;induction d with
  | zero=>intro i hi;exact key i hi
  | succ d ih=>intro i hi;exact Int.lt_trans (ih i (by omega)) (key (i+1+d) hi)
 unfold oN;rw[List.pairwise_iff_getElem];intro i j hi hj hij;have:=mono (j-i-1) i (by omega)
 simpa only[show i+1+(j-i-1)=j by omega] using this
def Sto.rcs (s:Sto) (g:Seg):List Rec:=(cU (s.txt g) g.base).1.map (·.1)
variable {k u:Nat} {f:Int} {S:Txt} {l0:List Pr} {s:Sto} {M:List SR} {g:Seg} {l:List Rec}
theorem Inv.rcs (ho:okS k u s) (h:Inv f s M g l):∀ p∈M++[(g,l)],s.rcs p.1=p.2:=by
 intro p hp;have hf:=h.file p hp;have hpm:p.1∈s.segs:=by
  rw[h.segs];rcases List.mem_append.1 hp with hp|hp
  ·exact List.mem_append_left _ (List.mem_map_of_mem hp)
  ·rw[List.mem_singleton.1 hp];simp
 have hb:=(ho.seg _ hpm).1;have ht:s.txt p.1=rowS p.2:=by
  unfold Sto.txt;rw[pY ho.dsk.srt hf.has]
 unfold Sto.rcs;rw[ht];exact(xC p.2 p.1.base (by simp[dy];omega) hf.why hf.num).1
theorem Inv.scans (ho:okS k u s) (h:Inv f s M g l):s.scans=M++[(g,l)]:=by
 have e:s.segs=(M++[(g,l)]).map (·.1):=by rw[h.segs];simp
 have e2:s.scans=s.segs.map fun a=>(a,s.rcs a):=rfl
 rw[e2,e,List.map_map];have:(M++[(g,l)]).map ((fun a=>(a,s.rcs a)) ∘ fun x=>x.1)=(M++[(g,l)]).map id:=by
  apply List.map_congr_left;intro p hp;show(p.1,s.rcs p.1)=p;rw[h.rcs ho p hp]
 rw[this,List.map_id]
theorem BV {b:Int} {A B:List Rec} (h1:numB b A) (h2:numB (b+A.length) B):numB b (A++B):=by
 intro i hi;rw[List.length_append] at hi;rcases Nat.lt_or_ge i A.length with c|c
 ·rw[List.getElem_append_left c];exact h1 i c
 ·rw[List.getElem_append_right c,h2 (i-A.length) (by omega)];omega
theorem uF:∀ (M:List SR) (b e:Int),chainM b M e->(∀ p∈M,numB p.1.base p.2)->numB b (aY M)
 | [],b,e,_,_=>fun i hi=>by simp[aY] at hi
 | p::M,b,e,h,hn=>by
  simp only[chainM] at h;have e1:aY (p::M)=p.2++aY M:=by simp[aY]
  rw[e1];have h1:=hn p (by simp)
  rw[h.1] at h1;exact BV h1 (uF M _ e h.2.2 (fun q hq=>hn q (by simp[hq])))
theorem Inv.num (h:Inv f s M g l):numB f (aY (M++[(g,l)])):=by
 have h1:=uF M f g.base h.chain (fun p hp=>(h.file p (List.mem_append_left _ hp)).num)
 rw[cZ,dM];refine BV h1 ?_;rw[iQ _ _ _ h.chain];exact(h.file (g,l) (by simp)).num
theorem W.snT (ho:okS k u s) (h:W f S l0 s M g l):fg s=S∧(ch (fg s)).getD []=l0:=by
 have hf:s.floor=f:=WR.floor ⟨M,g,l,h,rfl⟩;have e:fg s=S:=by
  unfold fg;rw[hf];rcases h.snp with⟨h1,h2,_⟩|⟨h1,h2,_⟩
  ·rw[if_pos h1,h2]
  ·rw[if_neg (by omega),fA ho.dsk.srt,h2]
 rw[e];refine⟨rfl,?_⟩;rcases h.snp with⟨_,h2,h3,_⟩|⟨_,_,h3,_⟩
 ·rw[h2,h3];rfl
 ·rw[h3];rfl
theorem xm {R:List Rec} (hd:∀ j,(hj:j<R.length)->i7 s (f+j)=R[j].da):∀ (n j:Nat) (q:List Pr),j+n<=R.length->pX s n (f+j) q=qb q ((R.drop j).take n)
 | 0,j,q,_=>by simp[pX,qb]
 | n+1,j,q,h=>by
  have hj:j<R.length:=by omega
  rw[pX,hd j hj,List.drop_eq_getElem_cons hj,List.take_succ_cons];have ih:=xm hd n (j+1) (eL q R[j].da) (by omega)
  rw[Int.natCast_add,Int.natCast_one,<- Int.add_assoc] at ih;rw[ih];rfl
theorem W.data (ho:okS k u s) (h:W f S l0 s M g l) (j:Nat) (hj:j<(aY (M++[(g,l)])).length):i7 s (f+j)=(aY (M++[(g,l)]))[j].da:=by
 have hn:s.next=f+(aY (M++[(g,l)])).length:=WR.next ⟨M,g,l,h,rfl⟩;have hf0:0<=f:=by have:=WR.floor ⟨M,g,l,h,rfl⟩;rw[<- this];exact(hU ho).1
 unfold i7;rw[if_neg (by omega),h.inv.scans ho,EI h.inv.num j hj]
def HY (l0:List Pr) (f:Int) (R:List Rec) (off:Int):List Pr:=qb l0 (R.take (off-f).toNat)
theorem W.stT (ho:okS k u s) (h:W f S l0 s M g l) (off:Int) (h1:f<=off∧off<=s.next):bo s off=HY l0 f (aY (M++[(g,l)])) off:=by
 have hn:s.next=f+(aY (M++[(g,l)])).length:=WR.next ⟨M,g,l,h,rfl⟩;unfold bo HY;rw[(h.snT ho).2,WR.floor ⟨M,g,l,h,rfl⟩];have:=xm (h.data ho) (off-f).toNat 0 l0 (by omega)
 simpa using this
def okV (l:List Pr):Prop:=∀ p∈l,(0<=p.key∧p.key<256)∧(1<=p.val.length∧p.val.length<=63)
theorem okV.okP {l:List Pr} (h:okV l):okP l:=fun p hp=>⟨(h p hp).1,by have:=(h p hp).2;omega⟩
theorem step_okV {l:List Pr} (h:okV l) {d:List UInt8} (hd:d.length<=64):okV (eL l d):=by
 cases d with
 | nil=>exact h
 | cons c r =>
  intro p hp;simp only[eL,List.mem_append] at hp;rcases hp with(hp|hp)|hp
  ·exact h p ((List.takeWhile_sublist _).subset hp)
  ·split at hp
   ·cases hp
   ·rename_i hr;rw[List.mem_singleton] at hp;subst hp;have:=UInt8.toNat_lt c;have:=List.length_pos_iff.2 hr;simp at hd;exact⟨⟨by simp only[];omega,by simp only[];omega⟩,by simp only[];omega⟩
  ·exact h p (List.mem_filter.1 hp).1
theorem ux:∀ (R:List Rec) (l:List Pr),okV l->(∀ r∈R,r.da.length<=64)->okV (qb l R)
 | [],l,h,_=>h
 | r::R,l,h,hr=>ux R _ (step_okV h (hr r (by simp))) (fun x hx=>hr x (by simp[hx]))
theorem FL {l:List Pr} (hs:oN l) (h:okV l):fF l=true:=by
 unfold fF;rw[List.all_eq_true];intro i hi;have hi:i<l.length:=by simpa using hi
 simp only[qR,List.getElem?_eq_getElem hi,vq,Bool.and_eq_true,Bool.or_eq_true,decide_eq_true_eq];refine⟨(h _ (List.getElem_mem hi)).2,?_⟩;by_cases c:i=0
 ·exact .inl c
 ·refine .inr ?_;have e:jF l (i-1)=l[i-1].key:=by simp[jF,List.getElem?_eq_getElem (show i-1<l.length by omega)]
  rw[e];exact(List.pairwise_iff_getElem.1 hs) (i-1) i (by omega) hi (by omega)
theorem Dj {l:List Pr} (hr:fF l=true) (ho:okP l):okV l:=by
 intro p hp;obtain⟨i,hi,rfl⟩:=List.getElem_of_mem hp;have:=(List.all_eq_true.1 hr) i (by simpa using hi)
 simp only[qR,List.getElem?_eq_getElem hi,vq,Bool.and_eq_true,decide_eq_true_eq] at this;exact⟨(ho _ hp).1,this.1⟩
theorem zS (pre rest:Txt) (p:Pr) (h:(0<=p.key∧p.key<256)∧(1<=p.val.length∧p.val.length<=63)):oI (pre++(lV p++rest)) pre.length=some (p,(pre++lV p).length):=by
 obtain⟨key,v⟩:=p;simp only at h;have e0:pre++(lV ⟨key,v⟩++rest)=(pre++[UInt8.ofNat key.toNat])++(ah v.length++(v++rest)):=by simp[lV]
 have e1:(pre++(lV ⟨key,v⟩++rest)).drop (pre.length+1)=ah v.length++(v++rest):=by
  rw[e0];exact List.drop_left' (by simp)
 have hr:=jR v.length (v++rest) (by omega)
 have hk:(ah v.length).length=nd v.length:=rfl;have hl:(pre++(lV ⟨key,v⟩++rest)).length=pre.length+1+nd v.length+v.length+rest.length:=by rw[e0];simp[hk];omega
 have ha:(pre++(lV ⟨key,v⟩++rest))[pre.length]?=some (UInt8.ofNat key.toNat):=by simp[lV]
 have hv:((pre++(lV ⟨key,v⟩++rest)).take (pre.length+1+nd v.length+v.length)).drop (pre.length+1+nd v.length)=v:=by
  have e2:pre++(lV ⟨key,v⟩++rest)=((pre++[UInt8.ofNat key.toNat])++ah v.length)++(v++rest):=by simp[lV]
  have hl2:((pre++[UInt8.ofNat key.toNat])++ah v.length).length=pre.length+1+nd v.length:=by simp[hk];omega
  rw[e2,<- hl2,List.take_length_add_append,List.drop_left,List.take_left]
 have hkey:((UInt8.ofNat key.toNat).toNat:Int)=key:=by simp;omega
 unfold oI;rw[e1,hr];simp only[];rw[if_neg (by omega),hv,ha]
 simp only[Option.getD_some,hkey];congr 2
 simp[lV,hk];omega
theorem tH:∀ (l:List Pr) (pre:Txt) (out:List Pr),okV l->gE (pre++l.flatMap lV) l.length pre.length out=some (out++l,(pre++l.flatMap lV).length)
 | [],pre,out,_=>by simp[gE]
 | p::l,pre,out,h=>by
  have hp:=zS pre (l.flatMap lV) p (h p (by simp))
  rw[List.flatMap_cons,List.length_cons,gE,hp];simp only[];have ih:=tH l (pre++lV p) (out++[p]) (fun q hq=>h q (by simp[hq]))
  rw[List.append_assoc] at ih;rw[ih];simp
theorem yY {l:List Pr} (hs:oN l) (h:okV l):ch (bt l)=some l:=by
 have hl:=E7 hs h.okP;have hr:=jR l.length (l.flatMap lV) (by omega)
 have hp:=tH l (ah l.length) [] h;have hk:(ah l.length).length=nd l.length:=rfl;unfold ch;have e:bt l=ah l.length++l.flatMap lV:=rfl;rw[e,hr];simp only[];rw[if_neg (by omega),<- hk,hp]
 unfold nb;simp[FL hs h]
theorem Co {s:List UInt8} {l:List Pr} (h:ch s=some l):okV l:=by
 have hr:fF l=true:=by
  unfold ch at h;split at h
  ·split at h
   ·cases h
   ·unfold nb at h;split at h
    ·split at h
     ·rename_i hc;cases h;exact hc.2
     ·cases h
    ·cases h
  ·cases h
 exact Dj hr (sS h).1
theorem zy {k u:Nat} {d:Dsk} (h:okN k u d) (h0:(aR d).2=0):okS (k+2) (u+1000) (aR d).1∧(∀ seg:Int,0<=seg->Hold 0 seg (aR d).1 [])∧(aR d).1.next=0∧(aR d).1.sure=0:=by
 have k1:=fN (s:=(d,0)) h (fileN 0);unfold aR at h0 ⊢;simp only[] at h0 ⊢;have k2:okN (k+2) (u+1000) (if(bQ (fileN 0) (d,0)).2=0 then bR ⟨1,[0],0,0⟩ (bQ (fileN 0) (d,0)) else bQ (fileN 0) (d,0)).1:=by
  split
  ·exact(kl k1 _).up (by omega) (by omega)
  ·exact k1.up (by omega) (by omega)
 have hd:(bQ (fileN 0) (d,0)).2=0->hasD (if(bQ (fileN 0) (d,0)).2=0 then bR ⟨1,[0],0,0⟩ (bQ (fileN 0) (d,0)) else bQ (fileN 0) (d,0)).1.files (fileN 0) []:=fun hc=>by
  rw[if_pos hc];exact py k1 _ (mF _ _) (mF _ _) (BF hc)
 have hc:(if(bQ (fileN 0) (d,0)).2=0 then bR ⟨1,[0],0,0⟩ (bQ (fileN 0) (d,0)) else bQ (fileN 0) (d,0)).2=0->(bQ (fileN 0) (d,0)).2=0:=fun hx=>by
  by_cases hc:(bQ (fileN 0) (d,0)).2=0
  ·exact hc
  ·rw[if_neg hc] at hx;exact hx
 generalize (if(bQ (fileN 0) (d,0)).2=0 then bR ⟨1,[0],0,0⟩ (bQ (fileN 0) (d,0)) else bQ (fileN 0) (d,0))=s2 at *
 by_cases c:s2.2=0
 ·rw[if_pos c];have hd:=hd (hc c);refine⟨⟨k2,by simp,?_,by simp,⟨by simp,by simp only[];omega⟩,by simp⟩,fun seg hs=>⟨[],⟨0,0,0⟩,[],⟨rfl,?_,rfl,rfl,by simp⟩,⟨fun p hp=>(by cases hp),by simp only[];omega⟩,rfl⟩,rfl,rfl⟩
  ·intro g hg;simp only[List.mem_singleton] at hg;subst hg;simp;omega
  ·intro p hp;simp only[List.nil_append,List.mem_singleton] at hp;subst hp;exact⟨hd,fun r hr=>(by cases hr),fun k hk=>(by simp at hk),rfl,rfl⟩
 ·rw[if_neg c] at h0;exact absurd h0 c
def d0:Dsk:=⟨[],0,false,0,false⟩
theorem d0_ok:okN 0 0 d0:=⟨Nat.le_refl _,List.Pairwise.nil,by decide,by decide,Nat.le_refl _⟩
theorem HA:(aR d0).2=0:=by decide +kernel
variable {k u:Nat} {f:Int} {S:Txt} {l0:List Pr} {s:Sto} {M:List SR} {g:Seg} {l:List Rec}
theorem W.st0 (h:W f S l0 s M g l):oN l0∧okV l0:=by
 rcases h.snp with⟨_,_,h3,_⟩|⟨_,_,h3,_⟩
 ·rw[h3];exact⟨List.Pairwise.nil,fun p hp=>by cases hp⟩
 ·exact⟨DJ h3,Co h3⟩
theorem W.why (h:W f S l0 s M g l):∀ r∈aY (M++[(g,l)]),whyF r=0:=by
 intro r hr;simp only[aY,List.mem_flatMap] at hr;obtain⟨p,hp,hr⟩:=hr;exact(h.inv.file p hp).why r hr
theorem W.st (h:W f S l0 s M g l) (off:Int):oN (HY l0 f (aY (M++[(g,l)])) off)∧okV (HY l0 f (aY (M++[(g,l)])) off):=by
 have h1:∀ r∈(aY (M++[(g,l)])).take (off-f).toNat,r.da.length<=64:=fun r hr=>BG (h.why r (List.mem_of_mem_take hr))
 exact⟨(xK _ _ h.st0.1 h.st0.2.okP h1).1,ux _ _ h.st0.2 h1⟩
theorem xB {q:List Pr} (hs:oN q) (ho:okV q):1<=(bt q).length∧(bt q).length<=18960:=by
 have h1:=E7 hs ho.okP;have h2:=pF ho.okP (by omega)
 have h3:1<=(ah q.length).length:=fJ q.length;refine⟨?_,by omega⟩
 unfold bt;rw[List.length_append];omega
theorem nC:∀ (k:Nat) (M:List SR) (b e:Int),k<=M.length->chainM b M e->chainM (b+(aY (M.take k)).length) (M.drop k) e
 | 0,M,b,e,_,h=>by simpa[aY] using h
 | k+1,[],b,e,hk,_=>by simp at hk
 | k+1,p::M,b,e,hk,h=>by
  simp only[chainM] at h;have ih:=nC k M (b+p.2.length) e (by simpa using hk) h.2.2
  have e1:(aY ((p::M).take (k+1))).length=p.2.length+(aY (M.take k)).length:=by simp[aY]
  rw[e1,List.drop_succ_cons,Int.natCast_add,<- Int.add_assoc];exact ih
theorem xp {M:List SR} {b e:Int} (h:chainM b M e):∀ x,(M.map (·.1.base)++[e])[0]?=some x->x=b:=by
 intro x hx;cases M with
 | nil=>simp[chainM] at h hx;omega
 | cons p M=>simp[chainM] at h hx;omega
theorem W.base_k (h:W f S l0 s M g l) {n:Nat} (hn:n<s.segs.length):n<=M.length∧aM s.segs n=f+(aY (M.take n)).length:=by
 have hl:s.segs.length=M.length+1:=by rw[h.inv.segs];simp
 have hk:n<=M.length:=by omega
 refine⟨hk,?_⟩;have hc:=nC n M f g.base hk h.inv.chain;refine xp hc _ ?_;have e1:s.segs.map Seg.base=M.map (·.1.base)++[g.base]:=by rw[h.inv.segs];simp[List.map_map,Function.comp_def]
 have e2:(M.drop n).map (·.1.base)++[g.base]=(s.segs.map Seg.base).drop n:=by
  rw[e1,List.drop_append_of_le_length (by simpa using hk),List.map_drop]
 rw[e2,List.getElem?_drop,Nat.add_zero,List.getElem?_map,(gv hn).1,(gv hn).2];rfl
theorem W.trimR (ho:okS k u s) (h:W f S l0 s M g l) (hv:u<1000000000000) {n:Nat} (hn:n<s.segs.length) (h0:n≠0):f<aM s.segs n∧aM s.segs n<=s.next∧bo s (aM s.segs n)=HY l0 f (aY (M++[(g,l)])) (aM s.segs n)∧manB (db s n).man=true:=by
 have hb:=h.base_k hn;have hf0:0<=f:=by have:=WR.floor ⟨M,g,l,h,rfl⟩;rw[<- this];exact(hU ho).1
 have hce:=iL _ _ _ h.inv.chain;have hcl:=iQ _ _ _ h.inv.chain;have hnx:=h.inv.next;have e1:aY M=aY (M.take n)++aY (M.drop n):=by rw[<- cZ,List.take_append_drop]
 have h1:f<aM s.segs n:=by
  rw[hb.2];have:0<(aY (M.take n)).length:=by
   cases hM:M with
   | nil=>rw[hM] at hb;simp at hb;omega
   | cons p r =>
    obtain⟨m,rfl⟩:∃ m,n=m+1:=⟨n-1,by omega⟩
    have:=(hce.2 p (by rw[hM];simp)).2.2
    simp[aY];omega
  omega
 have h2:aM s.segs n<=s.next:=by
  rw[hb.2];rw[e1,List.length_append] at hcl;omega
 have h3:=h.stT ho (aM s.segs n) ⟨by omega,h2⟩
 refine⟨h1,h2,h3,?_⟩;have hst:=h.st (aM s.segs n);have hbs:=xB hst.1 hst.2;have hm:=dN h.right;have hi:=h.man_inc;have hv2:=ho.ver;have hv1:1<=s.ver:=hm.1.1;have hl64:=ho.len;have ex:(db s n).man.segs=(s.segs.map Seg.base).drop n:=by show(s.segs.drop n).map Seg.base=_;rw[List.map_drop]
 have ez:(db s n).man.size=((bt (bo s (aM s.segs n))).length:Nat):=rfl;refine BB ⟨by show 1<=s.ver+1;omega,by show s.ver+1<=_;omega⟩ ⟨by rw[ex];simp;omega,by rw[ex];simp;omega⟩ ?_ (.inr ⟨?_,?_⟩)
 ·rw[ex,nY];exact⟨hi.1.sublist (List.drop_sublist _ _),fun a ha=>hi.2 a (List.mem_of_mem_drop ha)⟩
 ·rw[ex,List.head?_drop,List.getElem?_map,(gv hn).1];simp only[Option.map_some,ne_eq,Option.some.injEq];rw[<- (gv hn).2];omega
 ·rw[ez,h3];omega
theorem W.not_rel {a:Int} (ho:okS k u s) (hf:0<=f∧f<=1099511627776) (ha:f<a∧a<=1099511627776):¬ rel f s (aQ a):=by
 rintro(e|⟨b,_,e⟩|⟨_,e⟩)
 ·exact absurd e (m0 _ (by rw[fQ];decide))
 ·exact absurd e (dm _ _)
 ·have:=pg (by omega) hf e;omega
variable {k u:Nat} {f:Int} {S:Txt} {l0:List Pr} {s:Sto} {M:List SR} {g:Seg} {l:List Rec}
theorem A1 (ho:okS k u s) (h:W f S l0 s M g l) (n:Nat):(lC s n).Nodup:=by
 have hp:s.segs.Pairwise (fun a b=>a.base<b.base):=List.pairwise_map.1 h.man_inc.1
 unfold lC List.Nodup;rw[List.pairwise_append];refine⟨?_,by split <;> simp,?_⟩
 ·rw[List.pairwise_map];refine List.Pairwise.imp_of_mem (fun {a b} ha hb hab e=>?_) (hp.sublist (List.take_sublist n _))
  have:=dL (ho.seg a (List.mem_of_mem_take ha)).1 (ho.seg b (List.mem_of_mem_take hb)).1 e;omega
 ·intro a ha b hb e;obtain⟨c,_,rfl⟩:=List.mem_map.1 ha;split at hb
  ·rw[List.mem_singleton.1 hb] at e;exact dm _ _ e.symm
  ·cases hb
theorem W.cut (ho:okS k u s) (h:W f S l0 s M g l) (hv:u<1000000000000) {n:Nat} (hn:n<s.segs.length) (h0:n≠0) {d1:Dsk} {w:Dsk × Int}
  (hs1:srt d1.files) (hd1:d1.down=false) (hf1:fm d1.files=up (up (fm s.disk.files) (aQ (aM s.segs n)) (some (bt (bo s (aM s.segs n)),(((bt (bo s (aM s.segs n))).length:Nat):Int)))) [109] (manV (db s n).man)) (hdn:s.disk.down=false)
  (hO:Out d1 w (lC s n) (Kb (lC s n) (fm d1.files)) none) :
  W (aM s.segs n) (bt (bo s (aM s.segs n))) (bo s (aM s.segs n)) { db s n with disk:=w.1 } (M.drop n) g l:=by
 have hT:=h.trimR ho hv hn h0;have hb:=h.base_k hn;have hf0:0<=f:=by have:=WR.floor ⟨M,g,l,h,rfl⟩;rw[<- this];exact(hU ho).1
 have hst:=h.st (aM s.segs n);rw[<- hT.2.2.1] at hst;have hfl:s.floor=f:=WR.floor ⟨M,g,l,h,rfl⟩;have hbo:=wy ho hn;have hlt:∀ a∈s.segs.take n,a.base<aM s.segs n:=by
  intro a ha;have hp:s.segs.Pairwise (fun a b=>a.base<b.base):=List.pairwise_map.1 h.man_inc.1
  obtain⟨i,hi,rfl⟩:=List.getElem_of_mem ha;rw[List.length_take] at hi;rw[List.getElem_take,(gv hn).2];exact(List.pairwise_iff_getElem.1 hp) i n (by omega) hn (by omega)
 have hge:∀ a∈s.segs.drop n,aM s.segs n<=a.base:=by
  intro a ha;have hp:s.segs.Pairwise (fun a b=>a.base<b.base):=List.pairwise_map.1 h.man_inc.1
  obtain⟨i,hi,rfl⟩:=List.getElem_of_mem ha;rw[List.length_drop] at hi;rw[List.getElem_drop,(gv hn).2];by_cases c:i=0
  ·subst c;simp
  ·have:=(List.pairwise_iff_getElem.1 hp) n (n+i) hn (by omega) (by omega);omega
 have hold:∀ m,m∈lC s n↔(∃ a∈s.segs.take n,m=fileN a.base)∨(0<f∧m=aQ f):=by
  intro m;unfold lC;rw[List.mem_append,List.mem_map,hfl];constructor
  ·rintro(⟨a,ha,rfl⟩|hm)
   ·exact .inl ⟨a,ha,rfl⟩
   ·split at hm
    ·rename_i c;exact .inr ⟨c,List.mem_singleton.1 hm⟩
    ·cases hm
  ·rintro(⟨a,ha,rfl⟩|⟨hc,rfl⟩)
   ·exact .inl ⟨a,ha,rfl⟩
   ·rw[if_pos hc];exact .inr (by simp)
 have hsd:s.segs.drop n=(M.drop n).map (·.1)++[g]:=by rw[h.inv.segs,List.drop_append_of_le_length (by simpa using hb.1),List.map_drop]
 have k1:[109] ∉ lC s n:=by
  rw[hold];rintro(⟨a,_,e⟩|⟨_,e⟩)
  ·exact absurd e.symm (m0 _ (by rw[cq];decide))
  ·exact absurd e.symm (m0 _ (by rw[fQ];decide))
 have k2:aQ (aM s.segs n) ∉ lC s n:=by
  rw[hold];rintro(⟨a,_,e⟩|⟨_,e⟩)
  ·exact absurd e (dm _ _)
  ·have:=pg hbo (by omega) e;omega
 have k3:∀ a∈s.segs.drop n,fileN a.base ∉ lC s n:=by
  intro a ha;rw[hold];rintro(⟨b,hb2,e⟩|⟨_,e⟩)
  ·have:=dL (ho.seg a (List.mem_of_mem_drop ha)).1 (ho.seg b (List.mem_of_mem_take hb2)).1 e;have:=hge a ha;have:=hlt b hb2;omega
  ·exact absurd e.symm (dm _ _)
 have hkeep:∀ m,m ∉ lC s n->fm w.1.files m=fm d1.files m:=by
  intro m hm;rcases hO.2.2 with⟨_,_,hf⟩|⟨_,hc,_⟩|⟨_,_,hf⟩
  ·rw[hf];exact if_neg hm
  ·cases hc
  ·exact hf m hm
 have hfile:∀ a∈s.segs.drop n,fm w.1.files (fileN a.base)=fm s.disk.files (fileN a.base):=by
  intro a ha;rw[hkeep _ (k3 a ha),hf1,bW _ _ (m0 _ (by rw[cq];decide)),bW _ _ (fun e=>dm _ _ e.symm)]
 have hpm:∀ p∈M.drop n++[(g,l)],p.1∈s.segs.drop n:=by
  intro p hp;rw[hsd];rcases List.mem_append.1 hp with hp|hp
  ·exact List.mem_append_left _ (List.mem_map_of_mem hp)
  ·rw[List.mem_singleton.1 hp];simp
 have hpM:∀ p∈M.drop n++[(g,l)],p∈M++[(g,l)]:=by
  intro p hp;rcases List.mem_append.1 hp with hp|hp
  ·exact List.mem_append_left _ (List.mem_of_mem_drop hp)
  ·exact List.mem_append_right _ hp
 refine⟨⟨hsd,fun p hp=>?_,?_,h.inv.next,h.inv.sure⟩,.inr ⟨by omega,?_,yY hst.1 hst.2,rfl,rfl⟩,?_,hT.2.2.2,fun p hp=>?_,?_,h.lo,fun hd m hm=>?_⟩
 ·have hfo:=h.inv.file p (hpM p hp);refine hfo.keep fun hh=>?_
  rw[kJ ho.dsk.srt] at hh;rw[kJ hO.2.1,hfile _ (hpm p hp)];exact hh
 ·have:=nC n M f g.base hb.1 h.inv.chain;rw[<- hb.2] at this;exact this
 ·show fm w.1.files _=_;rw[hkeep _ k2,hf1,bW _ _ (m0 _ (by rw[fQ];decide)),dS]
 ·show fm w.1.files _=_;rw[hkeep _ k1,hf1,dS];rfl
 ·show fm w.1.files _=_;rw[hfile _ (hpm p (List.mem_append_left _ hp))];exact h.full p (List.mem_of_mem_drop hp)
 ·obtain⟨q,h1,h2⟩:=h.last;exact⟨q,by show fm w.1.files _=_;rw[hfile _ (hpm (g,l) (by simp))];exact h1,h2⟩
 ·have hm2:fm w.1.files m≠none:=hm;have hd2:w.1.down=false:=hd;rcases hO.2.2 with⟨_,_,hf⟩|⟨_,hc,_⟩|⟨_,hd3,_⟩
  ·rw[hf] at hm2;unfold Kb at hm2;by_cases c:m∈lC s n
   ·rw[if_pos c] at hm2;exact absurd rfl hm2
   ·rw[if_neg c,hf1] at hm2;by_cases c1:m=[109]
    ·exact .inl c1
    ·rw[bW _ _ c1] at hm2;by_cases c2:m=aQ (aM s.segs n)
     ·exact .inr (.inr ⟨by omega,c2⟩)
     ·rw[bW _ _ c2] at hm2;rcases h.only hdn m hm2 with e|⟨a,ha,e⟩|⟨e1,e2⟩
      ·exact .inl e
      ·rw[<- List.take_append_drop n s.segs] at ha;rcases List.mem_append.1 ha with ha|ha
       ·exact absurd ((hold m).2 (.inl ⟨a,ha,e⟩)) c
       ·exact .inr (.inl ⟨a,ha,e⟩)
      ·exact absurd ((hold m).2 (.inr ⟨e1,e2⟩)) c
  ·cases hc
  ·rw[hd2] at hd3;cases hd3
theorem Dr (h:Inv f s M g l) {n:Nat} (hn:n<=M.length):aY (M.drop n++[(g,l)])=(aY (M++[(g,l)])).drop (aY (M.take n)).length:=by
 have e:aY (M++[(g,l)])=aY (M.take n)++aY (M.drop n++[(g,l)]):=by
  rw[<- cZ,<- List.append_assoc,List.take_append_drop]
 rw[e,List.drop_left]
theorem WR.trim {R:List Rec} (ho:okS k u s) (h:WR f S l0 s R) (hv:u<1000000000000) (keep count:Int) :
  ∃ f' S' l0',f<=f'∧f'<=s.next∧l0'=HY l0 f R f'∧WR f' S' l0' (dk s keep count).1 (R.drop (f'-f).toNat)∧(dk s keep count).1.next=s.next∧(dk s keep count).1.sure=s.sure∧(dk s keep count).1.disk.cap=s.disk.cap ∧
   ((dk s keep count).2=0∨(dk s keep count).2=9∨((dk s keep count).2=10∧(dk s keep count).1.disk.down=true)) ∧
   ((dk s keep count).2=0->dR (dk s keep count).1.segs keep count=0)∧((dk s keep count).2≠10->(dk s keep count).1.disk.down=s.disk.down):=by
 have h0:=h;have hfn:=h.sure;have hs0:WR f S l0 s (R.drop (f-f).toNat):=by rw[Int.sub_self];exact h0
 have hl0:l0=HY l0 f R f:=by unfold HY;rw[Int.sub_self];rfl
 obtain⟨M,g,l,h,rfl⟩:=h;unfold dk;by_cases c0:dR s.segs keep count=0
 ·rw[if_pos c0];exact⟨f,S,l0,Int.le_refl _,by omega,hl0,hs0,rfl,rfl,rfl,.inl rfl,fun _=>c0,fun _=>rfl⟩
 ·rw[if_neg c0];have hn:=tp s.segs keep count c0;have hpk:dR (s.segs.drop (dR s.segs keep count)) keep count=0:=by
   have hst:jT s.segs keep count (dR s.segs keep count)=true:=by
    unfold dR at *;cases hf:(List.range s.segs.length).find? (jT s.segs keep count) with
    | none=>rw[hf] at c0;exact absurd rfl c0
    | some j=>exact List.find?_some hf
   refine FY _ keep count 0 (by simp;omega) ?_ (fun i hi=>absurd hi (by omega))
   unfold jT at hst ⊢;rw[List.drop_zero];exact hst
  generalize dR s.segs keep count=n at *;have hT:=h.trimR ho hv hn c0;have hb:=h.base_k hn;have hbo:=wy ho hn;have hf0:0<=f:=by have:=WR.floor h0;rw[<- this];exact(hU ho).1
  have hnr:¬ rel f s (aQ (aM s.segs n)):=W.not_rel ho (by omega) ⟨hT.1,hbo.2⟩
  have h110:s.disk.down=false->fm s.disk.files [110]=none:=fun hd=>by
   cases hx:fm s.disk.files [110] with
   | none=>rfl
   | some v=>exact absurd (h.only hd [110] (by rw[hx];simp)) (rL f s)
  have hsn:s.disk.down=false->fm s.disk.files (aQ (aM s.segs n))=none:=fun hd=>by
   cases hx:fm s.disk.files (aQ (aM s.segs n)) with
   | none=>rfl
   | some v=>exact absurd (h.only hd _ (by rw[hx];simp)) hnr
  have hO:=HV ho.dsk.srt (n:=aQ (aM s.segs n)) (x:=bt (bo s (aM s.segs n))) hT.2.2.2 (Kc _) (Ev _ (by rw[fQ];decide)) h110 hsn
  have hold0:∀ q,qO s n q=wS (lC s n) q:=fun q=>Kd s n q
  have hX:∀ m∈[aQ (aM s.segs n),[110]],¬ rel f s m:=by
   intro m hm;rcases List.mem_cons.1 hm with rfl|hm
   ·exact hnr
   ·rw[List.mem_singleton.1 hm];exact rL f s
  have etk:oV s n=if(nB s.disk (aQ (aM s.segs n)) (bt (bo s (aM s.segs n))) (db s n).man).2≠0 then({ s with disk:=(nB s.disk (aQ (aM s.segs n)) (bt (bo s (aM s.segs n))) (db s n).man).1 },(nB s.disk (aQ (aM s.segs n)) (bt (bo s (aM s.segs n))) (db s n).man).2) else({ db s n with disk:=(wS (lC s n) (nB s.disk (aQ (aM s.segs n)) (bt (bo s (aM s.segs n))) (db s n).man)).1 },(wS (lC s n) (nB s.disk (aQ (aM s.segs n)) (bt (bo s (aM s.segs n))) (db s n).man)).2):=by
   unfold oV;simp only[hold0]
  rw[etk];clear etk;generalize nB s.disk (aQ (aM s.segs n)) (bt (bo s (aM s.segs n))) (db s n).man=e at *;by_cases c1:e.2=0
  ·rw[if_neg (by simp[c1])]
   rcases hO.2.2 with⟨_,hd,hf⟩|⟨_,_,e9,_⟩|⟨e10,_⟩
   ·have hdn:=hO.1.up_of hd;have hg:=rk (lC s n) e.1 hO.2.1 (A1 ho h n) hd (fun m hm=>by
     have hne:m≠[109]∧m≠aQ (aM s.segs n)∧fm s.disk.files m≠none:=by
      unfold lC at hm;rcases List.mem_append.1 hm with hm|hm
      ·obtain⟨a,ha,rfl⟩:=List.mem_map.1 hm;refine⟨m0 _ (by rw[cq];decide),fun e=>dm _ _ e.symm,?_⟩
       have ha:=List.mem_of_mem_take ha;rw[h.inv.segs] at ha;rcases List.mem_append.1 ha with ha|ha
       ·obtain⟨p,hp,rfl⟩:=List.mem_map.1 ha;rw[h.full p hp];simp
       ·rw[List.mem_singleton.1 ha];obtain⟨q,h1,_⟩:=h.last;rw[h1];simp
      ·rw[WR.floor h0] at hm;split at hm
       ·rename_i c;rw[List.mem_singleton.1 hm];refine⟨m0 _ (by rw[fQ];decide),fun e=>?_,?_⟩
        ·have:=pg (by omega) hbo e;omega
        ·rcases h.snp with⟨h1,_⟩|⟨_,h1,_⟩
         ·omega
         ·rw[h1];simp
       ·cases hm
     rw[hf,bW _ _ hne.1,bW _ _ hne.2.1];exact hne.2.2)
    have hp0:e=(e.1,0):=gj c1;rw[<- hp0] at hg;have hw:=h.cut ho hv hn c0 hO.2.1 hd hf hdn hg;have hr:=Dr h.inv hb.1;have hfd:(aM s.segs n-f).toNat=(aY (M.take n)).length:=by omega
    refine⟨aM s.segs n,_,bo s (aM s.segs n),by omega,hT.2.1,hT.2.2.1,⟨M.drop n,g,l,hw,by rw[hr,hfd]⟩,rfl,rfl,hg.1.cap.trans hO.1.cap,?_,fun _=>hpk,fun hne=>?_⟩
    ·rcases hg.2.2 with⟨a,_⟩|⟨_,a,_⟩|⟨a,b,_⟩
     ·exact .inl a
     ·cases a
     ·exact .inr (.inr ⟨a,b⟩)
    ·rcases hg.2.2 with⟨_,a,_⟩|⟨_,a,_⟩|⟨a,b,_⟩
     ·exact a.trans hdn.symm
     ·cases a
     ·exact absurd a hne
   ·rw[e9] at c1;cases c1
   ·rw[e10] at c1;cases c1
  ·rw[if_pos c1];have:=h.fail ho.dsk.srt hO c1 hX;refine⟨f,S,l0,Int.le_refl _,by omega,hl0,by rw[Int.sub_self];exact⟨M,g,l,this.1,rfl⟩,rfl,rfl,hO.1.cap,?_,fun h=>absurd h c1,fun hne=>?_⟩
   ·rcases this.2 with⟨a,_⟩|⟨a,b⟩
    ·exact .inr (.inl a)
    ·exact .inr (.inr ⟨a,b⟩)
   ·rcases this.2 with⟨_,_,a⟩|⟨a,_⟩
    ·exact a.trans (hO.1.up_of a).symm
    ·exact absurd a hne
structure Ac where
 kind:Int
 n:Int
 m:Int
 data:List UInt8
 deriving DecidableEq
def Ac.enc (e:Ac):List D:=[.i .i64 e.kind,.i .i64 e.n,.i .i64 e.m,.s e.data]
theorem Ac.len (e:Ac):e.enc.length=4:=Eq.trans rfl rfl
theorem Ac.tk (e:Ac):e.enc.take 4=e.enc:=Eq.trans rfl rfl
theorem Ac.tkL (e:Ac):(e.enc.map L.d).take 4=e.enc.map L.d:=Eq.trans rfl rfl
theorem Ac.dat (e:Ac):eb (e.enc.map L.d)=some (e.enc.map L.d):=Eq.trans rfl rfl
theorem Ac.rfs (e:Ac):(e.enc.map L.d).flatMap L.refs=[]:=Eq.trans rfl rfl
theorem Ac.rn (e:Ac) (g:Nat->Option Nat):(e.enc.map L.d).map (L.ren g)=e.enc.map L.d:=Eq.trans rfl rfl
theorem Ac.lenL (e:Ac):(e.enc.map L.d).length=4:=Eq.trans rfl rfl
theorem Ac.at0 (e:Ac):e.enc[0]?=some (.i .i64 e.kind):=Eq.trans rfl rfl
theorem Ac.fd0 (e:Ac):(e.enc.map L.d)[0]?=some (.d (.i .i64 e.kind)):=Eq.trans rfl rfl
theorem Ac.at1 (e:Ac):(e.enc.drop 1)[0]?=some (.i .i64 e.n):=Eq.trans rfl rfl
theorem Ac.fd1 (e:Ac):(e.enc.map L.d)[1]?=some (.d (.i .i64 e.n)):=Eq.trans rfl rfl
theorem Ac.at2 (e:Ac):(e.enc.drop 2)[0]?=some (.i .i64 e.m):=Eq.trans rfl rfl
theorem Ac.fd2 (e:Ac):(e.enc.map L.d)[2]?=some (.d (.i .i64 e.m)):=Eq.trans rfl rfl
theorem Ac.up1 (e:Ac) (x:Int):e.enc.take 1++[.i .i64 x]++e.enc.drop 2=({ e with n:=x }:Ac).enc:=Eq.trans rfl rfl
theorem Ac.up2 (e:Ac) (x:Int):e.enc.take 2++[.i .i64 x]++e.enc.drop 3=({ e with m:=x }:Ac).enc:=Eq.trans rfl rfl
def Ac.ok (e:Ac):Prop:=(-9223372036854775808<=e.kind∧e.kind<9223372036854775808)∧(-9223372036854775808<=e.n∧e.n<9223372036854775808)∧(-9223372036854775808<=e.m∧e.m<9223372036854775808)∧e.data.length<=9223372036854775807
def Ac.ty:List Ty:=[.i .i64,.i .i64,.i .i64,.s]
theorem Ac.eqs (a b:Ac):fT [0,0,0,2] (a.enc.map L.d) (b.enc.map L.d)=some (decide (a=b)):=by
 cases a;cases b;simp only[Ac.enc,List.map_cons,List.map_nil,fT,oT,if_true,Ac.mk.injEq];congr 1
 rw[Bool.eq_iff_iff];simp only[Bool.and_eq_true,beq_iff_eq,decide_eq_true_eq,and_true]
theorem Ac.of (r:List D) (h:cC Ac.ty r):∃ e:Ac,r=e.enc∧e.ok:=by
 simp only[Ac.ty,cC,Ee] at h;obtain⟨_,_,rfl,⟨x0,rfl,h0,g0⟩,⟨_,_,rfl,⟨x1,rfl,h1,g1⟩,⟨_,_,rfl,⟨x2,rfl,h2,g2⟩,⟨_,_,rfl,⟨x3,rfl,h3⟩,rfl⟩⟩⟩⟩:=h;refine⟨⟨x0,x1,x2,x3⟩,rfl,?_⟩;exact⟨⟨Int.le_trans (by decide) h0,Int.lt_of_le_of_lt g0 (by decide)⟩,⟨Int.le_trans (by decide) h1,Int.lt_of_le_of_lt g1 (by decide)⟩,⟨Int.le_trans (by decide) h2,Int.lt_of_le_of_lt g2 (by decide)⟩,h3⟩
def sj (seg i:Int) (s:Sto) (a:Ac):Sto :=
 if a.kind=1 then(a8 s).1 else if a.kind=2 then(dk s a.n a.m).1 else if a.kind=3 then { s with disk:=j0 s.disk a.n } else if a.kind=4 then { s with disk:=HC s.disk a.n } else(gd s seg ⟨s.next,i,a.data⟩).1
def tA (seg:Int):Int->List Ac->Sto->Sto × Bool
 | _,[],s=>(s,true)
 | i,a::l,s=>if 64<a.data.length then(s,false) else tA seg (i+1) l (sj seg i s a)
def ku (seg:Int) (l:List Ac):Sto × Bool:=if 40<l.length then((aR d0).1,false) else tA seg 0 l (aR d0).1
structure PI (i:Nat) (s:Sto):Prop where
 ok:okS (10+2*i) (2000+23000*i) s
 next:s.next<=i
 base:∀ g∈s.segs,g.base<=s.next
theorem yD {k u:Nat} {s:Sto} (h:okS k u s):0<=s.floor:=(hU h).1
theorem xT (t:Sto) (x:Txt) (h:∀ g∈t.segs,g.base<=t.next) (h1:1<=t.segs.length):(∀ g∈(dW t x).1.segs,g.base<=(dW t x).1.next)∧(dW t x).1.next<=t.next+1:=by
 by_cases c:(au t.disk (bV t.disk.files t.disk.cap (fileN t.last.base) x)).2≠0
 ·have e:dW t x=({ t with disk:=(au t.disk (bV t.disk.files t.disk.cap (fileN t.last.base) x)).1 },(au t.disk (bV t.disk.files t.disk.cap (fileN t.last.base) x)).2):=by unfold dW;simp only[];rw[if_pos c]
  rw[e];exact⟨h,by show t.next<=t.next+1;omega⟩
 ·have e:dW t x=({ vm t x.length with disk:=(au t.disk (bV t.disk.files t.disk.cap (fileN t.last.base) x)).1 },0):=by unfold dW;simp only[];rw[if_neg c]
  rw[e];refine⟨fun g hg=>?_,Int.le_refl _⟩
  have hg':g∈t.segs.dropLast++[⟨t.last.base,t.last.n+1,t.last.size+x.length⟩]:=hg;show g.base<=t.next+1;rcases List.mem_append.1 hg' with hg|hg
  ·have:=h g (List.dropLast_subset _ hg);omega
  ·rw[List.mem_singleton.1 hg];have:=h t.last (mg h1);show t.last.base<=t.next+1;omega
theorem Cz (s:Sto) (h:∀ g∈s.segs,g.base<=s.next):(∀ g∈(bN s).1.segs,g.base<=(bN s).1.next)∧(bN s).1.next=s.next:=by
 have hs:(a8 s).1.segs=s.segs:=rfl;have hn:(a8 s).1.next=s.next:=rfl;unfold bN;split
 ·exact⟨h,rfl⟩
 ·split
  ·exact⟨by rw[hs,hn];exact h,hn⟩
  ·split
   ·refine⟨fun g hg=>?_,rfl⟩
    have hg':g∈s.segs++[⟨s.next,0,0⟩]:=hg;show g.base<=s.next;rcases List.mem_append.1 hg' with hg|hg
    ·exact h g hg
    ·rw[List.mem_singleton.1 hg];exact Int.le_refl _
   ·exact⟨by rw[show({ (a8 s).1 with disk:=(dI (a8 s).1).1 }:Sto).segs=s.segs from rfl];exact h,rfl⟩
theorem Gr {k u:Nat} {s:Sto} (ho:okS k u s) (h:∀ g∈s.segs,g.base<=s.next) (seg:Int) (r:Rec):(∀ g∈(gd s seg r).1.segs,g.base<=(gd s seg r).1.next)∧(gd s seg r).1.next<=s.next+1:=by
 have hr:=Cz s h;have ho2:=oK ho;unfold gd;split
 ·exact⟨h,by show s.next<=s.next+1;omega⟩
 ·split
  ·exact⟨h,by show s.next<=s.next+1;omega⟩
  ·split
   ·split
    ·exact⟨hr.1,by rw[hr.2];omega⟩
    ·have:=xT (bN s).1 (dx r).1 hr.1 ho2.len.1;rw[hr.2] at this;exact this
   ·exact xT s _ h ho.len.1
theorem Cq {s:Sto} (h:∀ g∈s.segs,g.base<=s.next) (keep count:Int):(∀ g∈(dk s keep count).1.segs,g.base<=(dk s keep count).1.next)∧(dk s keep count).1.next=s.next:=by
 unfold dk;split
 ·exact⟨h,rfl⟩
 ·unfold oV;simp only[];split
  ·exact⟨h,rfl⟩
  ·refine⟨fun g hg=>?_,rfl⟩
   exact h g (List.mem_of_mem_drop hg)
theorem zR {i:Nat} {s:Sto} (h:PI i s) (hi:i<40) (seg:Int) (a:Ac) (ha:a.ok):PI (i+1) (sj seg i s a):=by
 have h2:=h.ok.up (k':=10+2*(i+1)) (u':=2000+23000*(i+1)) (by omega) (by omega)
 have hn:=h.next;unfold sj;split
 ·exact⟨(mj h.ok).up (by omega) (by omega),by show s.next<=_;omega,h.base⟩
 ·split
  ·have hb:=Cq h.base a.n a.m;refine⟨?_,by rw[hb.2];omega,hb.1⟩
   unfold dk;split
   ·exact h2
   ·rename_i hne;have hlt:=tp s.segs a.n a.m hne;have hfl:=yD h.ok;have:=Fm h.ok hlt (by rw[(gv hlt).2];have:=h.base _ (List.getElem_mem hlt);omega)
    exact this.up (by omega) (by omega)
  ·split
   ·refine⟨⟨⟨h2.dsk.len,h2.dsk.srt,?_,h2.dsk.cap,h2.dsk.used⟩,h2.len,h2.seg,h2.next,h2.ver,h2.sum⟩,by show s.next<=_;omega,h.base⟩
    have:=ha.2.1;show 0<=(if 0<a.n then a.n else 0)∧(if 0<a.n then a.n else 0)<9223372036854775808
    split <;> omega
   ·split
    ·refine⟨⟨⟨h2.dsk.len,h2.dsk.srt,h2.dsk.left,?_,h2.dsk.used⟩,h2.len,h2.seg,h2.next,h2.ver,h2.sum⟩,by show s.next<=_;omega,h.base⟩
     have:=ha.2.1;show 0<=(if 0<a.n then a.n else 0)∧(if 0<a.n then a.n else 0)<9223372036854775808
     split <;> omega
    ·have hb:=Gr h.ok h.base seg ⟨s.next,i,a.data⟩;exact⟨(Bc h.ok seg _).up (by omega) (by omega),by have:=hb.2;omega,hb.1⟩
theorem new_PI:PI 0 (aR d0).1:=by
 obtain⟨o1,hd1,n1,s1⟩:=zy d0_ok HA;refine⟨o1.up (by omega) (by omega),by rw[n1];omega,fun g hg=>?_⟩
 have e:(aR d0).1.segs=[⟨0,0,0⟩]:=by decide +kernel
 rw[e,List.mem_singleton] at hg;rw[hg,n1];exact Int.le_refl _
theorem PI.up {i j:Nat} {s:Sto} (h:PI i s) (hj:i<=j):PI j s:=⟨h.ok.up (by omega) (by omega),by have:=h.next;omega,h.base⟩
theorem BH (seg:Int):∀ (l:List Ac) (i:Nat) (s:Sto),(∀ a∈l,a.ok)->i+l.length<=40->PI i s->PI 40 (tA seg i l s).1
 | [],i,s,_,h,hp=>hp.up (by simp at h;omega)
 | a::l,i,s,ha,h,hp=>by
  simp only[tA];split
  ·exact hp.up (by simp at h;omega)
  ·have:=BH seg l (i+1) (sj seg i s a) (fun b hb=>ha b (by simp[hb])) (by simp at h;omega) (zR hp (by simp at h;omega) seg a (ha a (by simp)))
   rw[Int.natCast_add,Int.natCast_one] at this;exact this
theorem BE (seg:Int) (l:List Ac) (ha:∀ a∈l,a.ok):PI 40 (ku seg l).1:=by
 unfold ku;split
 ·exact new_PI.up (by omega)
 ·exact BH seg l 0 _ ha (by omega) new_PI
set_option maxRecDepth 20000 in
set_option maxHeartbeats 4000000 in
theorem zj (seg:Int) (l:List Ac) (hl:l.length<=9223372036854775807) (ha:∀ a∈l,a.ok):call 38 [vi seg,vl (l.map Ac.enc)] []=some (.tup [(true,(ku seg l).1.l),(false,[.d (.b (ku seg l).2)])],[]):=by
 have q0:=Dw d0 d0_ok (by decide) (by decide)
 have hp0:=new_PI;have hd0:d0.l=[.d (.l []),.d (.i .i64 0),.d (.b false),.d (.i .i64 0),.d (.b false)]:=rfl;have hcell:∀ s:Sto,s.l=[.d (.l (s.disk.files.map Fil.enc)),.d (.i .i64 s.disk.cap),.d (.b s.disk.armed),.d (.i .i64 s.disk.left),.d (.b s.disk.down),.d (.i .i64 s.ver),.d (.l (s.segs.map Seg.enc)),.d (.i .i64 s.next),.d (.i .i64 s.sure),.d (.i .i64 s.size),.d (.i .u32 s.sum)]:=fun _=>rfl
 obtain⟨P,hP⟩:∃ P,P=ku seg l:=⟨_,rfl⟩;rw[<- hP];unfold ku at hP;generalize aR d0=r0 at *;obtain⟨st0,e0⟩:=r0;simp only[cM,hcell,hd0] at q0 hP hp0 ⊢;apply ai Qp rfl;by_cases c0:40<l.length
 ·rw[if_pos c0] at hP;subst hP;have hc0:(40:Int)<(l.length:Int):=by omega
  (simp(disch:=first|decide|omega|(intros;exact rfl)|simp only[aa]) only[aS,NI,q0,decide_eq_true hc0,go_sem,seval,aq])
  try simp[trim]
 ·rw[if_neg c0] at hP;have hc0:¬ (40:Int)<(l.length:Int):=by omega
  (simp(disch:=first|decide|omega|(intros;exact rfl)|simp only[aa]) only[aS,NI,q0,decide_eq_false hc0,go_sem,seval,aq])
  refine aI (m:=0) (σ:=Nat × Sto) (fun t=>l.length-t.1) (fun t=>t.1<=l.length∧PI t.1 t.2∧P=tA seg t.1 (l.drop t.1) t.2) (fun t=>[vi seg,vl (l.map Ac.enc),V.one (.p 0 0),V.one (.p 1 0),vi t.1])
   (fun t=>[.cells [.ns,.d (.i .i64 0),.d (.b false),.d (.i .i64 0),.d (.b false),.d (.i .i64 0),.ns,.d (.i .i64 0),.d (.i .i64 0),.d (.i .i64 0),.d (.i .u32 0)],.cells [.d (.l (t.2.disk.files.map Fil.enc)),.d (.i .i64 t.2.disk.cap),.d (.b t.2.disk.armed),.d (.i .i64 t.2.disk.left),.d (.b t.2.disk.down),.d (.i .i64 t.2.ver),.d (.l (t.2.segs.map Seg.enc)),.d (.i .i64 t.2.next),.d (.i .i64 t.2.sure),.d (.i .i64 t.2.size),.d (.i .u32 t.2.sum)]]) (fun _=>(V.tup [(true,[.d (.l (P.1.disk.files.map Fil.enc)),.d (.i .i64 P.1.disk.cap),.d (.b P.1.disk.armed),.d (.i .i64 P.1.disk.left),.d (.b P.1.disk.down),.d (.i .i64 P.1.ver),.d (.l (P.1.segs.map Seg.enc)),.d (.i .i64 P.1.next),.d (.i .i64 P.1.sure),.d (.i .i64 P.1.size),.d (.i .u32 P.1.sum)]),(false,[.d (.b P.2)])],[])) ?_ (0,st0) ⟨Nat.zero_le _,hp0,hP⟩ _ _ ?_
  rotate_left
  ·exact cG
  rintro⟨i,s⟩ ⟨h1,h2,h3⟩ R hR;simp only at h1 h2 h3 ⊢;by_cases c1:i<l.length
  ·have hc1:(i:Int)<(l.length:Int):=by omega
   rw[List.drop_eq_getElem_cons c1,tA] at h3;have g1:(l.map Ac.enc)[i]?=some l[i].enc:=by rw[List.getElem?_map,List.getElem?_eq_getElem c1];rfl
   have haa:=ha _ (List.getElem_mem c1);have hnx:=zR h2 (by omega) seg l[i] haa
   obtain⟨a,hae⟩:∃ a,a=l[i]:=⟨_,rfl⟩;rw[<- hae] at g1 h3 haa hnx;have ho:=h2.ok;by_cases c2:64<a.data.length
   ·rw[if_pos c2] at h3;subst h3;obtain⟨ak,an,am,ad⟩:=a;simp only[Ac.enc] at g1 c2;have hc2:(64:Int)<(ad.length:Int):=by omega
    (simp(disch:=first|decide|omega|(intros;exact rfl)|simp only[aa]) only[aS,qo,decide_eq_true hc1,g1,decide_eq_true hc2,go_sem,seval,aq,cw,A.kind,A.xs,aP,A.isN])
    try simp[trim]
   ·rw[if_neg c2] at h3;have hR':=hR (i+1,sj seg i s a) (by simp only[];omega) ⟨by simp only[];omega,hnx,by simp only[];rw[Int.natCast_add,Int.natCast_one];exact h3⟩
    have hnn:=ho.next;have q1:=uY s ho (by omega) (by omega)
    have hfl:=yD ho;have q2:=AS s ho (by omega) (by omega) a.n a.m (fun g hg=>by have:=h2.base g hg;have:=h2.next;omega)
    have q3:=xA s.disk a.n haa.2.1;have q4:=F9 s.disk a.n haa.2.1;have q5:=qj s ho (by omega) (by omega) seg ⟨s.next,i,a.data⟩ ⟨by simp only[];omega,by simp only[];omega,haa.2.2.2⟩
    have hc2:¬ (64:Int)<(a.data.length:Int):=by omega
    unfold sj at hR';generalize a8 s=r1 at *;generalize dk s a.n a.m=r2 at *;generalize j0 s.disk a.n=r3 at *;generalize HC s.disk a.n=r4 at *;generalize gd s seg ⟨s.next,i,a.data⟩=r5 at *;obtain⟨ak,an,am,ad⟩:=a;obtain⟨⟨fl,cp,ar,lf,dn⟩,ver,segs,next,sure,size,sum⟩:=s;simp only[Ac.enc,Dsk.l,cM,hcell,Rec.enc,List.map_cons,List.map_nil] at g1 hc2 q1 q2 q3 q4 q5 hR';by_cases k1:ak=1
    ·subst k1;rw[if_pos rfl] at hR';(simp(disch:=first|decide|omega|(intros;exact rfl)|simp only[aa]) only[aS,qo,decide_eq_true hc1,g1,decide_eq_false hc2,q1,go_sem,seval,aq,cw,A.kind,A.xs,aP,A.isN])
     exact hR' _ _ cG
    ·rw[if_neg k1] at hR';by_cases k2:ak=2
     ·subst k2;rw[if_pos rfl] at hR';(simp(disch:=first|decide|omega|(intros;exact rfl)|simp only[aa]) only[aS,qo,decide_eq_true hc1,g1,decide_eq_false hc2,q2,go_sem,seval,aq,cw,A.kind,A.xs,aP,A.isN])
      exact hR' _ _ cG
     ·rw[if_neg k2] at hR';by_cases k3:ak=3
      ·subst k3;rw[if_pos rfl] at hR';(simp(disch:=first|decide|omega|(intros;exact rfl)|simp only[aa]) only[aS,qo,decide_eq_true hc1,g1,decide_eq_false hc2,q3,go_sem,seval,aq,cw,A.kind,A.xs,aP,A.isN])
       exact hR' _ _ cG
      ·rw[if_neg k3] at hR';by_cases k4:ak=4
       ·subst k4;rw[if_pos rfl] at hR';(simp(disch:=first|decide|omega|(intros;exact rfl)|simp only[aa]) only[aS,qo,decide_eq_true hc1,g1,decide_eq_false hc2,q4,go_sem,seval,aq,cw,A.kind,A.xs,aP,A.isN])
        exact hR' _ _ cG
       ·rw[if_neg k4] at hR';(simp(disch:=first|decide|omega|(intros;exact rfl)|simp only[aa]) only[aS,qo,decide_eq_true hc1,g1,decide_eq_false hc2,k1,k2,k3,k4,q5,go_sem,seval,aq,cw,A.kind,A.xs,aP,A.isN])
        exact hR' _ _ cG
  ·have hc1:¬ (i:Int)<(l.length:Int):=by omega
   rw[List.drop_eq_nil_of_le (by omega),tA] at h3
   subst h3;(simp(disch:=first|decide|omega|(intros;exact rfl)|simp only[aa]) only[aS,qo,NI,decide_eq_false hc1,go_sem,seval,aq,cw,A.kind,A.xs,aP,A.isN])
   try simp[trim]
variable {k u:Nat} {f:Int} {S:Txt} {l0:List Pr} {s:Sto} {M:List SR} {g:Seg} {l:List Rec}
theorem Ak {d:Dsk} (hs:srt d.files) (hF:d.down=false->∀ n,fm d.files n=none) :
  Out d ((aR d).1.disk,(aR d).2) [fileN 0,[110]] (up (up (fm d.files) (fileN 0) (some ([],0))) [109] (manV ⟨1,[0],0,0⟩)) (some (up (fm d.files) (fileN 0) (some ([],0)))) ∧
   ((aR d).2=0->(aR d).1=⟨(aR d).1.disk,1,[⟨0,0,0⟩],0,0,0,0⟩)∧((aR d).2≠0->(aR d).1=⟨(aR d).1.disk,0,[],0,0,0,0⟩):=by
 have e1:bQ (fileN 0) (d,0)=au d (bP d.files (fileN 0)):=bO _ _;have hO:Out d (if(au d (bP d.files (fileN 0))).2=0 then bR ⟨1,[0],0,0⟩ (au d (bP d.files (fileN 0))) else au d (bP d.files (fileN 0))) [fileN 0,[110]] (up (up (fm d.files) (fileN 0) (some ([],0))) [109] (manV ⟨1,[0],0,0⟩)) (some (up (fm d.files) (fileN 0) (some ([],0)))):=by
  by_cases hd:d.down=true
  ·rw[lQ hd,if_neg (by simp)]
   exact .dn hs hd _ _ _
  ·have hF:=hF (by simpa using hd)
   refine Out.seq (qY hs (F7 0) (hF _)) (g1:=none) (g2:=some (up (fm d.files) (fileN 0) (some ([],0)))) ?_ ?_ (by simp) (X2:=[[110]]) (by simp) (by simp) (by simp)
   ·intro h0 hd1 hf1 hs1;rw[gj h0];have h3:=r6 hs1 (m:=⟨1,[0],0,0⟩) (by decide) (fun _=>by rw[hf1,bW _ _ (Ev _ (by rw[cq];decide)).symm];exact hF _)
    rw[hf1] at h3;exact h3
   ·intro n hn;exact bW _ _ (fun e=>hn (by simp[e]))
 unfold aR;simp only[e1];generalize (if(au d (bP d.files (fileN 0))).2=0 then bR ⟨1,[0],0,0⟩ (au d (bP d.files (fileN 0))) else au d (bP d.files (fileN 0)))=w at *
 by_cases c:w.2=0
 ·rw[if_pos c];refine⟨?_,fun _=>rfl,fun h=>absurd rfl h⟩
  rw[gj c] at hO;exact hO
 ·rw[if_neg c];exact⟨hO,fun h=>absurd h c,fun _=>rfl⟩
theorem CZ {d:Dsk} (hs:srt d.files) (hF:d.down=false->∀ n,fm d.files n=none) (h0:(aR d).2=0):WR 0 [] [] (aR d).1 []∧(aR d).1.disk.down=false:=by
 have hc:=Ak hs hF;obtain⟨hO,he,_⟩:=hc;have he:=he h0;rcases hO.2.2 with⟨_,hd,hf⟩|⟨_,_,e,_⟩|⟨e,_⟩
 ·have hdn:=hO.1.up_of hd;have hF:=hF hdn;have hd2:(aR d).1.disk.down=false:=hd;refine⟨⟨[],⟨0,0,0⟩,[],?_,rfl⟩,hd2⟩;rw[he];generalize (aR d).1.disk=w at *;refine⟨⟨rfl,fun p hp=>?_,rfl,rfl,by simp⟩,.inl ⟨rfl,rfl,rfl,rfl,rfl⟩,?_,(show manB ⟨1,[0],0,0⟩=true by decide),fun p hp=>(by cases hp),⟨0,?_,by simp[rowS],by simp⟩,Int.le_refl _,fun _ n hn=>?_⟩
  ·rw[List.nil_append,List.mem_singleton] at hp;subst hp;refine⟨(kJ hO.2.1 _ _).2 ⟨0,?_⟩,fun r hr=>(by cases hr),fun i hi=>(by simp at hi),rfl,rfl⟩
   rw[hf,bW _ _ (m0 _ (by rw[cq];decide)),dS];rfl
  ·rw[hf,dS];rfl
  ·rw[hf,bW _ _ (m0 _ (by rw[cq];decide)),dS];rfl
  ·rw[hf] at hn;by_cases a1:n=[109]
   ·exact .inl a1
   ·rw[bW _ _ a1] at hn;by_cases a2:n=fileN 0
    ·exact .inr (.inl ⟨⟨0,0,0⟩,by simp,a2⟩)
    ·rw[bW _ _ a2,hF] at hn;exact absurd rfl hn
 ·exact absurd h0 (by rw[show(aR d).2=9 from e];decide)
 ·exact absurd h0 (by rw[show(aR d).2=10 from e];decide)
theorem WR.sync {R:List Rec} (ho:okS k u s) (h:WR f S l0 s R):WR f S l0 (a8 s).1 R∧(((a8 s).2=0∧(a8 s).1.sure=s.next∧(a8 s).1.disk.down=false)∨((a8 s).2=10∧(a8 s).1.disk.down=true∧(a8 s).1.sure=s.sure))∧(a8 s).1.disk.cap=s.disk.cap:=by
 obtain⟨M,g,l,h,rfl⟩:=h;have:=h.sync ho;exact⟨⟨M,g,l,this.1,rfl⟩,this.2⟩
def LW (s:Sto):Prop:=∃ f S l0 R,WR f S l0 s R
theorem Gf:LW (aR d0).1:=⟨_,_,_,_,(CZ d0_ok.srt (fun _ _=>rfl) HA).1⟩
theorem KZ {i:Nat} (hp:PI i s) (hi:i<40) (h:LW s) {seg:Int} (hseg:1<=seg) (a:Ac):LW (sj seg i s a):=by
 obtain⟨f,S,l0,R,h⟩:=h;unfold sj;split
 ·exact⟨_,_,_,_,(h.sync hp.ok).1⟩
 ·split
  ·obtain⟨f',S',l',_,_,_,h,_⟩:=h.trim hp.ok (by omega) a.n a.m
   exact⟨_,_,_,_,h⟩
  ·split
   ·obtain⟨M,g,l,h,e⟩:=h;exact⟨_,_,_,_,M,g,l,h.arm hp.ok.dsk.srt _,e⟩
   ·split
    ·obtain⟨M,g,l,h,e⟩:=h;exact⟨_,_,_,_,M,g,l,h.lim hp.ok.dsk.srt _,e⟩
    ·rcases(h.app hp.ok hseg (by omega) ⟨s.next,i,a.data⟩).2.2 with⟨_,_,_,_,_,h⟩|⟨h,_⟩
     ·exact⟨_,_,_,_,h⟩
     ·exact⟨_,_,_,_,h⟩
theorem Bt {seg:Int} (hseg:1<=seg):∀ (l:List Ac) (i:Nat) (s:Sto),(∀ a∈l,a.ok)->i+l.length<=40->PI i s->LW s->LW (tA seg i l s).1
 | [],i,s,_,_,_,h=>h
 | a::l,i,s,ha,hl,hp,h=>by
  simp only[tA];split
  ·exact h
  ·have:=Bt hseg l (i+1) (sj seg i s a) (fun b hb=>ha b (by simp[hb])) (by simp at hl;omega) (zR hp (by simp at hl;omega) seg a (ha a (by simp))) (KZ hp (by simp at hl;omega) h hseg a)
   rw[Int.natCast_add,Int.natCast_one] at this;exact this
theorem I0 {seg:Int} (hseg:1<=seg) (l:List Ac) (ha:∀ a∈l,a.ok):LW (ku seg l).1:=by
 unfold ku;split
 ·exact Gf
 ·exact Bt hseg l 0 _ ha (by omega) new_PI Gf
variable {k u:Nat} {f:Int} {S:Txt} {l0:List Pr} {s:Sto} {M:List SR} {g:Seg} {l:List Rec}
theorem WR.stT {R:List Rec} (ho:okS k u s) (h:WR f S l0 s R) (off:Int) (h1:f<=off∧off<=s.next):bo s off=HY l0 f R off:=by
 obtain⟨M,g,l,h,rfl⟩:=h;exact h.stT ho off h1
theorem WR.why {R:List Rec} (h:WR f S l0 s R):∀ r∈R,whyF r=0:=by
 obtain⟨M,g,l,h,rfl⟩:=h;exact h.why
theorem WR.num {R:List Rec} (h:WR f S l0 s R):numB f R:=by
 obtain⟨M,g,l,h,rfl⟩:=h;exact h.inv.num
def GE:List Txt->Dsk->Dsk × Int
 | [],d=>(d,9)
 | n::l,d=>if(au d (bZ d.files n)).2≠0 then au d (bZ d.files n) else GE l (au d (bZ d.files n)).1
abbrev LR:=(Dsk × Int) × Nat × Nat × Nat
def u4 (n g:Txt) (m:Man) (d:Dsk):LR:=if(bR m (d,0)).2=9 then(GE [g,n] (bR m (d,0)).1,0,1,2) else(bR m (d,0),0,1,0)
def u3 (n g:Txt) (m:Man) (d:Dsk):LR:=if(au d (bP d.files g)).2≠0 then(au d (bP d.files g),0,0,0) else u4 n g m (au d (bP d.files g)).1
def u2 (n g:Txt) (m:Man) (d:Dsk):LR:=if(au d (cJ d.files n)).2≠0 then(au d (cJ d.files n),0,0,0) else u3 n g m (au d (cJ d.files n)).1
def u1 (n g x:Txt) (m:Man) (d:Dsk):LR:=if(au d (bV d.files d.cap n x)).2=9 then(GE [n] (au d (bV d.files d.cap n x)).1,1,0,0) else if(au d (bV d.files d.cap n x)).2≠0 then(au d (bV d.files d.cap n x),0,0,0) else u2 n g m (au d (bV d.files d.cap n x)).1
def u0 (n g x:Txt) (m:Man) (d:Dsk):LR:=if(au d (bP d.files n)).2≠0 then(au d (bP d.files n),0,0,0) else u1 n g x m (au d (bP d.files n)).1
theorem C7 (x:Txt) (hx:x.length<=1000000):call 106 [vl [[.s x]]] []=some (vk .u32 (qP x),[]):=by
 have h:=yi [x] (by simp) (fun s hs=>by rw[List.mem_singleton.1 hs];omega)
 have e:tB [x]=bT 0#32 x:=rfl;rw[e] at h;exact h
def exW:Txt:=[1,97,1,49]
variable {k u:Nat} {f:Int} {S:Txt} {l0:List Pr} {s:Sto} {M:List SR} {g:Seg} {l:List Rec}
variable {k u:Nat} {f:Int} {S:Txt} {l0:List Pr} {s:Sto} {M:List SR} {g:Seg} {l:List Rec}
theorem oJ {l:List Fil} {a b:Fil} (h:srt (a::l)) (hb:b∈l):bl a.name b.name=true:=(List.pairwise_cons.1 h).1 b hb
theorem zh:∀ (l l':List Fil),srt l->srt l'->fm l=fm l'->l=l'
 | [],[],_,_,_=>rfl
 | [],b::l',_,hs',h=>by
  have:=congrFun h b.name;rw[show fm (b::l') b.name=some (b.data,b.sure) by simp[fm]] at this
  simp[fm] at this
 | a::l,[],hs,_,h=>by
  have:=congrFun h a.name;rw[show fm (a::l) a.name=some (a.data,a.sure) by simp[fm]] at this
  simp[fm] at this
 | a::l,b::l',hs,hs',h=>by
  have ha:fm (a::l) a.name=some (a.data,a.sure):=by simp[fm]
  have hb:fm (b::l') b.name=some (b.data,b.sure):=by simp[fm]
  have e:a.name=b.name:=by
   rcases rP a.name b.name with c|c|c
   ·have h1:fm (b::l') a.name=none:=by
     rw[iC];intro x hx e;rcases List.mem_cons.1 hx with rfl|hx
     ·rw[e,fG] at c;cases c
     ·have:=lF c (oJ hs' hx);rw[e,fG] at this;cases this
    rw[<- h,ha] at h1;cases h1
   ·exact c
   ·have h1:fm (a::l) b.name=none:=by
     rw[iC];intro x hx e;rcases List.mem_cons.1 hx with rfl|hx
     ·rw[e,fG] at c;cases c
     ·have:=lF c (oJ hs hx);rw[e,fG] at this;cases this
    rw[h,hb] at h1;cases h1
  have hd:a=b:=by
   have:=congrFun h a.name;rw[ha,e,hb] at this;obtain⟨an,ad,as'⟩:=a;obtain⟨bn,bd,bs⟩:=b;simp only[Option.some.injEq,Prod.mk.injEq] at this e;rw[e,this.1,this.2]
  subst hd;have hn:fm l a.name=none:=iC.2 fun x hx e=>by
   have:=oJ hs hx;rw[e,fG] at this;cases this
  have hn':fm l' a.name=none:=iC.2 fun x hx e=>by
   have:=oJ hs' hx;rw[e,fG] at this;cases this
  have h1:fm (a::l)=up (fm l) a.name (some (a.data,a.sure)):=th [] a l (by simp)
  have h2:fm (a::l')=up (fm l') a.name (some (a.data,a.sure)):=th [] a l' (by simp)
  have h3:fm l=fm l':=by
   funext k
   by_cases c:k=a.name
   ·rw[c,hn,hn']
   ·have:=congrFun h k;rw[h1,h2,bW _ _ c,bW _ _ c] at this;exact this
  rw[zh l l' (List.pairwise_cons.1 hs).2 (List.pairwise_cons.1 hs').2 h3]
theorem Dk.same {d d':Dsk} (h:Dk d d') (hs:srt d.files) (hs':srt d'.files) (hf:fm d'.files=fm d.files) (ha:d.armed=false) (hd:d.down=false):d'=d:=by
 have h1:=h.idle ha hd;have h2:=zh _ _ hs' hs hf;obtain⟨a,b,c,e,q⟩:=d;obtain⟨a',b',c',e',q'⟩:=d';have h3:=h.cap;have h4:=h.armed;simp only at h1 h2 h3 h4 hd;rw[h2,h3,h4,h1.2,h1.1,hd]
def uq (b:Txt):Nat->Nat->List Nat->Option (List Nat × Nat)
 | 0,a,l=>some (l,a)
 | n+1,a,l=>match jx (b.drop a) 0 0 with
  | some (v,j)=>uq b n (a+j) (l++[v])
  | none=>none
def nN:Txt->Int
 | [a,b,c,d]=>(a.toNat+256*(b.toNat+256*(c.toNat+256*d.toNat)):Nat)
 | _=>0
def uL (b:Txt):Man:=match uq b 2 0 [] with
 | some ([v,n],a)=>match uq b (min n 64+1) a [] with
  | some (l,a2)=>⟨v,l.dropLast.map Int.ofNat,((l.getLastD 0:Nat):Int),nN (b.drop a2)⟩
  | none=>⟨0,[],0,0⟩
 | _=>⟨0,[],0,0⟩
def j4 (s:Txt):Option Man:=if manB (uL (cr s 0).1)=true∧bC (uL (cr s 0).1)=s then some (uL (cr s 0).1) else none
theorem sE:∀ (vs:List Nat) (pre rest:Txt) (l:List Nat),(∀ v∈vs,v<9223372036854775808)->uq (pre++(vs.flatMap ah++rest)) vs.length pre.length l=some (l++vs,(pre++vs.flatMap ah).length)
 | [],pre,rest,l,_=>by simp[uq]
 | v::vs,pre,rest,l,h=>by
  have e:pre++((v::vs).flatMap ah++rest)=(pre++ah v)++(vs.flatMap ah++rest):=by simp
  have hd:(pre++((v::vs).flatMap ah++rest)).drop pre.length=ah v++(vs.flatMap ah++rest):=by
   rw[List.drop_left];simp
  have hr:=jR v (vs.flatMap ah++rest) (h v (by simp))
  have ih:=sE vs (pre++ah v) rest (l++[v]) (fun x hx=>h x (by simp[hx]))
  have hl:(pre++ah v).length=pre.length+nd v:=by rw[List.length_append];rfl
  rw[List.length_cons,uq,hd,hr];simp only[];rw[e,<- hl,ih];simp
theorem um (x:iw):nN (cP x)=((x.toNat:Nat):Int):=by
 have h:=EC x;have e:cP x=[UInt8.ofNat x.toNat,UInt8.ofNat (x >>> 8).toNat,UInt8.ofNat (x >>> 16).toNat,UInt8.ofNat (x >>> 24).toNat]:=rfl;rw[e] at h ⊢;simp only[nN];have h2:x.toNat=(UInt8.ofNat x.toNat).toNat+256*(UInt8.ofNat (x >>> 8).toNat).toNat+65536*(UInt8.ofNat (x >>> 16).toNat).toNat+16777216*(UInt8.ofNat (x >>> 24).toNat).toNat:=h;omega
theorem BA {m:Man} (hm:m.ok):(((gT m).toNat:Nat):Int)=m.sum:=by
 have:=hm.sum;unfold gT;rw[BitVec.toNat_ofNat];omega
theorem yo {m:Man} (h:manB m=true):cr (bC m) 0=(bB m,(bC m).length,0):=by
 have hb:=jz h;have:=qg [] (bB m) [] hb.1 (by omega)
 simp only[List.nil_append,List.append_nil,List.length_nil,Nat.zero_add] at this;exact this
theorem Ec (l:List Int):ba l=(l.map Int.toNat).flatMap ah:=by
 unfold ba;rw[List.flatMap_map]
theorem Ga {m:Man} (h:manB m=true) (hm:m.ok):uL (bB m)=m:=by
 obtain⟨h1,h2,h3,h4⟩:=dN h;have hin:=eB _ _ h3;have hb:bB m=[]++(([m.ver.toNat,m.segs.length]:List Nat).flatMap ah++((m.segs.map Int.toNat++[m.size.toNat]).flatMap ah++cP (gT m))):=by
  unfold bB;rw[Ec];simp
 have n1:=sE [m.ver.toNat,m.segs.length] [] ((m.segs.map Int.toNat++[m.size.toNat]).flatMap ah++cP (gT m)) [] (by
  intro v hv;simp only[List.mem_cons,List.mem_nil_iff,or_false] at hv;rcases hv with rfl|rfl <;> omega)
 have n2:=sE (m.segs.map Int.toNat++[m.size.toNat]) (([m.ver.toNat,m.segs.length]:List Nat).flatMap ah) (cP (gT m)) [] (by
  intro v hv;rw[List.mem_append,List.mem_map,List.mem_singleton] at hv;rcases hv with⟨a,ha,rfl⟩|rfl
  ·have:=hin a ha;omega
  ·omega)
 have hb2:bB m=([m.ver.toNat,m.segs.length]:List Nat).flatMap ah++((m.segs.map Int.toNat++[m.size.toNat]).flatMap ah++cP (gT m)):=by rw[hb];simp
 rw[<- hb] at n1;rw[<- hb2] at n2;have hl2:([m.ver.toNat,m.segs.length]:List Nat).length=2:=rfl;rw[hl2] at n1;simp only[List.nil_append,List.length_nil] at n1 n2;have hmin:min m.segs.length 64+1=(m.segs.map Int.toNat++[m.size.toNat]).length:=by simp;omega
 unfold uL;rw[n1];simp only[hmin,n2];have hd:(bB m).drop (([m.ver.toNat,m.segs.length]:List Nat).flatMap ah++(m.segs.map Int.toNat++[m.size.toNat]).flatMap ah).length=cP (gT m):=by
  rw[hb2,<- List.append_assoc,List.drop_left]
 rw[hd,um,BA hm];have hsg:(m.segs.map Int.toNat++[m.size.toNat]).dropLast.map Int.ofNat=m.segs:=by
  rw[List.dropLast_concat,List.map_map];conv=>rhs;rw[<- List.map_id m.segs]
  apply List.map_congr_left;intro a ha;have:=hin a ha;show((a.toNat:Nat):Int)=a;omega
 rw[hsg];have hsz:(((m.segs.map Int.toNat++[m.size.toNat]).getLastD 0:Nat):Int)=m.size:=by
  simp[List.getLastD_eq_getLast?];omega
 rw[hsz];have hvv:((m.ver.toNat:Nat):Int)=m.ver:=by omega
 rw[hvv]
theorem xX {m:Man} (h:manB m=true) (hm:m.ok):j4 (bC m)=some m:=by
 unfold j4;rw[yo h];simp only[Ga h hm];rw[if_pos ⟨h,trivial⟩]
theorem mo {s:Txt} {m:Man} (h:j4 s=some m):manB m=true∧bC m=s:=by
 unfold j4 at h;split at h
 ·rename_i hc;cases h;exact hc
 ·cases h
def cX (m:Man):List Int:=m.ver::(m.segs.length:Int)::m.segs++[m.size]
theorem FZ (m:Man):(cX m).length=m.segs.length+3:=by simp[cX]
theorem ud (m:Man):bB m=ba (cX m)++cP (gT m):=rfl
theorem BK {m:Man} (h:manB m=true):∀ v∈cX m,0<=v∧v<9223372036854775808:=by
 obtain⟨h1,h2,h3,h4⟩:=dN h;have hin:=eB _ _ h3;intro v hv;simp only[cX,List.cons_append,List.mem_cons,List.mem_append,List.mem_nil_iff,or_false] at hv;rcases hv with rfl|rfl|hv|rfl
 ·omega
 ·omega
 ·have:=hin v hv;omega
 ·omega
theorem nE (x:Int) (r:List Int):ba (x::r)=ah x.toNat++ba r:=by simp[ba]
theorem Gj {m:Man} (h:manB m=true) (j:Nat) (hj:j<(cX m).length):jx ((bB m).drop (ba ((cX m).take j)).length) 0 0=some ((cX m)[j].toNat,nd (cX m)[j].toNat)∧(ba ((cX m).take (j+1))).length=(ba ((cX m).take j)).length+nd (cX m)[j].toNat:=by
 have hv:=BK h _ (List.getElem_mem hj);have e:bB m=ba ((cX m).take j)++(ah (cX m)[j].toNat++(ba ((cX m).drop (j+1))++cP (gT m))):=by
  have e2:cX m=(cX m).take j++(cX m)[j]::(cX m).drop (j+1):=by rw[<- List.drop_eq_getElem_cons hj,List.take_append_drop]
  have e3:ba (cX m)=ba ((cX m).take j)++(ah (cX m)[j].toNat++ba ((cX m).drop (j+1))):=by
   conv=>lhs;rw[e2]
   rw[kB,nE]
  rw[ud,e3];simp
 constructor
 ·rw[e,List.drop_left];exact jR _ _ (by omega)
 ·rw[List.take_succ_eq_append_getElem hj,kB,List.length_append];simp[ba];rfl
def qG:List L:=[.d (.i .i64 0),.d (.l []),.d (.i .i64 0),.d (.i .u32 0)]
def Cj (m:Man):V:=.tup [(true,m.l),(false,[.d (.i .i64 0)])]
def tO (e:Int):V:=.tup [(true,qG),(false,[.d (.i .i64 e)])]
def eT (n:Txt):List D:=[.s n]
def du (l:List Fil):List Txt:=l.map Fil.name
def fZ (use:List Txt) (n:Txt):Bool:=use.any fun u=>decide (u=n)
def kM (use l:List Txt) (s:Dsk × Int):Dsk × Int:=wS (l.filter fun n => !fZ use n) s
theorem qC (use l:List Txt) (n:Txt) (s:Dsk × Int):kM use (n::l) s=if fZ use n=true then kM use l s else kM use l (cN n s):=by
 unfold kM;by_cases c:fZ use n=true
 ·rw[if_pos c,List.filter_cons_of_neg (by simp[c])]
 ·rw[if_neg c,List.filter_cons_of_pos (by simpa using c),tw]
def aV (use:List Txt) (d:Dsk):Dsk × Int:=kM use (du d.files) (d,0)
def kI (l:List Fil) (n:Txt) (k:Int):List Fil × Int:=if bz l n=true then(if k<0∨((aC l n).1.length:Nat)<k then([],6) else(mY l (aw l n) (fun f=>{ f with data:=f.data.take k.toNat,sure:=if k<f.sure then k else f.sure }),0)) else([],7)
def Eh (l:List Fil) (i:Nat):List (List D):=(l.take i).map (fun f=>[D.s f.name])++List.replicate (l.length-i) [D.s []]
theorem IZ (l:List Fil) (i:Nat) (h:i<=l.length):(Eh l i).length=l.length:=by simp[Eh];omega
theorem HT (l:List Fil) (i:Nat) (h:i<l.length):(Eh l i).set i [.s l[i].name]=Eh l (i+1):=by
 unfold Eh;obtain⟨k,hk⟩:∃ k,l.length-i=k+1:=⟨l.length-i-1,by omega⟩
 have hk2:l.length-(i+1)=k:=by omega
 have hl:((l.take i).map (fun f=>[D.s f.name])).length=i:=by simp;omega
 rw[hk,hk2,List.take_succ_eq_append_getElem h,List.map_append,List.set_append,if_neg (by omega),hl,Nat.sub_self,List.replicate_succ,List.set_cons_zero,List.append_assoc]
 try rfl
theorem Kl (l:List Fil) (i:Nat) (h:i<l.length):(Eh l i)[i]?=some [D.s []]:=by
 unfold Eh;have hl:((l.take i).map (fun f=>[D.s f.name])).length=i:=by simp;omega
 rw[List.getElem?_append_right (by omega),hl,Nat.sub_self]
 obtain⟨k,hk⟩:∃ k,l.length-i=k+1:=⟨l.length-i-1,by omega⟩
 rw[hk];rfl
theorem qA (d:Dsk) (hl:d.files.length<=1000000):call 49 [.agg d.l] []=some (vl ((du d.files).map eT),[]):=by
 have hZ:∃ Z,Z=vl ((du d.files).map eT):=⟨_,rfl⟩;obtain⟨Z,hZ⟩:=hZ;rw[<- hZ];obtain⟨fl,cp,ar,lf,dn⟩:=d;simp only[Dsk.l] at hl hZ ⊢;have h0:List.replicate fl.length [D.s []]=Eh fl 0:=by simp[Eh]
 apply ai Q6 rfl;(simp(disch:=first|decide|omega|(intros;exact rfl)|simp only[aa]) only[aS,Ot,List.length_map,h0,go_sem,seval,aq])
 refine aI (m:=0) (σ:=Nat) (fun i=>fl.length-i) (fun i=>i<=fl.length) (fun i=>[V.one (.sl 0 1 0 fl.length),vl (fl.map Fil.enc),vi fl.length,vi i])
  (fun i=>[.arr 1 (Eh fl i) 0]) (fun _=>(Z,[])) ?_ 0 (Nat.zero_le _) _ _ cG
 intro i h1 R hR;have hln:=IZ fl i h1;by_cases hi:i<fl.length
 ·have hc:(i:Int)<(fl.length:Int):=by omega
  have g1:(fl.map Fil.enc)[i]?=some fl[i].enc:=by rw[List.getElem?_map,List.getElem?_eq_getElem hi];rfl
  have hR':=hR (i+1) (by omega) (by omega)
  rw[<- HT fl i hi] at hR';generalize fl[i]=f at *;obtain⟨a,b,c⟩:=f;simp only[Fil.enc] at g1 hR';(simp(disch:=first|decide|omega|(intros;exact rfl)|simp only[aa]) only[aS,FG,decide_eq_true hc,g1,hln,Kl fl i hi,go_sem,seval,aq])
  exact hR' _ _ cG
 ·have hc:¬ (i:Int)<(fl.length:Int):=by omega
  have hil:i=fl.length:=by omega
  subst hil;have htk:List.take fl.length (Eh fl fl.length)=(du fl).map eT:=by
   rw[List.take_of_length_le (by omega)];simp[Eh,du];intro a _;rfl
  rw[hZ];(simp(disch:=first|decide|omega|(intros;exact rfl)|simp only[aa]) only[aS,FG,Ot,decide_eq_false hc,htk,hln,go_sem,seval,aq])
  try simp[trim]
set_option maxRecDepth 8000 in
theorem CA (l:List Fil) (hl:l.length<=1000000) (hu:usedF l<=1000000000000) (n:Txt) (k:Int):∃ B:Box,(∀ ρ,B.ren ρ=B)∧call 108 [.one (.sl 0 3 0 l.length),vi (aw l n:Nat),vb (bz l n),.one (.p 1 0)] [.arr 3 (l.map Fil.enc) 0,.cells [.d (.i .i64 k)]]=some (lD (kI l n k).1 (kI l n k).2,[B,.cells [.d (.i .i64 k)]]):=by
 unfold kI lD;cases c:bz l n with
 | false =>
  refine⟨.arr 3 (l.map Fil.enc) 0,fun _=>rfl,?_⟩
  apply ai Il rfl;(simp(disch:=first|decide|omega|(intros;exact rfl)|simp only[aa]) only[GF,go_sem,seval,aq])
  try simp[trim,V.refs,L.refs,Box.refs]
 | true =>
  obtain⟨hp,hnm⟩:=bL c;have hrd:(aC l n).1=l[aw l n].data:=by
   unfold aC;rw[List.getElem?_eq_getElem hp];simp only[if_pos hnm]
  rw[gL hp,hrd];obtain⟨p,hk⟩:∃ p,p=aw l n:=⟨_,rfl⟩;simp only[<- hk,if_true] at hp hnm ⊢;have hle:=mX l p hp;have g1:(l.map Fil.enc)[p]?=some l[p].enc:=by simp[hp]
  by_cases c1:k<0
  ·refine⟨.arr 3 (l.map Fil.enc) 0,fun _=>rfl,?_⟩
   apply ai Il rfl;rw[if_pos (.inl c1)];(simp(disch:=first|decide|omega|(intros;exact rfl)|simp only[aa]) only[GF,c1,go_sem,seval,aq])
   try simp[trim,V.refs,L.refs,Box.refs]
  ·by_cases c2:((l[p].data.length:Nat):Int)<k
   ·refine⟨.arr 3 (l.map Fil.enc) 0,fun _=>rfl,?_⟩
    apply ai Il rfl;rw[if_pos (.inr c2)];(simp(disch:=first|decide|omega|(intros;exact rfl)|simp only[aa]) only[GF,c1,c2,g1,Fil.len,Fil.at1,Fil.ix1,go_sem,seval,aq])
    try simp[trim,V.refs,L.refs,Box.refs]
   ·rw[if_neg (by omega)]
    have hset:(l.map Fil.enc).set p (Fil.enc { l[p] with data:=l[p].data.take k.toNat,sure:=if k<l[p].sure then k else l[p].sure })=(l.set p { l[p] with data:=l[p].data.take k.toNat,sure:=if k<l[p].sure then k else l[p].sure }).map Fil.enc:=by rw[List.map_set]
    refine⟨.arr 3 ((l.set p { l[p] with data:=l[p].data.take k.toNat,sure:=if k<l[p].sure then k else l[p].sure }).map Fil.enc) l.length,fun _=>rfl,?_⟩
    apply ai Il rfl;have hll:((l.set p { l[p] with data:=l[p].data.take k.toNat,sure:=if k<l[p].sure then k else l[p].sure }).map Fil.enc).length=l.length:=by simp
    have htk:((l.set p { l[p] with data:=l[p].data.take k.toNat,sure:=if k<l[p].sure then k else l[p].sure }).map Fil.enc).take l.length=(l.set p { l[p] with data:=l[p].data.take k.toNat,sure:=if k<l[p].sure then k else l[p].sure }).map Fil.enc:=List.take_of_length_le (by simp)
    have c0':(0:Int)<=k:=by omega
    have hlen:(l.map Fil.enc).length=l.length:=by simp
    generalize (l.set p { l[p] with data:=l[p].data.take k.toNat,sure:=if k<l[p].sure then k else l[p].sure }).map Fil.enc=Q at *
    generalize l[p]=f at *;obtain⟨fn,fd,fs⟩:=f;simp only[Fil.enc] at g1 hset c2;have gg:∀ r,(List.set (l.map Fil.enc) p r)[p]?=some r:=fun r=>by rw[List.getElem?_set_self (by simpa using hp)]
    have hss:∀ a b,(List.set (List.set (l.map Fil.enc) p a) p b)=List.set (l.map Fil.enc) p b:=fun a b=>List.set_set _
    (simp(disch:=first|decide|omega|(intros;exact rfl)|simp only[aa]) only[aS,GF,c1,c2,g1,gg,hss,hset,hll,htk,hlen,List.length_set,go_sem,seval,aq])
    try simp[trim,V.refs,L.refs,Box.refs]
theorem GK (d:Dsk) (hd:d.ok) (n:Txt) (k:Int):call 58 [.agg d.l,vs n,vi k] []=some (bu (au d (kI d.files n k)),[]):=by
 apply ai P9 rfl;have h0:=vQ d hd.len hd.srt hd.left n 108 [.d (.i .i64 k)] rfl (kI d.files n k).1 (kI d.files n k).2 (fun D R=>by
  obtain⟨B,hB,h⟩:=CA d.files hd.len hd.used n k;exact⟨B,fun _ _=>aU (ids:=[4,0]) rfl rfl rfl h (by simp[bU,hB,lD,V.ren,L.ren,pI])⟩)
 have h:∀ D R:Box,az call 86 [.agg d.l,vs n,.one (.f 108 [1])] [D,.cells [.d (.i .i64 k)],R]=some (bu (au d (kI d.files n k)),[D,.cells [.d (.i .i64 k)],R]):=fun D R =>
  aU (ids:=[1]) rfl rfl rfl h0 rfl
 generalize au d (kI d.files n k)=r at *;obtain⟨⟨f2,cp2,ar2,lf2,dn2⟩,e2⟩:=r;obtain⟨fl,cp,ar,lf,dn⟩:=d;simp only[bu,Dsk.l] at h ⊢;(simp(disch:=first|decide|omega|(intros;exact rfl)|simp only[aa]) only[aS,PF,↓h,go_sem,seval,aq])
 try simp[trim]
def DE (b:Txt) (s:Nat × Bool):List L:=[.d (.s b),.d (.i .i64 s.1),.d (.b s.2)]
def ej (b:Txt) (s:Nat × Bool):Nat × (Nat × Bool):=if s.2=true then(0,s) else match jx (b.drop s.1) 0 0 with
 | some (v,j)=>(v,(s.1+j,false))
 | none=>(0,(0,true))
theorem fR (b:Txt) (hb:b.length<=1000000) (s:Nat × Bool) (hs:s.1<=1000000):call 102 [.one (.p 0 0)] [.cells (DE b s)]=some (vi (ej b s).1,[.cells (DE b (ej b s).2)]):=by
 obtain⟨a,e⟩:=s;unfold ej DE;simp only at hs ⊢;apply ai Pc rfl;cases e with
 | true =>
  (simp(disch:=first|decide|omega|(intros;exact rfl)|simp only[aa]) only[aS,JE,go_sem,seval,aq])
  try simp[trim,V.refs,L.refs,Box.refs]
 | false =>
  have q:=pP b a (by omega) (by omega)
  cases hr:jx (b.drop a) 0 0 with
  | none =>
   rw[hr] at q;simp only[jY] at q;(simp(disch:=first|decide|omega|(intros;exact rfl)|simp only[aa]) only[aS,JE,q,go_sem,seval,aq])
   try simp[trim,V.refs,L.refs,Box.refs]
  | some r =>
   obtain⟨v,j⟩:=r;rw[hr] at q;simp only[jY] at q;(simp(disch:=first|decide|omega|(intros;exact rfl)|simp only[aa]) only[aS,JE,q,go_sem,seval,aq])
   try simp[trim,V.refs,L.refs,Box.refs]
theorem mc (b:Txt) (s:Nat × Bool) (h:s.1<=b.length):(ej b s).2.1<=b.length∧(ej b s).1<9223372036854775808:=by
 unfold ej;split
 ·exact⟨h,by simp⟩
 ·cases hr:jx (b.drop s.1) 0 0 with
  | none=>exact⟨by simp,by simp⟩
  | some r =>
   obtain⟨v,j⟩:=r;have:=(fk hr).2.1;rw[List.length_drop] at this;exact⟨by simp only[];omega,xL hr⟩
def s0 (b:Txt) (s:Nat × Bool):Int × (Nat × Bool):=if s.2=true∨((b.length:Nat):Int)-(s.1:Nat)≠4 then(0,(s.1,true)) else(nN (b.drop s.1),s)
theorem OR (a b n:Nat) (ha:a<2 ^ n) (hb:b*2 ^ n+a<4294967296):cA .or (.i .u32 ((a:Nat):Int)) (.i .u32 ((b*2 ^ n:Nat):Int))=some (.i .u32 ((a+b*2 ^ n:Nat):Int)):=by
 simp only[cA,ne_eq,not_true_eq_false,if_false];have h1:∀ x:Nat,x<4294967296->BitVec.ofInt 32 ((x:Nat):Int)=BitVec.ofNat 32 x:=by
  intro x hx;apply BitVec.eq_of_toNat_eq;simp
 rw[show IntKind.u32.bits=32 from rfl,h1 _ (by omega),h1 _ (by omega)]
 have h2:(BitVec.ofNat 32 a ||| BitVec.ofNat 32 (b*2 ^ n)).toNat=a+b*2 ^ n:=by
  rw[BitVec.toNat_or,BitVec.toNat_ofNat,BitVec.toNat_ofNat,Nat.mod_eq_of_lt (by omega),Nat.mod_eq_of_lt (by omega),Nat.or_comm,<- Nat.shiftLeft_eq,<- Nat.shiftLeft_add_eq_or_of_lt ha,Nat.add_comm]
 rw[h2,lE (by omega)]
theorem Mz (c i:Nat) (hc:c<256) (hi:i<=3):cA .shl (.i .u32 ((c:Nat):Int)) (.i .u64 (8*((i:Nat):Int)))=some (.i .u32 ((c*2 ^ (8*i):Nat):Int))∧c*2 ^ (8*i)+2 ^ (8*i)<=4294967296:=by
 have h2:2 ^ (8*i)<=2 ^ 24:=Nat.pow_le_pow_right (by decide) (by omega)
 have h3:(c+1)*2 ^ (8*i)<=256*2 ^ 24:=Nat.mul_le_mul (by omega) h2
 have h4:(256:Nat)*2 ^ 24=4294967296:=by decide
 have h5:(c+1)*2 ^ (8*i)=c*2 ^ (8*i)+2 ^ (8*i):=by rw[Nat.add_mul,Nat.one_mul]
 refine⟨?_,by omega⟩
 have hp:0<2 ^ (8*i):=Nat.pow_pos (by decide)
 simp only[cA];rw[if_neg (by omega)]
 have e1:(8*((i:Nat):Int)).toNat=8*i:=by omega
 have e2:min (8*i) IntKind.u32.bits=8*i:=Nat.min_eq_left (by show 8*i<=32;omega)
 rw[e1,e2];have e3:((c:Nat):Int)*2 ^ (8*i)=((c*2 ^ (8*i):Nat):Int):=by simp
 rw[e3,lE (by omega)]
def sW (l:Txt) (i:Nat):Nat:=(List.range i).foldl (fun n j=>n+(l.getD j 0).toNat*2 ^ (8*j)) 0
theorem pd (l:Txt) (i:Nat):sW l (i+1)=sW l i+(l.getD i 0).toNat*2 ^ (8*i):=by
 unfold sW;rw[List.range_succ,List.foldl_append];rfl
theorem Bn (l:Txt):∀ i,sW l i<2 ^ (8*i)
 | 0=>by simp[sW]
 | i+1=>by
  have h:=Bn l i;have h1:=UInt8.toNat_lt (l.getD i 0);rw[pd];have h2:((l.getD i 0).toNat+1)*2 ^ (8*i)<=256*2 ^ (8*i):=Nat.mul_le_mul_right _ (by omega)
  have h3:2 ^ (8*(i+1))=256*2 ^ (8*i):=by rw[Nat.mul_add,Nat.pow_add,Nat.mul_comm]
  rw[Nat.add_mul,Nat.one_mul] at h2;omega
theorem Ff (l:Txt) (h:l.length=4):nN l=((sW l 4:Nat):Int):=by
 match l,h with
 | [a,b,c,d],_ =>
  simp only[nN,pd];simp[sW];omega
set_option maxRecDepth 8000 in
theorem uJ (b:Txt) (hb:b.length<=1000000) (s:Nat × Bool) (hs:s.1<=b.length):call 103 [.one (.p 0 0)] [.cells (DE b s)]=some (vk .u32 (s0 b s).1,[.cells (DE b (s0 b s).2)]):=by
 obtain⟨a,e⟩:=s;unfold s0 DE;simp only at hs ⊢;apply ai OT rfl;cases e with
 | true =>
  rw[if_pos (.inl rfl)];(simp(disch:=first|decide|omega|(intros;exact rfl)|simp only[aa]) only[aS,E1,go_sem,seval,aq])
  try simp[trim,V.refs,L.refs,Box.refs]
 | false =>
  by_cases c:((b.length:Nat):Int)-(a:Nat)=4
  ·rw[if_neg (by simp[c])]
   have hd:(b.drop a).length=4:=by rw[List.length_drop];omega
   rw[Ff _ hd];obtain⟨Z,hZ⟩:∃ Z:V × Hp,Z=(vk .u32 ((sW (b.drop a) 4:Nat):Int),[.cells [.d (.s b),.d (.i .i64 a),.d (.b false)]]):=⟨_,rfl⟩;simp only;rw[<- hZ];(simp(disch:=first|decide|omega|(intros;exact rfl)|simp only[aa]) only[aS,E1,eq_true c,go_sem,seval,aq])
   refine aI (m:=1) (σ:=Nat) (fun i=>4-i) (fun i=>i<=4) (fun i=>[V.one (.p 0 0),vk .u32 ((sW (b.drop a) i:Nat):Int),vi i])
    (fun _=>[.cells [.d (.s b),.d (.i .i64 a),.d (.b false)]]) (fun _=>Z) ?_ 0 (by decide) _ _ cG
   intro i h1 R hR;by_cases ci:i<4
   ·have hc:(i:Int)<4:=by omega
    have hbi:a+i<b.length:=by omega
    have g:b[a+i]?=some b[a+i]:=List.getElem?_eq_getElem hbi;have hg:(b.drop a).getD i 0=b[a+i]:=by rw[List.getD_eq_getElem?_getD,List.getElem?_drop,g];rfl
    have hei:((a:Int)+(i:Int)).toNat=a+i:=by omega
    have hR':=hR (i+1) (by omega) (by omega)
    rw[pd,hg] at hR';have hlt:=Bn (b.drop a) i;have hb8:=UInt8.toNat_lt b[a+i];obtain⟨s1,s2⟩:=Mz b[a+i].toNat i (by omega) (by omega)
    have s3:=OR (sW (b.drop a) i) b[a+i].toNat (8*i) hlt (by omega)
    generalize b[a+i]=x at *;generalize sW (b.drop a) i=w at *;(simp(disch:=first|decide|omega|(intros;exact rfl)|simp only[aa]) only[aS,Ah,decide_eq_true hc,hei,g,↓s1,↓s3,go_sem,seval,aq])
    exact hR' _ _ cG
   ·have e4:i=4:=by omega
    subst e4;have hc:¬ ((4:Nat):Int)<4:=by omega
    rw[hZ];(simp(disch:=first|decide|omega|(intros;exact rfl)|simp only[aa]) only[aS,Ah,E1,decide_eq_false hc,go_sem,seval,aq])
    try simp[trim,V.refs,L.refs,Box.refs]
  ·rw[if_pos (.inr c)];(simp(disch:=first|decide|omega|(intros;exact rfl)|simp only[aa]) only[aS,E1,eq_false c,go_sem,seval,aq])
   try simp[trim,V.refs,L.refs,Box.refs]
def cz (b:Txt):Nat->Nat × Bool->List Int × (Nat × Bool)
 | 0,s=>([],s)
 | k+1,s=>(((ej b s).1:Int)::(cz b k (ej b s).2).1,(cz b k (ej b s).2).2)
def tr (b:Txt) (bad:Bool):Option Man :=
 let r1:=ej b (0,bad)
 let r2:=ej b r1.2
 if 64<r2.1 then none else
  let r3:=cz b r2.1 r2.2
  let r4:=ej b r3.2
  let r5:=s0 b r4.2
  if(!r5.2.2 && manB ⟨r1.1,r3.1,r4.1,r5.1⟩)=true then some ⟨r1.1,r3.1,r4.1,r5.1⟩ else none
theorem mC {b:Txt} {s:Nat × Bool} (h:(ej b s).2.2=false):s.2=false∧b.drop s.1=ah (ej b s).1++b.drop (ej b s).2.1:=by
 unfold ej at h ⊢;by_cases c:s.2=true
 ·rw[if_pos c] at h;rw[c] at h;cases h
 ·rw[if_neg c] at h ⊢;cases hr:jx (b.drop s.1) 0 0 with
  | none=>rw[hr] at h;cases h
  | some r =>
   obtain⟨v,j⟩:=r;obtain⟨_,_,_,h4⟩:=fk hr;refine⟨by simpa using c,?_⟩
   simp only;rw[<- h4,<- List.drop_drop,List.take_append_drop]
theorem sG {b:Txt}:∀ (k:Nat) (s:Nat × Bool),(cz b k s).2.2=false->s.2=false∧(cz b k s).1.length=k∧b.drop s.1=ba (cz b k s).1++b.drop (cz b k s).2.1
 | 0,s,h=>⟨h,rfl,by simp[cz,ba]⟩
 | k+1,s,h=>by
  obtain⟨h1,h2,h3⟩:=sG k (ej b s).2 h;obtain⟨h4,h5⟩:=mC h1;refine⟨h4,by simp[cz,h2],?_⟩
  simp only[cz];rw[h5,h3,nE];simp
theorem pB {b:Txt} {s:Nat × Bool} (h:(s0 b s).2.2=false):s.2=false∧(b.drop s.1).length=4∧(s0 b s).1=nN (b.drop s.1):=by
 unfold s0 at h ⊢;split at h
 ·cases h
 ·rename_i c;simp only[not_or,ne_eq,Decidable.not_not] at c;rw[if_neg (by simp[c])]
  exact⟨by simpa using c.1,by rw[List.length_drop];omega,rfl⟩
theorem pO {l:Txt} (h:l.length=4):cP (BitVec.ofNat 32 (nN l).toNat)=l∧0<=nN l∧nN l<4294967296:=by
 match l,h with
 | [a,b,c,d],_ =>
  have ha:=UInt8.toNat_lt a;have hb:=UInt8.toNat_lt b;have hc:=UInt8.toNat_lt c;have hd:=UInt8.toNat_lt d;obtain⟨n,hn⟩:∃ n:Nat,n=a.toNat+256*(b.toNat+256*(c.toNat+256*d.toNat)):=⟨_,rfl⟩;have e:nN [a,b,c,d]=((n:Nat):Int):=by simp only[nN];rw[hn]
  rw[e];refine⟨?_,by omega,by omega⟩
  rw[Int.toNat_natCast];have hx:(BitVec.ofNat 32 n).toNat=n:=by rw[BitVec.toNat_ofNat];omega
  have e0:cP (BitVec.ofNat 32 n)=[UInt8.ofNat (BitVec.ofNat 32 n).toNat,UInt8.ofNat (BitVec.ofNat 32 n >>> 8).toNat,UInt8.ofNat (BitVec.ofNat 32 n >>> 16).toNat,UInt8.ofNat (BitVec.ofNat 32 n >>> 24).toNat]:=rfl;rw[e0,BitVec.toNat_ushiftRight,BitVec.toNat_ushiftRight,BitVec.toNat_ushiftRight,hx,Nat.shiftRight_eq_div_pow,Nat.shiftRight_eq_div_pow,Nat.shiftRight_eq_div_pow];have f:∀ (x:UInt8) (k:Nat),k % 256=x.toNat->UInt8.ofNat k=x:=fun x k hk=>by
   apply UInt8.toNat_inj.1;rw[UInt8.toNat_ofNat'];exact hk
  rw[f a _ (by omega),f b _ (by omega),f c _ (by omega),f d _ (by omega)]
theorem DP {s t:Txt} (h:cr s 0=(t,s.length,0)):s=aK t:=by
 unfold cr at h;split at h
 ·simp at h
 ·split at h
  ·simp at h
  ·rename_i m k hr;obtain⟨q1,q2,q3,_⟩:=gW hr;split at h
   ·simp at h
   ·split at h
    ·simp at h
    ·rename_i hl;split at h
     ·rename_i hf;simp only[Prod.mk.injEq,Nat.zero_add,List.drop_zero] at h q1 hf;obtain⟨h1,h2,_⟩:=h;have hst:s.take (k+4+m)=s:=List.take_of_length_le (by omega)
      rw[hst] at h1 hf;have htl:t.length=m:=by rw[<- h1,List.length_drop];omega
      unfold aK;rw[htl];have:s=s.take k++((s.take (k+4)).drop k++s.drop (k+4)):=by
       rw[List.drop_take];have e:(s.drop k).take (k+4-k)++s.drop (k+4)=s.drop k:=by
        rw[show k+4-k=4 by omega,<- List.drop_drop,List.take_append_drop]
       rw[e,List.take_append_drop]
      rw[h1] at this hf;conv=>lhs;rw[this]
      rw[q1,<- hf];simp
     ·simp at h
theorem LA {s:Txt} {m:Man} (h:j4 s=some m):m.ok:=by
 have h1:=dN (mo h).1;refine⟨by omega,?_⟩
 unfold j4 at h;split at h
 ·cases h;unfold uL;have f:∀ l:Txt,0<=nN l∧nN l<4294967296:=by
   intro l;by_cases hl:l.length=4
   ·exact(pO hl).2
   ·have:nN l=0:=by
     match l,hl with
     | [],_=>rfl
     | [_],_=>rfl
     | [_,_],_=>rfl
     | [_,_,_],_=>rfl
     | [_,_,_,_],h=>exact absurd rfl h
     | _::_::_::_::_::_,_=>rfl
    omega
  split
  ·split
   ·exact f _
   ·simp
  ·simp
 ·cases h
theorem CO {b:Txt} {m:Man} (h:tr b false=some m):manB m=true∧bB m=b:=by
 unfold tr at h;simp only at h;split at h
 ·cases h
 ·split at h
  ·rename_i hc;simp only[Bool.and_eq_true,Bool.not_eq_true'] at hc;cases h;refine⟨hc.2,?_⟩;obtain⟨g1,g2,g3⟩:=pB hc.1;obtain⟨f1,f2⟩:=mC g1;obtain⟨e1,e2,e3⟩:=sG _ _ f1;obtain⟨d1,d2⟩:=mC e1;obtain⟨_,c2⟩:=mC d1;unfold bB gT;simp only[g3];rw[(pO g2).1];rw[List.drop_zero] at c2;conv=>rhs;rw[c2,d2,e3,f2]
   simp only[List.cons_append,nE,kB,e2,Int.toNat_natCast];simp[ba]
  ·cases h
theorem oL {m:Man} (h:manB m=true) (j:Nat) (hj:j<(cX m).length):ej (bB m) ((ba ((cX m).take j)).length,false)=((cX m)[j].toNat,((ba ((cX m).take (j+1))).length,false)):=by
 obtain⟨h1,h2⟩:=Gj h j hj;unfold ej;rw[if_neg (by simp),h1,h2]
theorem uU {m:Man} (h:manB m=true):∀ (k j:Nat),j+k<=(cX m).length->cz (bB m) k ((ba ((cX m).take j)).length,false)=(((cX m).drop j).take k,((ba ((cX m).take (j+k))).length,false))
 | 0,j,_=>by simp[cz]
 | k+1,j,hj=>by
  have h1:=oL h j (by omega)
  have hin:=BK h _ (List.getElem_mem (show j<(cX m).length by omega))
  simp only[cz,h1,uU h k (j+1) (by omega)]
  rw[List.drop_eq_getElem_cons (show j<(cX m).length by omega),List.take_succ_cons,show j+(k+1)=j+1+k by omega]
  congr 2
  omega
theorem Fc {m:Man} (h:manB m=true) (hm:m.ok):tr (bB m) false=some m:=by
 have hmt:=dN h;have hl:=FZ m;have n0:=oL h 0 (by omega)
 have n1:=oL h 1 (by omega)
 have n2:=uU h m.segs.length 2 (by omega)
 have n3:=oL h (m.segs.length+2) (by omega)
 have e0:(cX m)[0]'(by omega)=m.ver:=rfl
 have e1:(cX m)[1]'(by omega)=(m.segs.length:Int):=rfl
 have e2:((cX m).drop 2).take m.segs.length=m.segs:=by simp[cX]
 have e3:(cX m)[m.segs.length+2]'(by omega)=m.size:=by
  have:cX m=(m.ver::(m.segs.length:Int)::m.segs)++[m.size]:=rfl;simp[this]
 rw[e0] at n0;rw[e1] at n1;rw[e2] at n2;rw[e3] at n3;simp only[List.take_zero,ba,List.flatMap_nil,List.length_nil,Nat.zero_add,Nat.reduceAdd,Int.toNat_natCast] at n0 n1 n2 n3;rw[Nat.add_comm 2 m.segs.length] at n2;have hall:(cX m).take (m.segs.length+2+1)=cX m:=List.take_of_length_le (by omega)
 rw[hall] at n3;have hb:bB m=ba (cX m)++cP (gT m):=ud m;have n4:s0 (bB m) ((ba (cX m)).length,false)=(m.sum,((ba (cX m)).length,false)):=by
  have hd:(bB m).drop (ba (cX m)).length=cP (gT m):=by rw[hb,List.drop_left]
  unfold s0;rw[if_neg (by rw[hb,List.length_append,gh];simp;omega),hd,um,BA hm]
 unfold tr;simp only[n0,n1];rw[if_neg (by omega)]
 simp only[n2,n3];simp only[ba] at n4;simp only[n4];have v1:((m.ver.toNat:Nat):Int)=m.ver:=by omega
 have v2:((m.size.toNat:Nat):Int)=m.size:=by omega
 rw[v1,v2];exact if_pos (by rw[h];rfl)
theorem xS (b:Txt) (a:Nat):ej b (a,true)=(0,(a,true)):=by unfold ej;rw[if_pos rfl]
theorem GD (b:Txt):tr b true=none:=by
 unfold tr;simp only[xS];rw[if_neg (by omega)]
 simp only[cz,xS];rw[if_neg];intro h;simp only[Bool.and_eq_true,Bool.not_eq_true'] at h;have:=pB h.1;cases this.1
def EZ (s:Txt):Option Man:=if(cr s 0).2.2≠0 then none else tr (cr s 0).1 (decide (((cr s 0).2.1:Int)≠(s.length:Nat)))
theorem F0 (s:Txt):EZ s=j4 s:=by
 cases hd:j4 s with
 | some m =>
  obtain⟨h1,h2⟩:=mo hd;have h3:=yo h1;rw[h2] at h3;unfold EZ;rw[h3];simp only[ne_eq,not_true_eq_false,if_false,decide_false];exact Fc h1 (LA hd)
 | none =>
  cases hg:EZ s with
  | none=>rfl
  | some m =>
   exfalso;unfold EZ at hg;split at hg
   ·cases hg
   ·rename_i he;simp only[ne_eq,Decidable.not_not] at he;by_cases c:(cr s 0).2.1=s.length
    ·have e1:cr s 0=((cr s 0).1,s.length,0):=by rw[<- c,<- he]
     rw[decide_eq_false (by simp[c])] at hg
     obtain⟨g1,g2⟩:=CO hg;have hs:=DP e1;have:bC m=s:=by unfold bC;rw[g2];exact hs.symm
     have hso:m.ok:=by
      have h1:=dN g1;refine⟨by omega,?_⟩
      unfold tr at hg;simp only at hg;split at hg
      ·cases hg
      ·split at hg
       ·rename_i hc;simp only[Bool.and_eq_true,Bool.not_eq_true'] at hc;cases hg;obtain⟨_,k2,k3⟩:=pB hc.1;simp only[k3];exact(pO k2).2
       ·cases hg
     have h4:=xX g1 hso;rw[this,hd] at h4;cases h4
    ·rw[decide_eq_true (by omega),GD] at hg
     cases hg
end Go.Proofs.YtghfhomfppbooaaGreat
