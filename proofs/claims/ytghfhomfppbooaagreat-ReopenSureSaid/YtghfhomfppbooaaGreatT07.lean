import Derived.Test.YtghfhomfppbooaaGreatT06
import Derived.Test.YtghfhomfppbooaaGreatT04
import Derived.Test.YtghfhomfppbooaaGreatT05
import Derived.Test.YtghfhomfppbooaaGreatVid
import Derived.Test.YtghfhomfppbooaaGreatT02
set_option linter.unusedSimpArgs false
set_option linter.unusedVariables false
namespace Go.Proofs.YtghfhomfppbooaaGreat
open Go.Vi
theorem createT_ok {k u:Nat} {d:Dsk} (h:okN k u d) (h0:(createT d).2=0):okS (k+2) (u+1000) (createT d).1∧(∀ seg:Int,0<=seg->Hold 0 seg (createT d).1 [])∧(createT d).1.next=0∧(createT d).1.sure=0:=by
 have k1:=crt_ok (s:=(d,0)) h (fileN 0);unfold createT at h0 ⊢;simp only[] at h0 ⊢;have k2:okN (k+2) (u+1000) (if(crtS (fileN 0) (d,0)).2=0 then swapS ⟨1,[0],0,0⟩ (crtS (fileN 0) (d,0)) else crtS (fileN 0) (d,0)).1:=by
  split
  ·exact(swap_okN k1 _).up (by omega) (by omega)
  ·exact k1.up (by omega) (by omega)
 have hd:(crtS (fileN 0) (d,0)).2=0->hasD (if(crtS (fileN 0) (d,0)).2=0 then swapS ⟨1,[0],0,0⟩ (crtS (fileN 0) (d,0)) else crtS (fileN 0) (d,0)).1.files (fileN 0) []:=fun hc=>by
  rw[if_pos hc];exact swap_keep k1 _ (fileN_n _ _) (fileN_n _ _) (crt_new hc)
 have hc:(if(crtS (fileN 0) (d,0)).2=0 then swapS ⟨1,[0],0,0⟩ (crtS (fileN 0) (d,0)) else crtS (fileN 0) (d,0)).2=0->(crtS (fileN 0) (d,0)).2=0:=fun hx=>by
  by_cases hc:(crtS (fileN 0) (d,0)).2=0
  ·exact hc
  ·rw[if_neg hc] at hx;exact hx
 generalize (if(crtS (fileN 0) (d,0)).2=0 then swapS ⟨1,[0],0,0⟩ (crtS (fileN 0) (d,0)) else crtS (fileN 0) (d,0))=s2 at *
 by_cases c:s2.2=0
 ·rw[if_pos c];have hd:=hd (hc c);refine⟨⟨k2,by simp,?_,by simp,⟨by simp,by simp only[];omega⟩,by simp⟩,fun seg hs=>⟨[],⟨0,0,0⟩,[],⟨rfl,?_,rfl,rfl,by simp⟩,⟨fun p hp=>(by cases hp),by simp only[];omega⟩,rfl⟩,rfl,rfl⟩
  ·intro g hg;simp only[List.mem_singleton] at hg;subst hg;simp;omega
  ·intro p hp;simp only[List.nil_append,List.mem_singleton] at hp;subst hp;exact⟨hd,fun r hr=>(by cases hr),fun k hk=>(by simp at hk),rfl,rfl⟩
 ·rw[if_neg c] at h0;exact absurd h0 c
def d0:Dsk:=⟨[],0,false,0,false⟩
theorem d0_ok:okN 0 0 d0:=⟨Nat.le_refl _,List.Pairwise.nil,by decide,by decide,Nat.le_refl _⟩
theorem d0_new:(createT d0).2=0:=by decide +kernel
variable {k u:Nat} {f:Int} {S:Txt} {l0:List Pr} {s:Sto} {M:List SR} {g:Seg} {l:List Rec}
theorem W.st0 (h:W f S l0 s M g l):srtP l0∧okV l0:=by
 rcases h.snp with⟨_,_,h3,_⟩|⟨_,_,h3,_⟩
 ·rw[h3];exact⟨List.Pairwise.nil,fun p hp=>by cases hp⟩
 ·exact⟨parse_srt h3,parse_okV h3⟩
theorem W.why (h:W f S l0 s M g l):∀ r∈recsM (M++[(g,l)]),whyF r=0:=by
 intro r hr;simp only[recsM,List.mem_flatMap] at hr;obtain⟨p,hp,hr⟩:=hr;exact(h.inv.file p hp).why r hr
theorem W.st (h:W f S l0 s M g l) (off:Int):srtP (stF l0 f (recsM (M++[(g,l)])) off)∧okV (stF l0 f (recsM (M++[(g,l)])) off):=by
 have h1:∀ r∈(recsM (M++[(g,l)])).take (off-f).toNat,r.da.length<=64:=fun r hr=>why_len (h.why r (List.mem_of_mem_take hr))
 exact⟨(foldP_ok _ _ h.st0.1 h.st0.2.okP h1).1,foldP_okV _ _ h.st0.2 h1⟩
theorem bytes_small {q:List Pr} (hs:srtP q) (ho:okV q):1<=(bytesF q).length∧(bytesF q).length<=18960:=by
 have h1:=st_len hs ho.okP;have h2:=bytes_len ho.okP (by omega)
 have h3:1<=(enc128 q.length).length:=nd_pos q.length;refine⟨?_,by omega⟩
 unfold bytesF;rw[List.length_append];omega
theorem chain_drop:∀ (k:Nat) (M:List SR) (b e:Int),k<=M.length->chainM b M e->chainM (b+(recsM (M.take k)).length) (M.drop k) e
 | 0,M,b,e,_,h=>by simpa[recsM] using h
 | k+1,[],b,e,hk,_=>by simp at hk
 | k+1,p::M,b,e,hk,h=>by
  simp only[chainM] at h;have ih:=chain_drop k M (b+p.2.length) e (by simpa using hk) h.2.2
  have e1:(recsM ((p::M).take (k+1))).length=p.2.length+(recsM (M.take k)).length:=by simp[recsM]
  rw[e1,List.drop_succ_cons,Int.natCast_add,<- Int.add_assoc];exact ih
theorem chain_first {M:List SR} {b e:Int} (h:chainM b M e):∀ x,(M.map (·.1.base)++[e])[0]?=some x->x=b:=by
 intro x hx;cases M with
 | nil=>simp[chainM] at h hx;omega
 | cons p M=>simp[chainM] at h hx;omega
theorem W.base_k (h:W f S l0 s M g l) {n:Nat} (hn:n<s.segs.length):n<=M.length∧baseF s.segs n=f+(recsM (M.take n)).length:=by
 have hl:s.segs.length=M.length+1:=by rw[h.inv.segs];simp
 have hk:n<=M.length:=by omega
 refine⟨hk,?_⟩;have hc:=chain_drop n M f g.base hk h.inv.chain;refine chain_first hc _ ?_;have e1:s.segs.map Seg.base=M.map (·.1.base)++[g.base]:=by rw[h.inv.segs];simp[List.map_map,Function.comp_def]
 have e2:(M.drop n).map (·.1.base)++[g.base]=(s.segs.map Seg.base).drop n:=by
  rw[e1,List.drop_append_of_le_length (by simpa using hk),List.map_drop]
 rw[e2,List.getElem?_drop,Nat.add_zero,List.getElem?_map,(base_at hn).1,(base_at hn).2];rfl
theorem W.trimR (ho:okS k u s) (h:W f S l0 s M g l) (hv:u<1000000000000) {n:Nat} (hn:n<s.segs.length) (h0:n≠0):f<baseF s.segs n∧baseF s.segs n<=s.next∧stateT s (baseF s.segs n)=stF l0 f (recsM (M++[(g,l)])) (baseF s.segs n)∧manB (trimX s n).man=true:=by
 have hb:=h.base_k hn;have hf0:0<=f:=by have:=WR.floor ⟨M,g,l,h,rfl⟩;rw[<- this];exact(floor_ok ho).1
 have hce:=chain_mem _ _ _ h.inv.chain;have hcl:=chain_len _ _ _ h.inv.chain;have hnx:=h.inv.next;have e1:recsM M=recsM (M.take n)++recsM (M.drop n):=by rw[<- recsM_app,List.take_append_drop]
 have h1:f<baseF s.segs n:=by
  rw[hb.2];have:0<(recsM (M.take n)).length:=by
   cases hM:M with
   | nil=>rw[hM] at hb;simp at hb;omega
   | cons p r =>
    obtain⟨m,rfl⟩:∃ m,n=m+1:=⟨n-1,by omega⟩
    have:=(hce.2 p (by rw[hM];simp)).2.2
    simp[recsM];omega
  omega
 have h2:baseF s.segs n<=s.next:=by
  rw[hb.2];rw[e1,List.length_append] at hcl;omega
 have h3:=h.stT ho (baseF s.segs n) ⟨by omega,h2⟩
 refine⟨h1,h2,h3,?_⟩;have hst:=h.st (baseF s.segs n);have hbs:=bytes_small hst.1 hst.2;have hm:=manB_t h.right;have hi:=h.man_inc;have hv2:=ho.ver;have hv1:1<=s.ver:=hm.1.1;have hl64:=ho.len;have ex:(trimX s n).man.segs=(s.segs.map Seg.base).drop n:=by show(s.segs.drop n).map Seg.base=_;rw[List.map_drop]
 have ez:(trimX s n).man.size=((bytesF (stateT s (baseF s.segs n))).length:Nat):=rfl;refine manB_mk ⟨by show 1<=s.ver+1;omega,by show s.ver+1<=_;omega⟩ ⟨by rw[ex];simp;omega,by rw[ex];simp;omega⟩ ?_ (.inr ⟨?_,?_⟩)
 ·rw[ex,incB_iff];exact⟨hi.1.sublist (List.drop_sublist _ _),fun a ha=>hi.2 a (List.mem_of_mem_drop ha)⟩
 ·rw[ex,List.head?_drop,List.getElem?_map,(base_at hn).1];simp only[Option.map_some,ne_eq,Option.some.injEq];rw[<- (base_at hn).2];omega
 ·rw[ez,h3];omega
theorem W.not_rel {a:Int} (ho:okS k u s) (hf:0<=f∧f<=1099511627776) (ha:f<a∧a<=1099511627776):¬ rel f s (snapN a):=by
 rintro(e|⟨b,_,e⟩|⟨_,e⟩)
 ·exact absurd e (n109 _ (by rw[snapN_len];decide))
 ·exact absurd e (snap_file _ _)
 ·have:=snapN_inj (by omega) hf e;omega
variable {k u:Nat} {f:Int} {S:Txt} {l0:List Pr} {s:Sto} {M:List SR} {g:Seg} {l:List Rec}
theorem oldN_nodup (ho:okS k u s) (h:W f S l0 s M g l) (n:Nat):(oldN s n).Nodup:=by
 have hp:s.segs.Pairwise (fun a b=>a.base<b.base):=List.pairwise_map.1 h.man_inc.1
 unfold oldN List.Nodup;rw[List.pairwise_append];refine⟨?_,by split <;> simp,?_⟩
 ·rw[List.pairwise_map];refine List.Pairwise.imp_of_mem (fun {a b} ha hb hab e=>?_) (hp.sublist (List.take_sublist n _))
  have:=fileN_inj (ho.seg a (List.mem_of_mem_take ha)).1 (ho.seg b (List.mem_of_mem_take hb)).1 e;omega
 ·intro a ha b hb e;obtain⟨c,_,rfl⟩:=List.mem_map.1 ha;split at hb
  ·rw[List.mem_singleton.1 hb] at e;exact snap_file _ _ e.symm
  ·cases hb
theorem W.cut (ho:okS k u s) (h:W f S l0 s M g l) (hv:u<1000000000000) {n:Nat} (hn:n<s.segs.length) (h0:n≠0) {d1:Dsk} {w:Dsk × Int}
  (hs1:srt d1.files) (hd1:d1.down=false) (hf1:fm d1.files=up (up (fm s.disk.files) (snapN (baseF s.segs n)) (some (bytesF (stateT s (baseF s.segs n)),(((bytesF (stateT s (baseF s.segs n))).length:Nat):Int)))) [109] (manV (trimX s n).man)) (hdn:s.disk.down=false)
  (hO:Out d1 w (oldN s n) (rmv (oldN s n) (fm d1.files)) none) :
  W (baseF s.segs n) (bytesF (stateT s (baseF s.segs n))) (stateT s (baseF s.segs n)) { trimX s n with disk:=w.1 } (M.drop n) g l:=by
 have hT:=h.trimR ho hv hn h0;have hb:=h.base_k hn;have hf0:0<=f:=by have:=WR.floor ⟨M,g,l,h,rfl⟩;rw[<- this];exact(floor_ok ho).1
 have hst:=h.st (baseF s.segs n);rw[<- hT.2.2.1] at hst;have hfl:s.floor=f:=WR.floor ⟨M,g,l,h,rfl⟩;have hbo:=base_ok ho hn;have hlt:∀ a∈s.segs.take n,a.base<baseF s.segs n:=by
  intro a ha;have hp:s.segs.Pairwise (fun a b=>a.base<b.base):=List.pairwise_map.1 h.man_inc.1
  obtain⟨i,hi,rfl⟩:=List.getElem_of_mem ha;rw[List.length_take] at hi;rw[List.getElem_take,(base_at hn).2];exact(List.pairwise_iff_getElem.1 hp) i n (by omega) hn (by omega)
 have hge:∀ a∈s.segs.drop n,baseF s.segs n<=a.base:=by
  intro a ha;have hp:s.segs.Pairwise (fun a b=>a.base<b.base):=List.pairwise_map.1 h.man_inc.1
  obtain⟨i,hi,rfl⟩:=List.getElem_of_mem ha;rw[List.length_drop] at hi;rw[List.getElem_drop,(base_at hn).2];by_cases c:i=0
  ·subst c;simp
  ·have:=(List.pairwise_iff_getElem.1 hp) n (n+i) hn (by omega) (by omega);omega
 have hold:∀ m,m∈oldN s n↔(∃ a∈s.segs.take n,m=fileN a.base)∨(0<f∧m=snapN f):=by
  intro m;unfold oldN;rw[List.mem_append,List.mem_map,hfl];constructor
  ·rintro(⟨a,ha,rfl⟩|hm)
   ·exact .inl ⟨a,ha,rfl⟩
   ·split at hm
    ·rename_i c;exact .inr ⟨c,List.mem_singleton.1 hm⟩
    ·cases hm
  ·rintro(⟨a,ha,rfl⟩|⟨hc,rfl⟩)
   ·exact .inl ⟨a,ha,rfl⟩
   ·rw[if_pos hc];exact .inr (by simp)
 have hsd:s.segs.drop n=(M.drop n).map (·.1)++[g]:=by rw[h.inv.segs,List.drop_append_of_le_length (by simpa using hb.1),List.map_drop]
 have k1:[109] ∉ oldN s n:=by
  rw[hold];rintro(⟨a,_,e⟩|⟨_,e⟩)
  ·exact absurd e.symm (n109 _ (by rw[fileN_len];decide))
  ·exact absurd e.symm (n109 _ (by rw[snapN_len];decide))
 have k2:snapN (baseF s.segs n) ∉ oldN s n:=by
  rw[hold];rintro(⟨a,_,e⟩|⟨_,e⟩)
  ·exact absurd e (snap_file _ _)
  ·have:=snapN_inj hbo (by omega) e;omega
 have k3:∀ a∈s.segs.drop n,fileN a.base ∉ oldN s n:=by
  intro a ha;rw[hold];rintro(⟨b,hb2,e⟩|⟨_,e⟩)
  ·have:=fileN_inj (ho.seg a (List.mem_of_mem_drop ha)).1 (ho.seg b (List.mem_of_mem_take hb2)).1 e;have:=hge a ha;have:=hlt b hb2;omega
  ·exact absurd e.symm (snap_file _ _)
 have hkeep:∀ m,m ∉ oldN s n->fm w.1.files m=fm d1.files m:=by
  intro m hm;rcases hO.2.2 with⟨_,_,hf⟩|⟨_,hc,_⟩|⟨_,_,hf⟩
  ·rw[hf];exact if_neg hm
  ·cases hc
  ·exact hf m hm
 have hfile:∀ a∈s.segs.drop n,fm w.1.files (fileN a.base)=fm s.disk.files (fileN a.base):=by
  intro a ha;rw[hkeep _ (k3 a ha),hf1,up_ne _ _ (n109 _ (by rw[fileN_len];decide)),up_ne _ _ (fun e=>snap_file _ _ e.symm)]
 have hpm:∀ p∈M.drop n++[(g,l)],p.1∈s.segs.drop n:=by
  intro p hp;rw[hsd];rcases List.mem_append.1 hp with hp|hp
  ·exact List.mem_append_left _ (List.mem_map_of_mem hp)
  ·rw[List.mem_singleton.1 hp];simp
 have hpM:∀ p∈M.drop n++[(g,l)],p∈M++[(g,l)]:=by
  intro p hp;rcases List.mem_append.1 hp with hp|hp
  ·exact List.mem_append_left _ (List.mem_of_mem_drop hp)
  ·exact List.mem_append_right _ hp
 refine⟨⟨hsd,fun p hp=>?_,?_,h.inv.next,h.inv.sure⟩,.inr ⟨by omega,?_,parse_bytes hst.1 hst.2,rfl,rfl⟩,?_,hT.2.2.2,fun p hp=>?_,?_,h.lo,fun hd m hm=>?_⟩
 ·have hfo:=h.inv.file p (hpM p hp);refine hfo.keep fun hh=>?_
  rw[fm_hasD ho.dsk.srt] at hh;rw[fm_hasD hO.2.1,hfile _ (hpm p hp)];exact hh
 ·have:=chain_drop n M f g.base hb.1 h.inv.chain;rw[<- hb.2] at this;exact this
 ·show fm w.1.files _=_;rw[hkeep _ k2,hf1,up_ne _ _ (n109 _ (by rw[snapN_len];decide)),up_at]
 ·show fm w.1.files _=_;rw[hkeep _ k1,hf1,up_at];rfl
 ·show fm w.1.files _=_;rw[hfile _ (hpm p (List.mem_append_left _ hp))];exact h.full p (List.mem_of_mem_drop hp)
 ·obtain⟨q,h1,h2⟩:=h.last;exact⟨q,by show fm w.1.files _=_;rw[hfile _ (hpm (g,l) (by simp))];exact h1,h2⟩
 ·have hm2:fm w.1.files m≠none:=hm;have hd2:w.1.down=false:=hd;rcases hO.2.2 with⟨_,_,hf⟩|⟨_,hc,_⟩|⟨_,hd3,_⟩
  ·rw[hf] at hm2;unfold rmv at hm2;by_cases c:m∈oldN s n
   ·rw[if_pos c] at hm2;exact absurd rfl hm2
   ·rw[if_neg c,hf1] at hm2;by_cases c1:m=[109]
    ·exact .inl c1
    ·rw[up_ne _ _ c1] at hm2;by_cases c2:m=snapN (baseF s.segs n)
     ·exact .inr (.inr ⟨by omega,c2⟩)
     ·rw[up_ne _ _ c2] at hm2;rcases h.only hdn m hm2 with e|⟨a,ha,e⟩|⟨e1,e2⟩
      ·exact .inl e
      ·rw[<- List.take_append_drop n s.segs] at ha;rcases List.mem_append.1 ha with ha|ha
       ·exact absurd ((hold m).2 (.inl ⟨a,ha,e⟩)) c
       ·exact .inr (.inl ⟨a,ha,e⟩)
      ·exact absurd ((hold m).2 (.inr ⟨e1,e2⟩)) c
  ·cases hc
  ·rw[hd2] at hd3;cases hd3
theorem recs_drop (h:Inv f s M g l) {n:Nat} (hn:n<=M.length):recsM (M.drop n++[(g,l)])=(recsM (M++[(g,l)])).drop (recsM (M.take n)).length:=by
 have e:recsM (M++[(g,l)])=recsM (M.take n)++recsM (M.drop n++[(g,l)]):=by
  rw[<- recsM_app,<- List.append_assoc,List.take_append_drop]
 rw[e,List.drop_left]
theorem WR.trim {R:List Rec} (ho:okS k u s) (h:WR f S l0 s R) (hv:u<1000000000000) (keep count:Int) :
  ∃ f' S' l0',f<=f'∧f'<=s.next∧l0'=stF l0 f R f'∧WR f' S' l0' (trimT s keep count).1 (R.drop (f'-f).toNat)∧(trimT s keep count).1.next=s.next∧(trimT s keep count).1.sure=s.sure∧(trimT s keep count).1.disk.cap=s.disk.cap ∧
   ((trimT s keep count).2=0∨(trimT s keep count).2=9∨((trimT s keep count).2=10∧(trimT s keep count).1.disk.down=true)) ∧
   ((trimT s keep count).2=0->pickF (trimT s keep count).1.segs keep count=0)∧((trimT s keep count).2≠10->(trimT s keep count).1.disk.down=s.disk.down):=by
 have h0:=h;have hfn:=h.sure;have hs0:WR f S l0 s (R.drop (f-f).toNat):=by rw[Int.sub_self];exact h0
 have hl0:l0=stF l0 f R f:=by unfold stF;rw[Int.sub_self];rfl
 obtain⟨M,g,l,h,rfl⟩:=h;unfold trimT;by_cases c0:pickF s.segs keep count=0
 ·rw[if_pos c0];exact⟨f,S,l0,Int.le_refl _,by omega,hl0,hs0,rfl,rfl,rfl,.inl rfl,fun _=>c0,fun _=>rfl⟩
 ·rw[if_neg c0];have hn:=pickF_lt s.segs keep count c0;have hpk:pickF (s.segs.drop (pickF s.segs keep count)) keep count=0:=by
   have hst:stayF s.segs keep count (pickF s.segs keep count)=true:=by
    unfold pickF at *;cases hf:(List.range s.segs.length).find? (stayF s.segs keep count) with
    | none=>rw[hf] at c0;exact absurd rfl c0
    | some j=>exact List.find?_some hf
   refine pickF_at _ keep count 0 (by simp;omega) ?_ (fun i hi=>absurd hi (by omega))
   unfold stayF at hst ⊢;rw[List.drop_zero];exact hst
  generalize pickF s.segs keep count=n at *;have hT:=h.trimR ho hv hn c0;have hb:=h.base_k hn;have hbo:=base_ok ho hn;have hf0:0<=f:=by have:=WR.floor h0;rw[<- this];exact(floor_ok ho).1
  have hnr:¬ rel f s (snapN (baseF s.segs n)):=W.not_rel ho (by omega) ⟨hT.1,hbo.2⟩
  have h110:s.disk.down=false->fm s.disk.files [110]=none:=fun hd=>by
   cases hx:fm s.disk.files [110] with
   | none=>rfl
   | some v=>exact absurd (h.only hd [110] (by rw[hx];simp)) (rel_110 f s)
  have hsn:s.disk.down=false->fm s.disk.files (snapN (baseF s.segs n))=none:=fun hd=>by
   cases hx:fm s.disk.files (snapN (baseF s.segs n)) with
   | none=>rfl
   | some v=>exact absurd (h.only hd _ (by rw[hx];simp)) hnr
  have hO:=lay_out ho.dsk.srt (n:=snapN (baseF s.segs n)) (x:=bytesF (stateT s (baseF s.segs n))) hT.2.2.2 (namedS _) (n110 _ (by rw[snapN_len];decide)) h110 hsn
  have hold0:∀ q,oldT s n q=goP (oldN s n) q:=fun q=>old_go s n q
  have hX:∀ m∈[snapN (baseF s.segs n),[110]],¬ rel f s m:=by
   intro m hm;rcases List.mem_cons.1 hm with rfl|hm
   ·exact hnr
   ·rw[List.mem_singleton.1 hm];exact rel_110 f s
  have etk:trimK s n=if(layT s.disk (snapN (baseF s.segs n)) (bytesF (stateT s (baseF s.segs n))) (trimX s n).man).2≠0 then({ s with disk:=(layT s.disk (snapN (baseF s.segs n)) (bytesF (stateT s (baseF s.segs n))) (trimX s n).man).1 },(layT s.disk (snapN (baseF s.segs n)) (bytesF (stateT s (baseF s.segs n))) (trimX s n).man).2) else({ trimX s n with disk:=(goP (oldN s n) (layT s.disk (snapN (baseF s.segs n)) (bytesF (stateT s (baseF s.segs n))) (trimX s n).man)).1 },(goP (oldN s n) (layT s.disk (snapN (baseF s.segs n)) (bytesF (stateT s (baseF s.segs n))) (trimX s n).man)).2):=by
   unfold trimK;simp only[hold0]
  rw[etk];clear etk;generalize layT s.disk (snapN (baseF s.segs n)) (bytesF (stateT s (baseF s.segs n))) (trimX s n).man=e at *;by_cases c1:e.2=0
  ·rw[if_neg (by simp[c1])]
   rcases hO.2.2 with⟨_,hd,hf⟩|⟨_,_,e9,_⟩|⟨e10,_⟩
   ·have hdn:=hO.1.up_of hd;have hg:=goP_out (oldN s n) e.1 hO.2.1 (oldN_nodup ho h n) hd (fun m hm=>by
     have hne:m≠[109]∧m≠snapN (baseF s.segs n)∧fm s.disk.files m≠none:=by
      unfold oldN at hm;rcases List.mem_append.1 hm with hm|hm
      ·obtain⟨a,ha,rfl⟩:=List.mem_map.1 hm;refine⟨n109 _ (by rw[fileN_len];decide),fun e=>snap_file _ _ e.symm,?_⟩
       have ha:=List.mem_of_mem_take ha;rw[h.inv.segs] at ha;rcases List.mem_append.1 ha with ha|ha
       ·obtain⟨p,hp,rfl⟩:=List.mem_map.1 ha;rw[h.full p hp];simp
       ·rw[List.mem_singleton.1 ha];obtain⟨q,h1,_⟩:=h.last;rw[h1];simp
      ·rw[WR.floor h0] at hm;split at hm
       ·rename_i c;rw[List.mem_singleton.1 hm];refine⟨n109 _ (by rw[snapN_len];decide),fun e=>?_,?_⟩
        ·have:=snapN_inj (by omega) hbo e;omega
        ·rcases h.snp with⟨h1,_⟩|⟨_,h1,_⟩
         ·omega
         ·rw[h1];simp
       ·cases hm
     rw[hf,up_ne _ _ hne.1,up_ne _ _ hne.2.1];exact hne.2.2)
    have hp0:e=(e.1,0):=pair_eq c1;rw[<- hp0] at hg;have hw:=h.cut ho hv hn c0 hO.2.1 hd hf hdn hg;have hr:=recs_drop h.inv hb.1;have hfd:(baseF s.segs n-f).toNat=(recsM (M.take n)).length:=by omega
    refine⟨baseF s.segs n,_,stateT s (baseF s.segs n),by omega,hT.2.1,hT.2.2.1,⟨M.drop n,g,l,hw,by rw[hr,hfd]⟩,rfl,rfl,hg.1.cap.trans hO.1.cap,?_,fun _=>hpk,fun hne=>?_⟩
    ·rcases hg.2.2 with⟨a,_⟩|⟨_,a,_⟩|⟨a,b,_⟩
     ·exact .inl a
     ·cases a
     ·exact .inr (.inr ⟨a,b⟩)
    ·rcases hg.2.2 with⟨_,a,_⟩|⟨_,a,_⟩|⟨a,b,_⟩
     ·exact a.trans hdn.symm
     ·cases a
     ·exact absurd a hne
   ·rw[e9] at c1;cases c1
   ·rw[e10] at c1;cases c1
  ·rw[if_pos c1];have:=h.fail ho.dsk.srt hO c1 hX;refine⟨f,S,l0,Int.le_refl _,by omega,hl0,by rw[Int.sub_self];exact⟨M,g,l,this.1,rfl⟩,rfl,rfl,hO.1.cap,?_,fun h=>absurd h c1,fun hne=>?_⟩
   ·rcases this.2 with⟨a,_⟩|⟨a,b⟩
    ·exact .inr (.inl a)
    ·exact .inr (.inr ⟨a,b⟩)
   ·rcases this.2 with⟨_,_,a⟩|⟨a,_⟩
    ·exact a.trans (hO.1.up_of a).symm
    ·exact absurd a hne
structure Ac where
 kind:Int
 n:Int
 m:Int
 data:List UInt8
 deriving DecidableEq
def Ac.enc (e:Ac):List D:=[.i .i64 e.kind,.i .i64 e.n,.i .i64 e.m,.s e.data]
theorem Ac.len (e:Ac):e.enc.length=4:=Eq.trans rfl rfl
theorem Ac.tk (e:Ac):e.enc.take 4=e.enc:=Eq.trans rfl rfl
theorem Ac.tkL (e:Ac):(e.enc.map L.d).take 4=e.enc.map L.d:=Eq.trans rfl rfl
theorem Ac.dat (e:Ac):dataLs (e.enc.map L.d)=some (e.enc.map L.d):=Eq.trans rfl rfl
theorem Ac.rfs (e:Ac):(e.enc.map L.d).flatMap L.refs=[]:=Eq.trans rfl rfl
theorem Ac.rn (e:Ac) (g:Nat->Option Nat):(e.enc.map L.d).map (L.ren g)=e.enc.map L.d:=Eq.trans rfl rfl
theorem Ac.lenL (e:Ac):(e.enc.map L.d).length=4:=Eq.trans rfl rfl
theorem Ac.at0 (e:Ac):e.enc[0]?=some (.i .i64 e.kind):=Eq.trans rfl rfl
theorem Ac.fd0 (e:Ac):(e.enc.map L.d)[0]?=some (.d (.i .i64 e.kind)):=Eq.trans rfl rfl
theorem Ac.at1 (e:Ac):(e.enc.drop 1)[0]?=some (.i .i64 e.n):=Eq.trans rfl rfl
theorem Ac.fd1 (e:Ac):(e.enc.map L.d)[1]?=some (.d (.i .i64 e.n)):=Eq.trans rfl rfl
theorem Ac.at2 (e:Ac):(e.enc.drop 2)[0]?=some (.i .i64 e.m):=Eq.trans rfl rfl
theorem Ac.fd2 (e:Ac):(e.enc.map L.d)[2]?=some (.d (.i .i64 e.m)):=Eq.trans rfl rfl
theorem Ac.up1 (e:Ac) (x:Int):e.enc.take 1++[.i .i64 x]++e.enc.drop 2=({ e with n:=x }:Ac).enc:=Eq.trans rfl rfl
theorem Ac.up2 (e:Ac) (x:Int):e.enc.take 2++[.i .i64 x]++e.enc.drop 3=({ e with m:=x }:Ac).enc:=Eq.trans rfl rfl
def Ac.ok (e:Ac):Prop:=(-9223372036854775808<=e.kind∧e.kind<9223372036854775808)∧(-9223372036854775808<=e.n∧e.n<9223372036854775808)∧(-9223372036854775808<=e.m∧e.m<9223372036854775808)∧e.data.length<=9223372036854775807
def Ac.ty:List Ty:=[.i .i64,.i .i64,.i .i64,.s]
theorem Ac.eqs (a b:Ac):scEqs [0,0,0,2] (a.enc.map L.d) (b.enc.map L.d)=some (decide (a=b)):=by
 cases a;cases b;simp only[Ac.enc,List.map_cons,List.map_nil,scEqs,scEq,if_true,Ac.mk.injEq];congr 1
 rw[Bool.eq_iff_iff];simp only[Bool.and_eq_true,beq_iff_eq,decide_eq_true_eq,and_true]
theorem Ac.of (r:List D) (h:wfRow Ac.ty r):∃ e:Ac,r=e.enc∧e.ok:=by
 simp only[Ac.ty,wfRow,wfT] at h;obtain⟨_,_,rfl,⟨x0,rfl,h0,g0⟩,⟨_,_,rfl,⟨x1,rfl,h1,g1⟩,⟨_,_,rfl,⟨x2,rfl,h2,g2⟩,⟨_,_,rfl,⟨x3,rfl,h3⟩,rfl⟩⟩⟩⟩:=h;refine⟨⟨x0,x1,x2,x3⟩,rfl,?_⟩;exact⟨⟨Int.le_trans (by decide) h0,Int.lt_of_le_of_lt g0 (by decide)⟩,⟨Int.le_trans (by decide) h1,Int.lt_of_le_of_lt g1 (by decide)⟩,⟨Int.le_trans (by decide) h2,Int.lt_of_le_of_lt g2 (by decide)⟩,h3⟩
def actT (seg i:Int) (s:Sto) (a:Ac):Sto :=
 if a.kind=1 then(syncT s).1 else if a.kind=2 then(trimT s a.n a.m).1 else if a.kind=3 then { s with disk:=armD s.disk a.n } else if a.kind=4 then { s with disk:=limD s.disk a.n } else(appT s seg ⟨s.next,i,a.data⟩).1
def runA (seg:Int):Int->List Ac->Sto->Sto × Bool
 | _,[],s=>(s,true)
 | i,a::l,s=>if 64<a.data.length then(s,false) else runA seg (i+1) l (actT seg i s a)
def playT (seg:Int) (l:List Ac):Sto × Bool:=if 40<l.length then((createT d0).1,false) else runA seg 0 l (createT d0).1
structure PI (i:Nat) (s:Sto):Prop where
 ok:okS (10+2*i) (2000+23000*i) s
 next:s.next<=i
 base:∀ g∈s.segs,g.base<=s.next
theorem floor_nn {k u:Nat} {s:Sto} (h:okS k u s):0<=s.floor:=(floor_ok h).1
theorem put_base (t:Sto) (x:Txt) (h:∀ g∈t.segs,g.base<=t.next) (h1:1<=t.segs.length):(∀ g∈(putT t x).1.segs,g.base<=(putT t x).1.next)∧(putT t x).1.next<=t.next+1:=by
 by_cases c:(chgF t.disk (appR t.disk.files t.disk.cap (fileN t.last.base) x)).2≠0
 ·have e:putT t x=({ t with disk:=(chgF t.disk (appR t.disk.files t.disk.cap (fileN t.last.base) x)).1 },(chgF t.disk (appR t.disk.files t.disk.cap (fileN t.last.base) x)).2):=by unfold putT;simp only[];rw[if_pos c]
  rw[e];exact⟨h,by show t.next<=t.next+1;omega⟩
 ·have e:putT t x=({ addSeg t x.length with disk:=(chgF t.disk (appR t.disk.files t.disk.cap (fileN t.last.base) x)).1 },0):=by unfold putT;simp only[];rw[if_neg c]
  rw[e];refine⟨fun g hg=>?_,Int.le_refl _⟩
  have hg':g∈t.segs.dropLast++[⟨t.last.base,t.last.n+1,t.last.size+x.length⟩]:=hg;show g.base<=t.next+1;rcases List.mem_append.1 hg' with hg|hg
  ·have:=h g (List.dropLast_subset _ hg);omega
  ·rw[List.mem_singleton.1 hg];have:=h t.last (last_mem h1);show t.last.base<=t.next+1;omega
theorem roll_base (s:Sto) (h:∀ g∈s.segs,g.base<=s.next):(∀ g∈(rollT s).1.segs,g.base<=(rollT s).1.next)∧(rollT s).1.next=s.next:=by
 have hs:(syncT s).1.segs=s.segs:=rfl;have hn:(syncT s).1.next=s.next:=rfl;unfold rollT;split
 ·exact⟨h,rfl⟩
 ·split
  ·exact⟨by rw[hs,hn];exact h,hn⟩
  ·split
   ·refine⟨fun g hg=>?_,rfl⟩
    have hg':g∈s.segs++[⟨s.next,0,0⟩]:=hg;show g.base<=s.next;rcases List.mem_append.1 hg' with hg|hg
    ·exact h g hg
    ·rw[List.mem_singleton.1 hg];exact Int.le_refl _
   ·exact⟨by rw[show({ (syncT s).1 with disk:=(rollD (syncT s).1).1 }:Sto).segs=s.segs from rfl];exact h,rfl⟩
theorem app_base {k u:Nat} {s:Sto} (ho:okS k u s) (h:∀ g∈s.segs,g.base<=s.next) (seg:Int) (r:Rec):(∀ g∈(appT s seg r).1.segs,g.base<=(appT s seg r).1.next)∧(appT s seg r).1.next<=s.next+1:=by
 have hr:=roll_base s h;have ho2:=rollT_ok ho;unfold appT;split
 ·exact⟨h,by show s.next<=s.next+1;omega⟩
 ·split
  ·exact⟨h,by show s.next<=s.next+1;omega⟩
  ·split
   ·split
    ·exact⟨hr.1,by rw[hr.2];omega⟩
    ·have:=put_base (rollT s).1 (putF r).1 hr.1 ho2.len.1;rw[hr.2] at this;exact this
   ·exact put_base s _ h ho.len.1
theorem trim_base {s:Sto} (h:∀ g∈s.segs,g.base<=s.next) (keep count:Int):(∀ g∈(trimT s keep count).1.segs,g.base<=(trimT s keep count).1.next)∧(trimT s keep count).1.next=s.next:=by
 unfold trimT;split
 ·exact⟨h,rfl⟩
 ·unfold trimK;simp only[];split
  ·exact⟨h,rfl⟩
  ·refine⟨fun g hg=>?_,rfl⟩
   exact h g (List.mem_of_mem_drop hg)
theorem act_PI {i:Nat} {s:Sto} (h:PI i s) (hi:i<40) (seg:Int) (a:Ac) (ha:a.ok):PI (i+1) (actT seg i s a):=by
 have h2:=h.ok.up (k':=10+2*(i+1)) (u':=2000+23000*(i+1)) (by omega) (by omega)
 have hn:=h.next;unfold actT;split
 ·exact⟨(syncT_ok h.ok).up (by omega) (by omega),by show s.next<=_;omega,h.base⟩
 ·split
  ·have hb:=trim_base h.base a.n a.m;refine⟨?_,by rw[hb.2];omega,hb.1⟩
   unfold trimT;split
   ·exact h2
   ·rename_i hne;have hlt:=pickF_lt s.segs a.n a.m hne;have hfl:=floor_nn h.ok;have:=trimK_ok h.ok hlt (by rw[(base_at hlt).2];have:=h.base _ (List.getElem_mem hlt);omega)
    exact this.up (by omega) (by omega)
  ·split
   ·refine⟨⟨⟨h2.dsk.len,h2.dsk.srt,?_,h2.dsk.cap,h2.dsk.used⟩,h2.len,h2.seg,h2.next,h2.ver,h2.sum⟩,by show s.next<=_;omega,h.base⟩
    have:=ha.2.1;show 0<=(if 0<a.n then a.n else 0)∧(if 0<a.n then a.n else 0)<9223372036854775808
    split <;> omega
   ·split
    ·refine⟨⟨⟨h2.dsk.len,h2.dsk.srt,h2.dsk.left,?_,h2.dsk.used⟩,h2.len,h2.seg,h2.next,h2.ver,h2.sum⟩,by show s.next<=_;omega,h.base⟩
     have:=ha.2.1;show 0<=(if 0<a.n then a.n else 0)∧(if 0<a.n then a.n else 0)<9223372036854775808
     split <;> omega
    ·have hb:=app_base h.ok h.base seg ⟨s.next,i,a.data⟩;exact⟨(appT_ok h.ok seg _).up (by omega) (by omega),by have:=hb.2;omega,hb.1⟩
theorem new_PI:PI 0 (createT d0).1:=by
 obtain⟨o1,hd1,n1,s1⟩:=createT_ok d0_ok d0_new;refine⟨o1.up (by omega) (by omega),by rw[n1];omega,fun g hg=>?_⟩
 have e:(createT d0).1.segs=[⟨0,0,0⟩]:=by decide +kernel
 rw[e,List.mem_singleton] at hg;rw[hg,n1];exact Int.le_refl _
theorem PI.up {i j:Nat} {s:Sto} (h:PI i s) (hj:i<=j):PI j s:=⟨h.ok.up (by omega) (by omega),by have:=h.next;omega,h.base⟩
theorem runA_PI (seg:Int):∀ (l:List Ac) (i:Nat) (s:Sto),(∀ a∈l,a.ok)->i+l.length<=40->PI i s->PI 40 (runA seg i l s).1
 | [],i,s,_,h,hp=>hp.up (by simp at h;omega)
 | a::l,i,s,ha,h,hp=>by
  simp only[runA];split
  ·exact hp.up (by simp at h;omega)
  ·have:=runA_PI seg l (i+1) (actT seg i s a) (fun b hb=>ha b (by simp[hb])) (by simp at h;omega) (act_PI hp (by simp at h;omega) seg a (ha a (by simp)))
   rw[Int.natCast_add,Int.natCast_one] at this;exact this
theorem play_PI (seg:Int) (l:List Ac) (ha:∀ a∈l,a.ok):PI 40 (playT seg l).1:=by
 unfold playT;split
 ·exact new_PI.up (by omega)
 ·exact runA_PI seg l 0 _ ha (by omega) new_PI
set_option maxRecDepth 20000 in
set_option maxHeartbeats 4000000 in
theorem rplay_spec (seg:Int) (l:List Ac) (hl:l.length<=9223372036854775807) (ha:∀ a∈l,a.ok):call 38 [vi seg,vl (l.map Ac.enc)] []=some (.tup [(true,(playT seg l).1.l),(false,[.d (.b (playT seg l).2)])],[]):=by
 have q0:=rnew_spec d0 d0_ok (by decide) (by decide)
 have hp0:=new_PI;have hd0:d0.l=[.d (.l []),.d (.i .i64 0),.d (.b false),.d (.i .i64 0),.d (.b false)]:=rfl;have hcell:∀ s:Sto,s.l=[.d (.l (s.disk.files.map Fil.enc)),.d (.i .i64 s.disk.cap),.d (.b s.disk.armed),.d (.i .i64 s.disk.left),.d (.b s.disk.down),.d (.i .i64 s.ver),.d (.l (s.segs.map Seg.enc)),.d (.i .i64 s.next),.d (.i .i64 s.sure),.d (.i .i64 s.size),.d (.i .u32 s.sum)]:=fun _=>rfl
 obtain⟨P,hP⟩:∃ P,P=playT seg l:=⟨_,rfl⟩;rw[<- hP];unfold playT at hP;generalize createT d0=r0 at *;obtain⟨st0,e0⟩:=r0;simp only[stoV,hcell,hd0] at q0 hP hp0 ⊢;apply enterS s38 rfl;by_cases c0:40<l.length
 ·rw[if_pos c0] at hP;subst hP;have hc0:(40:Int)<(l.length:Int):=by omega
  (simp(disch:=first|decide|omega|(intros;exact Eq.trans rfl rfl)|simp only[puri]) only[wkf,a38,q0,decide_eq_true hc0,go_sem,seval,dis])
  try simp[trim]
 ·rw[if_neg c0] at hP;have hc0:¬ (40:Int)<(l.length:Int):=by omega
  (simp(disch:=first|decide|omega|(intros;exact Eq.trans rfl rfl)|simp only[puri]) only[wkf,a38,q0,decide_eq_false hc0,go_sem,seval,dis])
  refine loop_boxM (m:=0) (σ:=Nat × Sto) (fun t=>l.length-t.1) (fun t=>t.1<=l.length∧PI t.1 t.2∧P=runA seg t.1 (l.drop t.1) t.2) (fun t=>[vi seg,vl (l.map Ac.enc),V.one (.p 0 0),V.one (.p 1 0),vi t.1])
   (fun t=>[.cells [.ns,.d (.i .i64 0),.d (.b false),.d (.i .i64 0),.d (.b false),.d (.i .i64 0),.ns,.d (.i .i64 0),.d (.i .i64 0),.d (.i .i64 0),.d (.i .u32 0)],.cells [.d (.l (t.2.disk.files.map Fil.enc)),.d (.i .i64 t.2.disk.cap),.d (.b t.2.disk.armed),.d (.i .i64 t.2.disk.left),.d (.b t.2.disk.down),.d (.i .i64 t.2.ver),.d (.l (t.2.segs.map Seg.enc)),.d (.i .i64 t.2.next),.d (.i .i64 t.2.sure),.d (.i .i64 t.2.size),.d (.i .u32 t.2.sum)]]) (fun _=>(V.tup [(true,[.d (.l (P.1.disk.files.map Fil.enc)),.d (.i .i64 P.1.disk.cap),.d (.b P.1.disk.armed),.d (.i .i64 P.1.disk.left),.d (.b P.1.disk.down),.d (.i .i64 P.1.ver),.d (.l (P.1.segs.map Seg.enc)),.d (.i .i64 P.1.next),.d (.i .i64 P.1.sure),.d (.i .i64 P.1.size),.d (.i .u32 P.1.sum)]),(false,[.d (.b P.2)])],[])) ?_ (0,st0) ⟨Nat.zero_le _,hp0,hP⟩ _ _ ?_
  rotate_left
  ·exact hdM
  rintro⟨i,s⟩ ⟨h1,h2,h3⟩ R hR;simp only at h1 h2 h3 ⊢;by_cases c1:i<l.length
  ·have hc1:(i:Int)<(l.length:Int):=by omega
   rw[List.drop_eq_getElem_cons c1,runA] at h3;have g1:(l.map Ac.enc)[i]?=some l[i].enc:=by rw[List.getElem?_map,List.getElem?_eq_getElem c1];rfl
   have haa:=ha _ (List.getElem_mem c1);have hnx:=act_PI h2 (by omega) seg l[i] haa
   obtain⟨a,hae⟩:∃ a,a=l[i]:=⟨_,rfl⟩;rw[<- hae] at g1 h3 haa hnx;have ho:=h2.ok;by_cases c2:64<a.data.length
   ·rw[if_pos c2] at h3;subst h3;obtain⟨ak,an,am,ad⟩:=a;simp only[Ac.enc] at g1 c2;have hc2:(64:Int)<(ad.length:Int):=by omega
    (simp(disch:=first|decide|omega|(intros;exact Eq.trans rfl rfl)|simp only[puri]) only[wkf,a38_0,decide_eq_true hc1,g1,decide_eq_true hc2,go_sem,seval,dis,vdr,A.kind,A.xs,optX,A.isN])
    try simp[trim]
   ·rw[if_neg c2] at h3;have hR':=hR (i+1,actT seg i s a) (by simp only[];omega) ⟨by simp only[];omega,hnx,by simp only[];rw[Int.natCast_add,Int.natCast_one];exact h3⟩
    have hnn:=ho.next;have q1:=rsync_sto s ho (by omega) (by omega)
    have hfl:=floor_nn ho;have q2:=rtrim_spec s ho (by omega) (by omega) a.n a.m (fun g hg=>by have:=h2.base g hg;have:=h2.next;omega)
    have q3:=arm_spec s.disk a.n haa.2.1;have q4:=lim_spec s.disk a.n haa.2.1;have q5:=rappend_sto s ho (by omega) (by omega) seg ⟨s.next,i,a.data⟩ ⟨by simp only[];omega,by simp only[];omega,haa.2.2.2⟩
    have hc2:¬ (64:Int)<(a.data.length:Int):=by omega
    unfold actT at hR';generalize syncT s=r1 at *;generalize trimT s a.n a.m=r2 at *;generalize armD s.disk a.n=r3 at *;generalize limD s.disk a.n=r4 at *;generalize appT s seg ⟨s.next,i,a.data⟩=r5 at *;obtain⟨ak,an,am,ad⟩:=a;obtain⟨⟨fl,cp,ar,lf,dn⟩,ver,segs,next,sure,size,sum⟩:=s;simp only[Ac.enc,Dsk.l,stoV,hcell,Rec.enc,List.map_cons,List.map_nil] at g1 hc2 q1 q2 q3 q4 q5 hR';by_cases k1:ak=1
    ·subst k1;rw[if_pos rfl] at hR';(simp(disch:=first|decide|omega|(intros;exact Eq.trans rfl rfl)|simp only[puri]) only[wkf,a38_0,decide_eq_true hc1,g1,decide_eq_false hc2,q1,go_sem,seval,dis,vdr,A.kind,A.xs,optX,A.isN])
     exact hR' _ _ hdM
    ·rw[if_neg k1] at hR';by_cases k2:ak=2
     ·subst k2;rw[if_pos rfl] at hR';(simp(disch:=first|decide|omega|(intros;exact Eq.trans rfl rfl)|simp only[puri]) only[wkf,a38_0,decide_eq_true hc1,g1,decide_eq_false hc2,q2,go_sem,seval,dis,vdr,A.kind,A.xs,optX,A.isN])
      exact hR' _ _ hdM
     ·rw[if_neg k2] at hR';by_cases k3:ak=3
      ·subst k3;rw[if_pos rfl] at hR';(simp(disch:=first|decide|omega|(intros;exact Eq.trans rfl rfl)|simp only[puri]) only[wkf,a38_0,decide_eq_true hc1,g1,decide_eq_false hc2,q3,go_sem,seval,dis,vdr,A.kind,A.xs,optX,A.isN])
       exact hR' _ _ hdM
      ·rw[if_neg k3] at hR';by_cases k4:ak=4
       ·subst k4;rw[if_pos rfl] at hR';(simp(disch:=first|decide|omega|(intros;exact Eq.trans rfl rfl)|simp only[puri]) only[wkf,a38_0,decide_eq_true hc1,g1,decide_eq_false hc2,q4,go_sem,seval,dis,vdr,A.kind,A.xs,optX,A.isN])
        exact hR' _ _ hdM
       ·rw[if_neg k4] at hR';(simp(disch:=first|decide|omega|(intros;exact Eq.trans rfl rfl)|simp only[puri]) only[wkf,a38_0,decide_eq_true hc1,g1,decide_eq_false hc2,k1,k2,k3,k4,q5,go_sem,seval,dis,vdr,A.kind,A.xs,optX,A.isN])
        exact hR' _ _ hdM
  ·have hc1:¬ (i:Int)<(l.length:Int):=by omega
   rw[List.drop_eq_nil_of_le (by omega),runA] at h3
   subst h3;(simp(disch:=first|decide|omega|(intros;exact Eq.trans rfl rfl)|simp only[puri]) only[wkf,a38_0,a38,decide_eq_false hc1,go_sem,seval,dis,vdr,A.kind,A.xs,optX,A.isN])
   try simp[trim]
variable {k u:Nat} {f:Int} {S:Txt} {l0:List Pr} {s:Sto} {M:List SR} {g:Seg} {l:List Rec}
theorem create_out {d:Dsk} (hs:srt d.files) (hF:d.down=false->∀ n,fm d.files n=none) :
  Out d ((createT d).1.disk,(createT d).2) [fileN 0,[110]] (up (up (fm d.files) (fileN 0) (some ([],0))) [109] (manV ⟨1,[0],0,0⟩)) (some (up (fm d.files) (fileN 0) (some ([],0)))) ∧
   ((createT d).2=0->(createT d).1=⟨(createT d).1.disk,1,[⟨0,0,0⟩],0,0,0,0⟩)∧((createT d).2≠0->(createT d).1=⟨(createT d).1.disk,0,[],0,0,0,0⟩):=by
 have e1:crtS (fileN 0) (d,0)=chgF d (crtR d.files (fileN 0)):=stp_ye _ _;have hO:Out d (if(chgF d (crtR d.files (fileN 0))).2=0 then swapS ⟨1,[0],0,0⟩ (chgF d (crtR d.files (fileN 0))) else chgF d (crtR d.files (fileN 0))) [fileN 0,[110]] (up (up (fm d.files) (fileN 0) (some ([],0))) [109] (manV ⟨1,[0],0,0⟩)) (some (up (fm d.files) (fileN 0) (some ([],0)))):=by
  by_cases hd:d.down=true
  ·rw[chg_down hd,if_neg (by simp)]
   exact .dn hs hd _ _ _
  ·have hF:=hF (by simpa using hd)
   refine Out.seq (crt_out hs (namedN 0) (hF _)) (g1:=none) (g2:=some (up (fm d.files) (fileN 0) (some ([],0)))) ?_ ?_ (by simp) (X2:=[[110]]) (by simp) (by simp) (by simp)
   ·intro h0 hd1 hf1 hs1;rw[pair_eq h0];have h3:=swap_out hs1 (m:=⟨1,[0],0,0⟩) (by decide) (fun _=>by rw[hf1,up_ne _ _ (n110 _ (by rw[fileN_len];decide)).symm];exact hF _)
    rw[hf1] at h3;exact h3
   ·intro n hn;exact up_ne _ _ (fun e=>hn (by simp[e]))
 unfold createT;simp only[e1];generalize (if(chgF d (crtR d.files (fileN 0))).2=0 then swapS ⟨1,[0],0,0⟩ (chgF d (crtR d.files (fileN 0))) else chgF d (crtR d.files (fileN 0)))=w at *
 by_cases c:w.2=0
 ·rw[if_pos c];refine⟨?_,fun _=>rfl,fun h=>absurd rfl h⟩
  rw[pair_eq c] at hO;exact hO
 ·rw[if_neg c];exact⟨hO,fun h=>absurd h c,fun _=>rfl⟩
theorem create_WR {d:Dsk} (hs:srt d.files) (hF:d.down=false->∀ n,fm d.files n=none) (h0:(createT d).2=0):WR 0 [] [] (createT d).1 []∧(createT d).1.disk.down=false:=by
 have hc:=create_out hs hF;obtain⟨hO,he,_⟩:=hc;have he:=he h0;rcases hO.2.2 with⟨_,hd,hf⟩|⟨_,_,e,_⟩|⟨e,_⟩
 ·have hdn:=hO.1.up_of hd;have hF:=hF hdn;have hd2:(createT d).1.disk.down=false:=hd;refine⟨⟨[],⟨0,0,0⟩,[],?_,rfl⟩,hd2⟩;rw[he];generalize (createT d).1.disk=w at *;refine⟨⟨rfl,fun p hp=>?_,rfl,rfl,by simp⟩,.inl ⟨rfl,rfl,rfl,rfl,rfl⟩,?_,(show manB ⟨1,[0],0,0⟩=true by decide),fun p hp=>(by cases hp),⟨0,?_,by simp[rowS],by simp⟩,Int.le_refl _,fun _ n hn=>?_⟩
  ·rw[List.nil_append,List.mem_singleton] at hp;subst hp;refine⟨(fm_hasD hO.2.1 _ _).2 ⟨0,?_⟩,fun r hr=>(by cases hr),fun i hi=>(by simp at hi),rfl,rfl⟩
   rw[hf,up_ne _ _ (n109 _ (by rw[fileN_len];decide)),up_at];rfl
  ·rw[hf,up_at];rfl
  ·rw[hf,up_ne _ _ (n109 _ (by rw[fileN_len];decide)),up_at];rfl
  ·rw[hf] at hn;by_cases a1:n=[109]
   ·exact .inl a1
   ·rw[up_ne _ _ a1] at hn;by_cases a2:n=fileN 0
    ·exact .inr (.inl ⟨⟨0,0,0⟩,by simp,a2⟩)
    ·rw[up_ne _ _ a2,hF] at hn;exact absurd rfl hn
 ·exact absurd h0 (by rw[show(createT d).2=9 from e];decide)
 ·exact absurd h0 (by rw[show(createT d).2=10 from e];decide)
theorem WR.sync {R:List Rec} (ho:okS k u s) (h:WR f S l0 s R):WR f S l0 (syncT s).1 R∧(((syncT s).2=0∧(syncT s).1.sure=s.next∧(syncT s).1.disk.down=false)∨((syncT s).2=10∧(syncT s).1.disk.down=true∧(syncT s).1.sure=s.sure))∧(syncT s).1.disk.cap=s.disk.cap:=by
 obtain⟨M,g,l,h,rfl⟩:=h;have:=h.sync ho;exact⟨⟨M,g,l,this.1,rfl⟩,this.2⟩
def LW (s:Sto):Prop:=∃ f S l0 R,WR f S l0 s R
theorem new_LW:LW (createT d0).1:=⟨_,_,_,_,(create_WR d0_ok.srt (fun _ _=>rfl) d0_new).1⟩
theorem act_LW {i:Nat} (hp:PI i s) (hi:i<40) (h:LW s) {seg:Int} (hseg:1<=seg) (a:Ac):LW (actT seg i s a):=by
 obtain⟨f,S,l0,R,h⟩:=h;unfold actT;split
 ·exact⟨_,_,_,_,(h.sync hp.ok).1⟩
 ·split
  ·obtain⟨f',S',l',_,_,_,h,_⟩:=h.trim hp.ok (by omega) a.n a.m
   exact⟨_,_,_,_,h⟩
  ·split
   ·obtain⟨M,g,l,h,e⟩:=h;exact⟨_,_,_,_,M,g,l,h.arm hp.ok.dsk.srt _,e⟩
   ·split
    ·obtain⟨M,g,l,h,e⟩:=h;exact⟨_,_,_,_,M,g,l,h.lim hp.ok.dsk.srt _,e⟩
    ·rcases(h.app hp.ok hseg (by omega) ⟨s.next,i,a.data⟩).2.2 with⟨_,_,_,_,_,h⟩|⟨h,_⟩
     ·exact⟨_,_,_,_,h⟩
     ·exact⟨_,_,_,_,h⟩
theorem runA_LW {seg:Int} (hseg:1<=seg):∀ (l:List Ac) (i:Nat) (s:Sto),(∀ a∈l,a.ok)->i+l.length<=40->PI i s->LW s->LW (runA seg i l s).1
 | [],i,s,_,_,_,h=>h
 | a::l,i,s,ha,hl,hp,h=>by
  simp only[runA];split
  ·exact h
  ·have:=runA_LW hseg l (i+1) (actT seg i s a) (fun b hb=>ha b (by simp[hb])) (by simp at hl;omega) (act_PI hp (by simp at hl;omega) seg a (ha a (by simp))) (act_LW hp (by simp at hl;omega) h hseg a)
   rw[Int.natCast_add,Int.natCast_one] at this;exact this
theorem play_LW {seg:Int} (hseg:1<=seg) (l:List Ac) (ha:∀ a∈l,a.ok):LW (playT seg l).1:=by
 unfold playT;split
 ·exact new_LW
 ·exact runA_LW hseg l 0 _ ha (by omega) new_PI new_LW
variable {k u:Nat} {f:Int} {S:Txt} {l0:List Pr} {s:Sto} {M:List SR} {g:Seg} {l:List Rec}
theorem WR.stT {R:List Rec} (ho:okS k u s) (h:WR f S l0 s R) (off:Int) (h1:f<=off∧off<=s.next):stateT s off=stF l0 f R off:=by
 obtain⟨M,g,l,h,rfl⟩:=h;exact h.stT ho off h1
theorem WR.st_ok {R:List Rec} (h:WR f S l0 s R) (off:Int):srtP (stF l0 f R off)∧okV (stF l0 f R off)∧(stF l0 f R off).length<=256:=by
 obtain⟨M,g,l,h,rfl⟩:=h;have:=h.st off;exact⟨this.1,this.2,st_len this.1 this.2.okP⟩
theorem WR.rget {R:List Rec} (ho:okS k u s) (h:WR f S l0 s R) (j:Nat) (hj:j<R.length):rgetT s (f+j)=.tup [(true,R[j].enc.map .d),(false,[.d (.i .i64 0)])]:=by
 have hn:=h.next;have hf0:0<=f:=by have:=h.floor;rw[<- this];exact(floor_ok ho).1
 obtain⟨M,g,l,h,rfl⟩:=h;unfold rgetT seekV;rw[if_neg (by omega),h.inv.scans ho,find_num h.inv.num j hj]
theorem WR.why {R:List Rec} (h:WR f S l0 s R):∀ r∈R,whyF r=0:=by
 obtain⟨M,g,l,h,rfl⟩:=h;exact h.why
theorem WR.num {R:List Rec} (h:WR f S l0 s R):numB f R:=by
 obtain⟨M,g,l,h,rfl⟩:=h;exact h.inv.num
def backT:List Txt->Dsk->Dsk × Int
 | [],d=>(d,9)
 | n::l,d=>if(chgF d (delR d.files n)).2≠0 then chgF d (delR d.files n) else backT l (chgF d (delR d.files n)).1
abbrev LR:=(Dsk × Int) × Nat × Nat × Nat
def u4 (n g:Txt) (m:Man) (d:Dsk):LR:=if(swapS m (d,0)).2=9 then(backT [g,n] (swapS m (d,0)).1,0,1,2) else(swapS m (d,0),0,1,0)
def u3 (n g:Txt) (m:Man) (d:Dsk):LR:=if(chgF d (crtR d.files g)).2≠0 then(chgF d (crtR d.files g),0,0,0) else u4 n g m (chgF d (crtR d.files g)).1
def u2 (n g:Txt) (m:Man) (d:Dsk):LR:=if(chgF d (synR d.files n)).2≠0 then(chgF d (synR d.files n),0,0,0) else u3 n g m (chgF d (synR d.files n)).1
def u1 (n g x:Txt) (m:Man) (d:Dsk):LR:=if(chgF d (appR d.files d.cap n x)).2=9 then(backT [n] (chgF d (appR d.files d.cap n x)).1,1,0,0) else if(chgF d (appR d.files d.cap n x)).2≠0 then(chgF d (appR d.files d.cap n x),0,0,0) else u2 n g m (chgF d (appR d.files d.cap n x)).1
def u0 (n g x:Txt) (m:Man) (d:Dsk):LR:=if(chgF d (crtR d.files n)).2≠0 then(chgF d (crtR d.files n),0,0,0) else u1 n g x m (chgF d (crtR d.files n)).1
theorem sum1_spec (x:Txt) (hx:x.length<=1000000):call 106 [vl [[.s x]]] []=some (vk .u32 (sumT x),[]):=by
 have h:=sum_spec [x] (by simp) (fun s hs=>by rw[List.mem_singleton.1 hs];omega)
 have e:crcSum [x]=crcOn 0#32 x:=rfl;rw[e] at h;exact h
def exW:Txt:=[1,97,1,49]
variable {k u:Nat} {f:Int} {S:Txt} {l0:List Pr} {s:Sto} {M:List SR} {g:Seg} {l:List Rec}
variable {k u:Nat} {f:Int} {S:Txt} {l0:List Pr} {s:Sto} {M:List SR} {g:Seg} {l:List Rec}
theorem srt_head {l:List Fil} {a b:Fil} (h:srt (a::l)) (hb:b∈l):bl a.name b.name=true:=(List.pairwise_cons.1 h).1 b hb
theorem fm_ext:∀ (l l':List Fil),srt l->srt l'->fm l=fm l'->l=l'
 | [],[],_,_,_=>rfl
 | [],b::l',_,hs',h=>by
  have:=congrFun h b.name;rw[show fm (b::l') b.name=some (b.data,b.sure) by simp[fm]] at this
  simp[fm] at this
 | a::l,[],hs,_,h=>by
  have:=congrFun h a.name;rw[show fm (a::l) a.name=some (a.data,a.sure) by simp[fm]] at this
  simp[fm] at this
 | a::l,b::l',hs,hs',h=>by
  have ha:fm (a::l) a.name=some (a.data,a.sure):=by simp[fm]
  have hb:fm (b::l') b.name=some (b.data,b.sure):=by simp[fm]
  have e:a.name=b.name:=by
   rcases bl_tri a.name b.name with c|c|c
   ·have h1:fm (b::l') a.name=none:=by
     rw[fm_none];intro x hx e;rcases List.mem_cons.1 hx with rfl|hx
     ·rw[e,bl_irr] at c;cases c
     ·have:=bl_trans c (srt_head hs' hx);rw[e,bl_irr] at this;cases this
    rw[<- h,ha] at h1;cases h1
   ·exact c
   ·have h1:fm (a::l) b.name=none:=by
     rw[fm_none];intro x hx e;rcases List.mem_cons.1 hx with rfl|hx
     ·rw[e,bl_irr] at c;cases c
     ·have:=bl_trans c (srt_head hs hx);rw[e,bl_irr] at this;cases this
    rw[h,hb] at h1;cases h1
  have hd:a=b:=by
   have:=congrFun h a.name;rw[ha,e,hb] at this;obtain⟨an,ad,as'⟩:=a;obtain⟨bn,bd,bs⟩:=b;simp only[Option.some.injEq,Prod.mk.injEq] at this e;rw[e,this.1,this.2]
  subst hd;have hn:fm l a.name=none:=fm_none.2 fun x hx e=>by
   have:=srt_head hs hx;rw[e,bl_irr] at this;cases this
  have hn':fm l' a.name=none:=fm_none.2 fun x hx e=>by
   have:=srt_head hs' hx;rw[e,bl_irr] at this;cases this
  have h1:fm (a::l)=up (fm l) a.name (some (a.data,a.sure)):=fm_mid [] a l (by simp)
  have h2:fm (a::l')=up (fm l') a.name (some (a.data,a.sure)):=fm_mid [] a l' (by simp)
  have h3:fm l=fm l':=by
   funext k
   by_cases c:k=a.name
   ·rw[c,hn,hn']
   ·have:=congrFun h k;rw[h1,h2,up_ne _ _ c,up_ne _ _ c] at this;exact this
  rw[fm_ext l l' (List.pairwise_cons.1 hs).2 (List.pairwise_cons.1 hs').2 h3]
theorem Dk.same {d d':Dsk} (h:Dk d d') (hs:srt d.files) (hs':srt d'.files) (hf:fm d'.files=fm d.files) (ha:d.armed=false) (hd:d.down=false):d'=d:=by
 have h1:=h.idle ha hd;have h2:=fm_ext _ _ hs' hs hf;obtain⟨a,b,c,e,q⟩:=d;obtain⟨a',b',c',e',q'⟩:=d';have h3:=h.cap;have h4:=h.armed;simp only at h1 h2 h3 h4 hd;rw[h2,h3,h4,h1.2,h1.1,hd]
def numsR (b:Txt):Nat->Nat->List Nat->Option (List Nat × Nat)
 | 0,a,l=>some (l,a)
 | n+1,a,l=>match rdF (b.drop a) 0 0 with
  | some (v,j)=>numsR b n (a+j) (l++[v])
  | none=>none
def sum4:Txt->Int
 | [a,b,c,d]=>(a.toNat+256*(b.toNat+256*(c.toNat+256*d.toNat)):Nat)
 | _=>0
def candM (b:Txt):Man:=match numsR b 2 0 [] with
 | some ([v,n],a)=>match numsR b (min n 64+1) a [] with
  | some (l,a2)=>⟨v,l.dropLast.map Int.ofNat,((l.getLastD 0:Nat):Int),sum4 (b.drop a2)⟩
  | none=>⟨0,[],0,0⟩
 | _=>⟨0,[],0,0⟩
def decM (s:Txt):Option Man:=if manB (candM (nextF s 0).1)=true∧manText (candM (nextF s 0).1)=s then some (candM (nextF s 0).1) else none
theorem nums_enc:∀ (vs:List Nat) (pre rest:Txt) (l:List Nat),(∀ v∈vs,v<9223372036854775808)->numsR (pre++(vs.flatMap enc128++rest)) vs.length pre.length l=some (l++vs,(pre++vs.flatMap enc128).length)
 | [],pre,rest,l,_=>by simp[numsR]
 | v::vs,pre,rest,l,h=>by
  have e:pre++((v::vs).flatMap enc128++rest)=(pre++enc128 v)++(vs.flatMap enc128++rest):=by simp
  have hd:(pre++((v::vs).flatMap enc128++rest)).drop pre.length=enc128 v++(vs.flatMap enc128++rest):=by
   rw[List.drop_left];simp
  have hr:=rdF_of0 v (vs.flatMap enc128++rest) (h v (by simp))
  have ih:=nums_enc vs (pre++enc128 v) rest (l++[v]) (fun x hx=>h x (by simp[hx]))
  have hl:(pre++enc128 v).length=pre.length+nd v:=by rw[List.length_append];rfl
  rw[List.length_cons,numsR,hd,hr];simp only[];rw[e,<- hl,ih];simp
theorem sum4_four (x:W32):sum4 (four x)=((x.toNat:Nat):Int):=by
 have h:=four_nat x;have e:four x=[UInt8.ofNat x.toNat,UInt8.ofNat (x >>> 8).toNat,UInt8.ofNat (x >>> 16).toNat,UInt8.ofNat (x >>> 24).toNat]:=rfl;rw[e] at h ⊢;simp only[sum4];have h2:x.toNat=(UInt8.ofNat x.toNat).toNat+256*(UInt8.ofNat (x >>> 8).toNat).toNat+65536*(UInt8.ofNat (x >>> 16).toNat).toNat+16777216*(UInt8.ofNat (x >>> 24).toNat).toNat:=h;omega
theorem man_sum {m:Man} (hm:m.ok):(((sumM m).toNat:Nat):Int)=m.sum:=by
 have:=hm.sum;unfold sumM;rw[BitVec.toNat_ofNat];omega
theorem next_man {m:Man} (h:manB m=true):nextF (manText m) 0=(manBody m,(manText m).length,0):=by
 have hb:=manBody_len h;have:=nextF_frame [] (manBody m) [] hb.1 (by omega)
 simp only[List.nil_append,List.append_nil,List.length_nil,Nat.zero_add] at this;exact this
theorem numsE_nat (l:List Int):numsE l=(l.map Int.toNat).flatMap enc128:=by
 unfold numsE;rw[List.flatMap_map]
theorem cand_man {m:Man} (h:manB m=true) (hm:m.ok):candM (manBody m)=m:=by
 obtain⟨h1,h2,h3,h4⟩:=manB_t h;have hin:=incB_mem _ _ h3;have hb:manBody m=[]++(([m.ver.toNat,m.segs.length]:List Nat).flatMap enc128++((m.segs.map Int.toNat++[m.size.toNat]).flatMap enc128++four (sumM m))):=by
  unfold manBody;rw[numsE_nat];simp
 have n1:=nums_enc [m.ver.toNat,m.segs.length] [] ((m.segs.map Int.toNat++[m.size.toNat]).flatMap enc128++four (sumM m)) [] (by
  intro v hv;simp only[List.mem_cons,List.mem_nil_iff,or_false] at hv;rcases hv with rfl|rfl <;> omega)
 have n2:=nums_enc (m.segs.map Int.toNat++[m.size.toNat]) (([m.ver.toNat,m.segs.length]:List Nat).flatMap enc128) (four (sumM m)) [] (by
  intro v hv;rw[List.mem_append,List.mem_map,List.mem_singleton] at hv;rcases hv with⟨a,ha,rfl⟩|rfl
  ·have:=hin a ha;omega
  ·omega)
 have hb2:manBody m=([m.ver.toNat,m.segs.length]:List Nat).flatMap enc128++((m.segs.map Int.toNat++[m.size.toNat]).flatMap enc128++four (sumM m)):=by rw[hb];simp
 rw[<- hb] at n1;rw[<- hb2] at n2;have hl2:([m.ver.toNat,m.segs.length]:List Nat).length=2:=rfl;rw[hl2] at n1;simp only[List.nil_append,List.length_nil] at n1 n2;have hmin:min m.segs.length 64+1=(m.segs.map Int.toNat++[m.size.toNat]).length:=by simp;omega
 unfold candM;rw[n1];simp only[hmin,n2];have hd:(manBody m).drop (([m.ver.toNat,m.segs.length]:List Nat).flatMap enc128++(m.segs.map Int.toNat++[m.size.toNat]).flatMap enc128).length=four (sumM m):=by
  rw[hb2,<- List.append_assoc,List.drop_left]
 rw[hd,sum4_four,man_sum hm];have hsg:(m.segs.map Int.toNat++[m.size.toNat]).dropLast.map Int.ofNat=m.segs:=by
  rw[List.dropLast_concat,List.map_map];conv=>rhs;rw[<- List.map_id m.segs]
  apply List.map_congr_left;intro a ha;have:=hin a ha;show((a.toNat:Nat):Int)=a;omega
 rw[hsg];have hsz:(((m.segs.map Int.toNat++[m.size.toNat]).getLastD 0:Nat):Int)=m.size:=by
  simp[List.getLastD_eq_getLast?];omega
 rw[hsz];have hvv:((m.ver.toNat:Nat):Int)=m.ver:=by omega
 rw[hvv]
theorem dec_text {m:Man} (h:manB m=true) (hm:m.ok):decM (manText m)=some m:=by
 unfold decM;rw[next_man h];simp only[cand_man h hm];rw[if_pos ⟨h,trivial⟩]
theorem dec_some {s:Txt} {m:Man} (h:decM s=some m):manB m=true∧manText m=s:=by
 unfold decM at h;split at h
 ·rename_i hc;cases h;exact hc
 ·cases h
def manN (m:Man):List Int:=m.ver::(m.segs.length:Int)::m.segs++[m.size]
theorem manN_len (m:Man):(manN m).length=m.segs.length+3:=by simp[manN]
theorem manBody_N (m:Man):manBody m=numsE (manN m)++four (sumM m):=rfl
theorem manN_in {m:Man} (h:manB m=true):∀ v∈manN m,0<=v∧v<9223372036854775808:=by
 obtain⟨h1,h2,h3,h4⟩:=manB_t h;have hin:=incB_mem _ _ h3;intro v hv;simp only[manN,List.cons_append,List.mem_cons,List.mem_append,List.mem_nil_iff,or_false] at hv;rcases hv with rfl|rfl|hv|rfl
 ·omega
 ·omega
 ·have:=hin v hv;omega
 ·omega
theorem numsE_cons (x:Int) (r:List Int):numsE (x::r)=enc128 x.toNat++numsE r:=by simp[numsE]
theorem man_read {m:Man} (h:manB m=true) (j:Nat) (hj:j<(manN m).length):rdF ((manBody m).drop (numsE ((manN m).take j)).length) 0 0=some ((manN m)[j].toNat,nd (manN m)[j].toNat)∧(numsE ((manN m).take (j+1))).length=(numsE ((manN m).take j)).length+nd (manN m)[j].toNat:=by
 have hv:=manN_in h _ (List.getElem_mem hj);have e:manBody m=numsE ((manN m).take j)++(enc128 (manN m)[j].toNat++(numsE ((manN m).drop (j+1))++four (sumM m))):=by
  have e2:manN m=(manN m).take j++(manN m)[j]::(manN m).drop (j+1):=by rw[<- List.drop_eq_getElem_cons hj,List.take_append_drop]
  have e3:numsE (manN m)=numsE ((manN m).take j)++(enc128 (manN m)[j].toNat++numsE ((manN m).drop (j+1))):=by
   conv=>lhs;rw[e2]
   rw[numsE_app,numsE_cons]
  rw[manBody_N,e3];simp
 constructor
 ·rw[e,List.drop_left];exact rdF_of0 _ _ (by omega)
 ·rw[List.take_succ_eq_append_getElem hj,numsE_app,List.length_append];simp[numsE];rfl
def zeroM:List L:=[.d (.i .i64 0),.d (.l []),.d (.i .i64 0),.d (.i .u32 0)]
def manV4 (m:Man):V:=.tup [(true,m.l),(false,[.d (.i .i64 0)])]
def errM (e:Int):V:=.tup [(true,zeroM),(false,[.d (.i .i64 e)])]
theorem same05_rfl (l:List Pr) (hl:l.length<=1000000):call 17 [vl (l.map Pr.enc),vl (l.map Pr.enc)] []=some (vb true,[]):=by
 apply enterS s17 rfl;(simp(disch:=first|decide|omega|(intros;exact Eq.trans rfl rfl)|simp only[puri]) only[a17,go_sem,seval,dis])
 refine loop_boxM (m:=0) (σ:=Nat) (fun i=>l.length-i) (fun i=>i<=l.length) (fun i=>[vl (l.map Pr.enc),vl (l.map Pr.enc),vi i]) (fun _=>[])
  (fun _=>(vb true,[])) ?_ 0 (Nat.zero_le _) _ _ hdM
 intro i h1 R hR;by_cases hi:i<l.length
 ·have g1:(l.map Pr.enc)[i]?=some l[i].enc:=by rw[List.getElem?_map,List.getElem?_eq_getElem hi];rfl
  have hR':=hR (i+1) (by omega) (by omega)
  generalize l[i]=p at *;have he:=Pr.eqs p p;(simp(disch:=first|decide|omega|(intros;exact Eq.trans rfl rfl)|simp only[puri]) only[a17_0,g1,Pr.len,Pr.tkL,Pr.tk,he,go_sem,seval,dis])
  exact hR' _ _ hdM
 ·(simp(disch:=first|decide|omega|(intros;exact Eq.trans rfl rfl)|simp only[puri]) only[a17_0,a17,go_sem,seval,dis])
  try simp[trim]
def eT (n:Txt):List D:=[.s n]
def namesF (l:List Fil):List Txt:=l.map Fil.name
def keepF (use:List Txt) (n:Txt):Bool:=use.any fun u=>decide (u=n)
def sweepG (use l:List Txt) (s:Dsk × Int):Dsk × Int:=goP (l.filter fun n => !keepF use n) s
theorem sweepG_cons (use l:List Txt) (n:Txt) (s:Dsk × Int):sweepG use (n::l) s=if keepF use n=true then sweepG use l s else sweepG use l (delS n s):=by
 unfold sweepG;by_cases c:keepF use n=true
 ·rw[if_pos c,List.filter_cons_of_neg (by simp[c])]
 ·rw[if_neg c,List.filter_cons_of_pos (by simpa using c),goP_cons]
def sweepT (use:List Txt) (d:Dsk):Dsk × Int:=sweepG use (namesF d.files) (d,0)
def cutR (l:List Fil) (n:Txt) (k:Int):List Fil × Int:=if hasF l n=true then(if k<0∨((readF l n).1.length:Nat)<k then([],6) else(updF l (posF l n) (fun f=>{ f with data:=f.data.take k.toNat,sure:=if k<f.sure then k else f.sure }),0)) else([],7)
def nmL (l:List Fil) (i:Nat):List (List D):=(l.take i).map (fun f=>[D.s f.name])++List.replicate (l.length-i) [D.s []]
theorem nmL_len (l:List Fil) (i:Nat) (h:i<=l.length):(nmL l i).length=l.length:=by simp[nmL];omega
theorem nmL_set (l:List Fil) (i:Nat) (h:i<l.length):(nmL l i).set i [.s l[i].name]=nmL l (i+1):=by
 unfold nmL;obtain⟨k,hk⟩:∃ k,l.length-i=k+1:=⟨l.length-i-1,by omega⟩
 have hk2:l.length-(i+1)=k:=by omega
 have hl:((l.take i).map (fun f=>[D.s f.name])).length=i:=by simp;omega
 rw[hk,hk2,List.take_succ_eq_append_getElem h,List.map_append,List.set_append,if_neg (by omega),hl,Nat.sub_self,List.replicate_succ,List.set_cons_zero,List.append_assoc]
 try rfl
theorem nmL_at (l:List Fil) (i:Nat) (h:i<l.length):(nmL l i)[i]?=some [D.s []]:=by
 unfold nmL;have hl:((l.take i).map (fun f=>[D.s f.name])).length=i:=by simp;omega
 rw[List.getElem?_append_right (by omega),hl,Nat.sub_self]
 obtain⟨k,hk⟩:∃ k,l.length-i=k+1:=⟨l.length-i-1,by omega⟩
 rw[hk];rfl
theorem pnames_spec (d:Dsk) (hl:d.files.length<=1000000):call 49 [.agg d.l] []=some (vl ((namesF d.files).map eT),[]):=by
 have hZ:∃ Z,Z=vl ((namesF d.files).map eT):=⟨_,rfl⟩;obtain⟨Z,hZ⟩:=hZ;rw[<- hZ];obtain⟨fl,cp,ar,lf,dn⟩:=d;simp only[Dsk.l] at hl hZ ⊢;have h0:List.replicate fl.length [D.s []]=nmL fl 0:=by simp[nmL]
 apply enterS s49 rfl;(simp(disch:=first|decide|omega|(intros;exact Eq.trans rfl rfl)|simp only[puri]) only[wkf,a49,List.length_map,h0,go_sem,seval,dis])
 refine loop_boxM (m:=0) (σ:=Nat) (fun i=>fl.length-i) (fun i=>i<=fl.length) (fun i=>[V.one (.sl 0 1 0 fl.length),vl (fl.map Fil.enc),vi fl.length,vi i])
  (fun i=>[.arr 1 (nmL fl i) 0]) (fun _=>(Z,[])) ?_ 0 (Nat.zero_le _) _ _ hdM
 intro i h1 R hR;have hln:=nmL_len fl i h1;by_cases hi:i<fl.length
 ·have hc:(i:Int)<(fl.length:Int):=by omega
  have g1:(fl.map Fil.enc)[i]?=some fl[i].enc:=by rw[List.getElem?_map,List.getElem?_eq_getElem hi];rfl
  have hR':=hR (i+1) (by omega) (by omega)
  rw[<- nmL_set fl i hi] at hR';generalize fl[i]=f at *;obtain⟨a,b,c⟩:=f;simp only[Fil.enc] at g1 hR';(simp(disch:=first|decide|omega|(intros;exact Eq.trans rfl rfl)|simp only[puri]) only[wkf,a49_0,decide_eq_true hc,g1,hln,nmL_at fl i hi,go_sem,seval,dis])
  exact hR' _ _ hdM
 ·have hc:¬ (i:Int)<(fl.length:Int):=by omega
  have hil:i=fl.length:=by omega
  subst hil;have htk:List.take fl.length (nmL fl fl.length)=(namesF fl).map eT:=by
   rw[List.take_of_length_le (by omega)];simp[nmL,namesF];intro a _;rfl
  rw[hZ];(simp(disch:=first|decide|omega|(intros;exact Eq.trans rfl rfl)|simp only[puri]) only[wkf,a49_0,a49,decide_eq_false hc,htk,hln,go_sem,seval,dis])
  try simp[trim]
set_option maxRecDepth 8000 in
theorem cut1_spec (l:List Fil) (hl:l.length<=1000000) (hu:usedF l<=1000000000000) (n:Txt) (k:Int):∃ B:Box,(∀ ρ,B.ren ρ=B)∧call 108 [.one (.sl 0 3 0 l.length),vi (posF l n:Nat),vb (hasF l n),.one (.p 1 0)] [.arr 3 (l.map Fil.enc) 0,.cells [.d (.i .i64 k)]]=some (twoV (cutR l n k).1 (cutR l n k).2,[B,.cells [.d (.i .i64 k)]]):=by
 unfold cutR twoV;cases c:hasF l n with
 | false =>
  refine⟨.arr 3 (l.map Fil.enc) 0,fun _=>rfl,?_⟩
  apply enterS s108 rfl;(simp(disch:=first|decide|omega|(intros;exact Eq.trans rfl rfl)|simp only[puri]) only[a108,go_sem,seval,dis])
  try simp[trim,V.refs,L.refs,Box.refs]
 | true =>
  obtain⟨hp,hnm⟩:=has_at c;have hrd:(readF l n).1=l[posF l n].data:=by
   unfold readF;rw[List.getElem?_eq_getElem hp];simp only[if_pos hnm]
  rw[upd_at hp,hrd];obtain⟨p,hk⟩:∃ p,p=posF l n:=⟨_,rfl⟩;simp only[<- hk,if_true] at hp hnm ⊢;have hle:=data_le l p hp;have g1:(l.map Fil.enc)[p]?=some l[p].enc:=by simp[hp]
  by_cases c1:k<0
  ·refine⟨.arr 3 (l.map Fil.enc) 0,fun _=>rfl,?_⟩
   apply enterS s108 rfl;rw[if_pos (.inl c1)];(simp(disch:=first|decide|omega|(intros;exact Eq.trans rfl rfl)|simp only[puri]) only[a108,c1,go_sem,seval,dis])
   try simp[trim,V.refs,L.refs,Box.refs]
  ·by_cases c2:((l[p].data.length:Nat):Int)<k
   ·refine⟨.arr 3 (l.map Fil.enc) 0,fun _=>rfl,?_⟩
    apply enterS s108 rfl;rw[if_pos (.inr c2)];(simp(disch:=first|decide|omega|(intros;exact Eq.trans rfl rfl)|simp only[puri]) only[a108,c1,c2,g1,Fil.len,Fil.at1,Fil.ix1,go_sem,seval,dis])
    try simp[trim,V.refs,L.refs,Box.refs]
   ·rw[if_neg (by omega)]
    have hset:(l.map Fil.enc).set p (Fil.enc { l[p] with data:=l[p].data.take k.toNat,sure:=if k<l[p].sure then k else l[p].sure })=(l.set p { l[p] with data:=l[p].data.take k.toNat,sure:=if k<l[p].sure then k else l[p].sure }).map Fil.enc:=by rw[List.map_set]
    refine⟨.arr 3 ((l.set p { l[p] with data:=l[p].data.take k.toNat,sure:=if k<l[p].sure then k else l[p].sure }).map Fil.enc) l.length,fun _=>rfl,?_⟩
    apply enterS s108 rfl;have hll:((l.set p { l[p] with data:=l[p].data.take k.toNat,sure:=if k<l[p].sure then k else l[p].sure }).map Fil.enc).length=l.length:=by simp
    have htk:((l.set p { l[p] with data:=l[p].data.take k.toNat,sure:=if k<l[p].sure then k else l[p].sure }).map Fil.enc).take l.length=(l.set p { l[p] with data:=l[p].data.take k.toNat,sure:=if k<l[p].sure then k else l[p].sure }).map Fil.enc:=List.take_of_length_le (by simp)
    have c0':(0:Int)<=k:=by omega
    have hlen:(l.map Fil.enc).length=l.length:=by simp
    generalize (l.set p { l[p] with data:=l[p].data.take k.toNat,sure:=if k<l[p].sure then k else l[p].sure }).map Fil.enc=Q at *
    generalize l[p]=f at *;obtain⟨fn,fd,fs⟩:=f;simp only[Fil.enc] at g1 hset c2;have gg:∀ r,(List.set (l.map Fil.enc) p r)[p]?=some r:=fun r=>by rw[List.getElem?_set_self (by simpa using hp)]
    have hss:∀ a b,(List.set (List.set (l.map Fil.enc) p a) p b)=List.set (l.map Fil.enc) p b:=fun a b=>List.set_set _
    (simp(disch:=first|decide|omega|(intros;exact Eq.trans rfl rfl)|simp only[puri]) only[wkf,a108,c1,c2,g1,gg,hss,hset,hll,htk,hlen,List.length_set,go_sem,seval,dis])
    try simp[trim,V.refs,L.refs,Box.refs]
theorem cut_disk (d:Dsk) (hd:d.ok) (n:Txt) (k:Int):call 58 [.agg d.l,vs n,vi k] []=some (dskV (chgF d (cutR d.files n k)),[]):=by
 apply enterS s58 rfl;have h0:=change1 d hd.len hd.srt hd.left n 108 [.d (.i .i64 k)] rfl (cutR d.files n k).1 (cutR d.files n k).2 (fun D R=>by
  obtain⟨B,hB,h⟩:=cut1_spec d.files hd.len hd.used n k;exact⟨B,fun _ _=>iso_at (ids:=[4,0]) rfl rfl rfl h (by simp[setAll,hB,twoV,V.ren,L.ren,rcells])⟩)
 have h:∀ D R:Box,callIso call 86 [.agg d.l,vs n,.one (.f 108 [1])] [D,.cells [.d (.i .i64 k)],R]=some (dskV (chgF d (cutR d.files n k)),[D,.cells [.d (.i .i64 k)],R]):=fun D R =>
  iso_at (ids:=[1]) rfl rfl rfl h0 rfl
 generalize chgF d (cutR d.files n k)=r at *;obtain⟨⟨f2,cp2,ar2,lf2,dn2⟩,e2⟩:=r;obtain⟨fl,cp,ar,lf,dn⟩:=d;simp only[dskV,Dsk.l] at h ⊢;(simp(disch:=first|decide|omega|(intros;exact Eq.trans rfl rfl)|simp only[puri]) only[wkf,a58,↓h,go_sem,seval,dis])
 try simp[trim]
def rdB (b:Txt) (s:Nat × Bool):List L:=[.d (.s b),.d (.i .i64 s.1),.d (.b s.2)]
def numT (b:Txt) (s:Nat × Bool):Nat × (Nat × Bool):=if s.2=true then(0,s) else match rdF (b.drop s.1) 0 0 with
 | some (v,j)=>(v,(s.1+j,false))
 | none=>(0,(0,true))
theorem number_spec (b:Txt) (hb:b.length<=1000000) (s:Nat × Bool) (hs:s.1<=1000000):call 102 [.one (.p 0 0)] [.cells (rdB b s)]=some (vi (numT b s).1,[.cells (rdB b (numT b s).2)]):=by
 obtain⟨a,e⟩:=s;unfold numT rdB;simp only at hs ⊢;apply enterS s102 rfl;cases e with
 | true =>
  (simp(disch:=first|decide|omega|(intros;exact Eq.trans rfl rfl)|simp only[puri]) only[wkf,a102,go_sem,seval,dis])
  try simp[trim,V.refs,L.refs,Box.refs]
 | false =>
  have q:=read_spec b a (by omega) (by omega)
  cases hr:rdF (b.drop a) 0 0 with
  | none =>
   rw[hr] at q;simp only[rdV] at q;(simp(disch:=first|decide|omega|(intros;exact Eq.trans rfl rfl)|simp only[puri]) only[wkf,a102,q,go_sem,seval,dis])
   try simp[trim,V.refs,L.refs,Box.refs]
  | some r =>
   obtain⟨v,j⟩:=r;rw[hr] at q;simp only[rdV] at q;(simp(disch:=first|decide|omega|(intros;exact Eq.trans rfl rfl)|simp only[puri]) only[wkf,a102,q,go_sem,seval,dis])
   try simp[trim,V.refs,L.refs,Box.refs]
theorem numT_len (b:Txt) (s:Nat × Bool) (h:s.1<=b.length):(numT b s).2.1<=b.length∧(numT b s).1<9223372036854775808:=by
 unfold numT;split
 ·exact⟨h,by simp⟩
 ·cases hr:rdF (b.drop s.1) 0 0 with
  | none=>exact⟨by simp,by simp⟩
  | some r =>
   obtain⟨v,j⟩:=r;have:=(rdF_enc0 hr).2.1;rw[List.length_drop] at this;exact⟨by simp only[];omega,rd_lt hr⟩
def sumS (b:Txt) (s:Nat × Bool):Int × (Nat × Bool):=if s.2=true∨((b.length:Nat):Int)-(s.1:Nat)≠4 then(0,(s.1,true)) else(sum4 (b.drop s.1),s)
theorem or32 (a b n:Nat) (ha:a<2 ^ n) (hb:b*2 ^ n+a<4294967296):binD .or (.i .u32 ((a:Nat):Int)) (.i .u32 ((b*2 ^ n:Nat):Int))=some (.i .u32 ((a+b*2 ^ n:Nat):Int)):=by
 simp only[binD,ne_eq,not_true_eq_false,if_false];have h1:∀ x:Nat,x<4294967296->BitVec.ofInt 32 ((x:Nat):Int)=BitVec.ofNat 32 x:=by
  intro x hx;apply BitVec.eq_of_toNat_eq;simp
 rw[show IntKind.u32.bits=32 from rfl,h1 _ (by omega),h1 _ (by omega)]
 have h2:(BitVec.ofNat 32 a ||| BitVec.ofNat 32 (b*2 ^ n)).toNat=a+b*2 ^ n:=by
  rw[BitVec.toNat_or,BitVec.toNat_ofNat,BitVec.toNat_ofNat,Nat.mod_eq_of_lt (by omega),Nat.mod_eq_of_lt (by omega),Nat.or_comm,<- Nat.shiftLeft_eq,<- Nat.shiftLeft_add_eq_or_of_lt ha,Nat.add_comm]
 rw[h2,wrap_u32 (by omega)]
theorem shl32 (c i:Nat) (hc:c<256) (hi:i<=3):binD .shl (.i .u32 ((c:Nat):Int)) (.i .u64 (8*((i:Nat):Int)))=some (.i .u32 ((c*2 ^ (8*i):Nat):Int))∧c*2 ^ (8*i)+2 ^ (8*i)<=4294967296:=by
 have h2:2 ^ (8*i)<=2 ^ 24:=Nat.pow_le_pow_right (by decide) (by omega)
 have h3:(c+1)*2 ^ (8*i)<=256*2 ^ 24:=Nat.mul_le_mul (by omega) h2
 have h4:(256:Nat)*2 ^ 24=4294967296:=by decide
 have h5:(c+1)*2 ^ (8*i)=c*2 ^ (8*i)+2 ^ (8*i):=by rw[Nat.add_mul,Nat.one_mul]
 refine⟨?_,by omega⟩
 have hp:0<2 ^ (8*i):=Nat.pow_pos (by decide)
 simp only[binD];rw[if_neg (by omega)]
 have e1:(8*((i:Nat):Int)).toNat=8*i:=by omega
 have e2:min (8*i) IntKind.u32.bits=8*i:=Nat.min_eq_left (by show 8*i<=32;omega)
 rw[e1,e2];have e3:((c:Nat):Int)*2 ^ (8*i)=((c*2 ^ (8*i):Nat):Int):=by simp
 rw[e3,wrap_u32 (by omega)]
def parN (l:Txt) (i:Nat):Nat:=(List.range i).foldl (fun n j=>n+(l.getD j 0).toNat*2 ^ (8*j)) 0
theorem parN_succ (l:Txt) (i:Nat):parN l (i+1)=parN l i+(l.getD i 0).toNat*2 ^ (8*i):=by
 unfold parN;rw[List.range_succ,List.foldl_append];rfl
theorem parN_lt (l:Txt):∀ i,parN l i<2 ^ (8*i)
 | 0=>by simp[parN]
 | i+1=>by
  have h:=parN_lt l i;have h1:=UInt8.toNat_lt (l.getD i 0);rw[parN_succ];have h2:((l.getD i 0).toNat+1)*2 ^ (8*i)<=256*2 ^ (8*i):=Nat.mul_le_mul_right _ (by omega)
  have h3:2 ^ (8*(i+1))=256*2 ^ (8*i):=by rw[Nat.mul_add,Nat.pow_add,Nat.mul_comm]
  rw[Nat.add_mul,Nat.one_mul] at h2;omega
theorem sum4_par (l:Txt) (h:l.length=4):sum4 l=((parN l 4:Nat):Int):=by
 match l,h with
 | [a,b,c,d],_ =>
  simp only[sum4,parN_succ];simp[parN];omega
set_option maxRecDepth 8000 in
theorem rsum_spec (b:Txt) (hb:b.length<=1000000) (s:Nat × Bool) (hs:s.1<=b.length):call 103 [.one (.p 0 0)] [.cells (rdB b s)]=some (vk .u32 (sumS b s).1,[.cells (rdB b (sumS b s).2)]):=by
 obtain⟨a,e⟩:=s;unfold sumS rdB;simp only at hs ⊢;apply enterS s103 rfl;cases e with
 | true =>
  rw[if_pos (.inl rfl)];(simp(disch:=first|decide|omega|(intros;exact Eq.trans rfl rfl)|simp only[puri]) only[wkf,a103,go_sem,seval,dis])
  try simp[trim,V.refs,L.refs,Box.refs]
 | false =>
  by_cases c:((b.length:Nat):Int)-(a:Nat)=4
  ·rw[if_neg (by simp[c])]
   have hd:(b.drop a).length=4:=by rw[List.length_drop];omega
   rw[sum4_par _ hd];obtain⟨Z,hZ⟩:∃ Z:V × Hp,Z=(vk .u32 ((parN (b.drop a) 4:Nat):Int),[.cells [.d (.s b),.d (.i .i64 a),.d (.b false)]]):=⟨_,rfl⟩;simp only;rw[<- hZ];(simp(disch:=first|decide|omega|(intros;exact Eq.trans rfl rfl)|simp only[puri]) only[wkf,a103,eq_true c,go_sem,seval,dis])
   refine loop_boxM (m:=1) (σ:=Nat) (fun i=>4-i) (fun i=>i<=4) (fun i=>[V.one (.p 0 0),vk .u32 ((parN (b.drop a) i:Nat):Int),vi i])
    (fun _=>[.cells [.d (.s b),.d (.i .i64 a),.d (.b false)]]) (fun _=>Z) ?_ 0 (by decide) _ _ hdM
   intro i h1 R hR;by_cases ci:i<4
   ·have hc:(i:Int)<4:=by omega
    have hbi:a+i<b.length:=by omega
    have g:b[a+i]?=some b[a+i]:=List.getElem?_eq_getElem hbi;have hg:(b.drop a).getD i 0=b[a+i]:=by rw[List.getD_eq_getElem?_getD,List.getElem?_drop,g];rfl
    have hei:((a:Int)+(i:Int)).toNat=a+i:=by omega
    have hR':=hR (i+1) (by omega) (by omega)
    rw[parN_succ,hg] at hR';have hlt:=parN_lt (b.drop a) i;have hb8:=UInt8.toNat_lt b[a+i];obtain⟨s1,s2⟩:=shl32 b[a+i].toNat i (by omega) (by omega)
    have s3:=or32 (parN (b.drop a) i) b[a+i].toNat (8*i) hlt (by omega)
    generalize b[a+i]=x at *;generalize parN (b.drop a) i=w at *;(simp(disch:=first|decide|omega|(intros;exact Eq.trans rfl rfl)|simp only[puri]) only[wkf,a103_0,decide_eq_true hc,hei,g,↓s1,↓s3,go_sem,seval,dis])
    exact hR' _ _ hdM
   ·have e4:i=4:=by omega
    subst e4;have hc:¬ ((4:Nat):Int)<4:=by omega
    rw[hZ];(simp(disch:=first|decide|omega|(intros;exact Eq.trans rfl rfl)|simp only[puri]) only[wkf,a103_0,a103,decide_eq_false hc,go_sem,seval,dis])
    try simp[trim,V.refs,L.refs,Box.refs]
  ·rw[if_pos (.inr c)];(simp(disch:=first|decide|omega|(intros;exact Eq.trans rfl rfl)|simp only[puri]) only[wkf,a103,eq_false c,go_sem,seval,dis])
   try simp[trim,V.refs,L.refs,Box.refs]
def readN (b:Txt):Nat->Nat × Bool->List Int × (Nat × Bool)
 | 0,s=>([],s)
 | k+1,s=>(((numT b s).1:Int)::(readN b k (numT b s).2).1,(readN b k (numT b s).2).2)
def getB (b:Txt) (bad:Bool):Option Man :=
 let r1:=numT b (0,bad)
 let r2:=numT b r1.2
 if 64<r2.1 then none else
  let r3:=readN b r2.1 r2.2
  let r4:=numT b r3.2
  let r5:=sumS b r4.2
  if(!r5.2.2 && manB ⟨r1.1,r3.1,r4.1,r5.1⟩)=true then some ⟨r1.1,r3.1,r4.1,r5.1⟩ else none
theorem numT_good {b:Txt} {s:Nat × Bool} (h:(numT b s).2.2=false):s.2=false∧b.drop s.1=enc128 (numT b s).1++b.drop (numT b s).2.1:=by
 unfold numT at h ⊢;by_cases c:s.2=true
 ·rw[if_pos c] at h;rw[c] at h;cases h
 ·rw[if_neg c] at h ⊢;cases hr:rdF (b.drop s.1) 0 0 with
  | none=>rw[hr] at h;cases h
  | some r =>
   obtain⟨v,j⟩:=r;obtain⟨_,_,_,h4⟩:=rdF_enc0 hr;refine⟨by simpa using c,?_⟩
   simp only;rw[<- h4,<- List.drop_drop,List.take_append_drop]
theorem readN_good {b:Txt}:∀ (k:Nat) (s:Nat × Bool),(readN b k s).2.2=false->s.2=false∧(readN b k s).1.length=k∧b.drop s.1=numsE (readN b k s).1++b.drop (readN b k s).2.1
 | 0,s,h=>⟨h,rfl,by simp[readN,numsE]⟩
 | k+1,s,h=>by
  obtain⟨h1,h2,h3⟩:=readN_good k (numT b s).2 h;obtain⟨h4,h5⟩:=numT_good h1;refine⟨h4,by simp[readN,h2],?_⟩
  simp only[readN];rw[h5,h3,numsE_cons];simp
theorem sumS_good {b:Txt} {s:Nat × Bool} (h:(sumS b s).2.2=false):s.2=false∧(b.drop s.1).length=4∧(sumS b s).1=sum4 (b.drop s.1):=by
 unfold sumS at h ⊢;split at h
 ·cases h
 ·rename_i c;simp only[not_or,ne_eq,Decidable.not_not] at c;rw[if_neg (by simp[c])]
  exact⟨by simpa using c.1,by rw[List.length_drop];omega,rfl⟩
theorem four_sum4 {l:Txt} (h:l.length=4):four (BitVec.ofNat 32 (sum4 l).toNat)=l∧0<=sum4 l∧sum4 l<4294967296:=by
 match l,h with
 | [a,b,c,d],_ =>
  have ha:=UInt8.toNat_lt a;have hb:=UInt8.toNat_lt b;have hc:=UInt8.toNat_lt c;have hd:=UInt8.toNat_lt d;obtain⟨n,hn⟩:∃ n:Nat,n=a.toNat+256*(b.toNat+256*(c.toNat+256*d.toNat)):=⟨_,rfl⟩;have e:sum4 [a,b,c,d]=((n:Nat):Int):=by simp only[sum4];rw[hn]
  rw[e];refine⟨?_,by omega,by omega⟩
  rw[Int.toNat_natCast];have hx:(BitVec.ofNat 32 n).toNat=n:=by rw[BitVec.toNat_ofNat];omega
  have e0:four (BitVec.ofNat 32 n)=[UInt8.ofNat (BitVec.ofNat 32 n).toNat,UInt8.ofNat (BitVec.ofNat 32 n >>> 8).toNat,UInt8.ofNat (BitVec.ofNat 32 n >>> 16).toNat,UInt8.ofNat (BitVec.ofNat 32 n >>> 24).toNat]:=rfl;rw[e0,BitVec.toNat_ushiftRight,BitVec.toNat_ushiftRight,BitVec.toNat_ushiftRight,hx,Nat.shiftRight_eq_div_pow,Nat.shiftRight_eq_div_pow,Nat.shiftRight_eq_div_pow];have f:∀ (x:UInt8) (k:Nat),k % 256=x.toNat->UInt8.ofNat k=x:=fun x k hk=>by
   apply UInt8.toNat_inj.1;rw[UInt8.toNat_ofNat'];exact hk
  rw[f a _ (by omega),f b _ (by omega),f c _ (by omega),f d _ (by omega)]
theorem nextF_inv {s t:Txt} (h:nextF s 0=(t,s.length,0)):s=frameF t:=by
 unfold nextF at h;split at h
 ·simp at h
 ·split at h
  ·simp at h
  ·rename_i m k hr;obtain⟨q1,q2,q3,_⟩:=take_drop_enc hr;split at h
   ·simp at h
   ·split at h
    ·simp at h
    ·rename_i hl;split at h
     ·rename_i hf;simp only[Prod.mk.injEq,Nat.zero_add,List.drop_zero] at h q1 hf;obtain⟨h1,h2,_⟩:=h;have hst:s.take (k+4+m)=s:=List.take_of_length_le (by omega)
      rw[hst] at h1 hf;have htl:t.length=m:=by rw[<- h1,List.length_drop];omega
      unfold frameF;rw[htl];have:s=s.take k++((s.take (k+4)).drop k++s.drop (k+4)):=by
       rw[List.drop_take];have e:(s.drop k).take (k+4-k)++s.drop (k+4)=s.drop k:=by
        rw[show k+4-k=4 by omega,<- List.drop_drop,List.take_append_drop]
       rw[e,List.take_append_drop]
      rw[h1] at this hf;conv=>lhs;rw[this]
      rw[q1,<- hf];simp
     ·simp at h
theorem dec_ok {s:Txt} {m:Man} (h:decM s=some m):m.ok:=by
 have h1:=manB_t (dec_some h).1;refine⟨by omega,?_⟩
 unfold decM at h;split at h
 ·cases h;unfold candM;have f:∀ l:Txt,0<=sum4 l∧sum4 l<4294967296:=by
   intro l;by_cases hl:l.length=4
   ·exact(four_sum4 hl).2
   ·have:sum4 l=0:=by
     match l,hl with
     | [],_=>rfl
     | [_],_=>rfl
     | [_,_],_=>rfl
     | [_,_,_],_=>rfl
     | [_,_,_,_],h=>exact absurd rfl h
     | _::_::_::_::_::_,_=>rfl
    omega
  split
  ·split
   ·exact f _
   ·simp
  ·simp
 ·cases h
theorem getB_some {b:Txt} {m:Man} (h:getB b false=some m):manB m=true∧manBody m=b:=by
 unfold getB at h;simp only at h;split at h
 ·cases h
 ·split at h
  ·rename_i hc;simp only[Bool.and_eq_true,Bool.not_eq_true'] at hc;cases h;refine⟨hc.2,?_⟩;obtain⟨g1,g2,g3⟩:=sumS_good hc.1;obtain⟨f1,f2⟩:=numT_good g1;obtain⟨e1,e2,e3⟩:=readN_good _ _ f1;obtain⟨d1,d2⟩:=numT_good e1;obtain⟨_,c2⟩:=numT_good d1;unfold manBody sumM;simp only[g3];rw[(four_sum4 g2).1];rw[List.drop_zero] at c2;conv=>rhs;rw[c2,d2,e3,f2]
   simp only[List.cons_append,numsE_cons,numsE_app,e2,Int.toNat_natCast];simp[numsE]
  ·cases h
theorem numT_man {m:Man} (h:manB m=true) (j:Nat) (hj:j<(manN m).length):numT (manBody m) ((numsE ((manN m).take j)).length,false)=((manN m)[j].toNat,((numsE ((manN m).take (j+1))).length,false)):=by
 obtain⟨h1,h2⟩:=man_read h j hj;unfold numT;rw[if_neg (by simp),h1,h2]
theorem readN_man {m:Man} (h:manB m=true):∀ (k j:Nat),j+k<=(manN m).length->readN (manBody m) k ((numsE ((manN m).take j)).length,false)=(((manN m).drop j).take k,((numsE ((manN m).take (j+k))).length,false))
 | 0,j,_=>by simp[readN]
 | k+1,j,hj=>by
  have h1:=numT_man h j (by omega)
  have hin:=manN_in h _ (List.getElem_mem (show j<(manN m).length by omega))
  simp only[readN,h1,readN_man h k (j+1) (by omega)]
  rw[List.drop_eq_getElem_cons (show j<(manN m).length by omega),List.take_succ_cons,show j+(k+1)=j+1+k by omega]
  congr 2
  omega
theorem getB_man {m:Man} (h:manB m=true) (hm:m.ok):getB (manBody m) false=some m:=by
 have hmt:=manB_t h;have hl:=manN_len m;have n0:=numT_man h 0 (by omega)
 have n1:=numT_man h 1 (by omega)
 have n2:=readN_man h m.segs.length 2 (by omega)
 have n3:=numT_man h (m.segs.length+2) (by omega)
 have e0:(manN m)[0]'(by omega)=m.ver:=rfl
 have e1:(manN m)[1]'(by omega)=(m.segs.length:Int):=rfl
 have e2:((manN m).drop 2).take m.segs.length=m.segs:=by simp[manN]
 have e3:(manN m)[m.segs.length+2]'(by omega)=m.size:=by
  have:manN m=(m.ver::(m.segs.length:Int)::m.segs)++[m.size]:=rfl;simp[this]
 rw[e0] at n0;rw[e1] at n1;rw[e2] at n2;rw[e3] at n3;simp only[List.take_zero,numsE,List.flatMap_nil,List.length_nil,Nat.zero_add,Nat.reduceAdd,Int.toNat_natCast] at n0 n1 n2 n3;rw[Nat.add_comm 2 m.segs.length] at n2;have hall:(manN m).take (m.segs.length+2+1)=manN m:=List.take_of_length_le (by omega)
 rw[hall] at n3;have hb:manBody m=numsE (manN m)++four (sumM m):=manBody_N m;have n4:sumS (manBody m) ((numsE (manN m)).length,false)=(m.sum,((numsE (manN m)).length,false)):=by
  have hd:(manBody m).drop (numsE (manN m)).length=four (sumM m):=by rw[hb,List.drop_left]
  unfold sumS;rw[if_neg (by rw[hb,List.length_append,four_len];simp;omega),hd,sum4_four,man_sum hm]
 unfold getB;simp only[n0,n1];rw[if_neg (by omega)]
 simp only[n2,n3];simp only[numsE] at n4;simp only[n4];have v1:((m.ver.toNat:Nat):Int)=m.ver:=by omega
 have v2:((m.size.toNat:Nat):Int)=m.size:=by omega
 rw[v1,v2];exact if_pos (by rw[h];rfl)
theorem numT_bad (b:Txt) (a:Nat):numT b (a,true)=(0,(a,true)):=by unfold numT;rw[if_pos rfl]
theorem getB_bad (b:Txt):getB b true=none:=by
 unfold getB;simp only[numT_bad];rw[if_neg (by omega)]
 simp only[readN,numT_bad];rw[if_neg];intro h;simp only[Bool.and_eq_true,Bool.not_eq_true'] at h;have:=sumS_good h.1;cases this.1
def getT (s:Txt):Option Man:=if(nextF s 0).2.2≠0 then none else getB (nextF s 0).1 (decide (((nextF s 0).2.1:Int)≠(s.length:Nat)))
theorem getT_dec (s:Txt):getT s=decM s:=by
 cases hd:decM s with
 | some m =>
  obtain⟨h1,h2⟩:=dec_some hd;have h3:=next_man h1;rw[h2] at h3;unfold getT;rw[h3];simp only[ne_eq,not_true_eq_false,if_false,decide_false];exact getB_man h1 (dec_ok hd)
 | none =>
  cases hg:getT s with
  | none=>rfl
  | some m =>
   exfalso;unfold getT at hg;split at hg
   ·cases hg
   ·rename_i he;simp only[ne_eq,Decidable.not_not] at he;by_cases c:(nextF s 0).2.1=s.length
    ·have e1:nextF s 0=((nextF s 0).1,s.length,0):=by rw[<- c,<- he]
     rw[decide_eq_false (by simp[c])] at hg
     obtain⟨g1,g2⟩:=getB_some hg;have hs:=nextF_inv e1;have:manText m=s:=by unfold manText;rw[g2];exact hs.symm
     have hso:m.ok:=by
      have h1:=manB_t g1;refine⟨by omega,?_⟩
      unfold getB at hg;simp only at hg;split at hg
      ·cases hg
      ·split at hg
       ·rename_i hc;simp only[Bool.and_eq_true,Bool.not_eq_true'] at hc;cases hg;obtain⟨_,k2,k3⟩:=sumS_good hc.1;simp only[k3];exact(four_sum4 k2).2
       ·cases hg
     have h4:=dec_text g1 hso;rw[this,hd] at h4;cases h4
    ·rw[decide_eq_true (by omega),getB_bad] at hg
     cases hg
theorem readN_succ (b:Txt):∀ (k:Nat) (s:Nat × Bool),readN b (k+1) s=((readN b k s).1++[((numT b (readN b k s).2).1:Int)],(numT b (readN b k s).2).2)
 | 0,s=>by simp[readN]
 | k+1,s=>by
  rw[readN,readN_succ b k (numT b s).2];simp[readN]
theorem readN_len (b:Txt):∀ (k:Nat) (s:Nat × Bool),s.1<=b.length->(readN b k s).2.1<=b.length∧(readN b k s).1.length=k
 | 0,s,h=>⟨h,rfl⟩
 | k+1,s,h=>by
  have:=readN_len b k (numT b s).2 (numT_len b s h).1;exact⟨this.1,by simp[readN,this.2]⟩
def manZ:Option Man->V
 | some m=>manV4 m
 | none=>errM 3
theorem number_iso (b:Txt) (hb:b.length<=1000000) (s:Nat × Bool) (hs:s.1<=1000000) (B0 B2:Box):callIso call 102 [.one (.p 1 0)] [B0,.cells (rdB b s),B2]=some (vi (numT b s).1,[B0,.cells (rdB b (numT b s).2),B2]) :=
 iso_at (ids:=[1]) rfl rfl rfl (number_spec b hb s hs) rfl
set_option maxRecDepth 8000 in
set_option maxHeartbeats 4000000 in
theorem getM_spec (s:Txt) (hs:s.length<=1000000):∃ Z,call 55 [vs s] []=some (Z,[])∧(∀ m,decM s=some m->Z=manV4 m)∧(decM s=none->∃ e,e≠0∧Z=errM e):=by
 have q0:=next_spec s 0 (by decide) (by omega)
 have z0:((0:Nat):Int)=0:=rfl;rw[z0] at q0;have hbl:=nextF_tlen s 0;rw[<- getT_dec];unfold getT;generalize nextF s 0=nn at *;obtain⟨b,nx,e⟩:=nn;simp only[nextV] at q0 hbl ⊢;by_cases he:e=0
 ·subst he;rw[if_neg (by simp)]
  obtain⟨bad,hbad⟩:∃ bad:Bool,bad=decide ((nx:Int)≠(s.length:Nat)):=⟨_,rfl⟩;rw[<- hbad];have hw:((nx:Int) != ((s.length:Nat):Int))=bad:=by rw[hbad];by_cases c:(nx:Int)=((s.length:Nat):Int) <;> simp[c]
  refine⟨manZ (getB b bad),?_,fun m h=>by rw[h];rfl,fun h=>⟨3,by decide,by rw[h];rfl⟩⟩
  generalize hZ:manZ (getB b bad)=Z;have l1:=numT_len b (0,bad) (Nat.zero_le _);have p1:=number_spec b (by omega) (0,bad) (Nat.zero_le _)
  unfold getB at hZ;simp only at hZ;generalize hr1:numT b (0,bad)=r1 at *;have l2:=numT_len b r1.2 l1.1;have p2:=number_iso b (by omega) r1.2 (by omega)
  generalize hr2:numT b r1.2=r2 at *;obtain⟨v,a1,b1⟩:=r1;obtain⟨n,a2,b2⟩:=r2;have p1':∀ B0:Box,callIso call 102 [.one (.p 1 0)] [B0,.cells [.d (.s b),.d (.i .i64 0),.d (.b bad)]]=some (vi v,[B0,.cells [.d (.s b),.d (.i .i64 a1),.d (.b b1)]]):=fun B0 =>
   iso_at (ids:=[1]) rfl rfl rfl p1 rfl
  simp only[rdB] at p1' p2 l1 l2 hZ;apply enterS s55 rfl;by_cases cn:64<n
  ·have cn':(64:Int)<(n:Int):=by omega
   rw[if_pos cn] at hZ;simp only[manZ] at hZ;rw[<- hZ];(simp(disch:=first|decide|omega|(intros;exact Eq.trans rfl rfl)|simp only[puri]) only[wkf,a55,q0,hw,p1',p2,decide_eq_true cn',go_sem,seval,dis])
   try simp[trim,errM,zeroM]
  ·have cn':¬ (64:Int)<(n:Int):=by omega
   rw[if_neg cn] at hZ;(simp(disch:=first|decide|omega|(intros;exact Eq.trans rfl rfl)|simp only[puri]) only[wkf,a55,q0,hw,p1',p2,decide_eq_false cn',go_sem,seval,dis])
   have hl3:=fun i=>readN_len b i (a2,b2) l2.1
   refine loop_boxM (m:=0) (σ:=Option Nat) (fun t=>match t with|none=>n+1|some i=>n-i) (fun t=>match t with|none=>True|some i=>i+1<=n) (fun t=>match t with|none=>[V.one (.p 0 0),V.one (.p 1 0),V.one (.p 2 0),vi n,vi 0]|some i=>[V.one (.p 0 0),V.one (.p 1 0),V.one (.p 2 0),vi n,vi ((i+1:Nat):Int)])
    (fun t=>match t with|none=>[.cells [.d (.i .i64 0),.ns,.d (.i .i64 0),.d (.i .u32 0)],.cells [.d (.s b),.d (.i .i64 a2),.d (.b b2)],.cells [.d (.i .i64 v),.ns,.d (.i .i64 0),.d (.i .u32 0)]]|some i=>[.cells [.d (.i .i64 0),.ns,.d (.i .i64 0),.d (.i .u32 0)],.cells [.d (.s b),.d (.i .i64 (readN b (i+1) (a2,b2)).2.1),.d (.b (readN b (i+1) (a2,b2)).2.2)],.cells [.d (.i .i64 v),.sl 3 1 0 (i+1),.d (.i .i64 0),.d (.i .u32 0)],.arr 1 ((readN b (i+1) (a2,b2)).1.map eI) 0]) (fun _=>(Z,[])) ?_ none trivial _ _ ?_
   rotate_left
   ·exact hdM
   intro t hi R hR;cases t with
   | none =>
    simp only;by_cases c:0<n
    ·have ci:(0:Int)<(n:Int):=by omega
     have hK:=hR (some 0) (by simp only[];omega) (by simp only[];omega)
     have p3:=number_spec b (by omega) (a2,b2) (by simp only[];omega)
     simp only[readN,rdB,List.map_cons,List.map_nil,eI] at p3 hK;generalize numT b (a2,b2)=r at *;obtain⟨w,a3,b3⟩:=r;simp only at p3 hK;have f1:∀ B0 B2:Box,isoCall call 102 [.one (.p 1 0)] [B0,.cells [.d (.s b),.d (.i .i64 a2),.d (.b b2)],B2]=some (vi w,[B0,.cells [.d (.s b),.d (.i .i64 a3),.d (.b b3)],B2]):=fun B0 B2 =>
      isoc_at (ids:=[1]) rfl rfl rfl (iso_at (ids:=[0]) rfl rfl rfl p3 rfl) rfl
     clear hR hZ;(simp(disch:=first|decide|omega|(intros;exact Eq.trans rfl rfl)|simp only[puri]) only[wkf,a55_0,ci,↓isoC1_e,f1,↓iso_appns_e,anK_ns,↓iso_sto_e,stKo_p,go_sem,seval,dis,vdr,A.kind,A.xs,optX,A.isN])
     exact hK _ _ hdM
    ·have hn0:n=0:=by omega
     subst hn0;clear hR;have l4:=numT_len b (a2,b2) l2.1;have p4:=number_spec b (by omega) (a2,b2) (by simp only[];omega)
     simp only[readN] at hZ;have p5:=rsum_spec b (by omega) (numT b (a2,b2)).2 l4.1
     rcases hq:numT b (a2,b2) with⟨w,a3,b3⟩;simp only[hq] at hZ p4 p5 l4;rcases hq2:sumS b (a3,b3) with⟨sm,a4,b4⟩;simp only[hq2] at hZ p5;clear hq hq2;have hmr:=manRight_spec ⟨v,[],w,sm⟩ (by simp)
     have hmb:manB ⟨v,[],w,sm⟩=false:=by simp[manB]
     rw[hmb] at hZ hmr;rw[if_neg (by simp)] at hZ
     simp only[rdB,Man.l,List.map_nil] at p4 p5 hmr;have f4:∀ B0 B2:Box,callIso call 102 [.one (.p 1 0)] [B0,.cells [.d (.s b),.d (.i .i64 a2),.d (.b b2)],B2]=some (vi w,[B0,.cells [.d (.s b),.d (.i .i64 a3),.d (.b b3)],B2]):=fun B0 B2=>iso_at (ids:=[1]) rfl rfl rfl p4 rfl
     have f5:∀ B0 B2:Box,callIso call 103 [.one (.p 1 0)] [B0,.cells [.d (.s b),.d (.i .i64 a3),.d (.b b3)],B2]=some (vk .u32 sm,[B0,.cells [.d (.s b),.d (.i .i64 a4),.d (.b b4)],B2]):=fun B0 B2=>iso_at (ids:=[1]) rfl rfl rfl p5 rfl
     simp only[manZ] at hZ;rw[<- hZ];cases b4 with
     | true =>
      (simp(disch:=first|decide|omega|(intros;exact Eq.trans rfl rfl)|simp only[puri]) only[wkf,a55_0,a55,f4,f5,go_sem,seval,dis,vdr,A.kind,A.xs,optX,A.isN])
      try simp[trim,errM,zeroM]
     | false =>
      (simp(disch:=first|decide|omega|(intros;exact Eq.trans rfl rfl)|simp only[puri]) only[wkf,a55_0,a55,f4,f5,hmr,go_sem,seval,dis,vdr,A.kind,A.xs,optX,A.isN])
      try simp[trim,errM,zeroM]
   | some i =>
    simp only;by_cases c:i+1<n
    ·have ci:((i+1:Nat):Int)<(n:Int):=by omega
     have hK:=hR (some (i+1)) (by simp only[];omega) (by simp only[];omega)
     have hl4:=hl3 (i+1);have p3:=number_spec b (by omega) (readN b (i+1) (a2,b2)).2 (by omega)
     simp only[readN_succ b (i+1),List.map_append,List.map_cons,List.map_nil] at hK;have hml:((readN b (i+1) (a2,b2)).1.map eI).length=i+1:=by simp[hl4.2]
     clear hR hZ hl3;generalize (readN b (i+1) (a2,b2)).1.map eI=Q at *;generalize (readN b (i+1) (a2,b2)).2=r0 at *;generalize numT b r0=r at *;obtain⟨w,a4,b4⟩:=r;obtain⟨a3,b3⟩:=r0;simp only[rdB,eI] at p3 hK ⊢;have f1:∀ B0 B2 B3:Box,isoCall call 102 [.one (.p 1 0)] [B0,.cells [.d (.s b),.d (.i .i64 a3),.d (.b b3)],B2,B3]=some (vi w,[B0,.cells [.d (.s b),.d (.i .i64 a4),.d (.b b4)],B2,B3]):=fun B0 B2 B3 =>
      isoc_at (ids:=[1]) rfl rfl rfl (iso_at (ids:=[0]) rfl rfl rfl p3 rfl) rfl
     (simp(disch:=first|decide|omega|(intros;exact Eq.trans rfl rfl)|simp only[puri]) only[wkf,a55_0,ci,↓isoC1_e,f1,hml,↓iso_sto_e,stKo_p,go_sem,seval,dis,vdr,A.kind,A.xs,optX,A.isN])
     exact hK _ _ hdM
    ·have ci:¬ ((i+1:Nat):Int)<(n:Int):=by omega
     have hin:i+1=n:=by omega
     rw[hin];have hl4:=hl3 n;clear hR hl3 hi c;obtain⟨Q,hQ⟩:∃ Q,Q=readN b n (a2,b2):=⟨_,rfl⟩;rw[<- hQ] at hZ hl4 ⊢;obtain⟨sg,a3,b3⟩:=Q;simp only at hZ hl4 ⊢;have l4:=numT_len b (a3,b3) hl4.1;have p4:=number_spec b (by omega) (a3,b3) (by simp only[];omega)
     have p5:=rsum_spec b (by omega) (numT b (a3,b3)).2 l4.1
     rcases hq:numT b (a3,b3) with⟨w,a4,b4⟩;simp only[hq] at hZ p4 p5 l4;rcases hq2:sumS b (a4,b4) with⟨sm,a5,b5⟩;simp only[hq2] at hZ p5;clear hq hq2;have hmr:=manRight_spec ⟨v,sg,w,sm⟩ (by simp only[];omega)
     simp only[rdB,Man.l] at p4 p5 hmr hZ;have f4:∀ B0 B2 B3:Box,callIso call 102 [.one (.p 1 0)] [B0,.cells [.d (.s b),.d (.i .i64 a3),.d (.b b3)],B2,B3]=some (vi w,[B0,.cells [.d (.s b),.d (.i .i64 a4),.d (.b b4)],B2,B3]):=fun B0 B2 B3=>iso_at (ids:=[1]) rfl rfl rfl p4 rfl
     have f5:∀ B0 B2 B3:Box,callIso call 103 [.one (.p 1 0)] [B0,.cells [.d (.s b),.d (.i .i64 a4),.d (.b b4)],B2,B3]=some (vk .u32 sm,[B0,.cells [.d (.s b),.d (.i .i64 a5),.d (.b b5)],B2,B3]):=fun B0 B2 B3=>iso_at (ids:=[1]) rfl rfl rfl p5 rfl
     have hml:(sg.map eI).length=n:=by simp[hl4.2]
     have htk:List.take n (sg.map eI)=sg.map eI:=List.take_of_length_le (by omega)
     cases b5 with
     | true =>
      rw[if_neg (by simp)] at hZ
      simp only[manZ] at hZ;rw[<- hZ];(simp(disch:=first|decide|omega|(intros;exact Eq.trans rfl rfl)|simp only[puri]) only[wkf,a55_0,a55,ci,f4,f5,go_sem,seval,dis,vdr,A.kind,A.xs,optX,A.isN])
      try simp[trim,errM,zeroM]
     | false =>
      generalize hmbv:manB ⟨v,sg,w,sm⟩=mb at *;cases mb with
      | false =>
       rw[if_neg (by simp)] at hZ
       simp only[manZ] at hZ;rw[<- hZ];(simp(disch:=first|decide|omega|(intros;exact Eq.trans rfl rfl)|simp only[puri]) only[wkf,a55_0,a55,ci,f4,f5,hmr,hml,htk,go_sem,seval,dis,vdr,A.kind,A.xs,optX,A.isN])
       try simp[trim,errM,zeroM]
      | true =>
       rw[if_pos (by simp)] at hZ
       simp only[manZ] at hZ;rw[<- hZ];(simp(disch:=first|decide|omega|(intros;exact Eq.trans rfl rfl)|simp only[puri]) only[wkf,a55_0,a55,ci,f4,f5,hmr,hml,htk,go_sem,seval,dis,vdr,A.kind,A.xs,optX,A.isN])
       try simp[trim,manV4,Man.l]
 ·rw[if_pos he];refine⟨errM e,?_,fun m h=>(by cases h),fun _=>⟨e,he,rfl⟩⟩
  apply enterS s55 rfl;(simp(disch:=first|decide|omega|(intros;exact Eq.trans rfl rfl)|simp only[puri]) only[wkf,a55,q0,he,go_sem,seval,dis])
  try simp[trim,errM,zeroM]
def segT (d:Dsk) (b:Int):Seg × Int:=(⟨b,(scanS (readF d.files (fileN b)).1 b).1.length,(scanS (readF d.files (fileN b)).1 b).2.1⟩,(scanS (readF d.files (fileN b)).1 b).2.2)
def segsT (d:Dsk):List Int->Option (List Seg)
 | []=>some []
 | b::r=>if(readF d.files (fileN b)).2≠0 then none else match r with
  | []=>some [(segT d b).1]
  | c::_=>if(segT d b).2≠0∨b+(segT d b).1.n≠c then none else(segsT d r).map ((segT d b).1 :: ·)
def segsC (d:Dsk) (out:List Seg) (r:List Int):Option (List Seg):=(segsT d r).map (out ++ ·)
theorem segsT_cons (d:Dsk) (b:Int) (r:List Int):segsT d (b::r)=if(readF d.files (fileN b)).2≠0 then none else match r with
  | []=>some [(segT d b).1]
  | c::_=>if(segT d b).2≠0∨b+(segT d b).1.n≠c then none else(segsT d r).map ((segT d b).1 :: ·):=by cases r <;> simp only[segsT]
end Go.Proofs.YtghfhomfppbooaaGreat
