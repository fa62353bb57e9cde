import Derived.Test.YtfalabebadoaiaaGreatT07
import Derived.Test.YtfalabebadoaiaaGreatT06
import Derived.Test.YtfalabebadoaiaaGreatT02
set_option linter.unusedSimpArgs false
set_option linter.unusedVariables false
namespace Go.Proofs.YtfalabebadoaiaaGreat
open Go.Vi
variable {k u:Nat} {f:Int} {S:Txt} {l0:List Pr} {s:Sto} {M:List SR} {g:Seg} {l:List Rec}
theorem Inv.rcs (ho:okS k u s) (h:Inv f s M g l):∀ p∈M++[(g,l)],s.rcs p.1=p.2:=by
 intro p hp
 have hf:=h.file p hp
 have hpm:p.1∈s.segs:=by
  rw [h.segs]
  rcases List.mem_append.1 hp with hp | hp
  ·exact List.mem_append_left _ (List.mem_map_of_mem hp)
  ·rw [List.mem_singleton.1 hp]; simp
 have hb:=(ho.seg _ hpm).1
 have ht:s.txt p.1=rowS p.2:=by
  unfold Sto.txt
  rw [read_hasD ho.dsk.srt hf.has]
 unfold Sto.rcs
 rw [ht]
 exact (scan_row p.2 p.1.base (by simp [offN]; omega) hf.why hf.num).1
theorem Inv.scans (ho:okS k u s) (h:Inv f s M g l):s.scans=M++[(g,l)]:=by
 have e:s.segs=(M++[(g,l)]).map (·.1):=by rw [h.segs]; simp
 have e2:s.scans=s.segs.map fun a=>(a,s.rcs a):=rfl
 rw [e2,e,List.map_map]
 have:(M++[(g,l)]).map ((fun a=>(a,s.rcs a)) ∘ fun x=>x.1)=(M++[(g,l)]).map id:=by
  apply List.map_congr_left
  intro p hp
  show (p.1,s.rcs p.1)=p
  rw [h.rcs ho p hp]
 rw [this,List.map_id]
theorem num_app {b:Int} {A B:List Rec} (h1:numB b A) (h2:numB (b+A.length) B):numB b (A++B):=by
 intro i hi
 rw [List.length_append] at hi
 rcases Nat.lt_or_ge i A.length with c | c
 ·rw [List.getElem_append_left c]; exact h1 i c
 ·rw [List.getElem_append_right c,h2 (i - A.length) (by omega)]; omega
theorem chain_num:∀ (M:List SR) (b e:Int),chainM b M e→(∀ p∈M,numB p.1.base p.2)→numB b (recsM M)
 | [],b,e,_,_=>fun i hi=>by simp [recsM] at hi
 | p::M,b,e,h,hn=>by
  simp only [chainM] at h
  have e1:recsM (p::M)=p.2++recsM M:=by simp [recsM]
  rw [e1]
  have h1:=hn p (by simp)
  rw [h.1] at h1
  exact num_app h1 (chain_num M _ e h.2.2 (fun q hq=>hn q (by simp [hq])))
theorem Inv.num (h:Inv f s M g l):numB f (recsM (M++[(g,l)])):=by
 have h1:=chain_num M f g.base h.chain (fun p hp=>(h.file p (List.mem_append_left _ hp)).num)
 rw [recsM_app,recsM_one]
 refine num_app h1 ?_
 rw [chain_len _ _ _ h.chain]
 exact (h.file (g,l) (by simp)).num
theorem W.snT (ho:okS k u s) (h:W f S l0 s M g l):snapT s=S∧(parseF (snapT s)).getD []=l0:=by
 have hf:s.floor=f:=WR.floor ⟨M,g,l,h,rfl⟩
 have e:snapT s=S:=by
  unfold snapT
  rw [hf]
  rcases h.snp with ⟨h1,h2,_⟩ | ⟨h1,h2,_⟩
  ·rw [if_pos h1,h2]
  ·rw [if_neg (by omega),fm_read ho.dsk.srt,h2]
 rw [e]
 refine ⟨rfl,?_⟩
 rcases h.snp with ⟨_,h2,h3,_⟩ | ⟨_,_,h3,_⟩
 ·rw [h2,h3]; rfl
 ·rw [h3]; rfl
theorem run_fold {R:List Rec} (hd:∀ j,(hj:j < R.length)→dataT s (f+j)=R[j].da):∀ (n j:Nat) (q:List Pr),j+n≤R.length→runF s n (f+j) q=foldP q ((R.drop j).take n)
 | 0,j,q,_=>by simp [runF,foldP]
 | n+1,j,q,h=>by
  have hj:j < R.length:=by omega
  rw [runF,hd j hj,List.drop_eq_getElem_cons hj,List.take_succ_cons]
  have ih:=run_fold hd n (j+1) (stepF q R[j].da) (by omega)
  rw [Int.natCast_add,Int.natCast_one,← Int.add_assoc] at ih
  rw [ih]; rfl
theorem W.data (ho:okS k u s) (h:W f S l0 s M g l) (j:Nat) (hj:j < (recsM (M++[(g,l)])).length):dataT s (f+j)=(recsM (M++[(g,l)]))[j].da:=by
 have hn:s.next=f+(recsM (M++[(g,l)])).length:=WR.next ⟨M,g,l,h,rfl⟩
 have hf0:0≤f:=by have:=WR.floor ⟨M,g,l,h,rfl⟩; rw [← this]; exact (floor_ok ho).1
 unfold dataT
 rw [if_neg (by omega),h.inv.scans ho,find_num h.inv.num j hj]
def stF (l0:List Pr) (f:Int) (R:List Rec) (off:Int):List Pr:=foldP l0 (R.take (off - f).toNat)
theorem W.stT (ho:okS k u s) (h:W f S l0 s M g l) (off:Int) (h1:f≤off∧off≤s.next):stateT s off=stF l0 f (recsM (M++[(g,l)])) off:=by
 have hn:s.next=f+(recsM (M++[(g,l)])).length:=WR.next ⟨M,g,l,h,rfl⟩
 unfold stateT stF
 rw [(h.snT ho).2,WR.floor ⟨M,g,l,h,rfl⟩]
 have:=run_fold (h.data ho) (off - f).toNat 0 l0 (by omega)
 simpa using this
theorem stP_chain (s:Sto) (off:Int):∀ (M:List SR) (b e:Int) (q:List Pr),chainM b M e→(∀ p∈M,s.rcs p.1=p.2)→∀ rest:List Seg,stP s off (M.map (·.1)++rest) q=if (∃ p∈M,off≤p.1.base) then foldP q ((recsM M).take (off - b).toNat) else stP s off rest (foldP q ((recsM M).take (off - b).toNat))
 | [],b,e,q,_,_,rest=>by simp [recsM,foldP]
 | p::M,b,e,q,h,hr,rest=>by
  simp only [chainM] at h
  have ih:=stP_chain s off M (b+p.2.length) e (foldP q (p.2.take (off - b).toNat)) h.2.2 (fun x hx=>hr x (by simp [hx])) rest
  have e1:recsM (p::M)=p.2++recsM M:=by simp [recsM]
  have hce:=(chain_mem _ _ _ h.2.2)
  have hb:=h.1
  rw [List.map_cons,List.cons_append,stP,hr p (by simp),hb]
  by_cases c:off≤b
  ·rw [if_pos c,if_pos ⟨p,by simp,by omega⟩]
   have:(off - b).toNat=0:=by omega
   rw [this,List.take_zero]; rfl
  ·rw [if_neg c,ih,e1]
   have e2:foldP (foldP q (p.2.take (off - b).toNat)) ((recsM M).take (off - (b+p.2.length)).toNat)=foldP q ((p.2++recsM M).take (off - b).toNat):=by
    rw [← foldP_app,List.take_append]
    congr 3; omega
   rw [e2]
   by_cases c2:∃ x∈M,off≤x.1.base
   ·obtain ⟨x,hx,hx2⟩:=c2
    have hx3:=hce.2 x hx
    rw [if_pos ⟨x,hx,hx2⟩,if_pos ⟨x,by simp [hx],hx2⟩]
   ·rw [if_neg c2,if_neg]
    rintro ⟨x,hx,hx2⟩
    rcases List.mem_cons.1 hx with rfl | hx
    ·omega
    ·exact c2 ⟨x,hx,hx2⟩
theorem W.sPr (ho:okS k u s) (h:W f S l0 s M g l) (off:Int) (h1:f≤off∧off≤s.next):stateP s off=stF l0 f (recsM (M++[(g,l)])) off:=by
 unfold stateP stF
 rw [(h.snT ho).2,h.inv.segs,stP_chain s off M f g.base l0 h.inv.chain (fun p hp=>h.inv.rcs ho p (List.mem_append_left _ hp))]
 have hcl:=chain_len _ _ _ h.inv.chain
 split
 ·rename_i c
  obtain ⟨x,hx,hx2⟩:=c
  have:=(chain_mem _ _ _ h.inv.chain).2 x hx
  rw [recsM_app,List.take_append_of_le_length (by omega)]
 ·rename_i c
  rw [stP,h.inv.rcs ho (g,l) (by simp),stP]
  split
  ·rename_i c2
   rw [recsM_app,List.take_append_of_le_length (by omega)]
  ·rename_i c2
   rw [recsM_app,recsM_one,List.take_append,foldP_app]
   congr 2
   omega
theorem W.same_state (ho:okS k u s) (h:W f S l0 s M g l):∀ a∈s.segs,stateP s a.base=stateT s a.base:=by
 intro a ha
 have hb:f≤a.base∧a.base≤s.next:=by
  have hn:=h.inv.next
  rw [h.inv.segs] at ha
  rcases List.mem_append.1 ha with ha | ha
  ·obtain ⟨p,hp,rfl⟩:=List.mem_map.1 ha
   have:=(chain_mem _ _ _ h.inv.chain)
   have:=this.2 p hp; omega
  ·rw [List.mem_singleton.1 ha]
   have:=(chain_mem _ _ _ h.inv.chain).1; omega
 rw [h.sPr ho _ hb,h.stT ho _ hb]
def okV (l:List Pr):Prop:=∀ p∈l,(0≤p.key∧p.key < 256)∧(1≤p.val.length∧p.val.length≤63)
theorem okV.okP {l:List Pr} (h:okV l):okP l:=fun p hp=>⟨(h p hp).1,by have:=(h p hp).2; omega⟩
theorem step_okV {l:List Pr} (h:okV l) {d:List UInt8} (hd:d.length≤64):okV (stepF l d):=by
 cases d with
 | nil=>exact h
 | cons c r =>
  intro p hp
  simp only [stepF,List.mem_append] at hp
  rcases hp with (hp | hp) | hp
  ·exact h p ((List.takeWhile_sublist _).subset hp)
  ·split at hp
   ·cases hp
   ·rename_i hr
    rw [List.mem_singleton] at hp
    subst hp
    have:=UInt8.toNat_lt c
    have:=List.length_pos_iff.2 hr
    simp at hd
    exact ⟨⟨by simp only []; omega,by simp only []; omega⟩,by simp only []; omega⟩
  ·exact h p (List.mem_filter.1 hp).1
theorem foldP_okV:∀ (R:List Rec) (l:List Pr),okV l→(∀ r∈R,r.da.length≤64)→okV (foldP l R)
 | [],l,h,_=>h
 | r::R,l,h,hr=>foldP_okV R _ (step_okV h (hr r (by simp))) (fun x hx=>hr x (by simp [hx]))
theorem right_ok {l:List Pr} (hs:srtP l) (h:okV l):rightF l=true:=by
 unfold rightF
 rw [List.all_eq_true]
 intro i hi
 have hi:i < l.length:=by simpa using hi
 simp only [atOk,List.getElem?_eq_getElem hi,prOk,Bool.and_eq_true,Bool.or_eq_true,decide_eq_true_eq]
 refine ⟨(h _ (List.getElem_mem hi)).2,?_⟩
 by_cases c:i=0
 ·exact .inl c
 ·refine .inr ?_
  have e:keyAt l (i - 1)=l[i - 1].key:=by simp [keyAt,List.getElem?_eq_getElem (show i - 1 < l.length by omega)]
  rw [e]
  exact (List.pairwise_iff_getElem.1 hs) (i - 1) i (by omega) hi (by omega)
theorem right_okV {l:List Pr} (hr:rightF l=true) (ho:okP l):okV l:=by
 intro p hp
 obtain ⟨i,hi,rfl⟩:=List.getElem_of_mem hp
 have:=(List.all_eq_true.1 hr) i (by simpa using hi)
 simp only [atOk,List.getElem?_eq_getElem hi,prOk,Bool.and_eq_true,decide_eq_true_eq] at this
 exact ⟨(ho _ hp).1,this.1⟩
theorem pair_bytes (pre rest:Txt) (p:Pr) (h:(0≤p.key∧p.key < 256)∧(1≤p.val.length∧p.val.length≤63)):pairF (pre++(prB p++rest)) pre.length=some (p,(pre++prB p).length):=by
 obtain ⟨key,v⟩:=p
 simp only at h
 have e0:pre++(prB ⟨key,v⟩++rest)=(pre++[UInt8.ofNat key.toNat])++(enc128 v.length++(v++rest)):=by simp [prB]
 have e1:(pre++(prB ⟨key,v⟩++rest)).drop (pre.length+1)=enc128 v.length++(v++rest):=by
  rw [e0]; exact List.drop_left' (by simp)
 have hr:=rdF_of0 v.length (v++rest) (by omega)
 have hk:(enc128 v.length).length=nd v.length:=rfl
 have hl:(pre++(prB ⟨key,v⟩++rest)).length=pre.length+1+nd v.length+v.length+rest.length:=by rw [e0]; simp [hk]; omega
 have ha:(pre++(prB ⟨key,v⟩++rest))[pre.length]?=some (UInt8.ofNat key.toNat):=by simp [prB]
 have hv:((pre++(prB ⟨key,v⟩++rest)).take (pre.length+1+nd v.length+v.length)).drop (pre.length+1+nd v.length)=v:=by
  have e2:pre++(prB ⟨key,v⟩++rest)=((pre++[UInt8.ofNat key.toNat])++enc128 v.length)++(v++rest):=by simp [prB]
  have hl2:((pre++[UInt8.ofNat key.toNat])++enc128 v.length).length=pre.length+1+nd v.length:=by simp [hk]; omega
  rw [e2,← hl2,List.take_length_add_append,List.drop_left,List.take_left]
 have hkey:((UInt8.ofNat key.toNat).toNat:Int)=key:=by simp; omega
 unfold pairF
 rw [e1,hr]
 simp only []
 rw [if_neg (by omega),hv,ha]
 simp only [Option.getD_some,hkey]
 congr 2
 simp [prB,hk]; omega
theorem pars_bytes:∀ (l:List Pr) (pre:Txt) (out:List Pr),okV l→parsF (pre++l.flatMap prB) l.length pre.length out=some (out++l,(pre++l.flatMap prB).length)
 | [],pre,out,_=>by simp [parsF]
 | p::l,pre,out,h=>by
  have hp:=pair_bytes pre (l.flatMap prB) p (h p (by simp))
  rw [List.flatMap_cons,List.length_cons,parsF,hp]
  simp only []
  have ih:=pars_bytes l (pre++prB p) (out++[p]) (fun q hq=>h q (by simp [hq]))
  rw [List.append_assoc] at ih
  rw [ih]
  simp
theorem parse_bytes {l:List Pr} (hs:srtP l) (h:okV l):parseF (bytesF l)=some l:=by
 have hl:=st_len hs h.okP
 have hr:=rdF_of0 l.length (l.flatMap prB) (by omega)
 have hp:=pars_bytes l (enc128 l.length) [] h
 have hk:(enc128 l.length).length=nd l.length:=rfl
 unfold parseF
 have e:bytesF l=enc128 l.length++l.flatMap prB:=rfl
 rw [e,hr]
 simp only []
 rw [if_neg (by omega),← hk,hp]
 unfold endF
 simp [right_ok hs h]
theorem parse_okV {s:List UInt8} {l:List Pr} (h:parseF s=some l):okV l:=by
 have hr:rightF l=true:=by
  unfold parseF at h
  split at h
  ·split at h
   ·cases h
   ·unfold endF at h
    split at h
    ·split at h
     ·rename_i hc; cases h; exact hc.2
     ·cases h
    ·cases h
  ·cases h
 exact right_okV hr (parse_ok h).1
variable {k u:Nat} {f:Int} {S:Txt} {l0:List Pr} {s:Sto} {M:List SR} {g:Seg} {l:List Rec}
theorem W.st0 (h:W f S l0 s M g l):srtP l0∧okV l0:=by
 rcases h.snp with ⟨_,_,h3,_⟩ | ⟨_,_,h3,_⟩
 ·rw [h3]; exact ⟨List.Pairwise.nil,fun p hp=>by cases hp⟩
 ·exact ⟨parse_srt h3,parse_okV h3⟩
theorem W.why (h:W f S l0 s M g l):∀ r∈recsM (M++[(g,l)]),whyF r=0:=by
 intro r hr
 simp only [recsM,List.mem_flatMap] at hr
 obtain ⟨p,hp,hr⟩:=hr
 exact (h.inv.file p hp).why r hr
theorem W.st (h:W f S l0 s M g l) (off:Int):srtP (stF l0 f (recsM (M++[(g,l)])) off)∧okV (stF l0 f (recsM (M++[(g,l)])) off):=by
 have h1:∀ r∈(recsM (M++[(g,l)])).take (off - f).toNat,r.da.length≤64:=fun r hr=>why_len (h.why r (List.mem_of_mem_take hr))
 exact ⟨(foldP_ok _ _ h.st0.1 h.st0.2.okP h1).1,foldP_okV _ _ h.st0.2 h1⟩
theorem bytes_small {q:List Pr} (hs:srtP q) (ho:okV q):1≤(bytesF q).length∧(bytesF q).length≤18960:=by
 have h1:=st_len hs ho.okP
 have h2:=bytes_len ho.okP (by omega)
 have h3:1≤(enc128 q.length).length:=nd_pos q.length
 refine ⟨?_,by omega⟩
 unfold bytesF; rw [List.length_append]; omega
theorem chain_drop:∀ (k:Nat) (M:List SR) (b e:Int),k≤M.length→chainM b M e→chainM (b+(recsM (M.take k)).length) (M.drop k) e
 | 0,M,b,e,_,h=>by simpa [recsM] using h
 | k+1,[],b,e,hk,_=>by simp at hk
 | k+1,p::M,b,e,hk,h=>by
  simp only [chainM] at h
  have ih:=chain_drop k M (b+p.2.length) e (by simpa using hk) h.2.2
  have e1:(recsM ((p::M).take (k+1))).length=p.2.length+(recsM (M.take k)).length:=by simp [recsM]
  rw [e1,List.drop_succ_cons,Int.natCast_add,← Int.add_assoc]; exact ih
theorem chain_first {M:List SR} {b e:Int} (h:chainM b M e):∀ x,(M.map (·.1.base)++[e])[0]?=some x→x=b:=by
 intro x hx
 cases M with
 | nil=>simp [chainM] at h hx; omega
 | cons p M=>simp [chainM] at h hx; omega
theorem W.base_k (h:W f S l0 s M g l) {n:Nat} (hn:n < s.segs.length):n≤M.length∧baseF s.segs n=f+(recsM (M.take n)).length:=by
 have hl:s.segs.length=M.length+1:=by rw [h.inv.segs]; simp
 have hk:n≤M.length:=by omega
 refine ⟨hk,?_⟩
 have hc:=chain_drop n M f g.base hk h.inv.chain
 refine chain_first hc _ ?_
 have e1:s.segs.map Seg.base=M.map (·.1.base)++[g.base]:=by rw [h.inv.segs]; simp [List.map_map,Function.comp_def]
 have e2:(M.drop n).map (·.1.base)++[g.base]=(s.segs.map Seg.base).drop n:=by
  rw [e1,List.drop_append_of_le_length (by simpa using hk),List.map_drop]
 rw [e2,List.getElem?_drop,Nat.add_zero,List.getElem?_map,(base_at hn).1,(base_at hn).2]; rfl
theorem W.trimR (ho:okS k u s) (h:W f S l0 s M g l) (hv:u < 1000000000000) {n:Nat} (hn:n < s.segs.length) (h0:n≠0):f < baseF s.segs n∧baseF s.segs n≤s.next∧stateT s (baseF s.segs n)=stF l0 f (recsM (M++[(g,l)])) (baseF s.segs n)∧manB (trimX s n).man=true:=by
 have hb:=h.base_k hn
 have hf0:0≤f:=by have:=WR.floor ⟨M,g,l,h,rfl⟩; rw [← this]; exact (floor_ok ho).1
 have hce:=chain_mem _ _ _ h.inv.chain
 have hcl:=chain_len _ _ _ h.inv.chain
 have hnx:=h.inv.next
 have e1:recsM M=recsM (M.take n)++recsM (M.drop n):=by rw [← recsM_app,List.take_append_drop]
 have h1:f < baseF s.segs n:=by
  rw [hb.2]
  have:0 < (recsM (M.take n)).length:=by
   cases hM:M with
   | nil=>rw [hM] at hb; simp at hb; omega
   | cons p r =>
    obtain ⟨m,rfl⟩:∃ m,n=m+1:=⟨n - 1,by omega⟩
    have:=(hce.2 p (by rw [hM]; simp)).2.2
    simp [recsM]; omega
  omega
 have h2:baseF s.segs n≤s.next:=by
  rw [hb.2]
  rw [e1,List.length_append] at hcl
  omega
 have h3:=h.stT ho (baseF s.segs n) ⟨by omega,h2⟩
 refine ⟨h1,h2,h3,?_⟩
 have hst:=h.st (baseF s.segs n)
 have hbs:=bytes_small hst.1 hst.2
 have hm:=manB_t h.right
 have hi:=h.man_inc
 have hv2:=ho.ver
 have hv1:1≤s.ver:=hm.1.1
 have hl64:=ho.len
 have ex:(trimX s n).man.segs=(s.segs.map Seg.base).drop n:=by show (s.segs.drop n).map Seg.base=_; rw [List.map_drop]
 have ez:(trimX s n).man.size=((bytesF (stateT s (baseF s.segs n))).length:Nat):=rfl
 refine manB_mk ⟨by show 1≤s.ver+1; omega,by show s.ver+1≤_; omega⟩ ⟨by rw [ex]; simp; omega,by rw [ex]; simp; omega⟩ ?_ (.inr ⟨?_,?_⟩)
 ·rw [ex,incB_iff]
  exact ⟨hi.1.sublist (List.drop_sublist _ _),fun a ha=>hi.2 a (List.mem_of_mem_drop ha)⟩
 ·rw [ex,List.head?_drop,List.getElem?_map,(base_at hn).1]
  simp only [Option.map_some,ne_eq,Option.some.injEq]
  rw [← (base_at hn).2]; omega
 ·rw [ez,h3]; omega
theorem W.not_rel {a:Int} (ho:okS k u s) (hf:0≤f∧f≤1099511627776) (ha:f < a∧a≤1099511627776):¬ rel f s (snapN a):=by
 rintro (e | ⟨b,_,e⟩ | ⟨_,e⟩)
 ·exact absurd e (n109 _ (by rw [snapN_len]; decide))
 ·exact absurd e (snap_file _ _)
 ·have:=snapN_inj (by omega) hf e; omega
variable {k u:Nat} {f:Int} {S:Txt} {l0:List Pr} {s:Sto} {M:List SR} {g:Seg} {l:List Rec}
theorem oldN_nodup (ho:okS k u s) (h:W f S l0 s M g l) (n:Nat):(oldN s n).Nodup:=by
 have hp:s.segs.Pairwise (fun a b=>a.base < b.base):=List.pairwise_map.1 h.man_inc.1
 unfold oldN List.Nodup
 rw [List.pairwise_append]
 refine ⟨?_,by split <;> simp,?_⟩
 ·rw [List.pairwise_map]
  refine List.Pairwise.imp_of_mem (fun {a b} ha hb hab e=>?_) (hp.sublist (List.take_sublist n _))
  have:=fileN_inj (ho.seg a (List.mem_of_mem_take ha)).1 (ho.seg b (List.mem_of_mem_take hb)).1 e
  omega
 ·intro a ha b hb e
  obtain ⟨c,_,rfl⟩:=List.mem_map.1 ha
  split at hb
  ·rw [List.mem_singleton.1 hb] at e
   exact snap_file _ _ e.symm
  ·cases hb
theorem W.cut (ho:okS k u s) (h:W f S l0 s M g l) (hv:u < 1000000000000) {n:Nat} (hn:n < s.segs.length) (h0:n≠0) {d1:Dsk} {w:Dsk × Int}
  (hs1:srt d1.files) (hd1:d1.down=false) (hf1:fm d1.files=up (up (fm s.disk.files) (snapN (baseF s.segs n)) (some (bytesF (stateT s (baseF s.segs n)),(((bytesF (stateT s (baseF s.segs n))).length:Nat):Int)))) [109] (manV (trimX s n).man)) (hdn:s.disk.down=false)
  (hO:Out d1 w (oldN s n) (rmv (oldN s n) (fm d1.files)) none) :
  W (baseF s.segs n) (bytesF (stateT s (baseF s.segs n))) (stateT s (baseF s.segs n)) { trimX s n with disk:=w.1 } (M.drop n) g l:=by
 have hT:=h.trimR ho hv hn h0
 have hb:=h.base_k hn
 have hf0:0≤f:=by have:=WR.floor ⟨M,g,l,h,rfl⟩; rw [← this]; exact (floor_ok ho).1
 have hst:=h.st (baseF s.segs n)
 rw [← hT.2.2.1] at hst
 have hfl:s.floor=f:=WR.floor ⟨M,g,l,h,rfl⟩
 have hbo:=base_ok ho hn
 have hlt:∀ a∈s.segs.take n,a.base < baseF s.segs n:=by
  intro a ha
  have hp:s.segs.Pairwise (fun a b=>a.base < b.base):=List.pairwise_map.1 h.man_inc.1
  obtain ⟨i,hi,rfl⟩:=List.getElem_of_mem ha
  rw [List.length_take] at hi
  rw [List.getElem_take,(base_at hn).2]
  exact (List.pairwise_iff_getElem.1 hp) i n (by omega) hn (by omega)
 have hge:∀ a∈s.segs.drop n,baseF s.segs n≤a.base:=by
  intro a ha
  have hp:s.segs.Pairwise (fun a b=>a.base < b.base):=List.pairwise_map.1 h.man_inc.1
  obtain ⟨i,hi,rfl⟩:=List.getElem_of_mem ha
  rw [List.length_drop] at hi
  rw [List.getElem_drop,(base_at hn).2]
  by_cases c:i=0
  ·subst c; simp
  ·have:=(List.pairwise_iff_getElem.1 hp) n (n+i) hn (by omega) (by omega); omega
 have hold:∀ m,m∈oldN s n↔(∃ a∈s.segs.take n,m=fileN a.base)∨(0 < f∧m=snapN f):=by
  intro m
  unfold oldN
  rw [List.mem_append,List.mem_map,hfl]
  constructor
  ·rintro (⟨a,ha,rfl⟩ | hm)
   ·exact .inl ⟨a,ha,rfl⟩
   ·split at hm
    ·rename_i c; exact .inr ⟨c,List.mem_singleton.1 hm⟩
    ·cases hm
  ·rintro (⟨a,ha,rfl⟩ | ⟨hc,rfl⟩)
   ·exact .inl ⟨a,ha,rfl⟩
   ·rw [if_pos hc]; exact .inr (by simp)
 have hsd:s.segs.drop n=(M.drop n).map (·.1)++[g]:=by rw [h.inv.segs,List.drop_append_of_le_length (by simpa using hb.1),List.map_drop]
 have k1:[109] ∉ oldN s n:=by
  rw [hold]
  rintro (⟨a,_,e⟩ | ⟨_,e⟩)
  ·exact absurd e.symm (n109 _ (by rw [fileN_len]; decide))
  ·exact absurd e.symm (n109 _ (by rw [snapN_len]; decide))
 have k2:snapN (baseF s.segs n) ∉ oldN s n:=by
  rw [hold]
  rintro (⟨a,_,e⟩ | ⟨_,e⟩)
  ·exact absurd e (snap_file _ _)
  ·have:=snapN_inj hbo (by omega) e; omega
 have k3:∀ a∈s.segs.drop n,fileN a.base ∉ oldN s n:=by
  intro a ha
  rw [hold]
  rintro (⟨b,hb2,e⟩ | ⟨_,e⟩)
  ·have:=fileN_inj (ho.seg a (List.mem_of_mem_drop ha)).1 (ho.seg b (List.mem_of_mem_take hb2)).1 e
   have:=hge a ha; have:=hlt b hb2; omega
  ·exact absurd e.symm (snap_file _ _)
 have hkeep:∀ m,m ∉ oldN s n→fm w.1.files m=fm d1.files m:=by
  intro m hm
  rcases hO.2.2 with ⟨_,_,hf⟩ | ⟨_,hc,_⟩ | ⟨_,_,hf⟩
  ·rw [hf]; exact if_neg hm
  ·cases hc
  ·exact hf m hm
 have hfile:∀ a∈s.segs.drop n,fm w.1.files (fileN a.base)=fm s.disk.files (fileN a.base):=by
  intro a ha
  rw [hkeep _ (k3 a ha),hf1,up_ne _ _ (n109 _ (by rw [fileN_len]; decide)),up_ne _ _ (fun e=>snap_file _ _ e.symm)]
 have hpm:∀ p∈M.drop n++[(g,l)],p.1∈s.segs.drop n:=by
  intro p hp
  rw [hsd]
  rcases List.mem_append.1 hp with hp | hp
  ·exact List.mem_append_left _ (List.mem_map_of_mem hp)
  ·rw [List.mem_singleton.1 hp]; simp
 have hpM:∀ p∈M.drop n++[(g,l)],p∈M++[(g,l)]:=by
  intro p hp
  rcases List.mem_append.1 hp with hp | hp
  ·exact List.mem_append_left _ (List.mem_of_mem_drop hp)
  ·exact List.mem_append_right _ hp
 refine ⟨⟨hsd,fun p hp=>?_,?_,h.inv.next,h.inv.sure⟩,.inr ⟨by omega,?_,parse_bytes hst.1 hst.2,rfl,rfl⟩,?_,hT.2.2.2,fun p hp=>?_,?_,h.lo,fun hd m hm=>?_⟩
 ·have hfo:=h.inv.file p (hpM p hp)
  refine hfo.keep fun hh=>?_
  rw [fm_hasD ho.dsk.srt] at hh
  rw [fm_hasD hO.2.1,hfile _ (hpm p hp)]; exact hh
 ·have:=chain_drop n M f g.base hb.1 h.inv.chain
  rw [← hb.2] at this; exact this
 ·show fm w.1.files _=_
  rw [hkeep _ k2,hf1,up_ne _ _ (n109 _ (by rw [snapN_len]; decide)),up_at]
 ·show fm w.1.files _=_
  rw [hkeep _ k1,hf1,up_at]; rfl
 ·show fm w.1.files _=_
  rw [hfile _ (hpm p (List.mem_append_left _ hp))]
  exact h.full p (List.mem_of_mem_drop hp)
 ·obtain ⟨q,h1,h2⟩:=h.last
  exact ⟨q,by show fm w.1.files _=_; rw [hfile _ (hpm (g,l) (by simp))]; exact h1,h2⟩
 ·have hm2:fm w.1.files m≠none:=hm
  have hd2:w.1.down=false:=hd
  rcases hO.2.2 with ⟨_,_,hf⟩ | ⟨_,hc,_⟩ | ⟨_,hd3,_⟩
  ·rw [hf] at hm2
   unfold rmv at hm2
   by_cases c:m∈oldN s n
   ·rw [if_pos c] at hm2; exact absurd rfl hm2
   ·rw [if_neg c,hf1] at hm2
    by_cases c1:m=[109]
    ·exact .inl c1
    ·rw [up_ne _ _ c1] at hm2
     by_cases c2:m=snapN (baseF s.segs n)
     ·exact .inr (.inr ⟨by omega,c2⟩)
     ·rw [up_ne _ _ c2] at hm2
      rcases h.only hdn m hm2 with e | ⟨a,ha,e⟩ | ⟨e1,e2⟩
      ·exact .inl e
      ·rw [← List.take_append_drop n s.segs] at ha
       rcases List.mem_append.1 ha with ha | ha
       ·exact absurd ((hold m).2 (.inl ⟨a,ha,e⟩)) c
       ·exact .inr (.inl ⟨a,ha,e⟩)
      ·exact absurd ((hold m).2 (.inr ⟨e1,e2⟩)) c
  ·cases hc
  ·rw [hd2] at hd3; cases hd3
theorem recs_drop (h:Inv f s M g l) {n:Nat} (hn:n≤M.length):recsM (M.drop n++[(g,l)])=(recsM (M++[(g,l)])).drop (recsM (M.take n)).length:=by
 have e:recsM (M++[(g,l)])=recsM (M.take n)++recsM (M.drop n++[(g,l)]):=by
  rw [← recsM_app,← List.append_assoc,List.take_append_drop]
 rw [e,List.drop_left]
theorem WR.trim {R:List Rec} (ho:okS k u s) (h:WR f S l0 s R) (hv:u < 1000000000000) (keep count:Int) :
  ∃ f' S' l0',f≤f'∧f'≤s.next∧l0'=stF l0 f R f'∧WR f' S' l0' (trimT s keep count).1 (R.drop (f' - f).toNat)∧(trimT s keep count).1.next=s.next∧(trimT s keep count).1.sure=s.sure∧(trimT s keep count).1.disk.cap=s.disk.cap ∧
   ((trimT s keep count).2=0∨(trimT s keep count).2=9∨((trimT s keep count).2=10∧(trimT s keep count).1.disk.down=true)) ∧
   ((trimT s keep count).2=0→pickF (trimT s keep count).1.segs keep count=0)∧((trimT s keep count).2≠10→(trimT s keep count).1.disk.down=s.disk.down):=by
 have h0:=h
 have hfn:=h.sure
 have hs0:WR f S l0 s (R.drop (f - f).toNat):=by rw [Int.sub_self]; exact h0
 have hl0:l0=stF l0 f R f:=by unfold stF; rw [Int.sub_self]; rfl
 obtain ⟨M,g,l,h,rfl⟩:=h
 unfold trimT
 by_cases c0:pickF s.segs keep count=0
 ·rw [if_pos c0]
  exact ⟨f,S,l0,Int.le_refl _,by omega,hl0,hs0,rfl,rfl,rfl,.inl rfl,fun _=>c0,fun _=>rfl⟩
 ·rw [if_neg c0]
  have hn:=pickF_lt s.segs keep count c0
  have hpk:pickF (s.segs.drop (pickF s.segs keep count)) keep count=0:=by
   have hst:stayF s.segs keep count (pickF s.segs keep count)=true:=by
    unfold pickF at *
    cases hf:(List.range s.segs.length).find? (stayF s.segs keep count) with
    | none=>rw [hf] at c0; exact absurd rfl c0
    | some j=>exact List.find?_some hf
   refine pickF_at _ keep count 0 (by simp; omega) ?_ (fun i hi=>absurd hi (by omega))
   unfold stayF at hst ⊢
   rw [List.drop_zero]; exact hst
  generalize pickF s.segs keep count=n at *
  have hT:=h.trimR ho hv hn c0
  have hb:=h.base_k hn
  have hbo:=base_ok ho hn
  have hf0:0≤f:=by have:=WR.floor h0; rw [← this]; exact (floor_ok ho).1
  have hnr:¬ rel f s (snapN (baseF s.segs n)):=W.not_rel ho (by omega) ⟨hT.1,hbo.2⟩
  have h110:s.disk.down=false→fm s.disk.files [110]=none:=fun hd=>by
   cases hx:fm s.disk.files [110] with
   | none=>rfl
   | some v=>exact absurd (h.only hd [110] (by rw [hx]; simp)) (rel_110 f s)
  have hsn:s.disk.down=false→fm s.disk.files (snapN (baseF s.segs n))=none:=fun hd=>by
   cases hx:fm s.disk.files (snapN (baseF s.segs n)) with
   | none=>rfl
   | some v=>exact absurd (h.only hd _ (by rw [hx]; simp)) hnr
  have hO:=lay_out ho.dsk.srt (n:=snapN (baseF s.segs n)) (x:=bytesF (stateT s (baseF s.segs n))) hT.2.2.2 (namedS _) (n110 _ (by rw [snapN_len]; decide)) h110 hsn
  have hold0:∀ q,oldT s n q=goP (oldN s n) q:=fun q=>old_go s n q
  have hX:∀ m∈[snapN (baseF s.segs n),[110]],¬ rel f s m:=by
   intro m hm
   rcases List.mem_cons.1 hm with rfl | hm
   ·exact hnr
   ·rw [List.mem_singleton.1 hm]; exact rel_110 f s
  have etk:trimK s n=if (layT s.disk (snapN (baseF s.segs n)) (bytesF (stateT s (baseF s.segs n))) (trimX s n).man).2≠0 then ({ s with disk:=(layT s.disk (snapN (baseF s.segs n)) (bytesF (stateT s (baseF s.segs n))) (trimX s n).man).1 },(layT s.disk (snapN (baseF s.segs n)) (bytesF (stateT s (baseF s.segs n))) (trimX s n).man).2) else ({ trimX s n with disk:=(goP (oldN s n) (layT s.disk (snapN (baseF s.segs n)) (bytesF (stateT s (baseF s.segs n))) (trimX s n).man)).1 },(goP (oldN s n) (layT s.disk (snapN (baseF s.segs n)) (bytesF (stateT s (baseF s.segs n))) (trimX s n).man)).2):=by
   unfold trimK; simp only [hold0]
  rw [etk]
  clear etk
  generalize layT s.disk (snapN (baseF s.segs n)) (bytesF (stateT s (baseF s.segs n))) (trimX s n).man=e at *
  by_cases c1:e.2=0
  ·rw [if_neg (by simp [c1])]
   rcases hO.2.2 with ⟨_,hd,hf⟩ | ⟨_,_,e9,_⟩ | ⟨e10,_⟩
   ·have hdn:=hO.1.up_of hd
    have hg:=goP_out (oldN s n) e.1 hO.2.1 (oldN_nodup ho h n) hd (fun m hm=>by
     have hne:m≠[109]∧m≠snapN (baseF s.segs n)∧fm s.disk.files m≠none:=by
      unfold oldN at hm
      rcases List.mem_append.1 hm with hm | hm
      ·obtain ⟨a,ha,rfl⟩:=List.mem_map.1 hm
       refine ⟨n109 _ (by rw [fileN_len]; decide),fun e=>snap_file _ _ e.symm,?_⟩
       have ha:=List.mem_of_mem_take ha
       rw [h.inv.segs] at ha
       rcases List.mem_append.1 ha with ha | ha
       ·obtain ⟨p,hp,rfl⟩:=List.mem_map.1 ha
        rw [h.full p hp]; simp
       ·rw [List.mem_singleton.1 ha]
        obtain ⟨q,h1,_⟩:=h.last
        rw [h1]; simp
      ·rw [WR.floor h0] at hm
       split at hm
       ·rename_i c
        rw [List.mem_singleton.1 hm]
        refine ⟨n109 _ (by rw [snapN_len]; decide),fun e=>?_,?_⟩
        ·have:=snapN_inj (by omega) hbo e; omega
        ·rcases h.snp with ⟨h1,_⟩ | ⟨_,h1,_⟩
         ·omega
         ·rw [h1]; simp
       ·cases hm
     rw [hf,up_ne _ _ hne.1,up_ne _ _ hne.2.1]; exact hne.2.2)
    have hp0:e=(e.1,0):=pair_eq c1
    rw [← hp0] at hg
    have hw:=h.cut ho hv hn c0 hO.2.1 hd hf hdn hg
    have hr:=recs_drop h.inv hb.1
    have hfd:(baseF s.segs n - f).toNat=(recsM (M.take n)).length:=by omega
    refine ⟨baseF s.segs n,_,stateT s (baseF s.segs n),by omega,hT.2.1,hT.2.2.1,⟨M.drop n,g,l,hw,by rw [hr,hfd]⟩,rfl,rfl,hg.1.cap.trans hO.1.cap,?_,fun _=>hpk,fun hne=>?_⟩
    ·rcases hg.2.2 with ⟨a,_⟩ | ⟨_,a,_⟩ | ⟨a,b,_⟩
     ·exact .inl a
     ·cases a
     ·exact .inr (.inr ⟨a,b⟩)
    ·rcases hg.2.2 with ⟨_,a,_⟩ | ⟨_,a,_⟩ | ⟨a,b,_⟩
     ·exact a.trans hdn.symm
     ·cases a
     ·exact absurd a hne
   ·rw [e9] at c1; cases c1
   ·rw [e10] at c1; cases c1
  ·rw [if_pos c1]
   have:=h.fail ho.dsk.srt hO c1 hX
   refine ⟨f,S,l0,Int.le_refl _,by omega,hl0,by rw [Int.sub_self]; exact ⟨M,g,l,this.1,rfl⟩,rfl,rfl,hO.1.cap,?_,fun h=>absurd h c1,fun hne=>?_⟩
   ·rcases this.2 with ⟨a,_⟩ | ⟨a,b⟩
    ·exact .inr (.inl a)
    ·exact .inr (.inr ⟨a,b⟩)
   ·rcases this.2 with ⟨_,_,a⟩ | ⟨a,_⟩
    ·exact a.trans (hO.1.up_of a).symm
    ·exact absurd a hne
structure Ac where
 kind:Int
 n:Int
 m:Int
 data:List UInt8
 deriving DecidableEq
def Ac.enc (e:Ac):List D:=[.i .i64 e.kind,.i .i64 e.n,.i .i64 e.m,.s e.data]
theorem Ac.len (e:Ac):e.enc.length=4:=Eq.trans rfl rfl
theorem Ac.tk (e:Ac):e.enc.take 4=e.enc:=Eq.trans rfl rfl
theorem Ac.tkL (e:Ac):(e.enc.map L.d).take 4=e.enc.map L.d:=Eq.trans rfl rfl
theorem Ac.dat (e:Ac):dataLs (e.enc.map L.d)=some (e.enc.map L.d):=Eq.trans rfl rfl
theorem Ac.rfs (e:Ac):(e.enc.map L.d).flatMap L.refs=[]:=Eq.trans rfl rfl
theorem Ac.rn (e:Ac) (g:Nat→Option Nat):(e.enc.map L.d).map (L.ren g)=e.enc.map L.d:=Eq.trans rfl rfl
theorem Ac.lenL (e:Ac):(e.enc.map L.d).length=4:=Eq.trans rfl rfl
theorem Ac.at0 (e:Ac):e.enc[0]?=some (.i .i64 e.kind):=Eq.trans rfl rfl
theorem Ac.fd0 (e:Ac):(e.enc.map L.d)[0]?=some (.d (.i .i64 e.kind)):=Eq.trans rfl rfl
theorem Ac.at1 (e:Ac):(e.enc.drop 1)[0]?=some (.i .i64 e.n):=Eq.trans rfl rfl
theorem Ac.fd1 (e:Ac):(e.enc.map L.d)[1]?=some (.d (.i .i64 e.n)):=Eq.trans rfl rfl
theorem Ac.at2 (e:Ac):(e.enc.drop 2)[0]?=some (.i .i64 e.m):=Eq.trans rfl rfl
theorem Ac.fd2 (e:Ac):(e.enc.map L.d)[2]?=some (.d (.i .i64 e.m)):=Eq.trans rfl rfl
theorem Ac.up1 (e:Ac) (x:Int):e.enc.take 1++[.i .i64 x]++e.enc.drop 2=({ e with n:=x }:Ac).enc:=Eq.trans rfl rfl
theorem Ac.up2 (e:Ac) (x:Int):e.enc.take 2++[.i .i64 x]++e.enc.drop 3=({ e with m:=x }:Ac).enc:=Eq.trans rfl rfl
def Ac.ok (e:Ac):Prop:=(-9223372036854775808≤e.kind∧e.kind < 9223372036854775808)∧(-9223372036854775808≤e.n∧e.n < 9223372036854775808)∧(-9223372036854775808≤e.m∧e.m < 9223372036854775808)∧e.data.length≤9223372036854775807
def Ac.ty:List Ty:=[.i .i64,.i .i64,.i .i64,.s]
theorem Ac.eqs (a b:Ac):scEqs [0,0,0,2] (a.enc.map L.d) (b.enc.map L.d)=some (decide (a=b)):=by
 cases a; cases b
 simp only [Ac.enc,List.map_cons,List.map_nil,scEqs,scEq,if_true,Ac.mk.injEq]
 congr 1
 rw [Bool.eq_iff_iff]
 simp only [Bool.and_eq_true,beq_iff_eq,decide_eq_true_eq,and_true]
def actT (seg i:Int) (s:Sto) (a:Ac):Sto :=
 if a.kind=1 then (syncT s).1 else if a.kind=2 then (trimT s a.n a.m).1 else if a.kind=3 then { s with disk:=armD s.disk a.n } else if a.kind=4 then { s with disk:=limD s.disk a.n } else (appT s seg ⟨s.next,i,a.data⟩).1
def runA (seg:Int):Int→List Ac→Sto→Sto × Bool
 | _,[],s=>(s,true)
 | i,a::l,s=>if 64 < a.data.length then (s,false) else runA seg (i+1) l (actT seg i s a)
def playT (seg:Int) (l:List Ac):Sto × Bool:=if 40 < l.length then ((createT d0).1,false) else runA seg 0 l (createT d0).1
structure PI (i:Nat) (s:Sto):Prop where
 ok:okS (10+2*i) (2000+23000*i) s
 next:s.next≤i
 base:∀ g∈s.segs,g.base≤s.next
theorem floor_nn {k u:Nat} {s:Sto} (h:okS k u s):0≤s.floor:=(floor_ok h).1
theorem put_base (t:Sto) (x:Txt) (h:∀ g∈t.segs,g.base≤t.next) (h1:1≤t.segs.length):(∀ g∈(putT t x).1.segs,g.base≤(putT t x).1.next)∧(putT t x).1.next≤t.next+1:=by
 by_cases c:(chgF t.disk (appR t.disk.files t.disk.cap (fileN t.last.base) x)).2≠0
 ·have e:putT t x=({ t with disk:=(chgF t.disk (appR t.disk.files t.disk.cap (fileN t.last.base) x)).1 },(chgF t.disk (appR t.disk.files t.disk.cap (fileN t.last.base) x)).2):=by unfold putT; simp only []; rw [if_pos c]
  rw [e]
  exact ⟨h,by show t.next≤t.next+1; omega⟩
 ·have e:putT t x=({ addSeg t x.length with disk:=(chgF t.disk (appR t.disk.files t.disk.cap (fileN t.last.base) x)).1 },0):=by unfold putT; simp only []; rw [if_neg c]
  rw [e]
  refine ⟨fun g hg=>?_,Int.le_refl _⟩
  have hg':g∈t.segs.dropLast++[⟨t.last.base,t.last.n+1,t.last.size+x.length⟩]:=hg
  show g.base≤t.next+1
  rcases List.mem_append.1 hg' with hg | hg
  ·have:=h g (List.dropLast_subset _ hg); omega
  ·rw [List.mem_singleton.1 hg]
   have:=h t.last (last_mem h1)
   show t.last.base≤t.next+1
   omega
theorem roll_base (s:Sto) (h:∀ g∈s.segs,g.base≤s.next):(∀ g∈(rollT s).1.segs,g.base≤(rollT s).1.next)∧(rollT s).1.next=s.next:=by
 have hs:(syncT s).1.segs=s.segs:=rfl
 have hn:(syncT s).1.next=s.next:=rfl
 unfold rollT
 split
 ·exact ⟨h,rfl⟩
 ·split
  ·exact ⟨by rw [hs,hn]; exact h,hn⟩
  ·split
   ·refine ⟨fun g hg=>?_,rfl⟩
    have hg':g∈s.segs++[⟨s.next,0,0⟩]:=hg
    show g.base≤s.next
    rcases List.mem_append.1 hg' with hg | hg
    ·exact h g hg
    ·rw [List.mem_singleton.1 hg]; exact Int.le_refl _
   ·exact ⟨by rw [show ({ (syncT s).1 with disk:=(rollD (syncT s).1).1 }:Sto).segs=s.segs from rfl]; exact h,rfl⟩
theorem app_base {k u:Nat} {s:Sto} (ho:okS k u s) (h:∀ g∈s.segs,g.base≤s.next) (seg:Int) (r:Rec):(∀ g∈(appT s seg r).1.segs,g.base≤(appT s seg r).1.next)∧(appT s seg r).1.next≤s.next+1:=by
 have hr:=roll_base s h
 have ho2:=rollT_ok ho
 unfold appT
 split
 ·exact ⟨h,by show s.next≤s.next+1; omega⟩
 ·split
  ·exact ⟨h,by show s.next≤s.next+1; omega⟩
  ·split
   ·split
    ·exact ⟨hr.1,by rw [hr.2]; omega⟩
    ·have:=put_base (rollT s).1 (putF r).1 hr.1 ho2.len.1
     rw [hr.2] at this
     exact this
   ·exact put_base s _ h ho.len.1
theorem trim_base {s:Sto} (h:∀ g∈s.segs,g.base≤s.next) (keep count:Int):(∀ g∈(trimT s keep count).1.segs,g.base≤(trimT s keep count).1.next)∧(trimT s keep count).1.next=s.next:=by
 unfold trimT
 split
 ·exact ⟨h,rfl⟩
 ·unfold trimK
  simp only []
  split
  ·exact ⟨h,rfl⟩
  ·refine ⟨fun g hg=>?_,rfl⟩
   exact h g (List.mem_of_mem_drop hg)
theorem act_PI {i:Nat} {s:Sto} (h:PI i s) (hi:i < 40) (seg:Int) (a:Ac) (ha:a.ok):PI (i+1) (actT seg i s a):=by
 have h2:=h.ok.up (k':=10+2*(i+1)) (u':=2000+23000*(i+1)) (by omega) (by omega)
 have hn:=h.next
 unfold actT
 split
 ·exact ⟨(syncT_ok h.ok).up (by omega) (by omega),by show s.next≤_; omega,h.base⟩
 ·split
  ·have hb:=trim_base h.base a.n a.m
   refine ⟨?_,by rw [hb.2]; omega,hb.1⟩
   unfold trimT
   split
   ·exact h2
   ·rename_i hne
    have hlt:=pickF_lt s.segs a.n a.m hne
    have hfl:=floor_nn h.ok
    have:=trimK_ok h.ok hlt (by rw [(base_at hlt).2]; have:=h.base _ (List.getElem_mem hlt); omega)
    exact this.up (by omega) (by omega)
  ·split
   ·refine ⟨⟨⟨h2.dsk.len,h2.dsk.srt,?_,h2.dsk.cap,h2.dsk.used⟩,h2.len,h2.seg,h2.next,h2.ver,h2.sum⟩,by show s.next≤_; omega,h.base⟩
    have:=ha.2.1
    show 0≤(if 0 < a.n then a.n else 0)∧(if 0 < a.n then a.n else 0) < 9223372036854775808
    split <;> omega
   ·split
    ·refine ⟨⟨⟨h2.dsk.len,h2.dsk.srt,h2.dsk.left,?_,h2.dsk.used⟩,h2.len,h2.seg,h2.next,h2.ver,h2.sum⟩,by show s.next≤_; omega,h.base⟩
     have:=ha.2.1
     show 0≤(if 0 < a.n then a.n else 0)∧(if 0 < a.n then a.n else 0) < 9223372036854775808
     split <;> omega
    ·have hb:=app_base h.ok h.base seg ⟨s.next,i,a.data⟩
     exact ⟨(appT_ok h.ok seg _).up (by omega) (by omega),by have:=hb.2; omega,hb.1⟩
theorem new_PI:PI 0 (createT d0).1:=by
 obtain ⟨o1,hd1,n1,s1⟩:=createT_ok d0_ok d0_new
 refine ⟨o1.up (by omega) (by omega),by rw [n1]; omega,fun g hg=>?_⟩
 have e:(createT d0).1.segs=[⟨0,0,0⟩]:=by decide +kernel
 rw [e,List.mem_singleton] at hg
 rw [hg,n1]; exact Int.le_refl _
theorem PI.up {i j:Nat} {s:Sto} (h:PI i s) (hj:i≤j):PI j s:=⟨h.ok.up (by omega) (by omega),by have:=h.next; omega,h.base⟩
theorem runA_PI (seg:Int):∀ (l:List Ac) (i:Nat) (s:Sto),(∀ a∈l,a.ok)→i+l.length≤40→PI i s→PI 40 (runA seg i l s).1
 | [],i,s,_,h,hp=>hp.up (by simp at h; omega)
 | a::l,i,s,ha,h,hp=>by
  simp only [runA]
  split
  ·exact hp.up (by simp at h; omega)
  ·have:=runA_PI seg l (i+1) (actT seg i s a) (fun b hb=>ha b (by simp [hb])) (by simp at h; omega) (act_PI hp (by simp at h; omega) seg a (ha a (by simp)))
   rw [Int.natCast_add,Int.natCast_one] at this
   exact this
theorem play_PI (seg:Int) (l:List Ac) (ha:∀ a∈l,a.ok):PI 40 (playT seg l).1:=by
 unfold playT
 split
 ·exact new_PI.up (by omega)
 ·exact runA_PI seg l 0 _ ha (by omega) new_PI
set_option maxRecDepth 20000 in
set_option maxHeartbeats 4000000 in
theorem rplay_spec (seg:Int) (l:List Ac) (hl:l.length≤9223372036854775807) (ha:∀ a∈l,a.ok):call 7 [vi seg,vl (l.map Ac.enc)] []=some (.tup [(true,(playT seg l).1.l),(false,[.d (.b (playT seg l).2)])],[]):=by
 have q0:=rnew_spec d0 d0_ok (by decide) (by decide)
 have hp0:=new_PI
 have hd0:d0.l=[.d (.l []),.d (.i .i64 0),.d (.b false),.d (.i .i64 0),.d (.b false)]:=rfl
 have hcell:∀ s:Sto,s.l=[.d (.l (s.disk.files.map Fil.enc)),.d (.i .i64 s.disk.cap),.d (.b s.disk.armed),.d (.i .i64 s.disk.left),.d (.b s.disk.down),.d (.i .i64 s.ver),.d (.l (s.segs.map Seg.enc)),.d (.i .i64 s.next),.d (.i .i64 s.sure),.d (.i .i64 s.size),.d (.i .u32 s.sum)]:=fun _=>rfl
 obtain ⟨P,hP⟩:∃ P,P=playT seg l:=⟨_,rfl⟩
 rw [← hP]
 unfold playT at hP
 generalize createT d0=r0 at *
 obtain ⟨st0,e0⟩:=r0
 simp only [stoV,hcell,hd0] at q0 hP hp0 ⊢
 apply enterS s7 rfl
 by_cases c0:40 < l.length
 ·rw [if_pos c0] at hP
  subst hP
  have hc0:(40:Int) < (l.length:Int):=by omega
  (simp (disch:=first|decide|omega|(intros;exact Eq.trans rfl rfl)|simp only[puri]) only [wkf,a7,q0,decide_eq_true hc0,go_sem,seval,dis])
  try simp [trim]
 ·rw [if_neg c0] at hP
  have hc0:¬ (40:Int) < (l.length:Int):=by omega
  (simp (disch:=first|decide|omega|(intros;exact Eq.trans rfl rfl)|simp only[puri]) only [wkf,a7,q0,decide_eq_false hc0,go_sem,seval,dis])
  refine loop_boxM (m:=0) (σ:=Nat × Sto) (fun t=>l.length - t.1) (fun t=>t.1≤l.length∧PI t.1 t.2∧P=runA seg t.1 (l.drop t.1) t.2) (fun t=>[vi seg,vl (l.map Ac.enc),V.one (.p 0 0),V.one (.p 1 0),vi t.1])
   (fun t=>[.cells [.ns,.d (.i .i64 0),.d (.b false),.d (.i .i64 0),.d (.b false),.d (.i .i64 0),.ns,.d (.i .i64 0),.d (.i .i64 0),.d (.i .i64 0),.d (.i .u32 0)],.cells [.d (.l (t.2.disk.files.map Fil.enc)),.d (.i .i64 t.2.disk.cap),.d (.b t.2.disk.armed),.d (.i .i64 t.2.disk.left),.d (.b t.2.disk.down),.d (.i .i64 t.2.ver),.d (.l (t.2.segs.map Seg.enc)),.d (.i .i64 t.2.next),.d (.i .i64 t.2.sure),.d (.i .i64 t.2.size),.d (.i .u32 t.2.sum)]]) (fun _=>(V.tup [(true,[.d (.l (P.1.disk.files.map Fil.enc)),.d (.i .i64 P.1.disk.cap),.d (.b P.1.disk.armed),.d (.i .i64 P.1.disk.left),.d (.b P.1.disk.down),.d (.i .i64 P.1.ver),.d (.l (P.1.segs.map Seg.enc)),.d (.i .i64 P.1.next),.d (.i .i64 P.1.sure),.d (.i .i64 P.1.size),.d (.i .u32 P.1.sum)]),(false,[.d (.b P.2)])],[])) ?_ (0,st0) ⟨Nat.zero_le _,hp0,hP⟩ _ _ ?_
  rotate_left
  ·exact hdM
  rintro ⟨i,s⟩ ⟨h1,h2,h3⟩ R hR
  simp only at h1 h2 h3 ⊢
  by_cases c1:i < l.length
  ·have hc1:(i:Int) < (l.length:Int):=by omega
   rw [List.drop_eq_getElem_cons c1,runA] at h3
   have g1:(l.map Ac.enc)[i]?=some l[i].enc:=by rw [List.getElem?_map,List.getElem?_eq_getElem c1]; rfl
   have haa:=ha _ (List.getElem_mem c1)
   have hnx:=act_PI h2 (by omega) seg l[i] haa
   obtain ⟨a,hae⟩:∃ a,a=l[i]:=⟨_,rfl⟩
   rw [← hae] at g1 h3 haa hnx
   have ho:=h2.ok
   by_cases c2:64 < a.data.length
   ·rw [if_pos c2] at h3
    subst h3
    obtain ⟨ak,an,am,ad⟩:=a
    simp only [Ac.enc] at g1 c2
    have hc2:(64:Int) < (ad.length:Int):=by omega
    (simp (disch:=first|decide|omega|(intros;exact Eq.trans rfl rfl)|simp only[puri]) only [wkf,a7_0,decide_eq_true hc1,g1,decide_eq_true hc2,go_sem,seval,dis,vdr,A.kind,A.xs,optX,A.isN])
    try simp [trim]
   ·rw [if_neg c2] at h3
    have hR':=hR (i+1,actT seg i s a) (by simp only []; omega) ⟨by simp only []; omega,hnx,by simp only []; rw [Int.natCast_add,Int.natCast_one]; exact h3⟩
    have hnn:=ho.next
    have q1:=rsync_sto s ho (by omega) (by omega)
    have hfl:=floor_nn ho
    have q2:=rtrim_spec s ho (by omega) (by omega) a.n a.m (fun g hg=>by have:=h2.base g hg; have:=h2.next; omega)
    have q3:=arm_spec s.disk a.n haa.2.1
    have q4:=lim_spec s.disk a.n haa.2.1
    have q5:=rappend_sto s ho (by omega) (by omega) seg ⟨s.next,i,a.data⟩ ⟨by simp only []; omega,by simp only []; omega,haa.2.2.2⟩
    have hc2:¬ (64:Int) < (a.data.length:Int):=by omega
    unfold actT at hR'
    generalize syncT s=r1 at *
    generalize trimT s a.n a.m=r2 at *
    generalize armD s.disk a.n=r3 at *
    generalize limD s.disk a.n=r4 at *
    generalize appT s seg ⟨s.next,i,a.data⟩=r5 at *
    obtain ⟨ak,an,am,ad⟩:=a
    obtain ⟨⟨fl,cp,ar,lf,dn⟩,ver,segs,next,sure,size,sum⟩:=s
    simp only [Ac.enc,Dsk.l,stoV,hcell,Rec.enc,List.map_cons,List.map_nil] at g1 hc2 q1 q2 q3 q4 q5 hR'
    by_cases k1:ak=1
    ·subst k1
     rw [if_pos rfl] at hR'
     (simp (disch:=first|decide|omega|(intros;exact Eq.trans rfl rfl)|simp only[puri]) only [wkf,a7_0,decide_eq_true hc1,g1,decide_eq_false hc2,q1,go_sem,seval,dis,vdr,A.kind,A.xs,optX,A.isN])
     exact hR' _ _ hdM
    ·rw [if_neg k1] at hR'
     by_cases k2:ak=2
     ·subst k2
      rw [if_pos rfl] at hR'
      (simp (disch:=first|decide|omega|(intros;exact Eq.trans rfl rfl)|simp only[puri]) only [wkf,a7_0,decide_eq_true hc1,g1,decide_eq_false hc2,q2,go_sem,seval,dis,vdr,A.kind,A.xs,optX,A.isN])
      exact hR' _ _ hdM
     ·rw [if_neg k2] at hR'
      by_cases k3:ak=3
      ·subst k3
       rw [if_pos rfl] at hR'
       (simp (disch:=first|decide|omega|(intros;exact Eq.trans rfl rfl)|simp only[puri]) only [wkf,a7_0,decide_eq_true hc1,g1,decide_eq_false hc2,q3,go_sem,seval,dis,vdr,A.kind,A.xs,optX,A.isN])
       exact hR' _ _ hdM
      ·rw [if_neg k3] at hR'
       by_cases k4:ak=4
       ·subst k4
        rw [if_pos rfl] at hR'
        (simp (disch:=first|decide|omega|(intros;exact Eq.trans rfl rfl)|simp only[puri]) only [wkf,a7_0,decide_eq_true hc1,g1,decide_eq_false hc2,q4,go_sem,seval,dis,vdr,A.kind,A.xs,optX,A.isN])
        exact hR' _ _ hdM
       ·rw [if_neg k4] at hR'
        (simp (disch:=first|decide|omega|(intros;exact Eq.trans rfl rfl)|simp only[puri]) only [wkf,a7_0,decide_eq_true hc1,g1,decide_eq_false hc2,k1,k2,k3,k4,q5,go_sem,seval,dis,vdr,A.kind,A.xs,optX,A.isN])
        exact hR' _ _ hdM
  ·have hc1:¬ (i:Int) < (l.length:Int):=by omega
   rw [List.drop_eq_nil_of_le (by omega),runA] at h3
   subst h3
   (simp (disch:=first|decide|omega|(intros;exact Eq.trans rfl rfl)|simp only[puri]) only [wkf,a7_0,a7,decide_eq_false hc1,go_sem,seval,dis,vdr,A.kind,A.xs,optX,A.isN])
   try simp [trim]
variable {k u:Nat} {f:Int} {S:Txt} {l0:List Pr} {s:Sto} {M:List SR} {g:Seg} {l:List Rec}
theorem create_out {d:Dsk} (hs:srt d.files) (hF:d.down=false→∀ n,fm d.files n=none) :
  Out d ((createT d).1.disk,(createT d).2) [fileN 0,[110]] (up (up (fm d.files) (fileN 0) (some ([],0))) [109] (manV ⟨1,[0],0,0⟩)) (some (up (fm d.files) (fileN 0) (some ([],0)))) ∧
   ((createT d).2=0→(createT d).1=⟨(createT d).1.disk,1,[⟨0,0,0⟩],0,0,0,0⟩)∧((createT d).2≠0→(createT d).1=⟨(createT d).1.disk,0,[],0,0,0,0⟩):=by
 have e1:crtS (fileN 0) (d,0)=chgF d (crtR d.files (fileN 0)):=stp_ye _ _
 have hO:Out d (if (chgF d (crtR d.files (fileN 0))).2=0 then swapS ⟨1,[0],0,0⟩ (chgF d (crtR d.files (fileN 0))) else chgF d (crtR d.files (fileN 0))) [fileN 0,[110]] (up (up (fm d.files) (fileN 0) (some ([],0))) [109] (manV ⟨1,[0],0,0⟩)) (some (up (fm d.files) (fileN 0) (some ([],0)))):=by
  by_cases hd:d.down=true
  ·rw [chg_down hd,if_neg (by simp)]
   exact .dn hs hd _ _ _
  ·have hF:=hF (by simpa using hd)
   refine Out.seq (crt_out hs (namedN 0) (hF _)) (g1:=none) (g2:=some (up (fm d.files) (fileN 0) (some ([],0)))) ?_ ?_ (by simp) (X2:=[[110]]) (by simp) (by simp) (by simp)
   ·intro h0 hd1 hf1 hs1
    rw [pair_eq h0]
    have h3:=swap_out hs1 (m:=⟨1,[0],0,0⟩) (by decide) (fun _=>by rw [hf1,up_ne _ _ (n110 _ (by rw [fileN_len]; decide)).symm]; exact hF _)
    rw [hf1] at h3
    exact h3
   ·intro n hn
    exact up_ne _ _ (fun e=>hn (by simp [e]))
 unfold createT
 simp only [e1]
 generalize (if (chgF d (crtR d.files (fileN 0))).2=0 then swapS ⟨1,[0],0,0⟩ (chgF d (crtR d.files (fileN 0))) else chgF d (crtR d.files (fileN 0)))=w at *
 by_cases c:w.2=0
 ·rw [if_pos c]
  refine ⟨?_,fun _=>rfl,fun h=>absurd rfl h⟩
  rw [pair_eq c] at hO; exact hO
 ·rw [if_neg c]
  exact ⟨hO,fun h=>absurd h c,fun _=>rfl⟩
theorem create_WR {d:Dsk} (hs:srt d.files) (hF:d.down=false→∀ n,fm d.files n=none) (h0:(createT d).2=0):WR 0 [] [] (createT d).1 []∧(createT d).1.disk.down=false:=by
 have hc:=create_out hs hF
 obtain ⟨hO,he,_⟩:=hc
 have he:=he h0
 rcases hO.2.2 with ⟨_,hd,hf⟩ | ⟨_,_,e,_⟩ | ⟨e,_⟩
 ·have hdn:=hO.1.up_of hd
  have hF:=hF hdn
  have hd2:(createT d).1.disk.down=false:=hd
  refine ⟨⟨[],⟨0,0,0⟩,[],?_,rfl⟩,hd2⟩
  rw [he]
  generalize (createT d).1.disk=w at *
  refine ⟨⟨rfl,fun p hp=>?_,rfl,rfl,by simp⟩,.inl ⟨rfl,rfl,rfl,rfl,rfl⟩,?_,(show manB ⟨1,[0],0,0⟩=true by decide),fun p hp=>(by cases hp),⟨0,?_,by simp [rowS],by simp⟩,Int.le_refl _,fun _ n hn=>?_⟩
  ·rw [List.nil_append,List.mem_singleton] at hp
   subst hp
   refine ⟨(fm_hasD hO.2.1 _ _).2 ⟨0,?_⟩,fun r hr=>(by cases hr),fun i hi=>(by simp at hi),rfl,rfl⟩
   rw [hf,up_ne _ _ (n109 _ (by rw [fileN_len]; decide)),up_at]; rfl
  ·rw [hf,up_at]; rfl
  ·rw [hf,up_ne _ _ (n109 _ (by rw [fileN_len]; decide)),up_at]; rfl
  ·rw [hf] at hn
   by_cases a1:n=[109]
   ·exact .inl a1
   ·rw [up_ne _ _ a1] at hn
    by_cases a2:n=fileN 0
    ·exact .inr (.inl ⟨⟨0,0,0⟩,by simp,a2⟩)
    ·rw [up_ne _ _ a2,hF] at hn; exact absurd rfl hn
 ·exact absurd h0 (by rw [show (createT d).2=9 from e]; decide)
 ·exact absurd h0 (by rw [show (createT d).2=10 from e]; decide)
theorem WR.sync {R:List Rec} (ho:okS k u s) (h:WR f S l0 s R):WR f S l0 (syncT s).1 R∧(((syncT s).2=0∧(syncT s).1.sure=s.next∧(syncT s).1.disk.down=false)∨((syncT s).2=10∧(syncT s).1.disk.down=true∧(syncT s).1.sure=s.sure))∧(syncT s).1.disk.cap=s.disk.cap:=by
 obtain ⟨M,g,l,h,rfl⟩:=h
 have:=h.sync ho
 exact ⟨⟨M,g,l,this.1,rfl⟩,this.2⟩
def LW (s:Sto):Prop:=∃ f S l0 R,WR f S l0 s R
theorem new_LW:LW (createT d0).1:=⟨_,_,_,_,(create_WR d0_ok.srt (fun _ _=>rfl) d0_new).1⟩
theorem act_LW {i:Nat} (hp:PI i s) (hi:i < 40) (h:LW s) {seg:Int} (hseg:1≤seg) (a:Ac):LW (actT seg i s a):=by
 obtain ⟨f,S,l0,R,h⟩:=h
 unfold actT
 split
 ·exact ⟨_,_,_,_,(h.sync hp.ok).1⟩
 ·split
  ·obtain ⟨f',S',l',_,_,_,h,_⟩:=h.trim hp.ok (by omega) a.n a.m
   exact ⟨_,_,_,_,h⟩
  ·split
   ·obtain ⟨M,g,l,h,e⟩:=h
    exact ⟨_,_,_,_,M,g,l,h.arm hp.ok.dsk.srt _,e⟩
   ·split
    ·obtain ⟨M,g,l,h,e⟩:=h
     exact ⟨_,_,_,_,M,g,l,h.lim hp.ok.dsk.srt _,e⟩
    ·rcases (h.app hp.ok hseg (by omega) ⟨s.next,i,a.data⟩).2.2 with ⟨_,_,_,_,_,h⟩ | ⟨h,_⟩
     ·exact ⟨_,_,_,_,h⟩
     ·exact ⟨_,_,_,_,h⟩
theorem runA_LW {seg:Int} (hseg:1≤seg):∀ (l:List Ac) (i:Nat) (s:Sto),(∀ a∈l,a.ok)→i+l.length≤40→PI i s→LW s→LW (runA seg i l s).1
 | [],i,s,_,_,_,h=>h
 | a::l,i,s,ha,hl,hp,h=>by
  simp only [runA]
  split
  ·exact h
  ·have:=runA_LW hseg l (i+1) (actT seg i s a) (fun b hb=>ha b (by simp [hb])) (by simp at hl; omega) (act_PI hp (by simp at hl; omega) seg a (ha a (by simp))) (act_LW hp (by simp at hl; omega) h hseg a)
   rw [Int.natCast_add,Int.natCast_one] at this
   exact this
theorem play_LW {seg:Int} (hseg:1≤seg) (l:List Ac) (ha:∀ a∈l,a.ok):LW (playT seg l).1:=by
 unfold playT
 split
 ·exact new_LW
 ·exact runA_LW hseg l 0 _ ha (by omega) new_PI new_LW
variable {k u:Nat} {f:Int} {S:Txt} {l0:List Pr} {s:Sto} {M:List SR} {g:Seg} {l:List Rec}
theorem trimT_ok (h:okS k u s) (hb:∀ g∈s.segs,g.base≤s.floor+40) (keep count:Int):okS (k+2) (u+23000) (trimT s keep count).1:=by
 unfold trimT
 split
 ·exact h.up (by omega) (by omega)
 ·rename_i hne
  have hlt:=pickF_lt s.segs keep count hne
  exact trimK_ok h hlt (by rw [(base_at hlt).2]; exact hb _ (List.getElem_mem hlt))
theorem stF_trim (l0:List Pr) (f f' i:Int) (R:List Rec) (h1:f≤f') (h2:f'≤i):stF (stF l0 f R f') f' (R.drop (f' - f).toNat) i=stF l0 f R i:=by
 unfold stF
 rw [← foldP_app,← List.take_add]
 congr 2; omega
theorem WR.stP {R:List Rec} (ho:okS k u s) (h:WR f S l0 s R) (off:Int) (h1:f≤off∧off≤s.next):stateP s off=stF l0 f R off:=by
 obtain ⟨M,g,l,h,rfl⟩:=h
 exact h.sPr ho off h1
theorem WR.stT {R:List Rec} (ho:okS k u s) (h:WR f S l0 s R) (off:Int) (h1:f≤off∧off≤s.next):stateT s off=stF l0 f R off:=by
 obtain ⟨M,g,l,h,rfl⟩:=h
 exact h.stT ho off h1
theorem WR.st_ok {R:List Rec} (h:WR f S l0 s R) (off:Int):srtP (stF l0 f R off)∧okV (stF l0 f R off)∧(stF l0 f R off).length≤256:=by
 obtain ⟨M,g,l,h,rfl⟩:=h
 have:=h.st off
 exact ⟨this.1,this.2,st_len this.1 this.2.okP⟩
theorem WR.same_state {R:List Rec} (ho:okS k u s) (h:WR f S l0 s R):∀ a∈s.segs,stateP s a.base=stateT s a.base:=by
 obtain ⟨M,g,l,h,rfl⟩:=h
 exact h.same_state ho
theorem WR.why {R:List Rec} (h:WR f S l0 s R):∀ r∈R,whyF r=0:=by
 obtain ⟨M,g,l,h,rfl⟩:=h
 exact h.why
theorem WR.num {R:List Rec} (h:WR f S l0 s R):numB f R:=by
 obtain ⟨M,g,l,h,rfl⟩:=h
 exact h.inv.num
theorem same05_refl (l:List Pr) (hl:l.length≤1000000):call 15 [vl (l.map Pr.enc),vl (l.map Pr.enc)] []=some (vb true,[]):=by
 apply enterS s15 rfl
 (simp (disch:=first|decide|omega|(intros;exact Eq.trans rfl rfl)|simp only[puri]) only [a15,go_sem,seval,dis])
 refine loop_boxM (m:=0) (σ:=Nat) (fun i=>l.length - i) (fun i=>i≤l.length) (fun i=>[vl (l.map Pr.enc),vl (l.map Pr.enc),vi i]) (fun _=>[])
  (fun _=>(vb true,[])) ?_ 0 (Nat.zero_le _) _ _ hdM
 intro i h1 R hR
 by_cases hi:i < l.length
 ·have g1:(l.map Pr.enc)[i]?=some l[i].enc:=by rw [List.getElem?_map,List.getElem?_eq_getElem hi]; rfl
  have hR':=hR (i+1) (by omega) (by omega)
  generalize l[i]=p at *
  have he:=Pr.eqs p p
  (simp (disch:=first|decide|omega|(intros;exact Eq.trans rfl rfl)|simp only[puri]) only [a15_0,g1,Pr.len,Pr.tkL,Pr.tk,he,go_sem,seval,dis])
  exact hR' _ _ hdM
 ·(simp (disch:=first|decide|omega|(intros;exact Eq.trans rfl rfl)|simp only[puri]) only [a15_0,a15,go_sem,seval,dis])
  try simp [trim]
def exA (d:Txt):Ac:=⟨0,0,0,d⟩
def exL:List Ac:=[exA [97,49],exA [97,50],exA [98,51],exA [99,52],exA [99],exA [100,53],exA [101]]
def exP:Sto:=(playT 30 exL).1
def exT:Sto × Int:=trimT exP 0 100
theorem ex13_ok:∀ a∈exL,a.ok:=by
 intro a ha
 simp only [exL,List.mem_cons,List.mem_nil_iff,or_false] at ha
 rcases ha with rfl | rfl | rfl | rfl | rfl | rfl | rfl <;> simp [Ac.ok,exA]
theorem ex13_b:(playT 30 exL).2=true:=by decide +kernel
theorem ex13_e:exT.2=0:=by decide +kernel
theorem ex13_s:exP.segs.length=2:=by decide +kernel
theorem ex13_t:exT.1.segs.length=1:=by decide +kernel
theorem ex13_n:1 < (snapT exT.1).length:=by decide +kernel
theorem ex13_f:stateP exT.1 exT.1.next=stateP exP exP.next:=by decide +kernel
set_option maxRecDepth 8000 in
set_option maxHeartbeats 2000000 in
theorem awake13_spec:call 8 [] []=some (vb true,[]):=by
 have hp:PI 40 exP:=play_PI 30 exL ex13_ok
 have hl:LW exP:=play_LW (seg:=30) (by decide) exL ex13_ok
 obtain ⟨f,S,l0,R,hl⟩:=hl
 obtain ⟨M,g,l,hw,hR⟩:=id hl
 have q0:=rplay_spec 30 exL (by decide) ex13_ok
 rw [ex13_b] at q0
 have hnx:=hp.next
 have hfl:=floor_nn hp.ok
 have q1:=trim_spec exP hp.ok (by decide) (by decide) 0 100 (fun g hg=>by have:=hp.base g hg; omega) (fun a ha=>hw.same_state hp.ok a ha)
 have hto:okS (90+2) (922000+23000) exT.1:=by
  show okS _ _ (trimT exP 0 100).1
  unfold trimT
  split
  ·exact hp.ok.up (by decide) (by decide)
  ·rename_i hne
   have hlt:=pickF_lt exP.segs 0 100 hne
   exact trimK_ok (hp.ok.up (by decide) (by decide)) hlt (by rw [(base_at hlt).2]; have:=hp.base _ (List.getElem_mem hlt); omega)
 have htn:exT.1.next=exP.next:=(trim_base hp.base 0 100).2
 have hpn:=hp.ok.next
 have q2:=snap_sto exT.1 hto (by decide)
 have q3:=state_sto exT.1 hto (by decide) (by decide) exT.1.next (by omega)
 have q4:=state_sto exP hp.ok (by decide) (by decide) exP.next (by omega)
 have hsl:(stateP exP exP.next).length≤1000000:=by
  have:=hw.st exP.next
  rw [← hw.sPr hp.ok exP.next (by have:=hl.sure; omega)] at this
  have:=st_len this.1 this.2.okP
  omega
 have q5:=same05_refl (stateP exP exP.next) hsl
 rw [ex13_f] at q3
 have e1:=ex13_e
 have e2:=ex13_s
 have e3:=ex13_t
 have e4:=ex13_n
 have hex:trimT exP 0 100=exT:=rfl
 have hpl:(playT 30 exL).1=exP:=rfl
 rw [hex] at q1
 rw [hpl] at q0
 have hcell:∀ s:Sto,s.l=[.d (.l (s.disk.files.map Fil.enc)),.d (.i .i64 s.disk.cap),.d (.b s.disk.armed),.d (.i .i64 s.disk.left),.d (.b s.disk.down),.d (.i .i64 s.ver),.d (.l (s.segs.map Seg.enc)),.d (.i .i64 s.next),.d (.i .i64 s.sure),.d (.i .i64 s.size),.d (.i .u32 s.sum)]:=fun _=>rfl
 generalize stateP exP exP.next=st at *
 clear hto htn hw hl hp hpl hex hR
 generalize exT=r at *
 generalize exP=p at *
 obtain ⟨y,e⟩:=r
 simp only at e1 e3 e4 q1 q2 q3
 subst e1
 generalize snapT y=sn at *
 have hel:exL.map Ac.enc=[[.i .i64 0,.i .i64 0,.i .i64 0,.s [97,49]],[.i .i64 0,.i .i64 0,.i .i64 0,.s [97,50]],[.i .i64 0,.i .i64 0,.i .i64 0,.s [98,51]],[.i .i64 0,.i .i64 0,.i .i64 0,.s [99,52]],[.i .i64 0,.i .i64 0,.i .i64 0,.s [99]],[.i .i64 0,.i .i64 0,.i .i64 0,.s [100,53]],[.i .i64 0,.i .i64 0,.i .i64 0,.s [101]]]:=rfl
 have e2':(p.segs.length:Int)=2:=by omega
 have e3':(y.segs.length:Int)=1:=by omega
 have e4':(1:Int) < (sn.length:Int):=by omega
 simp only [stoV,hcell,hel] at q0 q1 q2 q3 q4
 apply enterS s8 rfl
 (simp (disch:=first|decide|omega|(intros;exact Eq.trans rfl rfl)|simp only[puri]) only [wkf,a8,q0,q1,q2,q3,q4,q5,e2',e3',e4',List.replicate,go_sem,seval,dis])
 try simp [trim]
theorem rfold_spec (q:List Pr) (hs:srtP q) (ho:okP q) (R:List Rec) (hR:R.length≤1000000) (hr:∀ r∈R,r.da.length≤64):call 23 [vl (q.map Pr.enc),vl (R.map Rec.enc)] []=some (vl ((foldP q R).map Pr.enc),[]):=by
 apply enterS s23 rfl
 obtain ⟨Z,hZ⟩:∃ Z:V,Z=vl ((foldP q R).map Pr.enc):=⟨_,rfl⟩
 rw [← hZ]
 (simp (disch:=first|decide|omega|(intros;exact Eq.trans rfl rfl)|simp only[puri]) only [wkf,a23,go_sem,seval,dis])
 refine loop_boxM (m:=0) (σ:=Nat × List Pr) (fun t=>R.length - t.1) (fun t=>t.1≤R.length∧(srtP t.2∧okP t.2)∧Z=vl ((foldP t.2 (R.drop t.1)).map Pr.enc)) (fun t=>[vl (t.2.map Pr.enc),vl (R.map Rec.enc),vi t.1]) (fun _=>[])
  (fun _=>(Z,[])) ?_ (0,q) ⟨Nat.zero_le _,⟨hs,ho⟩,hZ⟩ _ _ hdM
 rintro ⟨i,w⟩ ⟨h1,h2,h3⟩ K hK
 simp only at h1 h2 h3 ⊢
 by_cases c:i < R.length
 ·have hc:(i:Int) < (R.length:Int):=by omega
  rw [List.drop_eq_getElem_cons c] at h3
  have g1:(R.map Rec.enc)[i]?=some R[i].enc:=by rw [List.getElem?_map,List.getElem?_eq_getElem c]; rfl
  have hd:=hr _ (List.getElem_mem c)
  have hwl:=st_len h2.1 h2.2
  have g2:=step_ref w (by omega) R[i].da (by omega)
  have hK':=hK (i+1,stepF w R[i].da) (by simp only []; omega) ⟨by simp only []; omega,⟨step_srt h2.1 _,step_ok h2.2 hd⟩,h3⟩
  generalize R[i]=r at *
  generalize stepF w r.da=w2 at *
  obtain ⟨ra,rt,rd⟩:=r
  simp only [Rec.enc] at g1 g2
  (simp (disch:=first|decide|omega|(intros;exact Eq.trans rfl rfl)|simp only[puri]) only [wkf,a23_0,decide_eq_true hc,g1,g2,go_sem,seval,dis])
  exact hK' _ _ hdM
 ·have hc:¬ (i:Int) < (R.length:Int):=by omega
  rw [List.drop_eq_nil_of_le (by omega)] at h3
  rw [h3]
  (simp (disch:=first|decide|omega|(intros;exact Eq.trans rfl rfl)|simp only[puri]) only [wkf,a23_0,a23,decide_eq_false hc,go_sem,seval,dis])
  try simp [trim,foldP]
def zr (d:Txt):Rec:=⟨0,0,d⟩
theorem foldP_zr (q:List Pr) (l:List Txt) (d:Txt):foldP q ((l++[d]).map zr)=stepF (foldP q (l.map zr)) d:=by
 rw [List.map_append,foldP_app]; rfl
theorem stF_snoc {l0:List Pr} {f n:Int} {R:List Rec} (r:Rec) (h:n=f+R.length):stF l0 f (R++[r]) (n+1)=stepF (stF l0 f R n) r.da:=by
 unfold stF
 rw [List.take_of_length_le (by rw [List.length_append,List.length_singleton]; omega),List.take_of_length_le (by omega),foldP_app]; rfl
def eT (n:Txt):List D:=[.s n]
theorem eT_of (r:List D) (h:wfRow [.s] r):∃ x:Txt,r=eT x∧x.length≤9223372036854775807:=by
 simp only [wfRow,wfT] at h
 obtain ⟨_,_,rfl,⟨x,rfl,hx⟩,rfl⟩:=h
 exact ⟨x,rfl,hx⟩
structure FI (i:Nat) (s:Sto) (q:List Pr):Prop where
 ok:okS (10+4*i) (2000+24000*i) s
 next:s.next=i
 base:∀ g∈s.segs,g.base≤s.next
 log:∃ f S l0 R,WR f S l0 s R∧stF l0 f R s.next=q
theorem FI.app {i:Nat} {s:Sto} {q:List Pr} (h:FI i s q) (hi:i < 40) {seg:Int} (hseg:1≤seg) (d:Txt) (h0:(appT s seg ⟨i,0,d⟩).2=0) :
  okS (10+4*i+2) (2000+24000*i+1000) (appT s seg ⟨i,0,d⟩).1∧(appT s seg ⟨i,0,d⟩).1.next=i+1∧(∀ g∈(appT s seg ⟨i,0,d⟩).1.segs,g.base≤(appT s seg ⟨i,0,d⟩).1.next)∧(∃ f S l0 R,WR f S l0 (appT s seg ⟨i,0,d⟩).1 R∧stF l0 f R (appT s seg ⟨i,0,d⟩).1.next=stepF q d)∧d.length≤64:=by
 obtain ⟨f,S,l0,R,hw,hq⟩:=h.log
 have hb:=app_base h.ok h.base seg ⟨i,0,d⟩
 have hn:=hw.next
 rcases (hw.app h.ok hseg (by omega) ⟨i,0,d⟩).2.2 with ⟨_,_,hy,_,_,hx⟩ | ⟨_,h1⟩
 ·have hn2:=hx.next
  rw [List.length_append,List.length_singleton] at hn2
  have e:(appT s seg ⟨i,0,d⟩).1.next=s.next+1:=by omega
  refine ⟨appT_ok h.ok seg _,by rw [e,h.next],hb.1,⟨f,S,l0,_,hx,?_⟩,why_len hy⟩
  rw [e,stF_snoc _ hn,hq]
 ·rcases h1 with h1 | h1 | h1 | h1
  ·rw [h1.1] at h0; cases h0
  ·rw [h1.1] at h0; cases h0
  ·rw [h1] at h0; cases h0
  ·rw [h1.1] at h0; cases h0
theorem FI.trim {k u:Nat} {s:Sto} {n:Int} {q:List Pr} (ho:okS k u s) (hu:u < 1000000000000) (hn:s.next=n) (h40:n≤40) (hb:∀ g∈s.segs,g.base≤s.next) (hl:∃ f S l0 R,WR f S l0 s R∧stF l0 f R s.next=q) (a b:Int) :
  okS (k+2) (u+23000) (trimT s a b).1∧(trimT s a b).1.next=n∧(∀ g∈(trimT s a b).1.segs,g.base≤(trimT s a b).1.next)∧(∃ f S l0 R,WR f S l0 (trimT s a b).1 R∧stF l0 f R (trimT s a b).1.next=q):=by
 obtain ⟨f,S,l0,R,hw,hq⟩:=hl
 have hfl:=floor_nn ho
 obtain ⟨f',S',l0',t1,t2,t3,t4,t5,_⟩:=hw.trim ho hu a b
 have hb2:=trim_base hb a b
 refine ⟨trimT_ok ho (fun g hg=>by have:=hb g hg; omega) a b,by rw [t5,hn],hb2.1,f',S',l0',_,t4,?_⟩
 rw [t5,t3,stF_trim _ _ _ _ _ t1 t2,hq]
set_option maxRecDepth 20000 in
set_option maxHeartbeats 8000000 in
theorem fold13 (seg ev:Nat) (hs:seg < 256) (he:ev < 256) (l:List Txt) (hl:l.length≤9223372036854775807) (ha:∀ a∈l,a.length≤9223372036854775807) (k0 k1:Int) :
  call 6 [.agg [.d (.i .u8 (seg:Nat)),.d (.l (l.map eT)),.d (.i .u8 (ev:Nat)),.d (.i .i64 k0),.d (.i .i64 k1)]] []=some (vb true,[]):=by
 have q0:=rnew_spec d0 d0_ok (by decide) (by decide)
 have q1:=awake13_spec
 have hp0:=new_PI
 have hw0:WR 0 [] [] (createT d0).1 []:=(create_WR d0_ok.srt (fun _ _=>rfl) d0_new).1
 have hd0:d0.l=[.d (.l []),.d (.i .i64 0),.d (.b false),.d (.i .i64 0),.d (.b false)]:=rfl
 have hcell:∀ s:Sto,s.l=[.d (.l (s.disk.files.map Fil.enc)),.d (.i .i64 s.disk.cap),.d (.b s.disk.armed),.d (.i .i64 s.disk.left),.d (.b s.disk.down),.d (.i .i64 s.ver),.d (.l (s.segs.map Seg.enc)),.d (.i .i64 s.next),.d (.i .i64 s.sure),.d (.i .i64 s.size),.d (.i .u32 s.sum)]:=fun _=>rfl
 have hn0:(createT d0).1.next=0:=hw0.next
 have hI0:FI 0 (createT d0).1 (foldP [] (([]:List Txt).map zr)):=⟨hp0.ok,hn0,hp0.base,0,[],[],[],hw0,rfl⟩
 clear hp0 hw0 hn0
 apply enterS s6 rfl
 by_cases c0:40 < l.length
 ·have hc0:(40:Int) < (l.length:Int):=by omega
  (simp (disch:=first|decide|omega|(intros;exact Eq.trans rfl rfl)|simp only[puri]) only [wkf,a6,decide_eq_true hc0,q1,List.length_map,go_sem,seval,dis,vdr,A.kind,A.xs,optX,A.isN])
  try simp [trim]
 ·have hc0:¬ (40:Int) < (l.length:Int):=by omega
  generalize createT d0=r0 at *
  obtain ⟨st0,e0⟩:=r0
  simp only [stoV,hcell,hd0] at q0 hI0
  (simp (disch:=first|decide|omega|(intros;exact Eq.trans rfl rfl)|simp only[puri]) only [wkf,a6,decide_eq_false hc0,q0,List.length_map,go_sem,seval,dis,vdr,A.kind,A.xs,optX,A.isN])
  refine loop_boxM (m:=0) (σ:=Nat × Sto) (fun t=>l.length - t.1) (fun t=>t.1≤l.length∧FI t.1 t.2 (foldP [] ((l.take t.1).map zr))∧∀ d∈l.take t.1,d.length≤64)
   (fun t=>[vk .u8 (seg:Nat),vl (l.map eT),vk .u8 (ev:Nat),V.one (.p 0 0),V.one (.p 1 0),V.one (.sl 2 3 0 ((l.take t.1).map zr).length),vi t.1]) (fun t=>[.cells [.d (.i .i64 k0),.d (.i .i64 k1)],.cells [.d (.l (t.2.disk.files.map Fil.enc)),.d (.i .i64 t.2.disk.cap),.d (.b t.2.disk.armed),.d (.i .i64 t.2.disk.left),.d (.b t.2.disk.down),.d (.i .i64 t.2.ver),.d (.l (t.2.segs.map Seg.enc)),.d (.i .i64 t.2.next),.d (.i .i64 t.2.sure),.d (.i .i64 t.2.size),.d (.i .u32 t.2.sum)],.arr 3 (((l.take t.1).map zr).map Rec.enc) 0])
   (fun _=>(vb true,[])) ?_ (0,st0) ⟨Nat.zero_le _,hI0,fun d hd=>by simp at hd⟩ _ _ ?_
  rotate_left
  ·exact hdM
  rintro ⟨i,s⟩ ⟨h1,h2,h3⟩ K hK
  simp only at h1 h2 h3 ⊢
  by_cases c1:i < l.length
  ·have hc1:(i:Int) < (l.length:Int):=by omega
   have g1:(l.map eT)[i]?=some [.s l[i]]:=by rw [List.getElem?_map,List.getElem?_eq_getElem c1]; rfl
   have hal:=ha _ (List.getElem_mem c1)
   have hsn:l.take (i+1)=l.take i++[l[i]]:=List.take_succ_eq_append_getElem c1
   have hok:=h2.ok
   have q2:=rappend_sto s hok (by omega) (by omega) (20+(seg:Int)) ⟨i,0,l[i]⟩ ⟨by simp only []; omega,by simp only []; omega,hal⟩
   have hap:=h2.app (seg:=20+(seg:Int)) (by omega) (by omega) l[i]
   have hK':=fun s':Sto=>hK (i+1,s')
   simp only [hsn] at hK'
   obtain ⟨d,hd⟩:∃ d,d=l[i]:=⟨_,rfl⟩
   rw [← hd] at g1 hal q2 hap hK'
   obtain ⟨AL,hAL⟩:∃ AL,AL=(l.take i).map zr:=⟨_,rfl⟩
   have hall:AL.length=i:=by rw [hAL]; simp; omega
   have hAS:(l.take i++[d]).map zr=AL++[zr d]:=by rw [hAL,List.map_append]; rfl
   have hfs:foldP [] ((l.take i++[d]).map zr)=stepF (foldP [] AL) d:=by rw [foldP_zr,hAL]
   rw [← hAL] at h2 hap ⊢
   simp only [hfs] at hK'
   simp only [hAS] at hK'
   have hAe:(AL++[zr d]).map Rec.enc=AL.map Rec.enc++[[.i .i64 0,.i .i64 0,.s d]]:=by simp [zr,Rec.enc]
   have hAl:(AL++[zr d]).length=AL.length+1:=by simp
   simp only [hAe,hAl] at hK'
   clear hAS hfs hAe hAl hAL
   generalize hQ:foldP [] AL=Q at *
   have hev:¬ ((1:Int)+(ev:Int)=0):=by omega
   generalize appT s (20+(seg:Int)) ⟨i,0,d⟩=r at *
   obtain ⟨y,e⟩:=r
   simp only [stoV,hcell,Rec.enc,List.map_cons,List.map_nil] at q2
   simp only at hap
   by_cases c2:e=0
   ·subst c2
    obtain ⟨a1,a2,a3,a4,a5⟩:=hap rfl
    have hd64:∀ x∈l.take i++[d],x.length≤64:=by
     intro x hx
     rcases List.mem_append.1 hx with hx | hx
     ·exact h3 x hx
     ·rw [List.mem_singleton.1 hx]; exact a5
    by_cases c3:Int.tmod (i:Int) (1+(ev:Int))=0
    ·obtain ⟨t1,t2,t3,t4⟩:=FI.trim a1 (by omega) a2 (by omega) a3 a4 k0 k1
     have hfl:=floor_nn a1
     obtain ⟨f,S,l0,R,hw,_⟩:=a4
     have q3:=trim_spec y a1 (by omega) (by omega) k0 k1 (fun g hg=>by have:=a3 g hg; omega) (hw.same_state a1)
     have hK2:=hK' (trimT y k0 k1).1 (by omega) ⟨by omega,⟨t1.up (by omega) (by omega),by omega,t3,t4⟩,hd64⟩
     have hsl:¬ ((trimT y k0 k1).1.segs.length:Int)=0:=by have:=t1.len; omega
     clear t1 t2 t3 t4 hw a1 a2 a3 h2 hap hK'
     generalize trimT y k0 k1=r at *
     obtain ⟨z,e2⟩:=r
     simp only [stoV,hcell] at q3
     simp only at hsl hK2
     (simp (disch:=first|decide|omega|(intros;exact Eq.trans rfl rfl)|simp only[puri]) only [wkf,a6_0,decide_eq_true hc1,g1,q2,hev,decide_eq_true c3,q3,hsl,List.length_map,go_sem,seval,dis,vdr,A.kind,A.xs,optX,A.isN])
     exact hK2 _ _ hdM
    ·have hK2:=hK' y (by omega) ⟨by omega,⟨a1.up (by omega) (by omega),by omega,a3,a4⟩,hd64⟩
     have hsl:¬ (y.segs.length:Int)=0:=by have:=a1.len; omega
     clear a1 a2 a3 a4 h2 hap hK'
     (simp (disch:=first|decide|omega|(intros;exact Eq.trans rfl rfl)|simp only[puri]) only [wkf,a6_0,decide_eq_true hc1,g1,q2,hev,decide_eq_false c3,hsl,List.length_map,go_sem,seval,dis,vdr,A.kind,A.xs,optX,A.isN])
     exact hK2 _ _ hdM
   ·clear hK hK' hap h2
    (simp (disch:=first|decide|omega|(intros;exact Eq.trans rfl rfl)|simp only[puri]) only [wkf,a6_0,decide_eq_true hc1,g1,q2,c2,q1,List.length_map,go_sem,seval,dis,vdr,A.kind,A.xs,optX,A.isN])
    try simp [trim]
  ·have hc1:¬ (i:Int) < (l.length:Int):=by omega
   have htk:l.take i=l:=List.take_of_length_le (by omega)
   rw [htk] at h2 h3 ⊢
   have hn:=h2.next
   obtain ⟨f,S,l0,R,hw,hq⟩:=h2.log
   have hok:=h2.ok
   have hon:=hok.next
   have hzl:∀ r∈l.map zr,r.da.length≤64:=by
    intro r hr
    obtain ⟨d,hd,rfl⟩:=List.mem_map.1 hr
    exact h3 d hd
   have hfw:fewR (l.map zr) 40=true:=by
    unfold fewR
    rw [Bool.and_eq_true]
    refine ⟨by simp; omega,?_⟩
    rw [List.all_eq_true]
    intro r hr
    have:=hzl r hr
    simp; omega
   have g1:=few_spec (l.map zr) 40 (by simp; omega) (fun r hr=>by
    obtain ⟨d,hd,rfl⟩:=List.mem_map.1 hr
    exact ⟨by simp [zr],by simp [zr],by have:=h3 d hd; simp only [zr]; omega⟩)
   rw [hfw] at g1
   have g2:=state_sto s hok (by omega) (by omega) s.next (by omega)
   rw [hw.stP hok s.next (by have:=hw.sure; omega),hq] at g2
   have g3:=rfold_spec [] List.Pairwise.nil (fun p hp=>by cases hp) (l.map zr) (by simp; omega) hzl
   have g4:=same05_refl (foldP [] (l.map zr)) (by
    have:=hw.st_ok s.next
    rw [hq] at this
    omega)
   rw [hcell] at g2
   have htk2:List.take (l.map zr).length ((l.map zr).map Rec.enc)=(l.map zr).map Rec.enc:=List.take_of_length_le (by simp)
   generalize foldP [] (l.map zr)=Q at *
   have hzlen:(l.map zr).length=l.length:=by simp
   generalize l.map zr=Z at *
   have hpe:([]:List Pr).map Pr.enc=[]:=rfl
   rw [hpe] at g3
   (simp (disch:=first|decide|omega|(intros;exact Eq.trans rfl rfl)|simp only[puri]) only [wkf,a6_0,a6,decide_eq_false hc1,q1,htk2,g1,g2,g3,g4,List.length_map,go_sem,seval,dis,vdr,A.kind,A.xs,optX,A.isN])
   try simp [trim]
theorem trimFold_pure (xs:List V) (h:wfAs [(true,[.i .u8,.l [.s],.i .u8,.i .i64,.i .i64])] xs):call 6 xs []=some (vb true,[]):=by
 simp only [wfAs,wfA] at h
 obtain ⟨_,_,rfl,⟨d,rfl,hd⟩,rfl⟩:=h
 simp only [wfRow,wfT] at hd
 obtain ⟨_,_,e1,⟨b,rfl,a1,a2⟩,_,_,e2,⟨rows,rfl,hl,hr⟩,_,_,e3,⟨q,rfl,d1,d2⟩,_,_,e4,⟨o,rfl,b1,b2⟩,_,_,e5,⟨p,rfl,c1,c2⟩,rfl⟩:=hd
 subst e1 e2 e3 e4 e5
 obtain ⟨l,rfl,ha⟩:=rows_map eT_of rows hr
 have a1':0≤b:=Int.le_trans (by decide) a1
 have a2':b < 256:=Int.lt_of_le_of_lt a2 (by decide)
 have d1':0≤q:=Int.le_trans (by decide) d1
 have d2':q < 256:=Int.lt_of_le_of_lt d2 (by decide)
 have eb:((b.toNat:Nat):Int)=b:=Int.toNat_of_nonneg a1'
 have eq:((q.toNat:Nat):Int)=q:=Int.toNat_of_nonneg d1'
 have:=fold13 b.toNat q.toNat (by omega) (by omega) l (by simpa using hl) ha o p
 rw [eb,eq] at this
 exact this
end Go.Proofs.YtfalabebadoaiaaGreat
