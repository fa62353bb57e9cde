import Derived.Test.YthlnpioogbmogaaGreatT03
import Derived.Test.YthlnpioogbmogaaGreatT02
set_option linter.unusedSimpArgs false
set_option linter.unusedVariables false
namespace Go.Proofs.YthlnpioogbmogaaGreat
open Go.Vi
def hasD (l:List Fil) (n d:Txt):Prop:=∃ f∈l,f.name=n∧f.data=d
theorem read_hasD {l:List Fil} {n d:Txt} (hs:srt l) (h:hasD l n d):readF l n=(d,0):=by
 obtain⟨f,hf,rfl,rfl⟩:=h;obtain⟨i,hi,rfl⟩:=List.getElem_of_mem hf;unfold readF;rw[pos_of hs i hi,List.getElem?_eq_getElem hi];simp
theorem chg_res {d:Dsk} {r:List Fil × Int} (h:(chgF d r).2=0):r.2=0∧(chgF d r).1.files=r.1:=by
 unfold chgF at h ⊢;split at h
 ·cases h
 ·rename_i h1;split at h
  ·rename_i h2;exact absurd h h2
  ·rename_i h2;rw[if_neg h1,if_neg h2];split at h
   ·rename_i h3;split at h
    ·cases h
    ·rename_i h4;rw[if_pos h3,if_neg h4];exact⟨by simpa using h2,rfl⟩
   ·rename_i h3;rw[if_neg h3];exact⟨by simpa using h2,rfl⟩
theorem chg_keep {d:Dsk} {r:List Fil × Int} {n x:Txt} (h:hasD d.files n x) (hr:r.2=0->hasD r.1 n x):hasD (chgF d r).1.files n x:=by
 unfold chgF;split
 ·exact h
 ·split
  ·exact h
  ·rename_i h2;have h3:=hr (by simpa using h2)
   split
   ·split
    ·exact h
    ·exact h3
   ·exact h3
theorem ins_hasD {l:List Fil} {n x:Txt} (k:Nat) (g:Fil) (h:hasD l n x):hasD (insF l k g) n x:=by
 obtain⟨f,hf,h1⟩:=h;refine⟨f,?_,h1⟩;unfold insF;rw[<- List.take_append_drop k l] at hf;rcases List.mem_append.1 hf with hf|hf
 ·exact List.mem_append_left _ hf
 ·exact List.mem_append_right _ (List.mem_cons_of_mem _ hf)
theorem ins_new (l:List Fil) (k:Nat) (g:Fil):hasD (insF l k g) g.name g.data:=⟨g,by unfold insF;simp,rfl,rfl⟩
theorem set_hasD {l:List Fil} {n x:Txt} (k:Nat) (hk:k<l.length) (g:Fil) (h:hasD l n x) (hn:l[k].name≠n):hasD (l.set k g) n x:=by
 obtain⟨f,hf,h1,h2⟩:=h;obtain⟨i,hi,rfl⟩:=List.getElem_of_mem hf;have hne:k≠i:=fun e=>by subst e;exact hn h1
 refine⟨l[i],?_,h1,h2⟩;have e:l[i]=(l.set k g)[i]'(by simpa using hi):=by rw[List.getElem_set_ne hne]
 rw[e];exact List.getElem_mem _
theorem mem_set1 {l:List Fil} {k:Nat} (hk:k<l.length) (g:Fil):g∈l.set k g:=by
 have hm:(l.set k g)[k]'(by simpa using hk)∈l.set k g:=List.getElem_mem _
 rwa [List.getElem_set_self] at hm
theorem set_new {l:List Fil} (k:Nat) (hk:k<l.length) (g:Fil):hasD (l.set k g) g.name g.data:=by
 exact⟨g,mem_set1 hk g,rfl,rfl⟩
theorem del_hasD {l:List Fil} {n x:Txt} (k:Nat) (hk:k<l.length) (h:hasD l n x) (hn:l[k].name≠n):hasD (delF l k) n x:=by
 obtain⟨f,hf,h1,h2⟩:=h;refine⟨f,?_,h1,h2⟩;have e:l=l.take k++([l[k]]++l.drop (k+1)):=by rw[List.singleton_append,<- List.drop_eq_getElem_cons hk,List.take_append_drop]
 rw[e] at hf;unfold delF;rcases List.mem_append.1 hf with hf|hf
 ·exact List.mem_append_left _ hf
 ·rcases List.mem_append.1 hf with hf|hf
  ·rw[List.mem_singleton.1 hf] at h1;exact absurd h1 hn
  ·exact List.mem_append_right _ hf
theorem stp_keep {s:Dsk × Int} {f:Dsk->Dsk × Int} {n x:Txt} (h:hasD s.1.files n x) (hf:hasD (f s.1).1.files n x):hasD (stp s f).1.files n x:=by
 unfold stp;split
 ·exact hf
 ·exact h
theorem crt_keep {s:Dsk × Int} {n x:Txt} (m:Txt) (h:hasD s.1.files n x):hasD (crtS m s).1.files n x:=by
 refine stp_keep h (chg_keep h fun h0=>?_)
 unfold crtR at h0 ⊢;split at h0
 ·rename_i h1;split at h0
  ·cases h0
  ·rename_i h2;rw[if_pos h1,if_neg h2];exact ins_hasD _ _ h
 ·cases h0
theorem del_keep {s:Dsk × Int} {n x m:Txt} (hm:m≠n) (h:hasD s.1.files n x):hasD (delS m s).1.files n x:=by
 refine stp_keep h (chg_keep h fun h0=>?_)
 unfold delR at h0 ⊢;split at h0
 ·rename_i h1;obtain⟨hp,he⟩:=has_at h1;rw[if_pos h1];exact del_hasD _ hp h (by rw[he];exact hm)
 ·cases h0
theorem syn_keep {s:Dsk × Int} {n x:Txt} (hs:srt s.1.files) (m:Txt) (h:hasD s.1.files n x):hasD (synS m s).1.files n x:=by
 refine stp_keep h (chg_keep h fun h0=>?_)
 unfold synR at h0 ⊢;split at h0
 ·rename_i h1;obtain⟨hp,he⟩:=has_at h1;rw[if_pos h1,upd_at hp];by_cases hm:m=n
  ·have hr:=read_hasD hs h;unfold readF at hr;rw[<- hm,List.getElem?_eq_getElem hp] at hr;simp only[he,if_true,Prod.mk.injEq,and_true] at hr;refine(?_:∀ G:Fil,G.name=n->G.data=x->hasD (s.1.files.set (posF s.1.files m) G) n x) _ (he.trans hm) hr;rintro G rfl rfl;exact set_new _ hp G
  ·exact set_hasD _ hp _ h (by rw[he];exact hm)
 ·cases h0
theorem app_keep {s:Dsk × Int} {n x m:Txt} (hm:m≠n) (t:Txt) (h:hasD s.1.files n x):hasD (appS m t s).1.files n x:=by
 refine stp_keep h (chg_keep h fun h0=>?_)
 unfold appR at h0 ⊢;split at h0
 ·rename_i h1;split at h0
  ·cases h0
  ·rename_i h2;obtain⟨hp,he⟩:=has_at h1;rw[if_pos h1,if_neg h2,upd_at hp];exact set_hasD _ hp _ h (by rw[he];exact hm)
 ·cases h0
theorem ren_keep {s:Dsk × Int} {n x m t:Txt} (hm:m≠n) (ht:t≠n) (h:hasD s.1.files n x):hasD (renS m t s).1.files n x:=by
 refine stp_keep h (chg_keep h fun h0=>?_)
 unfold renR at h0 ⊢;split at h0
 ·rename_i h1;split at h0
  ·rename_i h2;obtain⟨hp,he⟩:=has_at h1;rw[if_pos h1,if_pos h2];have h3:=del_hasD _ hp h (by rw[he];exact hm)
   unfold putAt;split
   ·rename_i h4;obtain⟨hp4,he4⟩:=has_at h4;exact set_hasD _ hp4 _ h3 (by rw[he4,nameAt_name];exact ht)
   ·exact ins_hasD _ _ h3
  ·cases h0
 ·cases h0
theorem unl_keep {s:Dsk × Int} {n x m:Txt} (hm:m≠n) (h:hasD s.1.files n x):hasD (unlS m s).1.files n x:=by
 unfold unlS;split
 ·exact h
 ·split
  ·exact del_keep (s:=(s.1,0)) hm h
  ·exact del_keep (s:=(s.1,0)) hm h
theorem swap_keep {k u:Nat} {s:Dsk × Int} (hd:okN k u s.1) {n x:Txt} (m:Man) (h1:[110]≠n) (h2:[109]≠n) (h:hasD s.1.files n x):hasD (swapS m s).1.files n x:=by
 unfold swapS;have h3:hasD (if s.2=0 then(s.1,(manPut m).2) else s).1.files n x:=by split <;> exact h
 have k1:okN k u (if s.2=0 then(s.1,(manPut m).2) else s).1:=by split <;> exact hd
 generalize (if s.2=0 then(s.1,(manPut m).2) else s)=s1 at *
 have h4:hasD (if(readF s1.1.files [110]).2=0 then delS [110] s1 else s1).1.files n x:=by
  split
  ·exact del_keep h1 h3
  ·exact h3
 have k2:okN k u (if(readF s1.1.files [110]).2=0 then delS [110] s1 else s1).1:=by
  split
  ·exact del_okN k1 _
  ·exact k1
 simp only[];generalize (if(readF s1.1.files [110]).2=0 then delS [110] s1 else s1)=s2 at *
 have h5:=crt_keep [110] h4;have k3:=crt_ok k2 [110];split
 ·exact h5
 ·exact ren_keep h1 h2 (syn_keep (unl_ok (app_ok k3 [110] (manPut m).1) [110]).srt _ (unl_keep h1 (app_keep h1 _ h5)))
theorem app_new {d:Dsk} {n x t:Txt} (hs:srt d.files) (h:hasD d.files n x) (h0:(chgF d (appR d.files d.cap n t)).2=0):hasD (chgF d (appR d.files d.cap n t)).1.files n (x++t):=by
 obtain⟨h1,h2⟩:=chg_res h0;rw[h2];unfold appR at h1 ⊢;split at h1
 ·rename_i h3;split at h1
  ·cases h1
  ·rename_i h4;obtain⟨hp,he⟩:=has_at h3;have hr:=read_hasD hs h;unfold readF at hr;rw[List.getElem?_eq_getElem hp] at hr;simp only[he,if_true,Prod.mk.injEq,and_true] at hr;rw[if_pos h3,if_neg h4,upd_at hp];refine(?_:∀ G:Fil,G.name=n->G.data=x++t->hasD (d.files.set (posF d.files n) G) n (x++t)) _ he (by simp[hr])
   rintro G rfl hG;rw[<- hG];exact set_new _ hp G
 ·cases h1
theorem crt_new {d:Dsk} {n:Txt} (h0:(crtS n (d,0)).2=0):hasD (crtS n (d,0)).1.files n []:=by
 unfold crtS stp at h0 ⊢;rw[if_pos rfl] at h0 ⊢;obtain⟨h1,h2⟩:=chg_res h0;rw[h2];unfold crtR at h1 ⊢;split at h1
 ·rename_i h3;split at h1
  ·cases h1
  ·rename_i h4;rw[if_pos h3,if_neg h4];exact ins_new _ _ ⟨n,[],0⟩
 ·cases h1
theorem digN_lt (n j:Nat):digN n j<58:=by unfold digN;omega
theorem nameF_dig {a b:Nat} (h:nameF 115 a=nameF 115 b) (j:Nat) (hj:j<13):a / 10 ^ (12-j) % 10=b / 10 ^ (12-j) % 10:=by
 unfold nameF at h;simp only[List.cons.injEq,true_and] at h;have h1:=List.map_inj_left.1 h j (by simpa using hj)
 have h2:=congrArg UInt8.toNat h1;have ha:=digN_lt a (j+1);have hb:=digN_lt b (j+1);rw[UInt8.toNat_ofNat_of_lt' (by show _<256;omega),UInt8.toNat_ofNat_of_lt' (by show _<256;omega)] at h2
 unfold digN at h2;have e:13-(j+1)=12-j:=by omega
 rw[e] at h2;omega
theorem nameF_inj {a b:Nat} (ha:a<10 ^ 13) (hb:b<10 ^ 13) (h:nameF 115 a=nameF 115 b):a=b:=by
 have key:∀ k,k<=13->a / 10 ^ (13-k)=b / 10 ^ (13-k):=by
  intro k;induction k with
  | zero=>intro _;rw[Nat.div_eq_of_lt ha,Nat.div_eq_of_lt hb]
  | succ k ih =>
   intro hk;have h1:=ih (by omega)
   have h2:=nameF_dig h k (by omega)
   have e:13-k=(12-k)+1:=by omega
   have e2:13-(k+1)=12-k:=by omega
   rw[e,Nat.pow_succ,<- Nat.div_div_eq_div_mul,<- Nat.div_div_eq_div_mul] at h1;rw[e2];omega
 have:=key 13 (by omega)
 simpa using this
theorem fileN_inj {a b:Int} (ha:0<=a∧a<=1099511627776) (hb:0<=b∧b<=1099511627776) (h:fileN a=fileN b):a=b:=by
 have:=nameF_inj (a:=a.toNat) (b:=b.toNat) (by omega) (by omega) h
 omega
theorem fileN_n (a:Int) (c:UInt8):[c]≠fileN a:=fun h=>by
 have:=congrArg List.length h;simp[fileN,nameF] at this
abbrev SR:=Seg × List Rec
def chainM:Int->List SR->Int->Prop
 | b,[],e=>b=e
 | b,p::M,e=>p.1.base=b∧1<=p.2.length∧chainM (b+p.2.length) M e
theorem chain_snoc:∀ (M:List SR) (b:Int) (p:SR) (e:Int),chainM b (M++[p]) e↔(chainM b M p.1.base∧1<=p.2.length∧p.1.base+p.2.length=e)
 | [],b,p,e=>by
  simp only[List.nil_append,chainM];constructor
  ·rintro⟨rfl,h2,h3⟩;exact⟨rfl,h2,h3⟩
  ·rintro⟨rfl,h2,h3⟩;exact⟨rfl,h2,h3⟩
 | q::M,b,p,e=>by
  simp only[List.cons_append,chainM,chain_snoc M];constructor
  ·rintro⟨h1,h2,h3,h4,h5⟩;exact⟨⟨h1,h2,h3⟩,h4,h5⟩
  ·rintro⟨⟨h1,h2,h3⟩,h4,h5⟩;exact⟨h1,h2,h3,h4,h5⟩
theorem chain_mem:∀ (M:List SR) (b e:Int),chainM b M e->b<=e∧∀ p∈M,b<=p.1.base∧p.1.base+p.2.length<=e∧1<=p.2.length
 | [],b,e,h=>⟨by simp only[chainM] at h;omega,fun _ h=>by cases h⟩
 | q::M,b,e,h=>by
  obtain⟨h1,h2,h3⟩:=h;obtain⟨h4,h5⟩:=chain_mem M _ _ h3;refine⟨by omega,fun p hp=>?_⟩
  rcases List.mem_cons.1 hp with rfl|hp
  ·exact⟨by omega,by omega,h2⟩
  ·have:=h5 p hp;exact⟨by omega,this.2.1,this.2.2⟩
def recsM (M:List SR):List Rec:=M.flatMap (·.2)
theorem recsM_app (M N:List SR):recsM (M++N)=recsM M++recsM N:=List.flatMap_append
theorem recsM_one (p:SR):recsM [p]=p.2:=by simp[recsM]
theorem chain_len:∀ (M:List SR) (b e:Int),chainM b M e->b+(recsM M).length=e
 | [],b,e,h=>by simpa[recsM,chainM] using h
 | q::M,b,e,h=>by
  obtain⟨h1,h2,h3⟩:=h;have:=chain_len M _ _ h3;have e1:recsM (q::M)=q.2++recsM M:=rfl;rw[e1,List.length_append];omega
structure fileOk (fs:List Fil) (p:SR):Prop where
 has:hasD fs (fileN p.1.base) (rowS p.2)
 why:∀ r∈p.2,whyF r=0
 num:numB p.1.base p.2
 n:p.1.n=p.2.length
 size:p.1.size=(rowS p.2).length
structure Inv (f:Int) (s:Sto) (M:List SR) (g:Seg) (l:List Rec):Prop where
 segs:s.segs=M.map (·.1)++[g]
 file:∀ p∈M++[(g,l)],fileOk s.disk.files p
 chain:chainM f M g.base
 next:s.next=g.base+l.length
 sure:0<=s.sure∧s.sure<=s.next
theorem find_num {b:Int} {l:List Rec} (h:numB b l) (k:Nat) (hk:k<l.length):l.find? (fun r=>decide (r.at_=b+k))=some l[k]:=by
 rw[List.find?_eq_some_iff_getElem];refine⟨by simpa using h k hk,k,hk,rfl,fun j hj=>?_⟩
 have:=h j (by omega)
 simp only[Bool.not_eq_true',decide_eq_false_iff_not];omega
theorem chg_fail {d:Dsk} {r:List Fil × Int} (h:(chgF d r).2≠0):(chgF d r).1.files=d.files:=by
 unfold chgF at h ⊢;split
 ·rfl
 ·rename_i h1;rw[if_neg h1] at h;split
  ·rfl
  ·rename_i h2;rw[if_neg h2] at h;split
   ·rename_i h3;rw[if_pos h3] at h;split
    ·rfl
    ·rename_i h4;rw[if_neg h4] at h;exact absurd rfl h
   ·rename_i h3;rw[if_neg h3] at h;exact absurd rfl h
theorem fileOk.keep {fs fs':List Fil} {p:SR} (h:fileOk fs p) (hk:hasD fs (fileN p.1.base) (rowS p.2)->hasD fs' (fileN p.1.base) (rowS p.2)):fileOk fs' p:=⟨hk h.has,h.why,h.num,h.n,h.size⟩
theorem Inv.last {f:Int} {s:Sto} {M:List SR} {g:Seg} {l:List Rec} (h:Inv f s M g l):s.last=g:=by
 unfold Sto.last;rw[h.segs];simp
theorem Inv.disk {f:Int} {s:Sto} {M:List SR} {g:Seg} {l:List Rec} (h:Inv f s M g l) (d:Dsk) (hk:∀ p∈M++[(g,l)],hasD s.disk.files (fileN p.1.base) (rowS p.2)->hasD d.files (fileN p.1.base) (rowS p.2)):Inv f { s with disk:=d } M g l :=
 ⟨h.segs,fun p hp=>(h.file p hp).keep (hk p hp),h.chain,h.next,h.sure⟩
theorem sync_inv {k u:Nat} {f:Int} {s:Sto} {M:List SR} {g:Seg} {l:List Rec} (ho:okS k u s) (h:Inv f s M g l) (hn:0<=s.next):Inv f (syncT s).1 M g l:=by
 have h1:Inv f { s with disk:=(chgF s.disk (synR s.disk.files (fileN s.last.base))).1 } M g l:=h.disk _ fun p _ hd=>syn_keep (s:=(s.disk,0)) ho.dsk.srt _ hd
 refine⟨h1.segs,h1.file,h1.chain,h1.next,?_⟩;unfold syncT;simp only[];have:=h.sure;split <;> omega
theorem sync_mono {k u:Nat} {s:Sto} (ho:okS k u s) (h:s.sure<=s.next):s.sure<=(syncT s).1.sure:=by
 unfold syncT;simp only[];split <;> omega
theorem rollD_keep {k u:Nat} {s:Sto} (ho:okS k u s) {n x:Txt} (h1:[110]≠n) (h2:[109]≠n) (h3:fileN s.next≠n) (h:hasD s.disk.files n x):hasD (rollD s).1.files n x:=by
 unfold rollD;simp only[];have k1:=crt_ok (s:=(s.disk,0)) ho.dsk (fileN s.next);have h4:=crt_keep (s:=(s.disk,0)) (fileN s.next) h;split
 ·exact unl_keep h3 (swap_keep k1 _ h1 h2 h4)
 ·exact h4
theorem rollD_new {k u:Nat} {s:Sto} (ho:okS k u s) (h:(rollD s).2=0):hasD (rollD s).1.files (fileN s.next) []:=by
 unfold rollD at h ⊢;simp only[] at h ⊢;have k1:=crt_ok (s:=(s.disk,0)) ho.dsk (fileN s.next);by_cases c:(crtS (fileN s.next) (s.disk,0)).2=0
 ·rw[if_pos c] at h ⊢;have h4:=swap_keep k1 (rollX s).man (fileN_n _ _) (fileN_n _ _) (crt_new c);unfold unlS at h ⊢;split at h
  ·rename_i h5;rw[if_pos h5];exact h4
  ·split at h
   ·cases h
   ·rename_i h6;exact absurd h h6
 ·rw[if_neg c] at h;exact absurd h c
theorem bases_ne {k u:Nat} {f:Int} {s:Sto} {M:List SR} {g:Seg} {l:List Rec} (ho:okS k u s) (h:Inv f s M g l) (hl:l≠[]):∀ p∈M++[(g,l)],fileN s.next≠fileN p.1.base:=by
 intro p hp he;have hpm:p.1∈s.segs:=by
  rw[h.segs];rcases List.mem_append.1 hp with hp|hp
  ·exact List.mem_append_left _ (List.mem_map_of_mem hp)
  ·rw[List.mem_singleton.1 hp];simp
 have:=fileN_inj ho.next (ho.seg _ hpm).1 he;have hll:0<l.length:=List.length_pos_iff.2 hl;have hnx:=h.next;rcases List.mem_append.1 hp with hp|hp
 ·have:=(chain_mem _ _ _ h.chain).2 p hp;omega
 ·rw[List.mem_singleton.1 hp] at this;simp only[] at this;omega
theorem roll_inv {k u:Nat} {f:Int} {s:Sto} {M:List SR} {g:Seg} {l:List Rec} (ho:okS k u s) (h:Inv f s M g l) (hl:l≠[]) :
  ((rollT s).2≠0∧Inv f (rollT s).1 M g l)∨((rollT s).2=0∧Inv f (rollT s).1 (M++[(g,l)]) ⟨s.next,0,0⟩ []):=by
 have h1:=sync_inv ho h ho.next.1;have o1:=syncT_ok ho;have hn:(syncT s).1.next=s.next:=rfl;unfold rollT;by_cases c1:64<=s.segs.length
 ·rw[if_pos c1];exact .inl ⟨by simp,h⟩
 ·rw[if_neg c1];by_cases c2:(syncT s).2=0
  ·rw[if_neg (by simp[c2])]
   generalize (syncT s).1=t at *;have hk:∀ p∈M++[(g,l)],hasD t.disk.files (fileN p.1.base) (rowS p.2)->hasD (rollD t).1.files (fileN p.1.base) (rowS p.2):=fun p hp hd =>
    rollD_keep o1 (fileN_n _ _) (fileN_n _ _) (bases_ne o1 h1 hl p hp) hd
   by_cases c3:(rollD t).2=0
   ·rw[if_pos c3];refine .inr ⟨rfl,?_,?_,?_,?_,?_⟩
    ·show t.segs++[_]=_;rw[h1.segs,hn];simp
    ·intro p hp;rcases List.mem_append.1 hp with hp|hp
     ·exact(h1.file p hp).keep (hk p hp)
     ·rw[List.mem_singleton.1 hp];have:=rollD_new o1 c3;rw[hn] at this;exact⟨this,fun r hr=>(by cases hr),fun k hk=>(by simp at hk),rfl,rfl⟩
    ·rw[chain_snoc];refine⟨h1.chain,List.length_pos_iff.2 hl,?_⟩;have:=h1.next;rw[hn] at this;simp only[];omega
    ·show t.next=s.next+_;rw[hn];simp
    ·exact h1.sure
   ·rw[if_neg c3];exact .inl ⟨c3,h1.disk _ hk⟩
  ·rw[if_pos c2];exact .inl ⟨c2,h1⟩
theorem rowS_snoc (l:List Rec) (r:Rec):rowS (l++[r])=rowS l++frameF (bodyF r):=by
 unfold rowS;rw[List.flatMap_append];simp[frameR]
theorem put_inv {k u:Nat} {f:Int} {s:Sto} {M:List SR} {g:Seg} {l:List Rec} (ho:okS k u s) (h:Inv f s M g l) (r:Rec) (hr:whyF r=0) (ha:r.at_=s.next) :
  ((putT s (putF r).1).2≠0∧Inv f (putT s (putF r).1).1 M g l)∨((putT s (putF r).1).2=0∧Inv f (putT s (putF r).1).1 M ⟨g.base,g.n+1,g.size+(frameF (bodyF r)).length⟩ (l++[r])):=by
 have hl:=h.last;have e1:(putF r).1=frameF (bodyF r):=by unfold putF;rw[if_pos hr]
 have hgm:g∈s.segs:=by rw[h.segs];simp
 have hk:∀ p∈M,hasD s.disk.files (fileN p.1.base) (rowS p.2)->hasD (chgF s.disk (appR s.disk.files s.disk.cap (fileN g.base) (frameF (bodyF r)))).1.files (fileN p.1.base) (rowS p.2):=by
  intro p hp hd;refine app_keep (s:=(s.disk,0)) (fun he=>?_) _ hd
  have hpm:p.1∈s.segs:=by rw[h.segs];exact List.mem_append_left _ (List.mem_map_of_mem hp)
  have:=fileN_inj (ho.seg _ hgm).1 (ho.seg _ hpm).1 he;have:=(chain_mem _ _ _ h.chain).2 p hp;omega
 have hg:=h.file (g,l) (by simp)
 have hnx:=h.next;unfold putT;simp only[hl,e1];by_cases c:(chgF s.disk (appR s.disk.files s.disk.cap (fileN g.base) (frameF (bodyF r)))).2=0
 ·rw[if_neg (by simp[c])]
  refine .inr ⟨rfl,?_,?_,h.chain,?_,?_⟩
  ·show s.segs.dropLast++[_]=_;rw[hl,h.segs];simp
  ·intro p hp;rcases List.mem_append.1 hp with hp|hp
   ·exact(h.file p (List.mem_append_left _ hp)).keep (hk p hp)
   ·rw[List.mem_singleton.1 hp];refine⟨?_,?_,?_,?_,?_⟩
    ·rw[rowS_snoc];exact app_new ho.dsk.srt hg.has c
    ·intro x hx;rcases List.mem_append.1 hx with hx|hx
     ·exact hg.why x hx
     ·rw[List.mem_singleton.1 hx];exact hr
    ·intro j hj;rw[List.length_append,List.length_singleton] at hj;rcases Nat.lt_or_ge j l.length with h3|h3
     ·rw[List.getElem_append_left h3];exact hg.num j h3
     ·have:j=l.length:=by omega
      subst this;simp only[List.getElem_concat_length];omega
    ·have:=hg.n;simp only[List.length_append,List.length_singleton] at this ⊢;omega
    ·have:=hg.size;rw[rowS_snoc];simp only[List.length_append] at this ⊢;omega
  ·show s.next+1=g.base+_;rw[List.length_append,List.length_singleton];omega
  ·have:=h.sure;show 0<=s.sure∧s.sure<=s.next+1;omega
 ·rw[if_pos c];refine .inl ⟨c,h.disk _ fun p hp hd=>?_⟩
  rw[chg_fail c];exact hd
structure Pr where
 key:Int
 val:List UInt8
 deriving DecidableEq
def Pr.enc (e:Pr):List D:=[.i .u8 e.key,.s e.val]
theorem Pr.len (e:Pr):e.enc.length=2:=Eq.trans rfl rfl
theorem Pr.tk (e:Pr):e.enc.take 2=e.enc:=Eq.trans rfl rfl
theorem Pr.tkL (e:Pr):(e.enc.map L.d).take 2=e.enc.map L.d:=Eq.trans rfl rfl
theorem Pr.dat (e:Pr):dataLs (e.enc.map L.d)=some (e.enc.map L.d):=Eq.trans rfl rfl
theorem Pr.rfs (e:Pr):(e.enc.map L.d).flatMap L.refs=[]:=Eq.trans rfl rfl
theorem Pr.rn (e:Pr) (g:Nat->Option Nat):(e.enc.map L.d).map (L.ren g)=e.enc.map L.d:=Eq.trans rfl rfl
theorem Pr.lenL (e:Pr):(e.enc.map L.d).length=2:=Eq.trans rfl rfl
theorem Pr.at0 (e:Pr):e.enc[0]?=some (.i .u8 e.key):=Eq.trans rfl rfl
theorem Pr.fd0 (e:Pr):(e.enc.map L.d)[0]?=some (.d (.i .u8 e.key)):=Eq.trans rfl rfl
theorem Pr.at1 (e:Pr):(e.enc.drop 1)[0]?=some (.s e.val):=Eq.trans rfl rfl
theorem Pr.fd1 (e:Pr):(e.enc.map L.d)[1]?=some (.d (.s e.val)):=Eq.trans rfl rfl
theorem Pr.up1 (e:Pr) (x:List UInt8):e.enc.take 1++[.s x]++e.enc.drop 2=({ e with val:=x }:Pr).enc:=Eq.trans rfl rfl
def Pr.ok (e:Pr):Prop:=(0<=e.key∧e.key<256)∧e.val.length<=9223372036854775807
def Pr.ty:List Ty:=[.i .u8,.s]
theorem Pr.eqs (a b:Pr):scEqs [0,2] (a.enc.map L.d) (b.enc.map L.d)=some (decide (a=b)):=by
 cases a;cases b;simp only[Pr.enc,List.map_cons,List.map_nil,scEqs,scEq,if_true,Pr.mk.injEq];congr 1
 rw[Bool.eq_iff_iff];simp only[Bool.and_eq_true,beq_iff_eq,decide_eq_true_eq,and_true]
theorem Pr.of (r:List D) (h:wfRow Pr.ty r):∃ e:Pr,r=e.enc∧e.ok:=by
 simp only[Pr.ty,wfRow,wfT] at h;obtain⟨_,_,rfl,⟨x0,rfl,h0,g0⟩,⟨_,_,rfl,⟨x1,rfl,h1⟩,rfl⟩⟩:=h;refine⟨⟨x0,x1⟩,rfl,?_⟩;exact⟨⟨Int.le_trans (by decide) h0,Int.lt_of_le_of_lt g0 (by decide)⟩,h1⟩
def prOk (p:Pr):Bool:=decide (1<=p.val.length) && decide (p.val.length<=63)
def keyAt (l:List Pr) (i:Nat):Int:=match l[i]? with|some p=>p.key|none=>0
def atOk (l:List Pr) (i:Nat):Bool:=match l[i]? with
 | some p=>prOk p && (decide (i=0) || decide (keyAt l (i-1)<p.key))
 | none=>true
def rightF (l:List Pr):Bool:=(List.range l.length).all (atOk l)
theorem right_from (l:List Pr) (i:Nat) (h:i<l.length):((List.range l.length).drop i).all (atOk l)=(atOk l i && ((List.range l.length).drop (i+1)).all (atOk l)):=by
 rw[List.drop_eq_getElem_cons (by simpa using h),List.all_cons,List.getElem_range]
theorem right_end (l:List Pr) (i:Nat) (h:l.length<=i):((List.range l.length).drop i).all (atOk l)=true:=by
 rw[List.drop_eq_nil_of_le (by simpa using h)];rfl
set_option maxHeartbeats 1000000 in
theorem right_fold (l:List Pr) (hl:l.length<=1000000):call 71 [vl (l.map Pr.enc)] []=some (vb (rightF l),[]):=by
 apply enterS s71 rfl;(simp(disch:=first|decide|omega|(intros;exact Eq.trans rfl rfl)|simp only[puri]) only[a71,go_sem,seval,dis])
 refine loop_boxM (m:=0) (σ:=Nat) (fun i=>l.length-i) (fun i=>i<=l.length∧rightF l=((List.range l.length).drop i).all (atOk l)) (fun i=>[vl (l.map Pr.enc),vl (l.map Pr.enc),vi l.length,vi i]) (fun _=>[])
  (fun _=>(vb (rightF l),[])) ?_ 0 ⟨Nat.zero_le _,rfl⟩ _ _ hdM
 intro i ⟨h1,h2⟩ R hR;by_cases hi:i<l.length
 ·rw[right_from l i hi] at h2;have g1:(l.map Pr.enc)[i]?=some l[i].enc:=by simp[hi]
  have ha:atOk l i=(prOk l[i] && (decide (i=0) || decide (keyAt l (i-1)<l[i].key))):=by simp[atOk,hi]
  rw[ha] at h2;obtain⟨p,hp⟩:∃ p,p=l[i]:=⟨_,rfl⟩;rw[<- hp] at g1 h2;by_cases c1:p.val=[]
  ·have e:rightF l=false:=by rw[h2];simp[prOk,c1]
   have hv:(p.val == [])=true:=by rw[c1];rfl
   rw[e];(simp(disch:=first|decide|omega|(intros;exact Eq.trans rfl rfl)|simp only[puri]) only[a71_0,g1,Pr.len,Pr.tkL,Pr.tk,Pr.at0,Pr.at1,Pr.enc,hv,go_sem,seval,dis])
   try simp[trim]
  ·have hv:(p.val == [])=false:=by simpa using c1
   have hv1:1<=p.val.length:=List.length_pos_iff.2 c1;by_cases c2:(p.val.length:Int)≥64
   ·have e:rightF l=false:=by rw[h2];simp[prOk];omega
    rw[e];(simp(disch:=first|decide|omega|(intros;exact Eq.trans rfl rfl)|simp only[puri]) only[a71_0,g1,Pr.enc,hv,decide_eq_true c2,go_sem,seval,dis])
    try simp[trim]
   ·have hk:prOk p=true:=by simp[prOk];omega
    rw[hk,Bool.true_and] at h2;by_cases c3:i=0
    ·have hi0:¬ (0:Int)<(i:Int):=by omega
     rw[decide_eq_true c3,Bool.true_or,Bool.true_and] at h2;(simp(disch:=first|decide|omega|(intros;exact Eq.trans rfl rfl)|simp only[puri]) only[a71_0,g1,Pr.enc,hv,decide_eq_false c2,decide_eq_false hi0,go_sem,seval,dis])
     exact hR (i+1) (by omega) ⟨by omega,h2⟩ _ _ hdM
    ·have hi0:(0:Int)<(i:Int):=by omega
     have hm:((i:Int)-1).toNat=i-1:=by omega
     have hm0:(0:Int)<=(i:Int)-1:=by omega
     have g2:(l.map Pr.enc)[i-1]?=some l[i-1].enc:=by rw[List.getElem?_map,List.getElem?_eq_getElem (by omega)];rfl
     have hq:keyAt l (i-1)=l[i-1].key:=by
      have:l[i-1]?=some l[i-1]:=List.getElem?_eq_getElem (by omega)
      simp[keyAt,this]
     rw[hq,decide_eq_false c3,Bool.false_or] at h2;obtain⟨q,hqe⟩:∃ q,q=l[i-1]:=⟨_,rfl⟩;rw[<- hqe] at g2 h2;by_cases c4:p.key<=q.key
     ·have e:rightF l=false:=by rw[h2,decide_eq_false (by omega)];rfl
      rw[e];(simp(disch:=first|decide|omega|(intros;exact Eq.trans rfl rfl)|simp only[puri]) only[a71_0,g1,g2,hm,hm0,Pr.enc,hv,decide_eq_false c2,decide_eq_true hi0,decide_eq_true c4,go_sem,seval,dis])
      try simp[trim]
     ·rw[decide_eq_true (p:=q.key<p.key) (by omega),Bool.true_and] at h2
      (simp(disch:=first|decide|omega|(intros;exact Eq.trans rfl rfl)|simp only[puri]) only[a71_0,g1,g2,hm,hm0,Pr.enc,hv,decide_eq_false c2,decide_eq_true hi0,decide_eq_false c4,go_sem,seval,dis])
      exact hR (i+1) (by omega) ⟨by omega,h2⟩ _ _ hdM
 ·have e:rightF l=true:=by rw[h2,right_end l i (by omega)]
  rw[e];(simp(disch:=first|decide|omega|(intros;exact Eq.trans rfl rfl)|simp only[puri]) only[a71_0,a71,go_sem,seval,dis])
  try simp[trim]
set_option maxHeartbeats 1000000 in
theorem right_ref (l:List Pr) (hl:l.length<=1000000):call 51 [vl (l.map Pr.enc)] []=some (vb (rightF l),[]):=by
 apply enterS s51 rfl;(simp(disch:=first|decide|omega|(intros;exact Eq.trans rfl rfl)|simp only[puri]) only[a51,go_sem,seval,dis])
 refine loop_boxM (m:=0) (σ:=Nat) (fun i=>l.length-i) (fun i=>i<=l.length∧rightF l=((List.range l.length).drop i).all (atOk l)) (fun i=>[vl (l.map Pr.enc),vi i]) (fun _=>[])
  (fun _=>(vb (rightF l),[])) ?_ 0 ⟨Nat.zero_le _,rfl⟩ _ _ hdM
 intro i ⟨h1,h2⟩ R hR;by_cases hi:i<l.length
 ·rw[right_from l i hi] at h2;have g1:(l.map Pr.enc)[i]?=some l[i].enc:=by simp[hi]
  have ha:atOk l i=(prOk l[i] && (decide (i=0) || decide (keyAt l (i-1)<l[i].key))):=by simp[atOk,hi]
  rw[ha] at h2;obtain⟨p,hp⟩:∃ p,p=l[i]:=⟨_,rfl⟩;rw[<- hp] at g1 h2;by_cases c1:(p.val.length:Int)<1
  ·have e:rightF l=false:=by rw[h2];simp[prOk];omega
   rw[e];(simp(disch:=first|decide|omega|(intros;exact Eq.trans rfl rfl)|simp only[puri]) only[a51_0,g1,Pr.enc,decide_eq_true c1,go_sem,seval,dis])
   try simp[trim]
  ·by_cases c2:(63:Int)<p.val.length
   ·have e:rightF l=false:=by rw[h2];simp[prOk];omega
    rw[e];(simp(disch:=first|decide|omega|(intros;exact Eq.trans rfl rfl)|simp only[puri]) only[a51_0,g1,Pr.enc,decide_eq_false c1,decide_eq_true c2,go_sem,seval,dis])
    try simp[trim]
   ·have hk:prOk p=true:=by simp[prOk];omega
    rw[hk,Bool.true_and] at h2;by_cases c3:i=0
    ·have hi0:¬ (0:Int)<(i:Int):=by omega
     rw[decide_eq_true c3,Bool.true_or,Bool.true_and] at h2;(simp(disch:=first|decide|omega|(intros;exact Eq.trans rfl rfl)|simp only[puri]) only[a51_0,g1,Pr.enc,decide_eq_false c1,decide_eq_false c2,decide_eq_false hi0,go_sem,seval,dis])
     exact hR (i+1) (by omega) ⟨by omega,h2⟩ _ _ hdM
    ·have hi0:(0:Int)<(i:Int):=by omega
     have hm:((i:Int)-1).toNat=i-1:=by omega
     have hm0:(0:Int)<=(i:Int)-1:=by omega
     have g2:(l.map Pr.enc)[i-1]?=some l[i-1].enc:=by rw[List.getElem?_map,List.getElem?_eq_getElem (by omega)];rfl
     have hq:keyAt l (i-1)=l[i-1].key:=by
      have:l[i-1]?=some l[i-1]:=List.getElem?_eq_getElem (by omega)
      simp[keyAt,this]
     rw[hq,decide_eq_false c3,Bool.false_or] at h2;obtain⟨q,hqe⟩:∃ q,q=l[i-1]:=⟨_,rfl⟩;rw[<- hqe] at g2 h2;by_cases c4:p.key<=q.key
     ·have e:rightF l=false:=by rw[h2,decide_eq_false (by omega)];rfl
      rw[e];(simp(disch:=first|decide|omega|(intros;exact Eq.trans rfl rfl)|simp only[puri]) only[a51_0,g1,g2,hm,hm0,Pr.enc,decide_eq_false c1,decide_eq_false c2,decide_eq_true hi0,decide_eq_true c4,go_sem,seval,dis])
      try simp[trim]
     ·rw[decide_eq_true (p:=q.key<p.key) (by omega),Bool.true_and] at h2
      (simp(disch:=first|decide|omega|(intros;exact Eq.trans rfl rfl)|simp only[puri]) only[a51_0,g1,g2,hm,hm0,Pr.enc,decide_eq_false c1,decide_eq_false c2,decide_eq_true hi0,decide_eq_false c4,go_sem,seval,dis])
      exact hR (i+1) (by omega) ⟨by omega,h2⟩ _ _ hdM
 ·have e:rightF l=true:=by rw[h2,right_end l i (by omega)]
  rw[e];(simp(disch:=first|decide|omega|(intros;exact Eq.trans rfl rfl)|simp only[puri]) only[a51_0,a51,go_sem,seval,dis])
  try simp[trim]
def pairF (s:List UInt8) (a:Nat):Option (Pr × Nat):=match rdF (s.drop (a+1)) 0 0 with
 | some (n,k)=>if s.length<a+1+k+n then none else some (⟨((s[a]?.getD 0).toNat:Int),(s.take (a+1+k+n)).drop (a+1+k)⟩,a+1+k+n)
 | none=>none
def parsF (s:List UInt8):Nat->Nat->List Pr->Option (List Pr × Nat)
 | 0,a,out=>some (out,a)
 | n+1,a,out=>match pairF s a with
  | some (p,b)=>parsF s n b (out++[p])
  | none=>none
def endF (s:List UInt8):Option (List Pr × Nat)->Option (List Pr)
 | some (out,a)=>if a=s.length∧rightF out=true then some out else none
 | none=>none
def parseF (s:List UInt8):Option (List Pr):=match rdF s 0 0 with
 | some (n,k)=>if 256<n then none else endF s (parsF s n k [])
 | none=>none
def parseV:Option (List Pr)->V
 | some l=>.tup [(false,[.d (.l (l.map Pr.enc))]),(false,[.d (.b true)])]
 | none=>.tup [(false,[.d (.l [])]),(false,[.d (.b false)])]
set_option maxRecDepth 4000 in
set_option maxHeartbeats 2000000 in
theorem parse_fold (s:List UInt8) (hs:s.length<=1000000000):call 26 [vs s] []=some (parseV (parseF s),[]):=by
 apply enterS s26 rfl;have h0:=read_spec s 0 (by decide) (by omega)
 rw[List.drop_zero] at h0;have z0:((0:Nat):Int)=0:=rfl;rw[z0] at h0;cases hn:rdF s 0 0 with
 | none =>
  have e:parseF s=none:=by simp only[parseF,hn]
  rw[hn] at h0;rw[e];(simp(disch:=first|decide|omega|(intros;exact Eq.trans rfl rfl)|simp only[puri]) only[a26,h0,rdV,parseV,go_sem,seval,dis])
  try simp[trim]
 | some q =>
  obtain⟨n,k⟩:=q;have hk:=(rdF_enc0 hn).2.1;rw[hn] at h0;by_cases c1:(256:Int)<(n:Int)
  ·have e:parseF s=none:=by simp only[parseF,hn];rw[if_pos (by omega)]
   rw[e];(simp(disch:=first|decide|omega|(intros;exact Eq.trans rfl rfl)|simp only[puri]) only[a26,h0,rdV,parseV,decide_eq_true c1,go_sem,seval,dis])
   try simp[trim]
  ·have e:parseF s=endF s (parsF s n k []):=by simp only[parseF,hn];rw[if_neg (by omega)]
   rw[e];have ek:(((0+k:Nat)):Int)=(k:Int):=by rw[Nat.zero_add]
   (simp(disch:=first|decide|omega|(intros;exact Eq.trans rfl rfl)|simp only[puri]) only[a26,h0,rdV,decide_eq_false c1,ek,go_sem,seval,dis])
   refine loop_boxM (m:=0) (σ:=Nat × Nat × List Pr) (fun t=>n-t.1) (fun t=>t.1<=n∧t.2.1<=s.length∧t.2.2.length=t.1∧parsF s n k []=parsF s (n-t.1) t.2.1 t.2.2) (fun t=>[vs s,vi t.2.1,V.one (.sl 0 2 0 t.2.2.length),vi n,vi t.1]) (fun t=>[.arr 2 (t.2.2.map Pr.enc) 0])
    (fun _=>(parseV (endF s (parsF s n k [])),[])) ?_ (0,k,[]) ⟨Nat.zero_le _,hk,rfl,rfl⟩ _ _ hdM
   rintro⟨i,a,out⟩ ⟨h1,h2,h3,h4⟩ R hR;simp only at h1 h2 h3 h4;by_cases hi:i<n
   ·obtain⟨m,hm⟩:∃ m,n-i=m+1:=⟨n-i-1,by omega⟩
    rw[hm,parsF] at h4;have hr:=read_spec s (a+1) (by omega) (by omega)
    rw[Int.natCast_add,Int.natCast_one] at hr;cases hp:rdF (s.drop (a+1)) 0 0 with
    | none =>
     have e1:parsF s n k []=none:=by rw[h4];simp only[pairF,hp]
     rw[hp] at hr;rw[e1];(simp(disch:=first|decide|omega|(intros;exact Eq.trans rfl rfl)|simp only[puri]) only[a26_0,hr,rdV,parseV,endF,go_sem,seval,dis])
     try simp[trim]
    | some q =>
     obtain⟨w,j⟩:=q;have hj:=rdF_enc0 hp;have hjl:a+1+j<=s.length:=by have:=hj.2.1;rw[List.length_drop] at this;omega
     rw[hp] at hr;by_cases c2:(s.length:Int)-((a+1+j:Nat):Int)<(w:Int)
     ·have e1:parsF s n k []=none:=by rw[h4];simp only[pairF,hp];rw[if_pos (by omega)]
      rw[e1];(simp(disch:=first|decide|omega|(intros;exact Eq.trans rfl rfl)|simp only[puri]) only[a26_0,hr,rdV,parseV,endF,decide_eq_true c2,go_sem,seval,dis])
      try simp[trim]
     ·have ha:a<s.length:=by omega
      have hc:s[a]?=some s[a]:=List.getElem?_eq_getElem ha;have e1:pairF s a=some (⟨(s[a].toNat:Int),(s.take (a+1+j+w)).drop (a+1+j)⟩,a+1+j+w):=by
       simp only[pairF,hp];rw[if_neg (by omega),hc];rfl
      rw[e1] at h4;simp only at h4;have ew:(((a+1+j:Nat)):Int)+(w:Int)=((a+1+j+w:Nat):Int):=by omega
      have hw:(((a+1+j+w:Nat)):Int).toNat=a+1+j+w:=by omega
      (simp(disch:=first|decide|omega|(intros;exact Eq.trans rfl rfl)|simp only[puri]) only[a26_0,hr,rdV,decide_eq_false c2,hc,ew,go_sem,seval,dis])
      have hR':=hR ((i+1,a+1+j+w,out++[⟨(s[a].toNat:Int),(s.take (a+1+j+w)).drop (a+1+j)⟩])) (by first|omega|(simp only[];omega)) ⟨by omega,by simp only[];omega,by simp[h3],by rw[h4];congr 1;omega⟩;simp only[Pr.enc,List.length_append,List.length_cons,List.length_nil,Nat.zero_add,List.map_append,List.map_cons,List.map_nil] at hR';exact hR' _ _ hdM
   ·have hin:i=n:=by omega
    subst hin;rw[Nat.sub_self,parsF] at h4;rw[h4];have hr:=right_fold out (by omega)
    have ht:List.take out.length (out.map Pr.enc)=out.map Pr.enc:=List.take_of_length_le (by simp)
    by_cases c3:(a:Int)<(s.length:Int)
    ·have e1:endF s (some (out,a))=none:=by simp only[endF];rw[if_neg (by omega)]
     rw[e1];(simp(disch:=first|decide|omega|(intros;exact Eq.trans rfl rfl)|simp only[puri]) only[a26_0,a26,decide_eq_true c3,parseV,go_sem,seval,dis])
     try simp[trim]
    ·cases hq:rightF out with
     | false =>
      have e1:endF s (some (out,a))=none:=by simp only[endF,hq];rw[if_neg (by simp)]
      rw[e1];rw[hq] at hr;(simp(disch:=first|decide|omega|(intros;exact Eq.trans rfl rfl)|simp only[puri]) only[a26_0,a26,decide_eq_false c3,hr,ht,parseV,go_sem,seval,dis])
      try simp[trim]
     | true =>
      have e1:endF s (some (out,a))=some out:=by simp only[endF,hq];rw[if_pos ⟨by omega,trivial⟩]
      rw[e1];rw[hq] at hr;(simp(disch:=first|decide|omega|(intros;exact Eq.trans rfl rfl)|simp only[puri]) only[a26_0,a26,decide_eq_false c3,hr,ht,parseV,go_sem,seval,dis])
      try simp[trim]
set_option maxRecDepth 4000 in
set_option maxHeartbeats 2000000 in
theorem parse_ref (s:List UInt8) (hs:s.length<=1000000000):call 12 [vs s] []=some (parseV (parseF s),[]):=by
 apply enterS s12 rfl;have h0:=refRead_spec s 0 (by decide) (by omega)
 rw[List.drop_zero] at h0;have z0:((0:Nat):Int)=0:=rfl;rw[z0] at h0;cases hn:rdF s 0 0 with
 | none =>
  have e:parseF s=none:=by simp only[parseF,hn]
  rw[hn] at h0;rw[e];(simp(disch:=first|decide|omega|(intros;exact Eq.trans rfl rfl)|simp only[puri]) only[a12,h0,rdV,parseV,go_sem,seval,dis])
  try simp[trim]
 | some q =>
  obtain⟨n,k⟩:=q;have hk:=(rdF_enc0 hn).2.1;rw[hn] at h0;by_cases c1:(256:Int)<(n:Int)
  ·have e:parseF s=none:=by simp only[parseF,hn];rw[if_pos (by omega)]
   rw[e];(simp(disch:=first|decide|omega|(intros;exact Eq.trans rfl rfl)|simp only[puri]) only[a12,h0,rdV,parseV,decide_eq_true c1,go_sem,seval,dis])
   try simp[trim]
  ·have e:parseF s=endF s (parsF s n k []):=by simp only[parseF,hn];rw[if_neg (by omega)]
   rw[e];have ek:(((0+k:Nat)):Int)=(k:Int):=by rw[Nat.zero_add]
   (simp(disch:=first|decide|omega|(intros;exact Eq.trans rfl rfl)|simp only[puri]) only[a12,h0,rdV,decide_eq_false c1,ek,go_sem,seval,dis])
   refine loop_boxM (m:=0) (σ:=Nat × Nat × List Pr) (fun t=>n-t.1) (fun t=>t.1<=n∧t.2.1<=s.length∧t.2.2.length=t.1∧parsF s n k []=parsF s (n-t.1) t.2.1 t.2.2) (fun t=>[vs s,vi n,vi t.2.1,V.one (.sl 0 2 0 t.2.2.length),vi t.1]) (fun t=>[.arr 2 (t.2.2.map Pr.enc) 0])
    (fun _=>(parseV (endF s (parsF s n k [])),[])) ?_ (0,k,[]) ⟨Nat.zero_le _,hk,rfl,rfl⟩ _ _ hdM
   rintro⟨i,a,out⟩ ⟨h1,h2,h3,h4⟩ R hR;simp only at h1 h2 h3 h4;by_cases hi:i<n
   ·by_cases ca:(s.length:Int)<=(a:Int)
    ·have e0:rdF (s.drop (a+1)) 0 0=none:=by rw[List.drop_eq_nil_of_le (by omega)];rfl
     obtain⟨m,hm⟩:∃ m,n-i=m+1:=⟨n-i-1,by omega⟩
     have e1:parsF s n k []=none:=by rw[h4,hm,parsF];simp only[pairF,e0]
     rw[e1];(simp(disch:=first|decide|omega|(intros;exact Eq.trans rfl rfl)|simp only[puri]) only[a12_0,decide_eq_true ca,parseV,endF,go_sem,seval,dis])
     try simp[trim]
    obtain⟨m,hm⟩:∃ m,n-i=m+1:=⟨n-i-1,by omega⟩
    rw[hm,parsF] at h4;have hr:=refRead_spec s (a+1) (by omega) (by omega)
    rw[Int.natCast_add,Int.natCast_one] at hr;cases hp:rdF (s.drop (a+1)) 0 0 with
    | none =>
     have e1:parsF s n k []=none:=by rw[h4];simp only[pairF,hp]
     rw[hp] at hr;rw[e1];(simp(disch:=first|decide|omega|(intros;exact Eq.trans rfl rfl)|simp only[puri]) only[a12_0,decide_eq_false ca,hr,rdV,parseV,endF,go_sem,seval,dis])
     try simp[trim]
    | some q =>
     obtain⟨w,j⟩:=q;have hj:=rdF_enc0 hp;have hjl:a+1+j<=s.length:=by have:=hj.2.1;rw[List.length_drop] at this;omega
     rw[hp] at hr;by_cases c2:(s.length:Int)-((a+1+j:Nat):Int)<(w:Int)
     ·have e1:parsF s n k []=none:=by rw[h4];simp only[pairF,hp];rw[if_pos (by omega)]
      rw[e1];(simp(disch:=first|decide|omega|(intros;exact Eq.trans rfl rfl)|simp only[puri]) only[a12_0,decide_eq_false ca,hr,rdV,parseV,endF,decide_eq_true c2,go_sem,seval,dis])
      try simp[trim]
     ·have ha:a<s.length:=by omega
      have hc:s[a]?=some s[a]:=List.getElem?_eq_getElem ha;have e1:pairF s a=some (⟨(s[a].toNat:Int),(s.take (a+1+j+w)).drop (a+1+j)⟩,a+1+j+w):=by
       simp only[pairF,hp];rw[if_neg (by omega),hc];rfl
      rw[e1] at h4;simp only at h4;have ew:(((a+1+j:Nat)):Int)+(w:Int)=((a+1+j+w:Nat):Int):=by omega
      have hw:(((a+1+j+w:Nat)):Int).toNat=a+1+j+w:=by omega
      (simp(disch:=first|decide|omega|(intros;exact Eq.trans rfl rfl)|simp only[puri]) only[a12_0,decide_eq_false ca,hr,rdV,decide_eq_false c2,hc,ew,go_sem,seval,dis])
      have hR':=hR ((i+1,a+1+j+w,out++[⟨(s[a].toNat:Int),(s.take (a+1+j+w)).drop (a+1+j)⟩])) (by first|omega|(simp only[];omega)) ⟨by omega,by simp only[];omega,by simp[h3],by rw[h4];congr 1;omega⟩;simp only[Pr.enc,List.length_append,List.length_cons,List.length_nil,Nat.zero_add,List.map_append,List.map_cons,List.map_nil] at hR';exact hR' _ _ hdM
   ·have hin:i=n:=by omega
    subst hin;rw[Nat.sub_self,parsF] at h4;rw[h4];have hr:=right_ref out (by omega)
    have ht:List.take out.length (out.map Pr.enc)=out.map Pr.enc:=List.take_of_length_le (by simp)
    by_cases c3:(a:Int)≠(s.length:Int)
    ·have e1:endF s (some (out,a))=none:=by simp only[endF];rw[if_neg (by omega)]
     rw[e1];(simp(disch:=first|decide|omega|(intros;exact Eq.trans rfl rfl)|simp only[puri]) only[a12_0,a12,bne_iff_ne.2 c3,parseV,go_sem,seval,dis])
     try simp[trim]
    ·have c3':((a:Int) != (s.length:Int))=false:=by simpa using c3
     cases hq:rightF out with
     | false =>
      have e1:endF s (some (out,a))=none:=by simp only[endF,hq];rw[if_neg (by simp)]
      rw[e1];rw[hq] at hr;(simp(disch:=first|decide|omega|(intros;exact Eq.trans rfl rfl)|simp only[puri]) only[a12_0,a12,c3',hr,ht,parseV,go_sem,seval,dis])
      try simp[trim]
     | true =>
      have e1:endF s (some (out,a))=some out:=by simp only[endF,hq];rw[if_pos ⟨by omega,trivial⟩]
      rw[e1];rw[hq] at hr;(simp(disch:=first|decide|omega|(intros;exact Eq.trans rfl rfl)|simp only[puri]) only[a12_0,a12,c3',hr,ht,parseV,go_sem,seval,dis])
      try simp[trim]
def stepF (l:List Pr):List UInt8->List Pr
 | []=>l
 | c::r=>l.takeWhile (fun p=>decide (p.key<(c.toNat:Int)))++(if r=[] then[] else[⟨(c.toNat:Int),r⟩])++l.filter (fun p=>decide ((c.toNat:Int)<p.key))
theorem tw_at (P:Pr->Bool) (l:List Pr) (i:Nat) (h:i<l.length):(l.drop i).takeWhile P=if P l[i]=true then l[i]::(l.drop (i+1)).takeWhile P else[]:=by
 rw[List.drop_eq_getElem_cons h,List.takeWhile_cons]
theorem take_one (l:List Pr) (i:Nat) (h:i<l.length):(l.take i).map Pr.enc++[l[i].enc]=(l.take (i+1)).map Pr.enc:=by
 rw[List.take_succ_eq_append_getElem h,List.map_append];rfl
theorem filt_one (Q:Pr->Bool) (l:List Pr) (i:Nat) (h:i<l.length):(l.take (i+1)).filter Q=(l.take i).filter Q++(if Q l[i]=true then[l[i]] else[]):=by
 rw[List.take_succ_eq_append_getElem h,List.filter_append];congr 1
 by_cases hq:Q l[i]=true <;> simp[hq]
theorem filt_len (Q:Pr->Bool) (l:List Pr) (i:Nat):((l.take i).filter Q).length<=l.length :=
 Nat.le_trans (List.length_filter_le _ _) (by simp;omega)
set_option maxRecDepth 4000 in
set_option maxHeartbeats 2000000 in
theorem step_ref (l:List Pr) (hl:l.length<=1000000) (d:List UInt8) (hd:d.length<=1000000):call 17 [vl (l.map Pr.enc),vs d] []=some (vl ((stepF l d).map Pr.enc),[]):=by
 apply enterS s17 rfl;have hok:okRows 2 (l.map Pr.enc)=true:=okRows_map Pr.len _;cases d with
 | nil =>
  have e0:(([]:List UInt8) == [])=true:=rfl;have ht:List.take l.length (l.map Pr.enc)=l.map Pr.enc:=List.take_of_length_le (by simp)
  (simp(disch:=first|decide|omega|(intros;exact Eq.trans rfl rfl)|simp only[puri]) only[a17,e0,hok,ht,go_sem,seval,dis])
  try simp[trim,stepF]
 | cons c r =>
  have e0:((c::r) == ([]:List UInt8))=false:=rfl;obtain⟨Z,hZ⟩:∃ Z:V × Hp,Z=(vl ((stepF l (c::r)).map Pr.enc),[]):=⟨_,rfl⟩;rw[<- hZ];have hc0:(c::r)[0]?=some c:=rfl;have hlr:(c::r).length<=1000000:=hd;obtain⟨dt,hD⟩:∃ dt,dt=c::r:=⟨_,rfl⟩;rw[<- hD] at hc0 e0 hlr hZ ⊢;(simp(disch:=first|decide|omega|(intros;exact Eq.trans rfl rfl)|simp only[puri]) only[a17,e0,go_sem,seval,dis])
  refine loop_boxM (m:=0) (σ:=Nat) (fun i=>l.length-i) (fun i=>i<=l.length∧l.takeWhile (fun p=>decide (p.key<(c.toNat:Int)))=l.take i++(l.drop i).takeWhile (fun p=>decide (p.key<(c.toNat:Int)))) (fun i=>[vl (l.map Pr.enc),vs dt,V.one (.sl 0 2 0 (l.take i).length),vi i]) (fun i=>[.arr 2 ((l.take i).map Pr.enc) 0])
   (fun _=>Z) ?_ 0 ⟨Nat.zero_le _,by simp⟩ _ _ hdM
  intro i ⟨h1,h2⟩ R hR;have key:l.takeWhile (fun p=>decide (p.key<(c.toNat:Int)))=l.take i->Z=(vl ((l.take i++(if r=[] then[] else[(⟨(c.toNat:Int),r⟩:Pr)])++l.filter (fun(p:Pr)=>decide ((c.toNat:Int)<p.key))).map Pr.enc),[]):=by
   intro he;rw[hZ,hD,stepF,he]
  have two:∀ (i:Nat) (h:i<l.length),(l.map Pr.enc)[i]?=some l[i].enc:=fun i h=>by rw[List.getElem?_map,List.getElem?_eq_getElem h];rfl
  have hlen:(l.take i).length=i:=by simp;omega
  have go:(i<l.length->keyAt l i<(c.toNat:Int))∨(i<l.length->¬ keyAt l i<(c.toNat:Int)):=by
   by_cases h:keyAt l i<(c.toNat:Int)
   ·exact .inl fun _=>h
   ·exact .inr fun _=>h
  have kat:∀ (i:Nat) (h:i<l.length),keyAt l i=l[i].key:=fun i h=>by
   have:l[i]?=some l[i]:=List.getElem?_eq_getElem h;simp[keyAt,this]
  by_cases hi:i<l.length∧keyAt l i<(c.toNat:Int)
  ·obtain⟨hi,c1⟩:=hi;have g1:=two i hi;rw[kat i hi] at c1;rw[tw_at _ l i hi,if_pos (decide_eq_true c1)] at h2;have ho:=take_one l i hi;have hl1:(l.take i).length+1=(l.take (i+1)).length:=by simp;omega
   have h3:l.takeWhile (fun p=>decide (p.key<(c.toNat:Int)))=l.take (i+1)++(l.drop (i+1)).takeWhile (fun p=>decide (p.key<(c.toNat:Int))):=by rw[h2,List.take_succ_eq_append_getElem hi,List.append_assoc];rfl
   obtain⟨p,hp⟩:∃ p,p=l[i]:=⟨_,rfl⟩;rw[<- hp] at g1 c1 ho;have hb:(l.take i).length<=1000000:=by omega
   obtain⟨B,hB⟩:∃ B,B=l.take i:=⟨_,rfl⟩;rw[<- hB] at ho hl1 hb ⊢;(simp(disch:=first|decide|omega|(intros;exact Eq.trans rfl rfl)|simp only[puri]) only[a17_0,g1,Pr.len,Pr.tk,Pr.tkL,Pr.at0,hc0,decide_eq_true c1,ho,hl1,go_sem,seval,dis])
   exact hR (i+1) (by omega) ⟨by omega,h3⟩ _ _ hdM
  ·have he:l.takeWhile (fun p=>decide (p.key<(c.toNat:Int)))=l.take i:=by
    rw[h2];by_cases hj:i<l.length
    ·rw[tw_at _ l i hj,if_neg ?_,List.append_nil];intro hc;exact hi ⟨hj,by rw[kat i hj];simpa using hc⟩
    ·rw[List.drop_eq_nil_of_le (by omega)];simp
   have hz:=key he;have hb:(l.take i).length<=1000000:=by omega
   clear key he h2 hR hlen;obtain⟨B,hB⟩:∃ B,B=l.take i:=⟨_,rfl⟩;rw[<- hB] at hz hb ⊢;clear hB;obtain⟨B',hB',hm,hl2⟩:∃ B':List Pr,B'=B++[⟨(c.toNat:Int),r⟩]∧B.map Pr.enc++[[.i .u8 (c.toNat:Int),.s r]]=B'.map Pr.enc∧B.length+1=B'.length:=⟨_,rfl,by simp[Pr.enc],by simp⟩
   have hdr:List.drop 1 dt=r:=by rw[hD];rfl
   have hdt:List.take dt.length dt=dt:=List.take_length;by_cases hr:r=[]
   ·have hdl:¬ (1:Int)<(dt.length:Int):=by rw[hD,hr];simp
    rw[if_pos hr,List.append_nil] at hz;clear hm hl2 hB' B';by_cases hj:i<l.length
    ·have g1:=two i hj;have c1:¬ l[i].key<(c.toNat:Int):=fun h=>hi ⟨hj,by rw[kat i hj];exact h⟩
     obtain⟨p,hp⟩:∃ p,p=l[i]:=⟨_,rfl⟩;rw[<- hp] at g1 c1;(simp(disch:=first|decide|omega|(intros;exact Eq.trans rfl rfl)|simp only[puri]) only[a17_0,a17,g1,Pr.len,Pr.tk,Pr.tkL,Pr.at0,hc0,decide_eq_false c1,decide_eq_false hdl,go_sem,seval,dis])
     refine loop_boxM (m:=0) (σ:=Nat) (fun j=>l.length-j) (fun j=>j<=l.length) (fun j=>[vl (l.map Pr.enc),vs dt,V.one (.sl 0 2 0 (B++(l.take j).filter (fun(p:Pr)=>decide ((c.toNat:Int)<p.key))).length),vi j]) (fun j=>[.arr 2 ((B++(l.take j).filter (fun(p:Pr)=>decide ((c.toNat:Int)<p.key))).map Pr.enc) 0])
      (fun _=>Z) ?_ 0 (Nat.zero_le _) _ _ (at_head2 (by decide) (by simp only[List.map_cons,List.map_nil,go_sem,seval];exact rfl) (by simp[idsOf,reach,place_cons,place_nil,canonH,V.ren,L.ren,Box.ren,V.refs,L.refs,Box.refs,List.append_nil]) (by simp[idsOf,reach,place_cons,place_nil,canonH,V.ren,L.ren,Box.ren,V.refs,L.refs,Box.refs,List.append_nil]))
     intro j h1 R hR;by_cases hi:j<l.length
     ·have g1:=two j hi;have hf:=filt_one (fun(p:Pr)=>decide ((c.toNat:Int)<p.key)) l j hi
      have hfl:=filt_len (fun(p:Pr)=>decide ((c.toNat:Int)<p.key)) l j
      obtain⟨p,hp⟩:∃ p,p=l[j]:=⟨_,rfl⟩;rw[<- hp] at g1 hf;by_cases c2:(c.toNat:Int)<p.key
      ·rw[if_pos (decide_eq_true c2)] at hf;have hR':=hR (j+1) (by omega) (by omega)
       rw[hf] at hR';obtain⟨C,hC⟩:∃ C,C=B++(l.take j).filter (fun(p:Pr)=>decide ((c.toNat:Int)<p.key)):=⟨_,rfl⟩
       have hcl:C.length<=2000001:=by rw[hC,List.length_append];omega
       rw[<- List.append_assoc,<- hC] at hR';rw[<- hC];obtain⟨C',hC',hm1,hm2⟩:∃ C':List Pr,C++[p]=C'∧C.map Pr.enc++[p.enc]=C'.map Pr.enc∧C.length+1=C'.length:=⟨_,rfl,by simp,by simp⟩
       rw[hC'] at hR';(simp(disch:=first|decide|omega|(intros;exact Eq.trans rfl rfl)|simp only[puri]) only[a17_1,g1,Pr.len,Pr.tk,Pr.tkL,Pr.at0,hc0,decide_eq_true c2,hm1,hm2,go_sem,seval,dis])
       exact hR' _ _ hdM
      ·rw[if_neg (by simpa using c2),List.append_nil] at hf
       have hR':=hR (j+1) (by omega) (by omega)
       rw[hf] at hR';generalize B++(l.take j).filter (fun(p:Pr)=>decide ((c.toNat:Int)<p.key))=C at hR' ⊢
       (simp(disch:=first|decide|omega|(intros;exact Eq.trans rfl rfl)|simp only[puri]) only[a17_1,g1,Pr.len,Pr.tk,Pr.tkL,Pr.at0,hc0,decide_eq_false c2,go_sem,seval,dis])
       exact hR' _ _ hdM
     ·have hj2:l.take j=l:=List.take_of_length_le (by omega)
      rw[hj2];obtain⟨C,hC⟩:∃ C,C=B++l.filter (fun(p:Pr)=>decide ((c.toNat:Int)<p.key)):=⟨_,rfl⟩
      rw[<- hC] at hz ⊢;rw[hz];have ht:List.take C.length (C.map Pr.enc)=C.map Pr.enc:=List.take_of_length_le (by simp)
      (simp(disch:=first|decide|omega|(intros;exact Eq.trans rfl rfl)|simp only[puri]) only[a17_1,a17,ht,go_sem,seval,dis])
      try simp[trim]
    ·(simp(disch:=first|decide|omega|(intros;exact Eq.trans rfl rfl)|simp only[puri]) only[a17_0,a17,decide_eq_false hdl,go_sem,seval,dis])
     refine loop_boxM (m:=0) (σ:=Nat) (fun j=>l.length-j) (fun j=>j<=l.length) (fun j=>[vl (l.map Pr.enc),vs dt,V.one (.sl 0 2 0 (B++(l.take j).filter (fun(p:Pr)=>decide ((c.toNat:Int)<p.key))).length),vi j]) (fun j=>[.arr 2 ((B++(l.take j).filter (fun(p:Pr)=>decide ((c.toNat:Int)<p.key))).map Pr.enc) 0])
      (fun _=>Z) ?_ 0 (Nat.zero_le _) _ _ (at_head2 (by decide) (by simp only[List.map_cons,List.map_nil,go_sem,seval];exact rfl) (by simp[idsOf,reach,place_cons,place_nil,canonH,V.ren,L.ren,Box.ren,V.refs,L.refs,Box.refs,List.append_nil]) (by simp[idsOf,reach,place_cons,place_nil,canonH,V.ren,L.ren,Box.ren,V.refs,L.refs,Box.refs,List.append_nil]))
     intro j h1 R hR;by_cases hi:j<l.length
     ·have g1:=two j hi;have hf:=filt_one (fun(p:Pr)=>decide ((c.toNat:Int)<p.key)) l j hi
      have hfl:=filt_len (fun(p:Pr)=>decide ((c.toNat:Int)<p.key)) l j
      obtain⟨p,hp⟩:∃ p,p=l[j]:=⟨_,rfl⟩;rw[<- hp] at g1 hf;by_cases c2:(c.toNat:Int)<p.key
      ·rw[if_pos (decide_eq_true c2)] at hf;have hR':=hR (j+1) (by omega) (by omega)
       rw[hf] at hR';obtain⟨C,hC⟩:∃ C,C=B++(l.take j).filter (fun(p:Pr)=>decide ((c.toNat:Int)<p.key)):=⟨_,rfl⟩
       have hcl:C.length<=2000001:=by rw[hC,List.length_append];omega
       rw[<- List.append_assoc,<- hC] at hR';rw[<- hC];obtain⟨C',hC',hm1,hm2⟩:∃ C':List Pr,C++[p]=C'∧C.map Pr.enc++[p.enc]=C'.map Pr.enc∧C.length+1=C'.length:=⟨_,rfl,by simp,by simp⟩
       rw[hC'] at hR';(simp(disch:=first|decide|omega|(intros;exact Eq.trans rfl rfl)|simp only[puri]) only[a17_1,g1,Pr.len,Pr.tk,Pr.tkL,Pr.at0,hc0,decide_eq_true c2,hm1,hm2,go_sem,seval,dis])
       exact hR' _ _ hdM
      ·rw[if_neg (by simpa using c2),List.append_nil] at hf
       have hR':=hR (j+1) (by omega) (by omega)
       rw[hf] at hR';generalize B++(l.take j).filter (fun(p:Pr)=>decide ((c.toNat:Int)<p.key))=C at hR' ⊢
       (simp(disch:=first|decide|omega|(intros;exact Eq.trans rfl rfl)|simp only[puri]) only[a17_1,g1,Pr.len,Pr.tk,Pr.tkL,Pr.at0,hc0,decide_eq_false c2,go_sem,seval,dis])
       exact hR' _ _ hdM
     ·have hj2:l.take j=l:=List.take_of_length_le (by omega)
      rw[hj2];obtain⟨C,hC⟩:∃ C,C=B++l.filter (fun(p:Pr)=>decide ((c.toNat:Int)<p.key)):=⟨_,rfl⟩
      rw[<- hC] at hz ⊢;rw[hz];have ht:List.take C.length (C.map Pr.enc)=C.map Pr.enc:=List.take_of_length_le (by simp)
      (simp(disch:=first|decide|omega|(intros;exact Eq.trans rfl rfl)|simp only[puri]) only[a17_1,a17,ht,go_sem,seval,dis])
      try simp[trim]
   ·have hdl:(1:Int)<(dt.length:Int):=by
     rw[hD];have:=List.length_pos_iff.2 hr;simp;omega
    rw[if_neg hr,<- hB'] at hz;have hb:B'.length<=1000001:=by omega
    by_cases hj:i<l.length
    ·have g1:=two i hj;have c1:¬ l[i].key<(c.toNat:Int):=fun h=>hi ⟨hj,by rw[kat i hj];exact h⟩
     obtain⟨p,hp⟩:∃ p,p=l[i]:=⟨_,rfl⟩;rw[<- hp] at g1 c1;(simp(disch:=first|decide|omega|(intros;exact Eq.trans rfl rfl)|simp only[puri]) only[a17_0,a17,g1,Pr.len,Pr.tk,Pr.tkL,Pr.at0,hc0,hdt,hdr,decide_eq_false c1,decide_eq_true hdl,hm,hl2,go_sem,seval,dis])
     refine loop_boxM (m:=0) (σ:=Nat) (fun j=>l.length-j) (fun j=>j<=l.length) (fun j=>[vl (l.map Pr.enc),vs dt,V.one (.sl 0 2 0 (B'++(l.take j).filter (fun(p:Pr)=>decide ((c.toNat:Int)<p.key))).length),vi j]) (fun j=>[.arr 2 ((B'++(l.take j).filter (fun(p:Pr)=>decide ((c.toNat:Int)<p.key))).map Pr.enc) 0])
      (fun _=>Z) ?_ 0 (Nat.zero_le _) _ _ (at_head2 (by decide) (by simp only[List.map_cons,List.map_nil,go_sem,seval];exact rfl) (by simp[idsOf,reach,place_cons,place_nil,canonH,V.ren,L.ren,Box.ren,V.refs,L.refs,Box.refs,List.append_nil]) (by simp[idsOf,reach,place_cons,place_nil,canonH,V.ren,L.ren,Box.ren,V.refs,L.refs,Box.refs,List.append_nil]))
     intro j h1 R hR;by_cases hi:j<l.length
     ·have g1:=two j hi;have hf:=filt_one (fun(p:Pr)=>decide ((c.toNat:Int)<p.key)) l j hi
      have hfl:=filt_len (fun(p:Pr)=>decide ((c.toNat:Int)<p.key)) l j
      obtain⟨p,hp⟩:∃ p,p=l[j]:=⟨_,rfl⟩;rw[<- hp] at g1 hf;by_cases c2:(c.toNat:Int)<p.key
      ·rw[if_pos (decide_eq_true c2)] at hf;have hR':=hR (j+1) (by omega) (by omega)
       rw[hf] at hR';obtain⟨C,hC⟩:∃ C,C=B'++(l.take j).filter (fun(p:Pr)=>decide ((c.toNat:Int)<p.key)):=⟨_,rfl⟩
       have hcl:C.length<=2000001:=by rw[hC,List.length_append];omega
       rw[<- List.append_assoc,<- hC] at hR';rw[<- hC];obtain⟨C',hC',hm1,hm2⟩:∃ C':List Pr,C++[p]=C'∧C.map Pr.enc++[p.enc]=C'.map Pr.enc∧C.length+1=C'.length:=⟨_,rfl,by simp,by simp⟩
       rw[hC'] at hR';(simp(disch:=first|decide|omega|(intros;exact Eq.trans rfl rfl)|simp only[puri]) only[a17_1,g1,Pr.len,Pr.tk,Pr.tkL,Pr.at0,hc0,decide_eq_true c2,hm1,hm2,go_sem,seval,dis])
       exact hR' _ _ hdM
      ·rw[if_neg (by simpa using c2),List.append_nil] at hf
       have hR':=hR (j+1) (by omega) (by omega)
       rw[hf] at hR';generalize B'++(l.take j).filter (fun(p:Pr)=>decide ((c.toNat:Int)<p.key))=C at hR' ⊢
       (simp(disch:=first|decide|omega|(intros;exact Eq.trans rfl rfl)|simp only[puri]) only[a17_1,g1,Pr.len,Pr.tk,Pr.tkL,Pr.at0,hc0,decide_eq_false c2,go_sem,seval,dis])
       exact hR' _ _ hdM
     ·have hj2:l.take j=l:=List.take_of_length_le (by omega)
      rw[hj2];obtain⟨C,hC⟩:∃ C,C=B'++l.filter (fun(p:Pr)=>decide ((c.toNat:Int)<p.key)):=⟨_,rfl⟩
      rw[<- hC] at hz ⊢;rw[hz];have ht:List.take C.length (C.map Pr.enc)=C.map Pr.enc:=List.take_of_length_le (by simp)
      (simp(disch:=first|decide|omega|(intros;exact Eq.trans rfl rfl)|simp only[puri]) only[a17_1,a17,ht,go_sem,seval,dis])
      try simp[trim]
    ·(simp(disch:=first|decide|omega|(intros;exact Eq.trans rfl rfl)|simp only[puri]) only[a17_0,a17,hc0,hdt,hdr,decide_eq_true hdl,hm,hl2,go_sem,seval,dis])
     refine loop_boxM (m:=0) (σ:=Nat) (fun j=>l.length-j) (fun j=>j<=l.length) (fun j=>[vl (l.map Pr.enc),vs dt,V.one (.sl 0 2 0 (B'++(l.take j).filter (fun(p:Pr)=>decide ((c.toNat:Int)<p.key))).length),vi j]) (fun j=>[.arr 2 ((B'++(l.take j).filter (fun(p:Pr)=>decide ((c.toNat:Int)<p.key))).map Pr.enc) 0])
      (fun _=>Z) ?_ 0 (Nat.zero_le _) _ _ (at_head2 (by decide) (by simp only[List.map_cons,List.map_nil,go_sem,seval];exact rfl) (by simp[idsOf,reach,place_cons,place_nil,canonH,V.ren,L.ren,Box.ren,V.refs,L.refs,Box.refs,List.append_nil]) (by simp[idsOf,reach,place_cons,place_nil,canonH,V.ren,L.ren,Box.ren,V.refs,L.refs,Box.refs,List.append_nil]))
     intro j h1 R hR;by_cases hi:j<l.length
     ·have g1:=two j hi;have hf:=filt_one (fun(p:Pr)=>decide ((c.toNat:Int)<p.key)) l j hi
      have hfl:=filt_len (fun(p:Pr)=>decide ((c.toNat:Int)<p.key)) l j
      obtain⟨p,hp⟩:∃ p,p=l[j]:=⟨_,rfl⟩;rw[<- hp] at g1 hf;by_cases c2:(c.toNat:Int)<p.key
      ·rw[if_pos (decide_eq_true c2)] at hf;have hR':=hR (j+1) (by omega) (by omega)
       rw[hf] at hR';obtain⟨C,hC⟩:∃ C,C=B'++(l.take j).filter (fun(p:Pr)=>decide ((c.toNat:Int)<p.key)):=⟨_,rfl⟩
       have hcl:C.length<=2000001:=by rw[hC,List.length_append];omega
       rw[<- List.append_assoc,<- hC] at hR';rw[<- hC];obtain⟨C',hC',hm1,hm2⟩:∃ C':List Pr,C++[p]=C'∧C.map Pr.enc++[p.enc]=C'.map Pr.enc∧C.length+1=C'.length:=⟨_,rfl,by simp,by simp⟩
       rw[hC'] at hR';(simp(disch:=first|decide|omega|(intros;exact Eq.trans rfl rfl)|simp only[puri]) only[a17_1,g1,Pr.len,Pr.tk,Pr.tkL,Pr.at0,hc0,decide_eq_true c2,hm1,hm2,go_sem,seval,dis])
       exact hR' _ _ hdM
      ·rw[if_neg (by simpa using c2),List.append_nil] at hf
       have hR':=hR (j+1) (by omega) (by omega)
       rw[hf] at hR';generalize B'++(l.take j).filter (fun(p:Pr)=>decide ((c.toNat:Int)<p.key))=C at hR' ⊢
       (simp(disch:=first|decide|omega|(intros;exact Eq.trans rfl rfl)|simp only[puri]) only[a17_1,g1,Pr.len,Pr.tk,Pr.tkL,Pr.at0,hc0,decide_eq_false c2,go_sem,seval,dis])
       exact hR' _ _ hdM
     ·have hj2:l.take j=l:=List.take_of_length_le (by omega)
      rw[hj2];obtain⟨C,hC⟩:∃ C,C=B'++l.filter (fun(p:Pr)=>decide ((c.toNat:Int)<p.key)):=⟨_,rfl⟩
      rw[<- hC] at hz ⊢;rw[hz];have ht:List.take C.length (C.map Pr.enc)=C.map Pr.enc:=List.take_of_length_le (by simp)
      (simp(disch:=first|decide|omega|(intros;exact Eq.trans rfl rfl)|simp only[puri]) only[a17_1,a17,ht,go_sem,seval,dis])
      try simp[trim]
def prB (p:Pr):List UInt8:=UInt8.ofNat p.key.toNat::(enc128 p.val.length++p.val)
def bytesF (l:List Pr):List UInt8:=enc128 l.length++l.flatMap prB
set_option maxRecDepth 4000 in
set_option maxHeartbeats 2000000 in
theorem bytes_ref (l:List Pr) (hl:l.length<=1000000) (hb:(bytesF l).length<=1000000000) (hk:∀ p∈l,0<=p.key∧p.key<256):call 68 [vl (l.map Pr.enc)] []=some (vs (bytesF l),[]):=by
 apply enterS s68 rfl;have h0:=refPut_spec l.length (by omega)
 (simp(disch:=first|decide|omega|(intros;exact Eq.trans rfl rfl)|simp only[puri]) only[a68,h0,go_sem,seval,dis])
 refine loop_boxM (m:=0) (σ:=Nat) (fun i=>l.length-i) (fun i=>i<=l.length) (fun i=>[vl (l.map Pr.enc),vs (enc128 l.length++(l.take i).flatMap prB),vi i]) (fun _=>[])
  (fun _=>(vs (bytesF l),[])) ?_ 0 (Nat.zero_le _) _ _ (at_head2 (by decide) (by simp only[List.map_cons,List.map_nil,go_sem,seval];exact rfl) (by simp[idsOf,reach,place_cons,place_nil,canonH,V.ren,L.ren,Box.ren,V.refs,L.refs,Box.refs,List.append_nil]) (by simp[idsOf,reach,place_cons,place_nil,canonH,V.ren,L.ren,Box.ren,V.refs,L.refs,Box.refs,List.append_nil]))
 intro i h1 R hR;by_cases hi:i<l.length
 ·have g1:(l.map Pr.enc)[i]?=some l[i].enc:=by rw[List.getElem?_map,List.getElem?_eq_getElem hi];rfl
  have hnx:enc128 l.length++(l.take (i+1)).flatMap prB=(enc128 l.length++(l.take i).flatMap prB)++prB l[i]:=by
   rw[List.take_succ_eq_append_getElem hi,List.flatMap_append];simp
  have hle:((enc128 l.length++(l.take i).flatMap prB)++prB l[i]).length<=1000000000:=by
   rw[<- hnx];refine Nat.le_trans ?_ hb;have e:l.flatMap prB=(l.take (i+1)).flatMap prB++(l.drop (i+1)).flatMap prB:=by rw[<- List.flatMap_append,List.take_append_drop]
   rw[bytesF,e];simp;try omega
  have hR':=hR (i+1) (by omega) (by omega)
  rw[hnx] at hR';obtain⟨p,hp⟩:∃ p,p=l[i]:=⟨_,rfl⟩;rw[<- hp] at g1 hle hR';obtain⟨S,hS⟩:∃ S,S=enc128 l.length++(l.take i).flatMap prB:=⟨_,rfl⟩;rw[<- hS] at hle hR' ⊢;have hpb:(prB p).length=1+(enc128 p.val.length).length+p.val.length:=by simp[prB];omega
  rw[List.length_append] at hle;have hput:=refPut_spec p.val.length (by omega)
  have hbo:bytesOf [[.i .u8 p.key]]=some [UInt8.ofNat p.key.toNat]:=rfl;rw[show S++prB p=((S++[UInt8.ofNat p.key.toNat])++enc128 p.val.length)++p.val by simp[prB]] at hR'
  rw[hpb] at hle;obtain⟨E,hE⟩:∃ E,E=enc128 p.val.length:=⟨_,rfl⟩;rw[<- hE] at hR' hput hle;have q1:(S++[UInt8.ofNat p.key.toNat]).length=S.length+1:=by simp
  have q2:((S++[UInt8.ofNat p.key.toNat])++E).length=S.length+1+E.length:=by simp;omega
  obtain⟨S1,hS1⟩:∃ S1,S1=S++[UInt8.ofNat p.key.toNat]:=⟨_,rfl⟩;rw[<- hS1] at q1 q2 hR';obtain⟨S2,hS2⟩:∃ S2,S2=S1++E:=⟨_,rfl⟩;rw[<- hS2] at q2 hR';(simp(disch:=first|decide|omega|(intros;exact Eq.trans rfl rfl)|simp only[puri]) only[a68_0,g1,Pr.len,Pr.tk,Pr.tkL,Pr.at0,Pr.at1,hbo,hput,<- hS1,<- hS2,go_sem,seval,dis,vdr,A.kind,A.xs,optX,A.isN])
  exact hR' _ _ hdM
 ·have ht:l.take i=l:=List.take_of_length_le (by omega)
  rw[ht];(simp(disch:=first|decide|omega|(intros;exact Eq.trans rfl rfl)|simp only[puri]) only[a68_0,a68,go_sem,seval,dis,vdr,A.kind,A.xs,optX,A.isN])
  try simp[trim,bytesF]
structure SZ (seg:Int) (M:List SR) (g:Seg):Prop where
 old:∀ p∈M,seg<=p.1.size∧p.1.size<=seg+90
 last:g.size<=seg+90
def Hold (f seg:Int) (s:Sto) (R:List Rec):Prop:=∃ M g l,Inv f s M g l∧SZ seg M g∧recsM (M++[(g,l)])=R
theorem Hold.next {f seg:Int} {s:Sto} {R:List Rec} (h:Hold f seg s R):s.next=f+R.length:=by
 obtain⟨M,g,l,hi,_,rfl⟩:=h;have:=chain_len _ _ _ hi.chain;rw[recsM_app,recsM_one,List.length_append,hi.next];simp only[];omega
theorem Hold.sure {f seg:Int} {s:Sto} {R:List Rec} (h:Hold f seg s R):0<=s.sure∧s.sure<=s.next:=by
 obtain⟨M,g,l,hi,_,rfl⟩:=h;exact hi.sure
theorem roll_mono {k u:Nat} {s:Sto} (ho:okS k u s) (h:s.sure<=s.next):s.sure<=(rollT s).1.sure:=by
 have:=sync_mono ho h;unfold rollT;split
 ·exact Int.le_refl _
 ·split
  ·exact this
  ·split <;> exact this
theorem Hold.floor {f seg:Int} {s:Sto} {R:List Rec} (h:Hold f seg s R):s.floor=f:=by
 obtain⟨M,g,l,hi,_,rfl⟩:=h;unfold Sto.floor;rw[hi.segs];cases hM:M with
 | nil=>have:=hi.chain;rw[hM] at this;simp only[chainM] at this;simp[this]
 | cons q M'=>have:=hi.chain;rw[hM] at this;simp[this.1]
theorem rnamed_spec (s:Txt):call 102 [vs s] []=some (vb (namedF s),[]):=by
 apply enterS s102 rfl;unfold namedF;cases s with
 | nil=>(simp(disch:=first|decide|omega|(intros;exact Eq.trans rfl rfl)|simp only[puri]) only[a102,go_sem,seval,dis]);try rfl
 | cons a r =>
  have h1:(1:Int)<=((a::r).length:Nat):=by simp;omega
  generalize hq:(a::r)=q at *;have h2:q≠[]:=by rw[<- hq];simp
  by_cases c:q.length<=32
  ·(simp(disch:=first|decide|omega|(intros;exact Eq.trans rfl rfl)|simp only[puri]) only[a102,h1,c,go_sem,seval,dis])
   simp[h2]
  ·(simp(disch:=first|decide|omega|(intros;exact Eq.trans rfl rfl)|simp only[puri]) only[a102,h1,c,go_sem,seval,dis])
   simp[h2]
def findI (l:List Fil) (n:Txt):Int:=if hasF l n=true then(posF l n:Nat) else -1
theorem name_at_iff {l:List Fil} (hs:srt l) (n:Txt) (i:Nat) (h:i<l.length):l[i].name=n↔(hasF l n=true∧i=posF l n):=by
 constructor
 ·rintro rfl;exact⟨has_true hs (List.getElem_mem h),(pos_of hs i h).symm⟩
 ·rintro⟨h1,rfl⟩;obtain⟨hp,he⟩:=has_at h1;exact he
theorem rfind_spec (d:Dsk) (hl:d.files.length<=1000000) (hs:srt d.files) (n:Txt):call 87 [.agg d.l,vs n] []=some (vi (findI d.files n),[]):=by
 apply enterS s87 rfl;obtain⟨fl,cp,ar,lf,dn⟩:=d;simp only at hl hs ⊢;obtain⟨Z,hZ⟩:∃ Z:V,Z=vi (findI fl n):=⟨_,rfl⟩;rw[<- hZ];(simp(disch:=first|decide|omega|(intros;exact Eq.trans rfl rfl)|simp only[puri]) only[a87,Dsk.l,go_sem,seval,dis])
 refine loop_boxM (m:=0) (σ:=Nat) (fun i=>fl.length-i) (fun i=>i<=fl.length∧(hasF fl n=true->i<=posF fl n)) (fun i=>[vs n,V.one (.p 0 0),vi i])
  (fun _=>[.cells [.d (.l (fl.map Fil.enc)),.d (.i .i64 cp),.d (.b ar),.d (.i .i64 lf),.d (.b dn)]]) (fun _=>(Z,[])) ?_ 0 ⟨Nat.zero_le _,fun _=>Nat.zero_le _⟩ _ _ ?_
 rotate_left
 ·exact hdM
 rintro i ⟨hi,hp⟩ R hR;by_cases c:i<fl.length
 ·have g1:(fl.map Fil.enc)[i]?=some fl[i].enc:=by simp[c]
  have hk:=name_at_iff hs n i c;by_cases c2:fl[i].name=n
  ·have e:(fl[i].name == n)=true:=by rw[c2];exact beq_self_eq_true _
   obtain⟨h1,h2⟩:=hk.1 c2;have hz:findI fl n=i:=by unfold findI;rw[if_pos h1,<- h2]
   rw[hz] at hZ;(simp(disch:=first|decide|omega|(intros;exact Eq.trans rfl rfl)|simp only[puri]) only[a87_0,c,g1,Fil.len,Fil.at0,e,go_sem,seval,dis])
   rw[hZ];try simp[trim]
  ·have e:(fl[i].name == n)=false:=by rw[beq_eq_false_iff_ne];exact c2
   (simp(disch:=first|decide|omega|(intros;exact Eq.trans rfl rfl)|simp only[puri]) only[a87_0,c,g1,Fil.len,Fil.at0,e,go_sem,seval,dis])
   exact hR (i+1) (by omega) ⟨by omega,fun h=>by
    have:=hp h;rcases Nat.lt_or_ge i (posF fl n) with h3|h3
    ·omega
    ·exact absurd (hk.2 ⟨h,by omega⟩) c2⟩ _ _ hdM
 ·have hz:findI fl n = -1:=by
   unfold findI;rw[if_neg];intro h;obtain⟨h1,_⟩:=has_at h;have:=hp h;omega
  rw[hz] at hZ;(simp(disch:=first|decide|omega|(intros;exact Eq.trans rfl rfl)|simp only[puri]) only[a87_0,c,go_sem,seval,dis])
  rw[hZ];try simp[trim]
theorem rused_spec (d:Dsk) (hl:d.files.length<=1000000) (hu:usedF d.files<=1000000000000):call 97 [.agg d.l] []=some (vi (usedF d.files:Nat),[]):=by
 apply enterS s97 rfl;obtain⟨fl,cp,ar,lf,dn⟩:=d;simp only at hl hu ⊢;(simp(disch:=first|decide|omega|(intros;exact Eq.trans rfl rfl)|simp only[puri]) only[a97,Dsk.l,go_sem,seval,dis])
 refine loop_boxM (m:=0) (σ:=Nat) (fun i=>fl.length-i) (fun i=>i<=fl.length) (fun i=>[V.one (.p 0 0),vi (usedF (fl.take i):Nat),vi i])
  (fun _=>[.cells [.d (.l (fl.map Fil.enc)),.d (.i .i64 cp),.d (.b ar),.d (.i .i64 lf),.d (.b dn)]]) (fun _=>(vi (usedF fl:Nat),[])) ?_ 0 (Nat.zero_le _) _ _ ?_
 rotate_left
 ·exact hdM
 intro i hi R hR;by_cases c:i<fl.length
 ·have g1:(fl.map Fil.enc)[i]?=some fl[i].enc:=by simp[c]
  have hK:=hR (i+1) (by omega) (by omega)
  have e1:usedF (fl.take (i+1))=usedF (fl.take i)+fl[i].data.length:=by rw[List.take_succ_eq_append_getElem c,used_app,used_one]
  have h2:=used_take fl (i+1);rw[e1] at hK h2;have e2:((usedF (fl.take i)+fl[i].data.length:Nat):Int)=(usedF (fl.take i):Int)+(fl[i].data.length:Int):=by omega
  rw[e2] at hK;(simp(disch:=first|decide|omega|(intros;exact Eq.trans rfl rfl)|simp only[puri]) only[a97_0,c,g1,Fil.len,Fil.at1,go_sem,seval,dis])
  exact hK _ _ hdM
 ·have e:fl.take i=fl:=List.take_of_length_le (by omega)
  rw[e];(simp(disch:=first|decide|omega|(intros;exact Eq.trans rfl rfl)|simp only[puri]) only[a97_0,c,go_sem,seval,dis])
  try simp[trim]
def woF (l:List Fil) (n:Txt):List Fil:=l.filter fun f=>decide (f.name≠n)
def wiF (l:List Fil) (f:Fil):List Fil:=insF (woF l f.name) (posF (woF l f.name) f.name) f
theorem woF_len (l:List Fil) (n:Txt):(woF l n).length<=l.length:=List.length_filter_le _ _
theorem woF_srt {l:List Fil} (hs:srt l) (n:Txt):srt (woF l n):=List.Pairwise.filter _ hs
theorem without_spec (l:List Fil) (hl:l.length<=1000000) (n:Txt):call 89 [vl (l.map Fil.enc),vs n] []=some (vl ((woF l n).map Fil.enc),[]):=by
 apply enterS s89 rfl;obtain⟨Z,hZ⟩:∃ Z:V,Z=vl ((woF l n).map Fil.enc):=⟨_,rfl⟩;rw[<- hZ];(simp(disch:=first|decide|omega|(intros;exact Eq.trans rfl rfl)|simp only[puri]) only[a89,go_sem,seval,dis])
 refine loop_boxM (m:=0) (σ:=Nat) (fun i=>l.length-i) (fun i=>i<=l.length) (fun i=>[vl (l.map Fil.enc),vs n,V.one (.sl 0 3 0 (woF (l.take i) n).length),vi i])
  (fun i=>[.arr 3 ((woF (l.take i) n).map Fil.enc) 0]) (fun _=>(Z,[])) ?_ 0 (Nat.zero_le _) _ _ ?_
 rotate_left
 ·exact hdM
 intro i hi R hR;have hln:((woF (l.take i) n).map Fil.enc).length=(woF (l.take i) n).length:=by simp
 have hle:(woF (l.take i) n).length<=1000000:=Nat.le_trans (woF_len _ _) (by simp;omega)
 by_cases c:i<l.length
 ·have g1:(l.map Fil.enc)[i]?=some l[i].enc:=by simp[c]
  have hK:=hR (i+1) (by omega) (by omega)
  by_cases c2:l[i].name=n
  ·have e:(l[i].name == n)=true:=by rw[c2];exact beq_self_eq_true _
   have e1:woF (l.take (i+1)) n=woF (l.take i) n:=by
    rw[List.take_succ_eq_append_getElem c];unfold woF;rw[List.filter_append];simp[c2]
   rw[e1] at hK;(simp(disch:=first|decide|omega|(intros;exact Eq.trans rfl rfl)|simp only[puri]) only[a89_0,c,g1,Fil.len,Fil.at0,e,go_sem,seval,dis])
   exact hK _ _ hdM
  ·have e:(l[i].name == n)=false:=by rw[beq_eq_false_iff_ne];exact c2
   have e1:woF (l.take (i+1)) n=woF (l.take i) n++[l[i]]:=by
    rw[List.take_succ_eq_append_getElem c];unfold woF;rw[List.filter_append];simp[c2]
   rw[e1,List.map_append,List.length_append,List.length_singleton] at hK;generalize (woF (l.take i) n).map Fil.enc=Q at *;generalize (woF (l.take i) n).length=q at *;generalize l[i]=f at *;obtain⟨fn,fd,fs⟩:=f;simp only[Fil.enc,List.map_cons,List.map_nil] at g1 e hK;(simp(disch:=first|decide|omega|(intros;exact Eq.trans rfl rfl)|simp only[puri]) only[a89_0,c,g1,e,hln,go_sem,seval,dis])
   exact hK _ _ hdM
 ·have e:l.take i=l:=List.take_of_length_le (by omega)
  rw[e] at hln hle ⊢;have ht:((woF l n).map Fil.enc).take (woF l n).length=(woF l n).map Fil.enc:=List.take_of_length_le (by omega)
  generalize (woF l n).map Fil.enc=Q at *;generalize (woF l n).length=q at *;(simp(disch:=first|decide|omega|(intros;exact Eq.trans rfl rfl)|simp only[puri]) only[a89_0,c,hln,ht,go_sem,seval,dis])
  rw[hZ];try simp[trim]
set_option maxRecDepth 8000 in
theorem with_spec (l:List Fil) (hl:l.length<=1000000) (hs:srt l) (f:Fil):call 98 [vl (l.map Fil.enc),.agg (f.enc.map .d)] []=some (vl ((wiF l f).map Fil.enc),[]):=by
 have q1:=without_spec l hl f.name;have hml:=woF_len l f.name;have hms:=woF_srt hs f.name;apply enterS s98 rfl;unfold wiF;generalize woF l f.name=m at *;have hpi:=pos_iff hms f.name;have hple:=pos_le m f.name;have hin:(insF m (posF m f.name) f).map Fil.enc=(m.map Fil.enc).take (posF m f.name)++[f.enc]++(m.map Fil.enc).drop (posF m f.name):=by
  rw[<- map_ins];simp
 rw[hin];generalize hpp:posF m f.name=pp at *;obtain⟨fn,fd,fs⟩:=f;simp only[Fil.enc,List.map_cons,List.map_nil] at *;(simp(disch:=first|decide|omega|(intros;exact Eq.trans rfl rfl)|simp only[puri]) only[a98,q1,go_sem,seval,dis])
 refine loop_boxM (m:=0) (σ:=Nat) (fun i=>pp-i) (fun i=>i<=pp) (fun i=>[vl (m.map Fil.enc),V.one (.p 0 0),vi i])
  (fun _=>[.cells [.d (.s fn),.d (.s fd),.d (.i .i64 fs)]]) (fun _=>(vl ((m.map Fil.enc).take pp++[[.s fn,.s fd,.i .i64 fs]]++(m.map Fil.enc).drop pp),[])) ?_ 0 (Nat.zero_le _) _ _ ?_
 rotate_left
 ·exact hdM
 intro i hi R hR;have hend:i=pp->∀ (b:Bool),True:=fun _ _=>trivial
 by_cases c:i<m.length
 ·have g1:(m.map Fil.enc)[i]?=some m[i].enc:=by simp[c]
  have hb:=hpi i c;by_cases c2:i<pp
  ·have e:Op.bytesLess m[i].name fn=true:=hb.2 c2;(simp(disch:=first|decide|omega|(intros;exact Eq.trans rfl rfl)|simp only[puri]) only[a98_0,c,g1,Fil.len,Fil.at0,e,go_sem,seval,dis])
   exact hR (i+1) (by omega) (by omega) _ _ hdM
  ·have e:Op.bytesLess m[i].name fn=false:=by
    cases h:Op.bytesLess m[i].name fn with
    | true=>exact absurd (hb.1 h) c2
    | false=>rfl
   have hip:i=pp:=by omega
   subst hip;have hb1:=bounds_hi (n:=m.length) (k:=i) (by omega)
   have hb2:=bounds_lo (n:=m.length) (k:=i) (by omega)
   have hok:okRows 3 (m.map Fil.enc)=true:=okRows_map Fil.len m;have hok1:okRows 3 ((m.map Fil.enc).take i)=true:=by rw[<- List.map_take];exact okRows_map Fil.len _
   have hok2:okRows 3 ((m.map Fil.enc).drop i)=true:=by rw[<- List.map_drop];exact okRows_map Fil.len _
   have htk:(m.map Fil.enc).take m.length=m.map Fil.enc:=List.take_of_length_le (by simp)
   have hmm:(m.map Fil.enc).length=m.length:=by simp
   generalize m.map Fil.enc=MQ at *;obtain⟨Q1,hQ1⟩:∃ Q1,MQ.take i=Q1:=⟨_,rfl⟩;obtain⟨Q2,hQ2⟩:∃ Q2,MQ.drop i=Q2:=⟨_,rfl⟩;have hq1:Q1.length<=1000000:=by rw[<- hQ1,List.length_take];omega
   have hq2:Q2.length<=1000000:=by rw[<- hQ2,List.length_drop];omega
   rw[hQ1] at hok1 ⊢;rw[hQ2] at hok2 ⊢;(simp(disch:=first|decide|omega|(intros;exact Eq.trans rfl rfl)|simp only[puri]) only[wkf,a98_0,c,g1,Fil.len,Fil.at0,e,hb1,hb2,hok,hok1,hok2,htk,hmm,hQ1,hQ2,go_sem,seval,dis,vdr,A.kind,A.xs,optX,A.isN])
   simp[trim,V.refs,L.refs,Box.refs];exact List.take_of_length_le (by simp;omega)
 ·have hip:i=pp:=by omega
  subst hip;have him:i=m.length:=by omega
  have hb1:=bounds_hi (n:=m.length) (k:=i) (by omega)
  have hb2:=bounds_lo (n:=m.length) (k:=i) (by omega)
  have hok:okRows 3 (m.map Fil.enc)=true:=okRows_map Fil.len m;have hok1:okRows 3 ((m.map Fil.enc).take i)=true:=by rw[<- List.map_take];exact okRows_map Fil.len _
  have hok2:okRows 3 ((m.map Fil.enc).drop i)=true:=by rw[<- List.map_drop];exact okRows_map Fil.len _
  have htk:(m.map Fil.enc).take m.length=m.map Fil.enc:=List.take_of_length_le (by simp)
  have hmm:(m.map Fil.enc).length=m.length:=by simp
  generalize m.map Fil.enc=MQ at *;obtain⟨Q1,hQ1⟩:∃ Q1,MQ.take i=Q1:=⟨_,rfl⟩;obtain⟨Q2,hQ2⟩:∃ Q2,MQ.drop i=Q2:=⟨_,rfl⟩;have hq1:Q1.length<=1000000:=by rw[<- hQ1,List.length_take];omega
  have hq2:Q2.length<=1000000:=by rw[<- hQ2,List.length_drop];omega
  rw[hQ1] at hok1 ⊢;rw[hQ2] at hok2 ⊢;(simp(disch:=first|decide|omega|(intros;exact Eq.trans rfl rfl)|simp only[puri]) only[wkf,a98_0,c,hb1,hb2,hok,hok1,hok2,htk,hmm,hQ1,hQ2,go_sem,seval,dis,vdr,A.kind,A.xs,optX,A.isN])
  simp[trim,V.refs,L.refs,Box.refs];exact List.take_of_length_le (by simp;omega)
theorem rchange_spec (d:Dsk) (hL:0<=d.left∧d.left<9223372036854775808) (l:List Fil) (own:Int):call 88 [.agg d.l,vl (l.map Fil.enc),vi own] []=some (dskV (chgF d (l,own)),[]):=by
 apply enterS s88 rfl;obtain⟨fl,cp,ar,lf,dn⟩:=d;unfold chgF dskV;simp only at hL ⊢;cases dn with
 | true =>
  (simp(disch:=first|decide|omega|(intros;exact Eq.trans rfl rfl)|simp only[puri]) only[wkf,a88,Dsk.l,go_sem,seval,dis])
  try simp[trim]
 | false =>
  by_cases c:own=0
  ·subst c;cases ar with
   | false =>
    (simp(disch:=first|decide|omega|(intros;exact Eq.trans rfl rfl)|simp only[puri]) only[wkf,a88,Dsk.l,go_sem,seval,dis])
    try simp[trim]
   | true =>
    by_cases c2:lf=0
    ·subst c2;(simp(disch:=first|decide|omega|(intros;exact Eq.trans rfl rfl)|simp only[puri]) only[wkf,a88,Dsk.l,go_sem,seval,dis])
     try simp[trim]
    ·have e:(lf == 0)=false:=by simpa using c2
     (simp(disch:=first|decide|omega|(intros;exact Eq.trans rfl rfl)|simp only[puri]) only[wkf,a88,Dsk.l,c2,e,go_sem,seval,dis])
     try simp[trim,c2]
  ·(simp(disch:=first|decide|omega|(intros;exact Eq.trans rfl rfl)|simp only[puri]) only[wkf,a88,Dsk.l,c,go_sem,seval,dis])
   try simp[trim,c]
theorem woF_no {l:List Fil} (hs:srt l) {n:Txt} (h:hasF l n=false):woF l n=l:=by
 unfold woF;rw[List.filter_eq_self];intro f hf;simpa using has_false hs h f hf
theorem woF_yes {l:List Fil} (hs:srt l) {n:Txt} (h:hasF l n=true):woF l n=delF l (posF l n):=by
 obtain⟨hp,he⟩:=has_at h;have hne:∀ i (hi:i<l.length),i≠posF l n->l[i].name≠n:=fun i hi h1 h2=>h1 ((name_at_iff hs n i hi).1 h2).2
 have e:l=l.take (posF l n)++(l[posF l n]::l.drop (posF l n+1)):=by rw[<- List.drop_eq_getElem_cons hp,List.take_append_drop]
 unfold woF delF;conv=>lhs;rw[e]
 rw[List.filter_append,List.filter_cons_of_neg (by simp[he]),List.filter_eq_self.2,List.filter_eq_self.2]
 ·intro f hf;obtain⟨i,hi,rfl⟩:=List.getElem_of_mem hf;rw[List.getElem_drop];rw[List.length_drop] at hi;simpa using hne _ (by omega) (by omega)
 ·intro f hf;obtain⟨i,hi,rfl⟩:=List.getElem_of_mem hf;rw[List.getElem_take];rw[List.length_take] at hi;simpa using hne _ (by omega) (by omega)
theorem pos_del {l:List Fil} (hs:srt l) {n:Txt} (h:hasF l n=true):posF (delF l (posF l n)) n=posF l n:=by
 obtain⟨hp,he⟩:=has_at h;have h1:(l.take (posF l n)).countP (fun f=>bl f.name n)=posF l n:=by
  conv=>rhs;rw[<- Nat.min_eq_left (Nat.le_of_lt hp),<- List.length_take]
  rw[List.countP_eq_length];intro f hf;obtain⟨i,hi,rfl⟩:=List.getElem_of_mem hf;rw[List.getElem_take];rw[List.length_take] at hi;exact(pos_iff hs n i (by omega)).2 (by omega)
 have h2:(l.drop (posF l n+1)).countP (fun f=>bl f.name n)=0:=by
  rw[List.countP_eq_zero];intro f hf;obtain⟨i,hi,rfl⟩:=List.getElem_of_mem hf;rw[List.getElem_drop];rw[List.length_drop] at hi;intro h3;have:=(pos_iff hs n _ (by omega)).1 h3
  omega
 unfold delF;show List.countP _ _=_;rw[List.countP_append,h1,h2];rfl
theorem wiF_no {l:List Fil} (hs:srt l) (f:Fil) (h:hasF l f.name=false):wiF l f=insF l (posF l f.name) f:=by unfold wiF;rw[woF_no hs h]
theorem wiF_yes {l:List Fil} (hs:srt l) (f:Fil) (h:hasF l f.name=true):wiF l f=l.set (posF l f.name) f:=by
 unfold wiF;rw[woF_yes hs h,pos_del hs h];obtain⟨hp,he⟩:=has_at h;generalize posF l f.name=p at *;unfold insF delF;rw[List.set_eq_take_append_cons_drop,if_pos hp];have hl:(l.take p).length=p:=by simp;omega
 congr 1
 ·rw[List.take_append_of_le_length (by omega),List.take_of_length_le (by omega)]
 ·congr 1
  rw[List.drop_append_of_le_length (by omega),List.drop_of_length_le (by omega),List.nil_append]
theorem wiF_put {l:List Fil} (hs:srt l) (f:Fil):wiF l f=putAt l f:=by
 unfold putAt;cases h:hasF l f.name with
 | true=>rw[if_pos rfl];exact wiF_yes hs f h
 | false=>rw[if_neg (by simp)];exact wiF_no hs f h
theorem findI_no {l:List Fil} {n:Txt} (h:hasF l n=false):findI l n = -1:=by unfold findI;rw[h];rfl
theorem findI_yes {l:List Fil} {n:Txt} (h:hasF l n=true):findI l n=(posF l n:Nat):=by unfold findI;rw[if_pos h]
theorem rcreate_spec (d:Dsk) (hd:d.ok) (n:Txt):call 65 [.agg d.l,vs n] []=some (dskV (chgF d (crtR d.files n)),[]):=by
 apply enterS s65 rfl;have h1:=rnamed_spec n;have h2:=rfind_spec d hd.len hd.srt n;have h3:=with_spec d.files hd.len hd.srt ⟨n,[],0⟩;have h4:=rchange_spec d hd.left [] 1;have h5:=rchange_spec d hd.left [] 8;have h6:=rchange_spec d hd.left (wiF d.files ⟨n,[],0⟩) 0;unfold crtR;cases c1:namedF n with
 | false =>
  rw[c1] at h1;rw[if_neg (by simp)]
  generalize chgF d ([],1)=r at *;obtain⟨⟨f2,cp2,ar2,lf2,dn2⟩,e2⟩:=r;obtain⟨fl,cp,ar,lf,dn⟩:=d;simp only[dskV,Dsk.l,List.map_nil] at h4 ⊢;(simp(disch:=first|decide|omega|(intros;exact Eq.trans rfl rfl)|simp only[puri]) only[wkf,a65,h1,h4,go_sem,seval,dis])
  try simp[trim]
 | true =>
  rw[c1] at h1;rw[if_pos rfl];cases c2:hasF d.files n with
  | true =>
   rw[if_pos rfl];rw[findI_yes c2] at h2;generalize chgF d ([],8)=r at *;obtain⟨⟨f2,cp2,ar2,lf2,dn2⟩,e2⟩:=r;obtain⟨fl,cp,ar,lf,dn⟩:=d;simp only[dskV,Dsk.l,List.map_nil] at h2 h5 ⊢;(simp(disch:=first|decide|omega|(intros;exact Eq.trans rfl rfl)|simp only[puri]) only[wkf,a65,h1,h2,h5,go_sem,seval,dis])
   try simp[trim]
  | false =>
   rw[if_neg (by simp)]
   rw[findI_no c2] at h2;rw[wiF_no hd.srt ⟨n,[],0⟩ c2] at h3 h6;simp only[] at h3 h6;generalize insF d.files (posF d.files n) ⟨n,[],0⟩=q at *;generalize chgF d (q,0)=r at *;obtain⟨⟨f2,cp2,ar2,lf2,dn2⟩,e2⟩:=r;obtain⟨fl,cp,ar,lf,dn⟩:=d;simp only[dskV,Dsk.l,Fil.enc,List.map_cons,List.map_nil] at h2 h3 h6 ⊢;(simp(disch:=first|decide|omega|(intros;exact Eq.trans rfl rfl)|simp only[puri]) only[wkf,a65,h1,h2,h3,h6,go_sem,seval,dis])
   try simp[trim]
theorem rdelete_spec (d:Dsk) (hd:d.ok) (n:Txt):call 46 [.agg d.l,vs n] []=some (dskV (chgF d (delR d.files n)),[]):=by
 apply enterS s46 rfl;have h2:=rfind_spec d hd.len hd.srt n;have h3:=without_spec d.files hd.len n;have h4:=rchange_spec d hd.left [] 7;have h6:=rchange_spec d hd.left (woF d.files n) 0;unfold delR;cases c2:hasF d.files n with
 | false =>
  rw[if_neg (by simp)]
  rw[findI_no c2] at h2;generalize chgF d ([],7)=r at *;obtain⟨⟨f2,cp2,ar2,lf2,dn2⟩,e2⟩:=r;obtain⟨fl,cp,ar,lf,dn⟩:=d;simp only[dskV,Dsk.l,List.map_nil] at h2 h4 ⊢;(simp(disch:=first|decide|omega|(intros;exact Eq.trans rfl rfl)|simp only[puri]) only[wkf,a46,h2,h4,go_sem,seval,dis])
  try simp[trim]
 | true =>
  rw[if_pos rfl];rw[findI_yes c2] at h2;rw[woF_yes hd.srt c2] at h3 h6;generalize delF d.files (posF d.files n)=q at *;generalize chgF d (q,0)=r at *;obtain⟨⟨f2,cp2,ar2,lf2,dn2⟩,e2⟩:=r;obtain⟨fl,cp,ar,lf,dn⟩:=d;simp only[dskV,Dsk.l] at h2 h3 h6 ⊢;(simp(disch:=first|decide|omega|(intros;exact Eq.trans rfl rfl)|simp only[puri]) only[wkf,a46,h2,h3,h6,go_sem,seval,dis])
  try simp[trim]
theorem rsync_spec (d:Dsk) (hd:d.ok) (n:Txt):call 58 [.agg d.l,vs n] []=some (dskV (chgF d (synR d.files n)),[]):=by
 apply enterS s58 rfl;have h2:=rfind_spec d hd.len hd.srt n;have h4:=rchange_spec d hd.left [] 7;unfold synR;cases c2:hasF d.files n with
 | false =>
  rw[if_neg (by simp)]
  rw[findI_no c2] at h2;generalize chgF d ([],7)=r at *;obtain⟨⟨f2,cp2,ar2,lf2,dn2⟩,e2⟩:=r;obtain⟨fl,cp,ar,lf,dn⟩:=d;simp only[dskV,Dsk.l,List.map_nil] at h2 h4 ⊢;(simp(disch:=first|decide|omega|(intros;exact Eq.trans rfl rfl)|simp only[puri]) only[wkf,a58,h2,h4,go_sem,seval,dis])
  try simp[trim]
 | true =>
  rw[if_pos rfl];rw[findI_yes c2] at h2;obtain⟨hp,he⟩:=has_at c2;rw[upd_at hp];have g1:(d.files.map Fil.enc)[posF d.files n]?=some d.files[posF d.files n].enc:=by simp[hp]
  have hdl:=data_le d.files _ hp;have hu:=hd.used;have h3:=with_spec d.files hd.len hd.srt { d.files[posF d.files n] with sure:=d.files[posF d.files n].data.length }
  have h5:=wiF_yes hd.srt { d.files[posF d.files n] with sure:=d.files[posF d.files n].data.length } (by simp only[he];exact c2)
  rw[h5] at h3;simp only[he] at h3;have hK:=rchange_spec d hd.left (d.files.set (posF d.files n) { d.files[posF d.files n] with sure:=d.files[posF d.files n].data.length }) 0
  have hpl:=hd.len;generalize posF d.files n=p at *;simp only[he] at hK ⊢;generalize d.files[p]=f at *;obtain⟨fn,fd,fs⟩:=f;simp only at he h3 hK hdl ⊢;subst he;generalize d.files.set p ⟨fn,fd,fd.length⟩=q at *;generalize chgF d (q,0)=r at *;obtain⟨⟨f2,cp2,ar2,lf2,dn2⟩,e2⟩:=r;obtain⟨fl,cp,ar,lf,dn⟩:=d;simp only[dskV,Dsk.l,Fil.enc,List.map_cons,List.map_nil] at g1 h2 h3 hK hp hpl ⊢;(simp(disch:=first|decide|omega|(intros;exact Eq.trans rfl rfl)|simp only[puri]) only[wkf,a58,h2,g1,h3,hK,go_sem,seval,dis])
  try simp[trim]
theorem rappend_spec (d:Dsk) (hd:d.ok) (n x:Txt) (hx:x.length<=1000000000000):call 56 [.agg d.l,vs n,vs x] []=some (dskV (chgF d (appR d.files d.cap n x)),[]):=by
 apply enterS s56 rfl;have h2:=rfind_spec d hd.len hd.srt n;have h4:=rchange_spec d hd.left [] 7;have h9:=rchange_spec d hd.left [] 9;have hus:=rused_spec d hd.len hd.used;have hul:=hd.used;have hcp:=hd.cap;unfold appR;cases c2:hasF d.files n with
 | false =>
  rw[if_neg (by simp)]
  rw[findI_no c2] at h2;generalize chgF d ([],7)=r at *;obtain⟨⟨f2,cp2,ar2,lf2,dn2⟩,e2⟩:=r;obtain⟨fl,cp,ar,lf,dn⟩:=d;simp only[dskV,Dsk.l,List.map_nil] at h2 h4 ⊢;(simp(disch:=first|decide|omega|(intros;exact Eq.trans rfl rfl)|simp only[puri]) only[wkf,a56,h2,h4,go_sem,seval,dis])
  try simp[trim]
 | true =>
  rw[if_pos rfl];rw[findI_yes c2] at h2;obtain⟨hp,he⟩:=has_at c2;by_cases c:0<d.cap∧d.cap-(usedF d.files:Nat)<x.length
  ·rw[if_pos c];obtain⟨c3,c4⟩:=c;have c5:d.cap<(usedF d.files:Nat)+(x.length:Int):=by omega
   generalize chgF d ([],9)=r at *;obtain⟨⟨f2,cp2,ar2,lf2,dn2⟩,e2⟩:=r;obtain⟨fl,cp,ar,lf,dn⟩:=d;have hpl:=hd.len;simp only[dskV,Dsk.l,List.map_nil] at h2 h9 hus hul hcp c3 c4 c5 hp hpl ⊢;generalize posF fl n=p at *;(simp(disch:=first|decide|omega|(intros;exact Eq.trans rfl rfl)|simp only[puri]) only[wkf,a56,h2,c3,hus,c5,h9,go_sem,seval,dis])
   try simp[trim]
  ·rw[if_neg c,upd_at hp];have g1:(d.files.map Fil.enc)[posF d.files n]?=some d.files[posF d.files n].enc:=by simp[hp]
   have hdl:=data_le d.files _ hp;have h3:=with_spec d.files hd.len hd.srt { d.files[posF d.files n] with data:=d.files[posF d.files n].data++x }
   have h5:=wiF_yes hd.srt { d.files[posF d.files n] with data:=d.files[posF d.files n].data++x } (by simp only[he];exact c2)
   rw[h5] at h3;simp only[he] at h3;have hK:=rchange_spec d hd.left (d.files.set (posF d.files n) { d.files[posF d.files n] with data:=d.files[posF d.files n].data++x }) 0
   have hpl:=hd.len;generalize posF d.files n=p at *;simp only[he] at hK ⊢;generalize d.files[p]=f at *;obtain⟨fn,fd,fs⟩:=f;simp only at he h3 hK hdl ⊢;subst he;have hfx:fd.length+x.length<=9223372036854775807:=by omega
   obtain⟨fx,hfe⟩:∃ fx,fd++x=fx:=⟨_,rfl⟩;rw[hfe] at h3 hK ⊢;generalize d.files.set p ⟨fn,fx,fs⟩=q at *;generalize chgF d (q,0)=r at *;obtain⟨⟨f2,cp2,ar2,lf2,dn2⟩,e2⟩:=r;obtain⟨fl,cp,ar,lf,dn⟩:=d;simp only[dskV,Dsk.l,Fil.enc,List.map_cons,List.map_nil] at g1 h2 h3 hK hp hpl hus hul hcp c ⊢;by_cases c3:0<cp
   ·have c5:¬ cp<(usedF fl:Nat)+(x.length:Int):=by omega
    (simp(disch:=first|decide|omega|(intros;exact Eq.trans rfl rfl)|simp only[puri]) only[wkf,a56,h2,c3,hus,c5,g1,hfe,h3,hK,go_sem,seval,dis])
    try simp[trim]
   ·(simp(disch:=first|decide|omega|(intros;exact Eq.trans rfl rfl)|simp only[puri]) only[wkf,a56,h2,c3,g1,hfe,h3,hK,go_sem,seval,dis])
    try simp[trim]
theorem rrename_spec (d:Dsk) (hd:d.ok) (n t:Txt):call 103 [.agg d.l,vs n,vs t] []=some (dskV (chgF d (renR d.files n t)),[]):=by
 apply enterS s103 rfl;have h1:=rnamed_spec t;have h2:=rfind_spec d hd.len hd.srt n;have h4:=rchange_spec d hd.left [] 7;have h9:=rchange_spec d hd.left [] 1;unfold renR;cases c2:hasF d.files n with
 | false =>
  rw[if_neg (by simp)]
  rw[findI_no c2] at h2;generalize chgF d ([],7)=r at *;obtain⟨⟨f2,cp2,ar2,lf2,dn2⟩,e2⟩:=r;obtain⟨fl,cp,ar,lf,dn⟩:=d;simp only[dskV,Dsk.l,List.map_nil] at h2 h4 ⊢;(simp(disch:=first|decide|omega|(intros;exact Eq.trans rfl rfl)|simp only[puri]) only[wkf,a103,h2,h4,go_sem,seval,dis])
  try simp[trim]
 | true =>
  rw[if_pos rfl];rw[findI_yes c2] at h2;obtain⟨hp,he⟩:=has_at c2;cases c1:namedF t with
  | false =>
   rw[c1] at h1;rw[if_neg (by simp)]
   have hpl:=hd.len;generalize chgF d ([],1)=r at *;obtain⟨⟨f2,cp2,ar2,lf2,dn2⟩,e2⟩:=r;obtain⟨fl,cp,ar,lf,dn⟩:=d;simp only[dskV,Dsk.l,List.map_nil] at h2 h9 hp hpl ⊢;generalize posF fl n=p at *;(simp(disch:=first|decide|omega|(intros;exact Eq.trans rfl rfl)|simp only[puri]) only[wkf,a103,h2,h1,h9,go_sem,seval,dis])
   try simp[trim]
  | true =>
   rw[c1] at h1;rw[if_pos rfl];have g1:(d.files.map Fil.enc)[posF d.files n]?=some d.files[posF d.files n].enc:=by simp[hp]
   have h3:=without_spec d.files hd.len n;rw[woF_yes hd.srt c2] at h3;have hds:=srt_del hd.srt (posF d.files n);have hdl:=del_len _ _ hp;have hpl:=hd.len;have hna:nameAt d.files (posF d.files n) t={ d.files[posF d.files n] with name:=t }:=by unfold nameAt;rw[List.getElem?_eq_getElem hp]
   have h5:=with_spec (delF d.files (posF d.files n)) (by omega) hds (nameAt d.files (posF d.files n) t)
   rw[wiF_put hds] at h5;generalize putAt (delF d.files (posF d.files n)) (nameAt d.files (posF d.files n) t)=q at *;have hK:=rchange_spec d hd.left q 0;rw[hna] at h5;generalize delF d.files (posF d.files n)=dq at *;generalize posF d.files n=p at *;generalize d.files[p]=f at *;obtain⟨fn,fd,fs⟩:=f;generalize chgF d (q,0)=r at *;obtain⟨⟨f2,cp2,ar2,lf2,dn2⟩,e2⟩:=r;obtain⟨fl,cp,ar,lf,dn⟩:=d;simp only[dskV,Dsk.l,Fil.enc,List.map_cons,List.map_nil] at g1 h2 h3 h5 hK hp hpl ⊢;(simp(disch:=first|decide|omega|(intros;exact Eq.trans rfl rfl)|simp only[puri]) only[wkf,a103,h2,h1,g1,h3,h5,hK,go_sem,seval,dis])
   try simp[trim]
theorem rread_spec (d:Dsk) (hl:d.files.length<=1000000) (hs:srt d.files) (n:Txt):call 59 [.agg d.l,vs n] []=some (.tup [(false,[.d (.s (readF d.files n).1)]),(false,[.d (.i .i64 (readF d.files n).2)])],[]):=by
 apply enterS s59 rfl;have h2:=rfind_spec d hl hs n;cases c2:hasF d.files n with
 | false =>
  have hr:readF d.files n=([],7):=by
   unfold readF;unfold hasF at c2;cases hf:d.files[posF d.files n]? with
   | none=>rfl
   | some f =>
    rw[hf] at c2;simp only[] at c2 ⊢;rw[if_neg (by simpa using c2)]
  rw[findI_no c2] at h2;rw[hr];obtain⟨fl,cp,ar,lf,dn⟩:=d;simp only[Dsk.l] at h2 ⊢;(simp(disch:=first|decide|omega|(intros;exact Eq.trans rfl rfl)|simp only[puri]) only[wkf,a59,h2,go_sem,seval,dis])
  try simp[trim]
 | true =>
  obtain⟨hp,he⟩:=has_at c2;have hr:readF d.files n=(d.files[posF d.files n].data,0):=by
   unfold readF;rw[List.getElem?_eq_getElem hp];simp[he]
  rw[findI_yes c2] at h2;rw[hr];have g1:(d.files.map Fil.enc)[posF d.files n]?=some d.files[posF d.files n].enc:=by simp[hp]
  generalize posF d.files n=p at *;generalize d.files[p]=f at *;obtain⟨fn,fd,fs⟩:=f;obtain⟨fl,cp,ar,lf,dn⟩:=d;simp only[Dsk.l,Fil.enc] at g1 h2 hp hl ⊢;(simp(disch:=first|decide|omega|(intros;exact Eq.trans rfl rfl)|simp only[puri]) only[wkf,a59,h2,g1,go_sem,seval,dis])
  try simp[trim]
end Go.Proofs.YthlnpioogbmogaaGreat
