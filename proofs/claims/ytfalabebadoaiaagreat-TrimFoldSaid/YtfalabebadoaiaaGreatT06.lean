import Derived.Test.YtfalabebadoaiaaGreatT05
import Derived.Test.YtfalabebadoaiaaGreatT04
import Derived.Test.YtfalabebadoaiaaGreatT03
set_option linter.unusedSimpArgs false
set_option linter.unusedVariables false
namespace Go.Proofs.YtfalabebadoaiaaGreat
open Go.Vi
def Sto.scans (s:Sto):List SR:=s.segs.map fun g=>(g,(scanS (s.txt g) g.base).1.map (·.1))
theorem scans_len {k u:Nat} {s:Sto} (h:okS k u s) (hu:u≤1000000):∀ p∈s.scans,p.2.length≤1000000:=by
 intro p hp
 simp only [Sto.scans,List.mem_map] at hp
 obtain ⟨g,hg,rfl⟩:=hp
 rw [List.length_map]
 exact Nat.le_trans (scanS_len _ _) (Nat.le_trans (readF_len _ _) (Nat.le_trans h.dsk.used hu))
def rgetT (s:Sto) (off:Int):V:=if off < 0∨s.next≤off then .tup [(true,[.d (.i .i64 0),.d (.i .i64 0),.d (.s [])]),(false,[.d (.i .i64 6)])] else seekV (recsM s.scans) off
set_option maxRecDepth 8000 in
theorem rread_any {k u:Nat} (s:Sto) (h:okS k u s) (hk:k≤800000) (hu:u≤1000000) (off:Int):call 18 [.agg s.l,vi off] []=some (rgetT s off,[]):=by
 have hall:=fun g hg=>all_spec s h hk hu g hg
 have n1:s.segs=s.scans.map (·.1):=by rw [Sto.scans,List.map_map]; exact (List.map_id s.segs).symm
 have n3:∀ p∈s.scans,((scanS (s.txt p.1) p.1.base).1.map fun x=>x.1.enc)=p.2.map Rec.enc:=by
  intro p hp
  simp only [Sto.scans,List.mem_map] at hp
  obtain ⟨g,hg,rfl⟩:=hp
  simp
 have hlen:=h.len
 have hcell:s.l=[.d (.l (s.disk.files.map Fil.enc)),.d (.i .i64 s.disk.cap),.d (.b s.disk.armed),.d (.i .i64 s.disk.left),.d (.b s.disk.down),.d (.i .i64 s.ver),.d (.l (s.segs.map Seg.enc)),.d (.i .i64 s.next),.d (.i .i64 s.sure),.d (.i .i64 s.size),.d (.i .u32 s.sum)]:=rfl
 apply enterS s18 rfl
 rw [hcell] at hall ⊢
 by_cases c1:off < 0
 ·have e:rgetT s off=.tup [(true,[.d (.i .i64 0),.d (.i .i64 0),.d (.s [])]),(false,[.d (.i .i64 6)])]:=by unfold rgetT; rw [if_pos (.inl c1)]
  rw [e]
  (simp (disch:=first|decide|omega|(intros;exact Eq.trans rfl rfl)|simp only[puri]) only [wkf,a18,c1,go_sem,seval,dis])
  try simp [trim]
 ·by_cases c2:s.next≤off
  ·have e:rgetT s off=.tup [(true,[.d (.i .i64 0),.d (.i .i64 0),.d (.s [])]),(false,[.d (.i .i64 6)])]:=by unfold rgetT; rw [if_pos (.inr c2)]
   rw [e]
   (simp (disch:=first|decide|omega|(intros;exact Eq.trans rfl rfl)|simp only[puri]) only [wkf,a18,c1,c2,go_sem,seval,dis])
   try simp [trim]
  ·have e:rgetT s off=seekV (recsM s.scans) off:=by unfold rgetT; rw [if_neg (by omega)]
   rw [e]
   obtain ⟨R,n2⟩:∃ R,recsM s.scans=R:=⟨_,rfl⟩
   rw [n2]
   have hsc:=scans_len h hu
   obtain ⟨N,hN⟩:∃ N,N=s.scans:=⟨_,rfl⟩
   rw [← hN] at n1 n2 n3 hsc
   obtain ⟨Z,hZ⟩:∃ Z:V,Z=seekV R off:=⟨_,rfl⟩
   rw [← hZ]
   (simp (disch:=first|decide|omega|(intros;exact Eq.trans rfl rfl)|simp only[puri]) only [wkf,a18,c1,c2,go_sem,seval,dis])
   have hNl:N.length=s.segs.length:=by rw [n1]; simp
   refine loop_boxM (m:=0) (σ:=Nat) (fun i=>N.length - i) (fun i=>i≤N.length∧seekV R off=seekV (recsM (N.drop i)) off) (fun i=>[vi off,V.one (.p 0 0),V.one (.p 1 0),vi i])
    (fun _=>[.cells [.d (.l (s.disk.files.map Fil.enc)),.d (.i .i64 s.disk.cap),.d (.b s.disk.armed),.d (.i .i64 s.disk.left),.d (.b s.disk.down),.d (.i .i64 s.ver),.d (.l (s.segs.map Seg.enc)),.d (.i .i64 s.next),.d (.i .i64 s.sure),.d (.i .i64 s.size),.d (.i .u32 s.sum)],.cells [.d (.i .i64 0),.d (.i .i64 0),.d (.s [])]]) (fun _=>(Z,[])) ?_ 0 ⟨Nat.zero_le _,by rw [List.drop_zero,n2]⟩ _ _ ?_
   rotate_left
   ·exact hdM
   rintro i ⟨hi,hinv⟩ K hK
   by_cases c3:i < N.length
   ·have ci:(i:Int) < (s.segs.length:Int):=by omega
    have hsi:s.segs[i]?=some N[i].1:=by rw [n1]; simp [c3]
    have hmem:N[i].1∈s.segs:=List.mem_of_getElem? hsi
    have g1:(s.segs.map Seg.enc)[i]?=some N[i].1.enc:=by rw [List.getElem?_map,hsi]; rfl
    have g2:=hall _ hmem
    rw [n3 _ (List.getElem_mem c3)] at g2
    rw [recs_cons N i c3] at hinv
    have hpl:N[i].2.length≤1000000:=hsc _ (List.getElem_mem c3)
    generalize N[i]=p at *
    obtain ⟨⟨pb,pn,pz⟩,pl⟩:=p
    simp only [Seg.enc,List.map_cons,List.map_nil] at g1 g2 hinv hpl
    (simp (disch:=first|decide|omega|(intros;exact Eq.trans rfl rfl)|simp only[puri]) only [wkf,a18_0,ci,g1,g2,go_sem,seval,dis])
    refine loop_boxM (m:=0) (σ:=Nat) (fun j=>pl.length - j) (fun j=>j≤pl.length∧seekV R off=seekV (pl.drop j++recsM (N.drop (i+1))) off) (fun j=>[vi off,V.one (.p 0 0),V.one (.p 1 0),vi i,vl (pl.map Rec.enc),vi j])
     (fun _=>[.cells [.d (.l (s.disk.files.map Fil.enc)),.d (.i .i64 s.disk.cap),.d (.b s.disk.armed),.d (.i .i64 s.disk.left),.d (.b s.disk.down),.d (.i .i64 s.ver),.d (.l (s.segs.map Seg.enc)),.d (.i .i64 s.next),.d (.i .i64 s.sure),.d (.i .i64 s.size),.d (.i .u32 s.sum)],.cells [.d (.i .i64 0),.d (.i .i64 0),.d (.s [])]]) (fun _=>(Z,[])) ?_ 0 ⟨Nat.zero_le _,hinv⟩ _ _ ?_
    rotate_left
    ·exact hdM
    rintro j ⟨hj,hinv2⟩ K2 hK2
    by_cases c4:j < pl.length
    ·have cj:(j:Int) < (pl.length:Int):=by omega
     have g3:(pl.map Rec.enc)[j]?=some pl[j].enc:=by simp [c4]
     rw [List.drop_eq_getElem_cons c4,List.cons_append] at hinv2
     generalize pl[j]=r at *
     by_cases c5:r.at_=off
     ·rw [seek_yes c5] at hinv2
      rw [hinv2] at hZ
      obtain ⟨ra,rt,rd⟩:=r
      simp only [Rec.enc,List.map_cons,List.map_nil] at g3 c5 hZ
      (simp (disch:=first|decide|omega|(intros;exact Eq.trans rfl rfl)|simp only[puri]) only [wkf,a18_1,cj,g3,c5,go_sem,seval,dis])
      rw [hZ]
      try simp [trim,c5]
     ·rw [seek_no c5] at hinv2
      obtain ⟨ra,rt,rd⟩:=r
      simp only [Rec.enc,List.map_cons,List.map_nil] at g3 c5
      (simp (disch:=first|decide|omega|(intros;exact Eq.trans rfl rfl)|simp only[puri]) only [wkf,a18_1,cj,g3,c5,go_sem,seval,dis])
      exact hK2 (j+1) (by omega) ⟨by omega,hinv2⟩ _ _ hdM
    ·have cj:¬ (j:Int) < (pl.length:Int):=by omega
     rw [List.drop_of_length_le (by omega),List.nil_append] at hinv2
     (simp (disch:=first|decide|omega|(intros;exact Eq.trans rfl rfl)|simp only[puri]) only [wkf,a18_1,cj,go_sem,seval,dis])
     exact hK (i+1) (by omega) ⟨by omega,hinv2⟩ _ _ hdM
   ·have ci:¬ (i:Int) < (s.segs.length:Int):=by omega
    rw [List.drop_of_length_le (by omega)] at hinv
    have e:seekV (recsM []) off=.tup [(true,[.d (.i .i64 0),.d (.i .i64 0),.d (.s [])]),(false,[.d (.i .i64 11)])]:=rfl
    rw [e] at hinv
    rw [hinv] at hZ
    (simp (disch:=first|decide|omega|(intros;exact Eq.trans rfl rfl)|simp only[puri]) only [wkf,a18_0,ci,go_sem,seval,dis])
    rw [hZ]
    try simp [trim]
def snapN (n:Int):Txt:=nameF 116 n.toNat
theorem snap_int {n:Int} (h:0≤n∧n≤1099511627776):call 30 [vi n] []=some (vs (snapN n),[]):=by
 apply enterS s30 rfl
 have h1:=name_spec 116 n.toNat (by omega)
 have e:(((116:UInt8).toNat:Nat):Int)=116:=rfl
 have e2:((n.toNat:Nat):Int)=n:=by omega
 rw [e,e2] at h1
 have e3:snapN n=nameF 116 n.toNat:=rfl
 rw [e3]
 (simp (disch:=first|decide|omega|(intros;exact Eq.trans rfl rfl)|simp only[puri]) only [a30,h1,go_sem,seval,dis])
 try simp [trim]
theorem rsnap_int {n:Int} (h:0≤n∧n≤1099511627776):call 45 [vi n] []=some (vs (snapN n),[]):=by
 have h1:=digits_spec n.toNat (by omega)
 have e:((n.toNat:Nat):Int)=n:=by omega
 rw [e] at h1
 have e2:snapN n=116::tailN n.toNat 13:=by
  unfold snapN nameF tailN
  congr 1
 have hl:(tailN n.toNat 13).length=13:=by simp [tailN]
 rw [e2]
 generalize tailN n.toNat 13=T at *
 have c1:¬ n < 0:=by omega
 have c2:¬ (1099511627776:Int) < n:=by omega
 apply enterS s45 rfl
 (simp (disch:=first|decide|omega|(intros;exact Eq.trans rfl rfl)|simp only[puri]) only [a45,c1,c2,h1,hl,go_sem,seval,dis])
 try simp [trim]
theorem floor_ok {k u:Nat} {s:Sto} (h:okS k u s):0≤s.floor∧s.floor≤1099511627776:=by
 have:=h.len
 unfold Sto.floor
 split
 ·omega
 ·rename_i g r he
  exact (h.seg g (by rw [he]; simp)).1
def snapT (s:Sto):Txt:=if s.floor=0 then [] else (readF s.disk.files (snapN s.floor)).1
theorem rsnap_sto {k u:Nat} (s:Sto) (h:okS k u s) (hk:k≤800000):call 13 [.agg s.l] []=some (vs (snapT s),[]):=by
 have hf:=rfloor_spec s
 have hn:=rsnap_int (floor_ok h)
 have hr:=rread_spec s.disk (Nat.le_trans h.dsk.len (by omega)) h.dsk.srt (snapN s.floor)
 have e:snapT s=if s.floor=0 then [] else (readF s.disk.files (snapN s.floor)).1:=rfl
 rw [e]
 generalize s.floor=fl at *
 generalize snapN fl=N at *
 generalize readF s.disk.files N=rf at *
 have hcell:s.l=[.d (.l (s.disk.files.map Fil.enc)),.d (.i .i64 s.disk.cap),.d (.b s.disk.armed),.d (.i .i64 s.disk.left),.d (.b s.disk.down),.d (.i .i64 s.ver),.d (.l (s.segs.map Seg.enc)),.d (.i .i64 s.next),.d (.i .i64 s.sure),.d (.i .i64 s.size),.d (.i .u32 s.sum)]:=rfl
 have hd:s.disk.l=[.d (.l (s.disk.files.map Fil.enc)),.d (.i .i64 s.disk.cap),.d (.b s.disk.armed),.d (.i .i64 s.disk.left),.d (.b s.disk.down)]:=rfl
 apply enterS s13 rfl
 rw [hcell] at hf ⊢
 rw [hd] at hr
 by_cases c:fl=0
 ·rw [if_pos c]
  (simp (disch:=first|decide|omega|(intros;exact Eq.trans rfl rfl)|simp only[puri]) only [wkf,a13,hf,c,go_sem,seval,dis])
  try simp [trim]
 ·rw [if_neg c]
  have c':(fl == 0)=false:=by simpa using c
  (simp (disch:=first|decide|omega|(intros;exact Eq.trans rfl rfl)|simp only[puri]) only [wkf,a13,hf,hn,hr,c',go_sem,seval,dis])
  try simp [trim]
theorem getR_why (t:List UInt8) (h:(getR t).2=0):whyF (getR t).1=0:=by
 unfold getR at *
 split at h
 ·exact absurd h (by decide)
 ·split at h
  ·exact absurd h (by decide)
  ·rename_i n k _ _ m j _
   by_cases c:whyF ⟨n,m,t.drop (k+j)⟩=0
   ·simp only [if_pos c]; exact c
   ·simp only [if_neg c] at h; exact absurd h c
theorem places_why (s:List UInt8):∀ (f a:Nat) (b:Int),∀ x∈(placesF f s a b).1,whyF x.1=0
 | 0,a,b,x,hx=>by simp [placesF] at hx
 | f+1,a,b,x,hx=>by
  by_cases ha:a < s.length
  ·obtain ⟨⟨t,n,e⟩,hn⟩:∃ y,nextF s a=y:=⟨_,rfl⟩
   by_cases he:e=0
   ·subst he
    by_cases hg:(getR t).2=0
    ·by_cases hb:(getR t).1.at_=b
     ·rw [placesF_step ha hn hg hb] at hx
      rcases List.mem_cons.1 hx with rfl | hx
      ·exact getR_why t hg
      ·exact places_why s f n (b+1) x hx
     ·rw [placesF_off ha hn hg hb] at hx; cases hx
    ·rw [placesF_bad ha hn hg] at hx; cases hx
   ·rw [placesF_stop ha hn he] at hx; cases hx
  ·rw [placesF_end (Nat.not_lt.1 ha)] at hx; cases hx
theorem scan_why (s:List UInt8) (b:Int):∀ x∈(scanS s b).1,whyF x.1=0:=by
 intro x hx
 unfold scanS at hx
 split at hx
 ·exact places_why s _ _ _ x hx
 ·cases hx
theorem why_len {r:Rec} (h:whyF r=0):r.da.length≤64:=by
 unfold whyF at h
 split at h
 ·split at h
  ·assumption
  ·exact absurd h (by decide)
 ·exact absurd h (by decide)
def dataT (s:Sto) (off:Int):List UInt8:=if off < 0∨s.next≤off then [] else match (recsM s.scans).find? (fun r=>decide (r.at_=off)) with
 | some r=>r.da
 | none=>[]
theorem rget_eq (s:Sto) (off:Int):∃ a b e,rgetT s off=.tup [(true,[.d (.i .i64 a),.d (.i .i64 b),.d (.s (dataT s off))]),(false,[.d (.i .i64 e)])]:=by
 unfold rgetT dataT
 split
 ·exact ⟨_,_,_,rfl⟩
 ·unfold seekV
  cases (recsM s.scans).find? (fun r=>decide (r.at_=off)) with
  | none=>exact ⟨_,_,_,rfl⟩
  | some r=>exact ⟨r.at_,r.ti,0,rfl⟩
theorem data_len (s:Sto) (off:Int):(dataT s off).length≤64:=by
 unfold dataT
 split
 ·simp
 ·cases hf:(recsM s.scans).find? (fun r=>decide (r.at_=off)) with
  | none=>simp
  | some r =>
   have hm:=List.mem_of_find?_eq_some hf
   simp only [recsM,Sto.scans,List.flatMap_map,List.mem_flatMap,List.mem_map] at hm
   obtain ⟨g,_,x,hx,rfl⟩:=hm
   exact why_len (scan_why _ _ x hx)
theorem tw_filt (P Q:Pr→Bool) (h:∀ p,P p=true→Q p=false):∀ l:List Pr,(l.takeWhile P).length+(l.filter Q).length≤l.length
 | []=>by simp
 | x::r=>by
  rw [List.takeWhile_cons,List.filter_cons]
  by_cases hp:P x=true
  ·have hq:=h x hp
   have:=tw_filt P Q h r
   simp [hp,hq]; omega
  ·have h2:(r.filter Q).length≤r.length:=List.length_filter_le _ _
   rw [if_neg hp]
   by_cases hq:Q x=true <;> simp [hq] <;> omega
theorem step_len (l:List Pr) (d:List UInt8):(stepF l d).length≤l.length+1:=by
 cases d with
 | nil=>simp [stepF]
 | cons c r =>
  have h1:=tw_filt (fun p=>decide (p.key < (c.toNat:Int))) (fun p=>decide ((c.toNat:Int) < p.key)) (fun p hp=>by simp at hp ⊢; omega) l
  simp only [stepF,List.length_append]
  split <;> simp at h1 ⊢ <;> omega
def okP (l:List Pr):Prop:=∀ p∈l,(0≤p.key∧p.key < 256)∧p.val.length≤64
theorem step_ok {l:List Pr} (h:okP l) {d:List UInt8} (hd:d.length≤64):okP (stepF l d):=by
 cases d with
 | nil=>exact h
 | cons c r =>
  intro p hp
  simp only [stepF,List.mem_append] at hp
  rcases hp with (hp | hp) | hp
  ·exact h p ((List.takeWhile_sublist _).subset hp)
  ·split at hp
   ·cases hp
   ·rw [List.mem_singleton] at hp
    subst hp
    have:=UInt8.toNat_lt c
    simp at hd
    exact ⟨⟨by simp only []; omega,by simp only []; omega⟩,by simp only []; omega⟩
  ·exact h p (List.mem_filter.1 hp).1
theorem pars_ok (s:List UInt8):∀ (n a:Nat) (out:List Pr) (r:List Pr × Nat),parsF s n a out=some r→(∀ p∈out,0≤p.key∧p.key < 256)→(∀ p∈r.1,0≤p.key∧p.key < 256)∧r.1.length=out.length+n
 | 0,a,out,r,h,ho=>by simp only [parsF] at h; cases h; exact ⟨ho,rfl⟩
 | n+1,a,out,r,h,ho=>by
  simp only [parsF] at h
  split at h
  ·rename_i p b hp
   have hk:0≤p.key∧p.key < 256:=by
    unfold pairF at hp
    split at hp
    ·split at hp
     ·cases hp
     ·cases hp
      have:=UInt8.toNat_lt (s[a]?.getD 0)
      exact ⟨by simp only []; omega,by simp only []; omega⟩
    ·cases hp
   have:=pars_ok s n b (out++[p]) r h (fun q hq=>by
    rcases List.mem_append.1 hq with hq | hq
    ·exact ho q hq
    ·rw [List.mem_singleton.1 hq]; exact hk)
   refine ⟨this.1,?_⟩
   rw [this.2]; simp; omega
  ·cases h
theorem right_val {l:List Pr} (h:rightF l=true):∀ p∈l,p.val.length≤64:=by
 intro p hp
 obtain ⟨i,hi,rfl⟩:=List.getElem_of_mem hp
 have:=(List.all_eq_true.1 h) i (by simpa using hi)
 simp only [atOk,List.getElem?_eq_getElem hi,prOk,Bool.and_eq_true,decide_eq_true_eq] at this
 omega
theorem parse_ok {s:List UInt8} {l:List Pr} (h:parseF s=some l):okP l∧l.length≤256:=by
 unfold parseF at h
 split at h
 ·rename_i n k _
  split at h
  ·cases h
  ·rename_i hn
   unfold endF at h
   split at h
   ·rename_i out a ho
    split at h
    ·rename_i hc
     cases h
     have:=pars_ok s n k [] _ ho (fun p hp=>by cases hp)
     have hv:=right_val hc.2
     refine ⟨fun p hp=>⟨this.1 p hp,hv p hp⟩,?_⟩
     rw [this.2]; simp; omega
    ·cases h
   ·cases h
 ·cases h
def runF (s:Sto):Nat→Int→List Pr→List Pr
 | 0,_,l=>l
 | n+1,i,l=>runF s n (i+1) (stepF l (dataT s i))
def stateT (s:Sto) (off:Int):List Pr:=runF s (off - s.floor).toNat s.floor ((parseF (snapT s)).getD [])
theorem run_ok (s:Sto):∀ (n:Nat) (i:Int) (l:List Pr),okP l→okP (runF s n i l)∧(runF s n i l).length≤l.length+n
 | 0,i,l,h=>⟨h,by simp [runF]⟩
 | n+1,i,l,h=>by
  have h1:=run_ok s n (i+1) (stepF l (dataT s i)) (step_ok h (data_len s i))
  have h2:=step_len l (dataT s i)
  exact ⟨h1.1,by simp only [runF]; omega⟩
theorem state_ok (s:Sto) (off:Int):okP (stateT s off)∧(stateT s off).length≤256+(off - s.floor).toNat:=by
 have h:okP ((parseF (snapT s)).getD [])∧((parseF (snapT s)).getD []).length≤256:=by
  cases hp:parseF (snapT s) with
  | none=>exact ⟨fun p hp=>(by simp at hp),by simp⟩
  | some l=>exact parse_ok hp
 have:=run_ok s (off - s.floor).toNat s.floor _ h.1
 exact ⟨this.1,by unfold stateT; omega⟩
set_option maxRecDepth 8000 in
set_option maxHeartbeats 1000000 in
theorem rstate_sto {k u:Nat} (s:Sto) (h:okS k u s) (hk:k≤800000) (hu:u≤1000000) (off:Int) (ho:off≤s.floor+100000):call 17 [.agg s.l,vi off] []=some (vl ((stateT s off).map Pr.enc),[]):=by
 have hf:=rfloor_spec s
 have hfb:=floor_ok h
 have hs:=rsnap_sto s h hk
 have hsl:(snapT s).length≤1000000:=by
  unfold snapT
  split
  ·simp
  ·exact Nat.le_trans (readF_len _ _) (Nat.le_trans h.dsk.used hu)
 have hp:=parse_ref (snapT s) (by omega)
 have hpv:∃ ok:Bool,parseV (parseF (snapT s))=.tup [(false,[.d (.l (((parseF (snapT s)).getD []).map Pr.enc))]),(false,[.d (.b ok)])]:=by
  cases parseF (snapT s) with
  | none=>exact ⟨false,rfl⟩
  | some l=>exact ⟨true,rfl⟩
 have hl0:((parseF (snapT s)).getD []).length≤256:=by
  cases hp:parseF (snapT s) with
  | none=>simp
  | some l=>exact (parse_ok hp).2
 have hg:=fun i=>rread_any s h hk hu i
 obtain ⟨Z,hZ⟩:∃ Z:V,Z=vl ((stateT s off).map Pr.enc):=⟨_,rfl⟩
 rw [← hZ]
 have hZ':Z=vl ((runF s (off - s.floor).toNat s.floor ((parseF (snapT s)).getD [])).map Pr.enc):=hZ
 clear hZ
 obtain ⟨ok,hpv⟩:=hpv
 rw [hpv] at hp
 generalize (parseF (snapT s)).getD []=l0 at *
 generalize snapT s=sn at *
 have hcell:s.l=[.d (.l (s.disk.files.map Fil.enc)),.d (.i .i64 s.disk.cap),.d (.b s.disk.armed),.d (.i .i64 s.disk.left),.d (.b s.disk.down),.d (.i .i64 s.ver),.d (.l (s.segs.map Seg.enc)),.d (.i .i64 s.next),.d (.i .i64 s.sure),.d (.i .i64 s.size),.d (.i .u32 s.sum)]:=rfl
 apply enterS s17 rfl
 rw [hcell] at hf hs hg ⊢
 obtain ⟨fl,hfl⟩:∃ fl,fl=s.floor:=⟨_,rfl⟩
 rw [← hfl] at hf hfb hZ' ho
 (simp (disch:=first|decide|omega|(intros;exact Eq.trans rfl rfl)|simp only[puri]) only [wkf,a17,hf,hs,hp,go_sem,seval,dis])
 refine loop_boxM (m:=0) (σ:=Int × List Pr) (fun t=>(off - t.1).toNat) (fun t=>fl≤t.1∧t.2.length≤256+(t.1 - fl).toNat∧Z=vl ((runF s (off - t.1).toNat t.1 t.2).map Pr.enc)) (fun t=>[vi off,V.one (.p 0 0),vl (t.2.map Pr.enc),vi t.1])
  (fun _=>[.cells [.d (.l (s.disk.files.map Fil.enc)),.d (.i .i64 s.disk.cap),.d (.b s.disk.armed),.d (.i .i64 s.disk.left),.d (.b s.disk.down),.d (.i .i64 s.ver),.d (.l (s.segs.map Seg.enc)),.d (.i .i64 s.next),.d (.i .i64 s.sure),.d (.i .i64 s.size),.d (.i .u32 s.sum)]]) (fun _=>(Z,[])) ?_ (fl,l0) ⟨Int.le_refl _,by simp only []; omega,hZ'⟩ _ _ hdM
 rintro ⟨i,l⟩ ⟨h1,h2,h3⟩ R hR
 simp only at h1 h2 h3
 by_cases hi:i < off
 ·obtain ⟨n,hn⟩:∃ n,(off - i).toNat=n+1:=⟨(off - i).toNat - 1,by omega⟩
  rw [hn,runF] at h3
  obtain ⟨a,b,e,he⟩:=rget_eq s i
  have hgi:=hg i
  rw [he] at hgi
  have hst:=step_ref l (by omega) (dataT s i) (Nat.le_trans (data_len s i) (by decide))
  have hsl:=step_len l (dataT s i)
  have hR':=hR (i+1,stepF l (dataT s i)) (by simp only []; omega) ⟨by simp only []; omega,by simp only []; omega,by simp only []; rw [show (off - (i+1)).toNat=n by omega]; exact h3⟩
  generalize stepF l (dataT s i)=l1 at *
  generalize dataT s i=dd at *
  (simp (disch:=first|decide|omega|(intros;exact Eq.trans rfl rfl)|simp only[puri]) only [wkf,a17_0,decide_eq_true hi,hgi,hst,go_sem,seval,dis])
  exact hR' _ _ hdM
 ·have e:(off - i).toNat=0:=by omega
  rw [e,runF] at h3
  rw [h3]
  (simp (disch:=first|decide|omega|(intros;exact Eq.trans rfl rfl)|simp only[puri]) only [wkf,a17_0,a17,decide_eq_false hi,go_sem,seval,dis])
  try simp [trim]
theorem undo13_spec (d:Dsk) (hd:d.ok) (e:Int) (n:Txt):call 49 [.agg d.l,vi e,vs n] []=some (dskV (unlS n (d,e)),[]):=by
 have h:=rdelete_spec d hd n
 have e1:delS n (d,0)=chgF d (delR d.files n):=stp_ye _ _
 have eu:unlS n (d,e)=if e≠9 then (d,e) else if (chgF d (delR d.files n)).2=0 then ((chgF d (delR d.files n)).1,9) else chgF d (delR d.files n):=by
  unfold unlS; simp only [e1]
 rw [eu]
 generalize chgF d (delR d.files n)=q at *
 obtain ⟨⟨fl,cp,ar,lf,dn⟩,qe⟩:=q
 obtain ⟨fl0,cp0,ar0,lf0,dn0⟩:=d
 simp only [dskV,Dsk.l] at h ⊢
 apply enterS s49 rfl
 by_cases c:e=9
 ·subst c
  rw [if_neg (by simp)]
  by_cases c2:qe=0
  ·subst c2
   rw [if_pos rfl]
   (simp (disch:=first|decide|omega|(intros;exact Eq.trans rfl rfl)|simp only[puri]) only [wkf,a49,h,go_sem,seval,dis])
   try simp [trim]
  ·rw [if_neg c2]
   (simp (disch:=first|decide|omega|(intros;exact Eq.trans rfl rfl)|simp only[puri]) only [wkf,a49,h,c2,go_sem,seval,dis])
   try simp [trim,c2]
 ·rw [if_pos c]
  (simp (disch:=first|decide|omega|(intros;exact Eq.trans rfl rfl)|simp only[puri]) only [wkf,a49,c,go_sem,seval,dis])
  try simp [trim,c]
def sumT (x:Txt):Int:=(((crcOn 0#32 x).toNat:Nat):Int)
theorem sumT_lt (x:Txt):0≤sumT x∧sumT x < 4294967296:=by
 have:=(crcOn 0#32 x).isLt
 unfold sumT; omega
def layT (d:Dsk) (n x:Txt) (m:Man):Dsk × Int :=
 let a:=crtS n (d,0)
 let b:=if a.2=0 then unlS n (appS n x a) else a
 let c:=synS n b
 if c.2=0 then unlS n (swapS m c) else c
def delsF (l:List Seg) (s:Dsk × Int):Dsk × Int:=l.foldl (fun s g=>delS (fileN g.base) s) s
def oldT (s:Sto) (k:Nat) (q:Dsk × Int):Dsk × Int :=
 let r:=delsF (s.segs.take k) q
 if r.2=0∧0 < s.floor then delS (snapN s.floor) r else r
def baseF (l:List Seg) (k:Nat):Int:=match l[k]? with | some g=>g.base | none=>0
def trimX (s:Sto) (k:Nat):Sto:={ s with ver:=s.ver+1,segs:=s.segs.drop k,size:=((bytesF (stateT s (baseF s.segs k))).length:Nat),sum:=sumT (bytesF (stateT s (baseF s.segs k))) }
def trimK (s:Sto) (k:Nat):Sto × Int :=
 let e:=layT s.disk (snapN (baseF s.segs k)) (bytesF (stateT s (baseF s.segs k))) (trimX s k).man
 if e.2≠0 then ({ s with disk:=e.1 },e.2) else ({ trimX s k with disk:=(oldT s k e).1 },(oldT s k e).2)
def trimT (s:Sto) (keep count:Int):Sto × Int:=if pickF s.segs keep count=0 then (s,0) else trimK s (pickF s.segs keep count)
theorem dels_ok {k u:Nat}:∀ (l:List Seg) (s:Dsk × Int),okN k u s.1→okN k u (delsF l s).1
 | [],s,h=>h
 | g::l,s,h=>dels_ok l _ (del_okN h _)
theorem old_ok {k u:Nat} {s:Sto} {n:Nat} {q:Dsk × Int} (h:okN k u q.1):okN k u (oldT s n q).1:=by
 unfold oldT
 simp only []
 split
 ·exact del_okN (dels_ok _ _ h) _
 ·exact dels_ok _ _ h
theorem lay_ok {k u:Nat} {d:Dsk} (h:okN k u d) (n x:Txt) (m:Man):okN (k+2) (u+x.length+800) (layT d n x m).1:=by
 unfold layT
 simp only []
 have h1:=crt_ok (s:=(d,0)) h n
 have h2:okN (k+1) (u+x.length) (if (crtS n (d,0)).2=0 then unlS n (appS n x (crtS n (d,0))) else crtS n (d,0)).1:=by
  split
  ·exact unl_ok (app_ok h1 n x) n
  ·exact h1.up (by omega) (by omega)
 generalize (if (crtS n (d,0)).2=0 then unlS n (appS n x (crtS n (d,0))) else crtS n (d,0))=b at *
 have h3:=syn_ok h2 n
 split
 ·exact unl_ok (swap_okN h3 m) n
 ·exact h3.up (by omega) (by omega)
theorem enc_len9 (n:Nat) (h:n < 9223372036854775808):(enc128 n).length≤9:=nd_le9 h
theorem bytes_len {l:List Pr} (h:okP l) (hl:l.length≤1000000):(bytesF l).length≤9+74*l.length:=by
 have h1:∀ l:List Pr,okP l→(l.flatMap prB).length≤74*l.length:=by
  intro l
  induction l with
  | nil=>intro _; simp
  | cons p r ih =>
   intro h
   have hp:=(h p (by simp)).2
   have hr:=ih (fun q hq=>h q (by simp [hq]))
   have he:=enc_len9 p.val.length (by omega)
   rw [List.flatMap_cons,List.length_append]
   simp only [prB,List.length_cons,List.length_append]
   omega
 have h2:=h1 l h
 have h3:=enc_len9 l.length (by omega)
 unfold bytesF
 rw [List.length_append]; omega
theorem base_at {l:List Seg} {k:Nat} (h:k < l.length):l[k]?=some l[k]∧baseF l k=l[k].base:=by
 have e:l[k]?=some l[k]:=List.getElem?_eq_getElem h
 exact ⟨e,by unfold baseF; rw [e]⟩
theorem base_ok {k u:Nat} {s:Sto} (h:okS k u s) {n:Nat} (hn:n < s.segs.length):0≤baseF s.segs n∧baseF s.segs n≤1099511627776:=by
 rw [(base_at hn).2]; exact (h.seg _ (List.getElem_mem hn)).1
theorem trimK_ok {k u:Nat} {s:Sto} (h:okS k u s) {n:Nat} (hn:n < s.segs.length) (hb:baseF s.segs n≤s.floor+40):okS (k+2) (u+23000) (trimK s n).1:=by
 have hs:=state_ok s (baseF s.segs n)
 have hlen:=bytes_len hs.1 (by omega)
 have hl:=lay_ok h.dsk (snapN (baseF s.segs n)) (bytesF (stateT s (baseF s.segs n))) (trimX s n).man
 have hl':=hl.up (k':=k+2) (u':=u+23000) (Nat.le_refl _) (by omega)
 unfold trimK
 simp only []
 split
 ·exact ⟨hl',h.len,fun g hg=>by have:=h.seg g hg; omega,h.next,by have:=h.ver; simp only []; omega,h.sum⟩
 ·refine ⟨old_ok hl',?_,fun g hg=>?_,h.next,?_,sumT_lt _⟩
  ·show 1≤(s.segs.drop n).length∧(s.segs.drop n).length≤64
   have:=h.len; simp; omega
  ·have:=h.seg g (List.mem_of_mem_drop hg); omega
  ·show 0≤s.ver+1∧s.ver+1≤((u+23000:Nat):Int)
   have:=h.ver; omega
theorem dels_no {s:Dsk × Int} (h:s.2≠0):∀ l:List Seg,delsF l s=s
 | []=>rfl
 | g::l=>by
  have e:delsF (g::l) s=delsF l (delS (fileN g.base) s):=rfl
  rw [e,show delS (fileN g.base) s=s from stp_no h _]
  exact dels_no h l
theorem dels_at {l:List Seg} {i n:Nat} (hi:i < n) (h:i < l.length) (s:Dsk × Int):delsF ((l.take n).drop i) s=delsF ((l.take n).drop (i+1)) (delS (fileN l[i].base) s):=by
 rw [List.drop_eq_getElem_cons (by simp; omega),List.getElem_take]; rfl
theorem okS.segsB {k u:Nat} {s:Sto} (h:okS k u s) (hu:u≤1000000):segsB s.segs :=
 ⟨by have:=h.len; omega,fun g hg=>by have:=h.seg g hg; omega⟩
set_option maxRecDepth 20000 in
set_option maxHeartbeats 4000000 in
theorem rtrim_spec {k u:Nat} (s:Sto) (h:okS k u s) (hk:k≤700000) (hu:u≤1000000) (keep count:Int) (hb:∀ g∈s.segs,g.base≤s.floor+40):call 10 [.agg s.l,vi keep,vi count] []=some (stoV (trimT s keep count),[]):=by
 have q1:=pick_spec s.segs (h.segsB (by omega)) keep count
 by_cases c0:pickF s.segs keep count=0
 ·have e:trimT s keep count=(s,0):=by unfold trimT; rw [if_pos c0]
  rw [e]
  rw [c0] at q1
  have z0:((0:Nat):Int)=0:=rfl
  rw [z0] at q1
  obtain ⟨⟨fl,cp,ar,lf,dn⟩,ver,segs,next,sure,size,sum⟩:=s
  simp only [Sto.l,Dsk.l,stoV,List.cons_append,List.nil_append] at q1 ⊢
  apply enterS s10 rfl
  (simp (disch:=first|decide|omega|(intros;exact Eq.trans rfl rfl)|simp only[puri]) only [wkf,a10,q1,go_sem,seval,dis])
  try simp [trim]
 ·have hn:=pickF_lt s.segs keep count c0
  have e:trimT s keep count=trimK s (pickF s.segs keep count):=by unfold trimT; rw [if_neg c0]
  rw [e]
  clear e
  generalize pickF s.segs keep count=n at *
  have hfb:=base_ok h hn
  have hbk:baseF s.segs n≤s.floor+40:=by rw [(base_at hn).2]; exact hb _ (List.getElem_mem hn)
  have q2:(s.segs.map Seg.enc)[n]?=some [.i .i64 (baseF s.segs n),.i .i64 s.segs[n].n,.i .i64 s.segs[n].size]:=by
   rw [List.getElem?_map,(base_at hn).1,(base_at hn).2]; rfl
  have q3:=rsnap_int hfb
  have q4:=rstate_sto s h (by omega) (by omega) (baseF s.segs n) (by omega)
  have hst:=state_ok s (baseF s.segs n)
  have hfo:=floor_ok h
  have hxl:=bytes_len hst.1 (by omega)
  have q5:=bytes_ref (stateT s (baseF s.segs n)) (by omega) (by omega) (fun p hp=>(hst.1 p hp).1)
  have q6:=rcreate_spec s.disk (h.dsk.ok (by omega) (by omega)) (snapN (baseF s.segs n))
  have e6:crtS (snapN (baseF s.segs n)) (s.disk,0)=chgF s.disk (crtR s.disk.files (snapN (baseF s.segs n))):=stp_ye _ _
  have k6:=crt_ok (s:=(s.disk,0)) h.dsk (snapN (baseF s.segs n))
  have q10:=refOf_spec (bytesF (stateT s (baseF s.segs n))) (by omega)
  have hsum:=sumT_lt (bytesF (stateT s (baseF s.segs n)))
  have es:sumT (bytesF (stateT s (baseF s.segs n)))=(((crcOn 0#32 (bytesF (stateT s (baseF s.segs n)))).toNat:Nat):Int):=rfl
  rw [← es] at q10
  have hxm:(trimX s n).segs.length≤1000000:=by show (s.segs.drop n).length≤_; have:=h.len; simp; omega
  have q11:=rman_spec (trimX s n) hxm
  have hmo:(trimX s n).man.ok:=⟨by show ((s.segs.drop n).map _).length≤_; rw [List.length_map]; exact hxm,hsum⟩
  have eX:trimX s n={ s with ver:=s.ver+1,segs:=s.segs.drop n,size:=((bytesF (stateT s (baseF s.segs n))).length:Nat),sum:=sumT (bytesF (stateT s (baseF s.segs n))) }:=rfl
  have hX2:(bytesF (stateT s (baseF s.segs n))).length≤1000000:=by omega
  unfold trimK layT
  simp only []
  rw [e6] at k6 ⊢
  have hfin:∀ q,oldT s n q=oldT s n q:=fun _=>rfl
  generalize stateT s (baseF s.segs n)=st at *
  generalize bytesF st=X at *
  generalize snapN (baseF s.segs n)=N at *
  generalize baseF s.segs n=fb at *
  generalize chgF s.disk (crtR s.disk.files N)=a at *
  apply enterS s10 rfl
  have hver:=h.ver
  have hok:okRows 3 (s.segs.map Seg.enc)=true:=okRows_map Seg.len s.segs
  have hslen:s.segs.length≤64:=h.len.2
  have hnl:n≤s.segs.length:=Nat.le_of_lt hn
  obtain ⟨DQ,hDQ,hokd,hdl,hdl2⟩:∃ DQ,List.drop n (s.segs.map Seg.enc)=DQ∧okRows 3 DQ=true∧DQ.length≤64∧DQ=(s.segs.drop n).map Seg.enc:=by
   have e:List.drop n (s.segs.map Seg.enc)=(s.segs.drop n).map Seg.enc:=by rw [List.map_drop]
   exact ⟨_,rfl,by rw [e]; exact okRows_map Seg.len _,by rw [e]; simp; omega,e⟩
  by_cases c1:a.2=0
  ·rw [if_pos c1]
   have e7:appS N X a=chgF a.1 (appR a.1.files a.1.cap N X):=if_pos c1
   have q7:=rappend_spec a.1 (k6.ok (by omega) (by omega)) N X (by omega)
   have k7:=app_ok k6 N X
   rw [e7] at k7 ⊢
   generalize chgF a.1 (appR a.1.files a.1.cap N X)=p at *
   have q8:=undo13_spec p.1 (k7.ok (by omega) (by omega)) p.2 N
   have k8:=unl_ok k7 N
   have ep:unlS N (p.1,p.2)=unlS N p:=rfl
   rw [ep] at q8
   generalize unlS N p=b at *
   by_cases c2:b.2=0
   ·have e9:synS N b=chgF b.1 (synR b.1.files N):=if_pos c2
    have q9:=rsync_spec b.1 (k8.ok (by omega) (by omega)) N
    have k9:=syn_ok k8 N
    rw [e9] at k9 ⊢
    generalize chgF b.1 (synR b.1.files N)=c at *
    by_cases c3:c.2=0
    ·rw [if_pos c3]
     have q12:=rswap_spec c.1 k9 (by omega) (by omega) (trimX s n).man hmo
     have ec:swapS (trimX s n).man (c.1,0)=swapS (trimX s n).man c:=by rw [← c3]
     have k10:=swap_okN k9 (trimX s n).man
     rw [ec] at q12
     generalize swapS (trimX s n).man c=w at *
     have q13:=undo13_spec w.1 (k10.ok (by omega) (by omega)) w.2 N
     have k11:=unl_ok k10 N
     have ew:unlS N (w.1,w.2)=unlS N w:=rfl
     rw [ew] at q13
     generalize unlS N w=v at *
     by_cases c4:v.2=0
     ·rw [if_neg (by simp [c4])]
      have hsg:(trimX s n).segs.map Seg.enc=DQ:=hdl2.symm
      have qf:=rfloor_spec s
      have qs:=rsnap_int hfo
      have hseg:=h.seg
      obtain ⟨fl',hfl'⟩:∃ fl',fl'=s.floor:=⟨_,rfl⟩
      have eold:oldT s n v=(if (delsF (s.segs.take n) v).2=0∧0 < fl' then delS (snapN fl') (delsF (s.segs.take n) v) else delsF (s.segs.take n) v):=by rw [hfl']; rfl
      rw [eold]
      rw [← hfl'] at qf qs hfo
      clear eold hfl' hfin hbk hb
      generalize snapN fl'=FN at *
      obtain ⟨Z,hZ⟩:∃ Z:V,Z=stoV ({ trimX s n with disk:=(if (delsF (s.segs.take n) v).2=0∧0 < fl' then delS FN (delsF (s.segs.take n) v) else delsF (s.segs.take n) v).1 },(if (delsF (s.segs.take n) v).2=0∧0 < fl' then delS FN (delsF (s.segs.take n) v) else delsF (s.segs.take n) v).2):=⟨_,rfl⟩
      rw [← hZ]
      generalize hQ:delsF (s.segs.take n) v=Q at hZ
      obtain ⟨⟨fl,cp,ar,lf,dn⟩,ver,segs,next,sure,size,sum⟩:=s
      obtain ⟨⟨fl1,cp1,ar1,lf1,dn1⟩,a2⟩:=a
      obtain ⟨⟨fl2,cp2,ar2,lf2,dn2⟩,p2⟩:=p
      obtain ⟨⟨fl3,cp3,ar3,lf3,dn3⟩,b2⟩:=b
      obtain ⟨⟨fl4,cp4,ar4,lf4,dn4⟩,c2'⟩:=c
      obtain ⟨⟨fl5,cp5,ar5,lf5,dn5⟩,w2⟩:=w
      obtain ⟨⟨fl6,cp6,ar6,lf6,dn6⟩,v2⟩:=v
      simp only at c1 c2 c3 c4
      subst c1 c2 c3 c4
      simp only [Sto.l,Dsk.l,stoV,dskV,Sto.man,Man.l,eX,List.cons_append,List.nil_append] at q1 q2 q4 q6 q7 q8 q9 q11 q12 q13 hok hnl hDQ hsg hver hZ hQ k11 hseg hn qf hslen ⊢
      rw [hsg] at q11 hZ
      (simp (disch:=first|decide|omega|(intros;exact Eq.trans rfl rfl)|simp only[puri]) only [wkf,a10,q1,q2,q3,q4,q5,q6,q7,q8,q9,q10,c0,hok,hnl,hDQ,hokd,↓iso_callzA_e,czKA_a,splitS,allD,czR_some,q11,q12,q13,go_sem,seval,dis,vdr,A.kind,A.xs,optX,A.isN])
      refine loop_boxM (m:=0) (σ:=Nat × (Dsk × Int)) (fun t=>n - t.1) (fun t=>t.1≤n∧okN (k+1+1) (u+X.length+800) t.2.1∧delsF ((segs.take n).drop t.1) t.2=Q) (fun t=>[V.one (.p 0 0),V.one (.p 1 0),vi n,V.one (.p 2 0),vi t.2.2,V.one (.p 3 0),vi t.1])
       (fun t=>[.cells [.d (.l (fl.map Fil.enc)),.d (.i .i64 cp),.d (.b ar),.d (.i .i64 lf),.d (.b dn),.d (.i .i64 ver),.d (.l (segs.map Seg.enc)),.d (.i .i64 next),.d (.i .i64 sure),.d (.i .i64 size),.d (.i .u32 sum)],
        .cells [.ns,.d (.i .i64 0),.d (.b false),.d (.i .i64 0),.d (.b false),.d (.i .i64 0),.ns,.d (.i .i64 0),.d (.i .i64 0),.d (.i .i64 0),.d (.i .u32 0)],
        .cells [.d (.l (t.2.1.files.map Fil.enc)),.d (.i .i64 t.2.1.cap),.d (.b t.2.1.armed),.d (.i .i64 t.2.1.left),.d (.b t.2.1.down)],
        .cells [.d (.l (fl.map Fil.enc)),.d (.i .i64 cp),.d (.b ar),.d (.i .i64 lf),.d (.b dn),.d (.i .i64 (ver+1)),.sl 4 3 0 DQ.length,.d (.i .i64 next),.d (.i .i64 sure),.d (.i .i64 X.length),.d (.i .u32 (sumT X))],
        .arr 3 DQ (max 0 DQ.length)]) (fun _=>(Z,[])) ?_ (0,(⟨fl6,cp6,ar6,lf6,dn6⟩,0)) ⟨Nat.zero_le _,k11,by simpa using hQ⟩ _ _ ?_
      rotate_left
      ·exact hdM
      rintro ⟨i,⟨⟨dfl,dcp,dar,dlf,ddn⟩,de⟩⟩ ⟨h1,h2,h3⟩ R hR
      simp only at h1 h2 h3 ⊢
      clear q1 q3 q4 q5 q6 q7 q8 q9 q10 q11 q12 q13 hQ q2
      have htk:List.take DQ.length DQ=DQ:=List.take_length
      by_cases he:de=0
      ·subst he
       by_cases hi:i < n
       ·have hil:i < segs.length:=by omega
        have g1:(segs.map Seg.enc)[i]?=some [.i .i64 segs[i].base,.i .i64 segs[i].n,.i .i64 segs[i].size]:=by
         rw [List.getElem?_map,List.getElem?_eq_getElem hil]; rfl
        have g2:=rseg_spec (hseg _ (List.getElem_mem hil)).1
        have g3:=rdelete_spec ⟨dfl,dcp,dar,dlf,ddn⟩ (h2.ok (by omega) (by omega)) (fileN segs[i].base)
        have kk:=del_okN (s:=(⟨dfl,dcp,dar,dlf,ddn⟩,0)) h2 (fileN segs[i].base)
        have e1:delS (fileN segs[i].base) (⟨dfl,dcp,dar,dlf,ddn⟩,0)=chgF ⟨dfl,dcp,dar,dlf,ddn⟩ (delR dfl (fileN segs[i].base)):=stp_ye _ _
        rw [dels_at hi hil] at h3
        rw [e1] at h3 kk
        simp only at g3
        generalize chgF ⟨dfl,dcp,dar,dlf,ddn⟩ (delR dfl (fileN segs[i].base))=q at *
        have hR':=hR (i+1,q) (by simp only []; omega) ⟨by simp only []; omega,kk,h3⟩
        generalize fileN segs[i].base=FB at *
        obtain ⟨⟨qfl,qcp,qar,qlf,qdn⟩,qe⟩:=q
        simp only [Dsk.l,dskV] at g3 hR'
        have hci:(i:Int) < (n:Int):=by omega
        (simp (disch:=first|decide|omega|(intros;exact Eq.trans rfl rfl)|simp only[puri]) only [wkf,a10_0,decide_eq_true hci,g1,g2,g3,go_sem,seval,dis,vdr,A.kind,A.xs,optX,A.isN])
        exact hR' _ _ hdM
       ·have hci:¬ (i:Int) < (n:Int):=by omega
        rw [List.drop_eq_nil_of_le (by simp; omega)] at h3
        have h3':Q=(⟨dfl,dcp,dar,dlf,ddn⟩,0):=h3.symm
        subst h3'
        by_cases hf:0 < fl'
        ·rw [if_pos ⟨rfl,hf⟩] at hZ
         have g3:=rdelete_spec ⟨dfl,dcp,dar,dlf,ddn⟩ (h2.ok (by omega) (by omega)) FN
         have e1:delS FN (⟨dfl,dcp,dar,dlf,ddn⟩,0)=chgF ⟨dfl,dcp,dar,dlf,ddn⟩ (delR dfl FN):=stp_ye _ _
         rw [e1] at hZ
         simp only at g3
         generalize chgF ⟨dfl,dcp,dar,dlf,ddn⟩ (delR dfl FN)=q at *
         obtain ⟨⟨qfl,qcp,qar,qlf,qdn⟩,qe⟩:=q
         simp only [Dsk.l,dskV] at g3 hZ
         rw [hZ]
         (simp (disch:=first|decide|omega|(intros;exact Eq.trans rfl rfl)|simp only[puri]) only [wkf,a10_0,a10,decide_eq_false hci,qf,qs,decide_eq_true hf,g3,htk,go_sem,seval,dis,vdr,A.kind,A.xs,optX,A.isN])
         try simp [trim]
        ·rw [if_neg (fun h=>hf h.2)] at hZ
         simp only at hZ
         rw [hZ]
         (simp (disch:=first|decide|omega|(intros;exact Eq.trans rfl rfl)|simp only[puri]) only [wkf,a10_0,a10,decide_eq_false hci,qf,decide_eq_false hf,htk,go_sem,seval,dis,vdr,A.kind,A.xs,optX,A.isN])
         try simp [trim]
      ·rw [dels_no he] at h3
       subst h3
       rw [if_neg (fun h=>he h.1)] at hZ
       simp only at hZ
       rw [hZ]
       have he':(de == 0)=false:=by simpa using he
       by_cases hi:i < n
       ·have hci:(i:Int) < (n:Int):=by omega
        (simp (disch:=first|decide|omega|(intros;exact Eq.trans rfl rfl)|simp only[puri]) only [wkf,a10_0,a10,decide_eq_true hci,he,he',htk,go_sem,seval,dis,vdr,A.kind,A.xs,optX,A.isN])
        try simp [trim]
       ·have hci:¬ (i:Int) < (n:Int):=by omega
        (simp (disch:=first|decide|omega|(intros;exact Eq.trans rfl rfl)|simp only[puri]) only [wkf,a10_0,a10,decide_eq_false hci,he,he',htk,go_sem,seval,dis,vdr,A.kind,A.xs,optX,A.isN])
        try simp [trim]
     ·rw [if_pos c4]
      have hsg:(trimX s n).segs.map Seg.enc=DQ:=hdl2.symm
      obtain ⟨⟨fl,cp,ar,lf,dn⟩,ver,segs,next,sure,size,sum⟩:=s
      obtain ⟨⟨fl1,cp1,ar1,lf1,dn1⟩,a2⟩:=a
      obtain ⟨⟨fl2,cp2,ar2,lf2,dn2⟩,p2⟩:=p
      obtain ⟨⟨fl3,cp3,ar3,lf3,dn3⟩,b2⟩:=b
      obtain ⟨⟨fl4,cp4,ar4,lf4,dn4⟩,c2'⟩:=c
      obtain ⟨⟨fl5,cp5,ar5,lf5,dn5⟩,w2⟩:=w
      obtain ⟨⟨fl6,cp6,ar6,lf6,dn6⟩,v2⟩:=v
      simp only at c1 c2 c3
      subst c1 c2 c3
      simp only [Sto.l,Dsk.l,stoV,dskV,Sto.man,Man.l,hsg,eX,List.cons_append,List.nil_append] at *
      rw [hsg] at q11
      (simp (disch:=first|decide|omega|(intros;exact Eq.trans rfl rfl)|simp only[puri]) only [wkf,a10,q1,q2,q3,q4,q5,q6,q7,q8,q9,q10,c0,hok,hnl,hDQ,hokd,↓iso_callzA_e,czKA_a,splitS,allD,czR_some,q11,q12,q13,c4,go_sem,seval,dis,vdr,A.kind,A.xs,optX,A.isN])
      try simp [trim,c4]
    ·rw [if_neg c3,if_pos c3]
     obtain ⟨⟨fl,cp,ar,lf,dn⟩,ver,segs,next,sure,size,sum⟩:=s
     obtain ⟨⟨fl1,cp1,ar1,lf1,dn1⟩,a2⟩:=a
     obtain ⟨⟨fl2,cp2,ar2,lf2,dn2⟩,p2⟩:=p
     obtain ⟨⟨fl3,cp3,ar3,lf3,dn3⟩,b2⟩:=b
     obtain ⟨⟨fl4,cp4,ar4,lf4,dn4⟩,c2'⟩:=c
     simp only at c1 c2
     subst c1 c2
     simp only [Sto.l,Dsk.l,stoV,dskV,List.cons_append,List.nil_append] at *
     (simp (disch:=first|decide|omega|(intros;exact Eq.trans rfl rfl)|simp only[puri]) only [wkf,a10,q1,q2,q3,q4,q5,q6,q7,q8,q9,q10,c0,c3,hok,hnl,hDQ,hokd,go_sem,seval,dis])
     try simp [trim,c3]
   ·have e9:synS N b=b:=stp_no c2 _
    rw [e9,if_neg c2,if_pos c2]
    obtain ⟨⟨fl,cp,ar,lf,dn⟩,ver,segs,next,sure,size,sum⟩:=s
    obtain ⟨⟨fl1,cp1,ar1,lf1,dn1⟩,a2⟩:=a
    obtain ⟨⟨fl2,cp2,ar2,lf2,dn2⟩,p2⟩:=p
    obtain ⟨⟨fl3,cp3,ar3,lf3,dn3⟩,b2⟩:=b
    simp only at c1
    subst c1
    simp only [Sto.l,Dsk.l,stoV,dskV,List.cons_append,List.nil_append] at *
    (simp (disch:=first|decide|omega|(intros;exact Eq.trans rfl rfl)|simp only[puri]) only [wkf,a10,q1,q2,q3,q4,q5,q6,q7,q8,q10,c0,c2,hok,hnl,hDQ,hokd,go_sem,seval,dis])
    try simp [trim,c2]
  ·rw [if_neg c1]
   have e1:synS N a=a:=stp_no c1 _
   rw [e1,if_neg c1,if_pos c1]
   obtain ⟨⟨fl,cp,ar,lf,dn⟩,ver,segs,next,sure,size,sum⟩:=s
   obtain ⟨⟨fl1,cp1,ar1,lf1,dn1⟩,a2⟩:=a
   simp only [Sto.l,Dsk.l,stoV,dskV,List.cons_append,List.nil_append] at *
   (simp (disch:=first|decide|omega|(intros;exact Eq.trans rfl rfl)|simp only[puri]) only [wkf,a10,q1,q2,q3,q4,q5,q6,q10,c0,c1,hok,hnl,hDQ,hokd,go_sem,seval,dis])
   try simp [trim,c1]
abbrev FM:=Txt→Option (Txt × Int)
def fm (l:List Fil):FM:=fun n=>(l.find? fun f=>decide (f.name=n)).map fun f=>(f.data,f.sure)
def up (F:FM) (n:Txt) (v:Option (Txt × Int)):FM:=fun k=>if k=n then v else F k
theorem up_at (F:FM) (n:Txt) (v:Option (Txt × Int)):up F n v n=v:=if_pos rfl
theorem up_ne (F:FM) {n k:Txt} (v:Option (Txt × Int)) (h:k≠n):up F n v k=F k:=if_neg h
theorem up_up (F:FM) (n:Txt) (v w:Option (Txt × Int)):up (up F n v) n w=up F n w:=by
 funext k; unfold up; split <;> rfl
theorem up_self {F:FM} {n:Txt} {v:Option (Txt × Int)} (h:F n=v):up F n v=F:=by
 funext k; unfold up; split
 ·rename_i e; rw [e,h]
 ·rfl
theorem fm_none {l:List Fil} {n:Txt}:fm l n=none↔∀ f∈l,f.name≠n:=by
 unfold fm
 rw [Option.map_eq_none_iff,List.find?_eq_none]
 simp
theorem fm_mid (A:List Fil) (x:Fil) (B:List Fil) (h:∀ a∈A,a.name≠x.name):fm (A++x::B)=up (fm (A++B)) x.name (some (x.data,x.sure)):=by
 funext k
 unfold fm up
 simp only [List.find?_append,List.find?_cons]
 by_cases c:k=x.name
 ·have hn:A.find? (fun f=>decide (f.name=k))=none:=by
   rw [List.find?_eq_none]; intro a ha; simpa [c] using h a ha
  rw [if_pos c,hn]
  simp [c]
 ·rw [if_neg c]
  have:decide (x.name=k)=false:=by simpa using fun e=>c e.symm
  rw [this]
theorem srt_mid {l:List Fil} (hs:srt l) {i:Nat} (hi:i < l.length):(∀ a∈l.take i,a.name≠l[i].name)∧(∀ b∈l.drop (i+1),b.name≠l[i].name):=by
 constructor
 ·intro a ha
  obtain ⟨j,hj,rfl⟩:=List.getElem_of_mem ha
  rw [List.length_take] at hj
  rw [List.getElem_take]
  exact bl_ne ((List.pairwise_iff_getElem.1 hs) j i (by omega) hi (by omega))
 ·intro b hb
  obtain ⟨j,hj,rfl⟩:=List.getElem_of_mem hb
  rw [List.length_drop] at hj
  rw [List.getElem_drop]
  exact fun e=>bl_ne ((List.pairwise_iff_getElem.1 hs) i (i+1+j) hi (by omega) (by omega)) e.symm
theorem cut_mid (l:List Fil) {i:Nat} (hi:i < l.length):l=l.take i++l[i]::l.drop (i+1):=by
 conv=>lhs; rw [← List.take_append_drop i l,List.drop_eq_getElem_cons hi]
theorem fm_cut {l:List Fil} (hs:srt l) {i:Nat} (hi:i < l.length):fm l=up (fm (delF l i)) l[i].name (some (l[i].data,l[i].sure))∧fm (delF l i) l[i].name=none:=by
 have h:=srt_mid hs hi
 constructor
 ·conv=>lhs; rw [cut_mid l hi]
  exact fm_mid _ _ _ h.1
 ·rw [fm_none]
  intro f hf
  rcases List.mem_append.1 hf with hf | hf
  ·exact h.1 f hf
  ·exact h.2 f hf
theorem fm_del {l:List Fil} (hs:srt l) {i:Nat} (hi:i < l.length):fm (delF l i)=up (fm l) l[i].name none:=by
 have h:=fm_cut hs hi
 rw [h.1,up_up,up_self h.2]
theorem fm_set {l:List Fil} (hs:srt l) {i:Nat} (hi:i < l.length) (g:Fil) (hg:g.name=l[i].name):fm (l.set i g)=up (fm l) l[i].name (some (g.data,g.sure)):=by
 have h:=srt_mid hs hi
 have e:l.set i g=l.take i++g::l.drop (i+1):=by rw [List.set_eq_take_append_cons_drop,if_pos hi]
 rw [e,fm_mid _ _ _ (fun a ha=>by rw [hg]; exact h.1 a ha),hg]
 have h2:=fm_cut hs hi
 rw [h2.1,up_up]
 try rfl
theorem fm_has {l:List Fil} (hs:srt l) (n:Txt):hasF l n=(fm l n).isSome:=by
 cases h:hasF l n with
 | true =>
  obtain ⟨hp,he⟩:=has_at h
  rw [(fm_cut hs hp).1,he,up_at]; rfl
 | false =>
  rw [fm_none.2 (has_false hs h)]; rfl
theorem fm_pos {l:List Fil} (hs:srt l) {n:Txt} {v:Txt × Int} (h:fm l n=some v):∃ hp:posF l n < l.length,l[posF l n].name=n∧(l[posF l n].data,l[posF l n].sure)=v:=by
 have h1:hasF l n=true:=by rw [fm_has hs,h]; rfl
 obtain ⟨hp,he⟩:=has_at h1
 refine ⟨hp,he,?_⟩
 have h2:=(fm_cut hs hp).1
 rw [h2,he,up_at] at h
 exact Option.some.inj h
theorem fm_read {l:List Fil} (hs:srt l) (n:Txt):readF l n=match fm l n with | some v=>(v.1,0) | none=>([],7):=by
 cases h:fm l n with
 | some v =>
  obtain ⟨hp,he,hv⟩:=fm_pos hs h
  subst hv
  unfold readF
  rw [List.getElem?_eq_getElem hp]
  simp only [if_pos he]
 | none =>
  have h1:hasF l n=false:=by rw [fm_has hs,h]; rfl
  unfold readF
  unfold hasF at h1
  split
  ·rename_i f hf
   rw [hf] at h1
   rw [if_neg (by simpa using h1)]
  ·rfl
theorem fm_hasD {l:List Fil} (hs:srt l) (n d:Txt):hasD l n d↔∃ q,fm l n=some (d,q):=by
 constructor
 ·rintro ⟨f,hf,rfl,rfl⟩
  obtain ⟨i,hi,rfl⟩:=List.getElem_of_mem hf
  exact ⟨l[i].sure,by rw [(fm_cut hs hi).1,up_at]⟩
 ·rintro ⟨q,h⟩
  obtain ⟨hp,he,hv⟩:=fm_pos hs h
  exact ⟨l[posF l n],List.getElem_mem hp,he,congrArg Prod.fst hv⟩
theorem fm_ins {l:List Fil} (hs:srt l) {n:Txt} (d:Txt) (q:Int) (h:fm l n=none):fm (insF l (posF l n) ⟨n,d,q⟩)=up (fm l) n (some (d,q)):=by
 have h2:=fm_none.1 h
 unfold insF
 rw [fm_mid _ _ _ (fun a ha=>h2 a (List.mem_of_mem_take ha)),List.take_append_drop]
theorem fm_put {l:List Fil} (hs:srt l) (f:Fil):fm (putAt l f)=up (fm l) f.name (some (f.data,f.sure)):=by
 unfold putAt
 split
 ·rename_i h
  obtain ⟨hp,he⟩:=has_at h
  rw [fm_set hs hp f he.symm,he]
 ·rename_i h
  have h1:fm l f.name=none:=by
   cases hf:fm l f.name with
   | none=>rfl
   | some v=>exact absurd (by rw [fm_has hs,hf]; rfl) h
  obtain ⟨n,d,q⟩:=f
  exact fm_ins hs d q h1
structure Dk (d d':Dsk):Prop where
 cap:d'.cap=d.cap
 armed:d'.armed=d.armed
 down:d.down=true→d'=d
 idle:d.armed=false→d.down=false→d'.down=false∧d'.left=d.left
theorem Dk.refl (d:Dsk):Dk d d:=⟨rfl,rfl,fun _=>rfl,fun _ h=>⟨h,rfl⟩⟩
theorem Dk.trans {a b c:Dsk} (h1:Dk a b) (h2:Dk b c):Dk a c :=
  ⟨h2.cap.trans h1.cap,h2.armed.trans h1.armed,fun h=>by have e:=h1.down h; rw [h2.down (by rw [e]; exact h),e],
   fun ha hd=>by
    have e1:=h1.idle ha hd
    have e2:=h2.idle (h1.armed.trans ha) e1.1
    exact ⟨e2.1,e2.2.trans e1.2⟩⟩
def Out (d:Dsk) (r:Dsk × Int) (X:List Txt) (G:FM) (G9:Option FM):Prop :=
 Dk d r.1∧srt r.1.files∧((r.2=0∧r.1.down=false∧fm r.1.files=G)∨(∃ g,G9=some g∧r.2=9∧r.1.down=false∧fm r.1.files=g)∨(r.2=10∧r.1.down=true∧∀ n,n ∉ X→fm r.1.files n=fm d.files n))
theorem Out.up9 {d:Dsk} {r:Dsk × Int} {X:List Txt} {G:FM} (h:Out d r X G none) (g:Option FM):Out d r X G g:=by
 refine ⟨h.1,h.2.1,?_⟩
 rcases h.2.2 with h | ⟨_,h,_⟩ | h
 ·exact .inl h
 ·cases h
 ·exact .inr (.inr h)
theorem chg_out {d:Dsk} (hs:srt d.files) {r:List Fil × Int} {G:FM} (h0:r.2=0) (h1:srt r.1) (h2:fm r.1=G):Out d (chgF d r) [] G none:=by
 unfold chgF
 split
 ·rename_i hd
  exact ⟨Dk.refl d,hs,.inr (.inr ⟨rfl,hd,fun _ _=>rfl⟩)⟩
 ·rename_i hd
  have hd:d.down=false:=by simpa using hd
  rw [if_neg (by simp [h0])]
  split
  ·rename_i ha
   split
   ·exact ⟨⟨rfl,rfl,fun h=>(by rw [hd] at h; cases h),fun h _=>(by rw [ha] at h; cases h)⟩,hs,.inr (.inr ⟨rfl,rfl,fun _ _=>rfl⟩)⟩
   ·exact ⟨⟨rfl,rfl,fun h=>(by rw [hd] at h; cases h),fun h _=>(by rw [ha] at h; cases h)⟩,h1,.inl ⟨rfl,hd,h2⟩⟩
  ·exact ⟨⟨rfl,rfl,fun h=>(by rw [hd] at h; cases h),fun _ h=>⟨h,rfl⟩⟩,h1,.inl ⟨rfl,hd,h2⟩⟩
theorem crt_out {d:Dsk} (hs:srt d.files) {n:Txt} (hn:namedF n=true) (h:fm d.files n=none):Out d (chgF d (crtR d.files n)) [] (up (fm d.files) n (some ([],0))) none:=by
 have hf:hasF d.files n=false:=by rw [fm_has hs,h]; rfl
 have e:crtR d.files n=(insF d.files (posF d.files n) ⟨n,[],0⟩,0):=by unfold crtR; rw [if_pos hn,hf]; rfl
 rw [e]
 exact chg_out hs rfl (srt_ins hs ⟨n,[],0⟩ hf) (fm_ins hs [] 0 h)
theorem upd_fm {l:List Fil} (hs:srt l) {n:Txt} {v:Txt × Int} (h:fm l n=some v) (f:Fil→Fil) (hf:∀ x,(f x).name=x.name) :
  srt (updF l (posF l n) f)∧fm (updF l (posF l n) f)=up (fm l) n (some ((f ⟨n,v.1,v.2⟩).data,(f ⟨n,v.1,v.2⟩).sure)):=by
 obtain ⟨hp,he,hv⟩:=fm_pos hs h
 refine ⟨srt_names (upd_names l _ f hf) hs,?_⟩
 have e2:l[posF l n]=⟨n,v.1,v.2⟩:=by
  generalize l[posF l n]=x at *
  obtain ⟨a,b,c⟩:=x
  simp only at he hv
  subst he hv
  try rfl
 rw [upd_at hp,fm_set hs hp _ (by rw [hf]),he,e2]
theorem app_out {d:Dsk} (hs:srt d.files) {n:Txt} (x:Txt) {v:Txt × Int} (h:fm d.files n=some v):Out d (chgF d (appR d.files d.cap n x)) [] (up (fm d.files) n (some (v.1++x,v.2))) (some (fm d.files)):=by
 have hf:hasF d.files n=true:=by rw [fm_has hs,h]; rfl
 by_cases c:0 < d.cap∧d.cap - (usedF d.files:Nat) < x.length
 ·have e:appR d.files d.cap n x=([],9):=by unfold appR; rw [if_pos hf,if_pos c]
  rw [e]
  unfold chgF
  split
  ·rename_i hd
   exact ⟨Dk.refl d,hs,.inr (.inr ⟨rfl,hd,fun _ _=>rfl⟩)⟩
  ·rename_i hd
   rw [if_pos (by decide)]
   exact ⟨Dk.refl d,hs,.inr (.inl ⟨_,rfl,rfl,by simpa using hd,rfl⟩)⟩
 ·have e:appR d.files d.cap n x=(updF d.files (posF d.files n) (fun f=>{ f with data:=f.data++x }),0):=by unfold appR; rw [if_pos hf,if_neg c]
  have hu:=upd_fm hs h (fun f=>{ f with data:=f.data++x }) (fun _=>rfl)
  rw [e]
  exact (chg_out hs rfl hu.1 hu.2).up9 _
theorem syn_out {d:Dsk} (hs:srt d.files) {n:Txt} {v:Txt × Int} (h:fm d.files n=some v):Out d (chgF d (synR d.files n)) [] (up (fm d.files) n (some (v.1,(v.1.length:Nat)))) none:=by
 have hf:hasF d.files n=true:=by rw [fm_has hs,h]; rfl
 have e:synR d.files n=(updF d.files (posF d.files n) (fun f=>{ f with sure:=f.data.length }),0):=by unfold synR; rw [if_pos hf]
 have hu:=upd_fm hs h (fun f=>{ f with sure:=(f.data.length:Nat) }) (fun _=>rfl)
 rw [e]
 exact chg_out hs rfl hu.1 hu.2
theorem del_out {d:Dsk} (hs:srt d.files) {n:Txt} {v:Txt × Int} (h:fm d.files n=some v):Out d (chgF d (delR d.files n)) [] (up (fm d.files) n none) none:=by
 have hf:hasF d.files n=true:=by rw [fm_has hs,h]; rfl
 have e:delR d.files n=(delF d.files (posF d.files n),0):=by unfold delR; rw [if_pos hf]
 obtain ⟨hp,he⟩:=has_at hf
 rw [e]
 exact chg_out hs rfl (srt_del hs _) (by rw [fm_del hs hp,he])
theorem ren_out {d:Dsk} (hs:srt d.files) {a b:Txt} (hb:namedF b=true) {v:Txt × Int} (h:fm d.files a=some v):Out d (chgF d (renR d.files a b)) [] (up (up (fm d.files) a none) b (some v)) none:=by
 have hf:hasF d.files a=true:=by rw [fm_has hs,h]; rfl
 obtain ⟨hp,he,hv⟩:=fm_pos hs h
 have e:renR d.files a b=(putAt (delF d.files (posF d.files a)) (nameAt d.files (posF d.files a) b),0):=by unfold renR; rw [if_pos hf,if_pos hb]
 rw [e]
 refine chg_out hs rfl (srt_put (srt_del hs _) _) ?_
 have e2:nameAt d.files (posF d.files a) b={ d.files[posF d.files a] with name:=b }:=by unfold nameAt; rw [List.getElem?_eq_getElem hp]
 rw [fm_put (srt_del hs _),fm_del hs hp,he,e2,← hv]
theorem Out.seq {d:Dsk} {r1 r2:Dsk × Int} {X X1 X2:List Txt} {G1 G2:FM} {g g1 g2:Option FM} (h1:Out d r1 X1 G1 g1) (h2:r1.2=0→r1.1.down=false→fm r1.1.files=G1→srt r1.1.files→Out r1.1 r2 X2 G2 g2)
  (hG:∀ n,n ∉ X→G1 n=fm d.files n) (hx1:∀ n∈X1,n∈X) (hx2:∀ n∈X2,n∈X) (hg1:∀ q,g1=some q→g=some q) (hg2:∀ q,g2=some q→g=some q):Out d (if r1.2=0 then r2 else r1) X G2 g:=by
 obtain ⟨k1,s1,o1⟩:=h1
 rcases o1 with ⟨e,hd,hf⟩ | ⟨q,hq,e,hd,hf⟩ | ⟨e,hd,hf⟩
 ·rw [if_pos e]
  obtain ⟨k2,s2,o2⟩:=h2 e hd hf s1
  refine ⟨k1.trans k2,s2,?_⟩
  rcases o2 with o2 | ⟨q,hq,o2⟩ | ⟨e2,hd2,hf2⟩
  ·exact .inl o2
  ·exact .inr (.inl ⟨q,hg2 q hq,o2⟩)
  ·refine .inr (.inr ⟨e2,hd2,fun n hn=>?_⟩)
   rw [hf2 n (fun hm=>hn (hx2 n hm)),hf]
   exact hG n hn
 ·rw [if_neg (by rw [e]; decide)]
  exact ⟨k1,s1,.inr (.inl ⟨q,hg1 q hq,e,hd,hf⟩)⟩
 ·rw [if_neg (by rw [e]; decide)]
  exact ⟨k1,s1,.inr (.inr ⟨e,hd,fun n hn=>hf n (fun hm=>hn (hx1 n hm))⟩)⟩
theorem Out.unl {d:Dsk} {r:Dsk × Int} {X:List Txt} {G g:FM} {n:Txt} {v:Txt × Int} (h:Out d r X G (some g)) (hn:g n=some v) (hg:∀ k,k ∉ X→g k=fm d.files k):Out d (unlS n r) X G (some (up g n none)):=by
 obtain ⟨k1,s1,o1⟩:=h
 obtain ⟨r1,e⟩:=r
 simp only at k1 s1 o1
 rcases o1 with ⟨rfl,hd,hf⟩ | ⟨q,hq,rfl,hd,hf⟩ | ⟨rfl,hd,hf⟩
 ·have:unlS n (r1,0)=(r1,0):=by unfold unlS; rw [if_pos (by simp)]
  rw [this]
  exact ⟨k1,s1,.inl ⟨rfl,hd,hf⟩⟩
 ·cases hq
  have e1:delS n (r1,0)=chgF r1 (delR r1.files n):=stp_ye _ _
  have hdl:=del_out s1 (n:=n) (v:=v) (by rw [hf]; exact hn)
  unfold unlS
  rw [if_neg (by simp)]
  simp only [e1]
  generalize chgF r1 (delR r1.files n)=w at *
  obtain ⟨k2,s2,o2⟩:=hdl
  rcases o2 with ⟨e2,hd2,hf2⟩ | ⟨q,hq,_⟩ | ⟨e2,hd2,hf2⟩
  ·rw [if_pos e2]
   exact ⟨k1.trans k2,s2,.inr (.inl ⟨_,rfl,rfl,hd2,by rw [hf2,hf]⟩)⟩
  ·cases hq
  ·rw [if_neg (by rw [e2]; decide)]
   refine ⟨k1.trans k2,s2,.inr (.inr ⟨e2,hd2,fun k hk=>?_⟩)⟩
   rw [hf2 k (by simp),hf]
   exact hg k hk
 ·have:unlS n (r1,10)=(r1,10):=by unfold unlS; rw [if_pos (by simp)]
  rw [this]
  exact ⟨k1,s1,.inr (.inr ⟨rfl,hd,hf⟩)⟩
def srtP (l:List Pr):Prop:=l.Pairwise fun a b=>a.key < b.key
def posP (l:List Pr) (k:Int):Nat:=l.countP fun p=>decide (p.key < k)
def hasP (l:List Pr) (k:Int):Bool:=match l[posP l k]? with | some p=>decide (p.key=k) | none=>false
theorem posP_iff {l:List Pr} (hs:srtP l) (k:Int) (i:Nat) (h:i < l.length):l[i].key < k↔i < posP l k:=by
 have:=cntP_iff (fun p:Pr=>decide (p.key < k)) l (hs.imp (fun hab hb=>by simp at hb ⊢; omega)) i h
 simpa [posP] using this
theorem posP_le (l:List Pr) (k:Int):posP l k≤l.length:=List.countP_le_length
def findPV (l:List Pr) (k:Int):V:=.tup [(false,[.d (.i .i64 (posP l k:Nat))]),(false,[.d (.b (hasP l k))])]
theorem cmpP_spec (p:Pr) (k:Int) (hp:0≤p.key∧p.key < 256) (hk:0≤k∧k < 256):call 152 [.agg (p.enc.map .d),vk .u8 k] []=some (vi (p.key - k),[]):=by
 apply enterS s152 rfl
 obtain ⟨a,b⟩:=p
 simp only at hp
 simp only [Pr.enc,List.map_cons,List.map_nil]
 (simp (disch:=first|decide|omega|(intros;exact Eq.trans rfl rfl)|simp only[puri]) only [a152,go_sem,seval,dis])
 try simp [trim]
theorem cmpPI (p:Pr) (k:Int) (hp:0≤p.key∧p.key < 256) (hk:0≤k∧k < 256) (H:Hp):callIso call 152 [.agg (p.enc.map .d),vk .u8 k] H=some (vi (p.key - k),H):=callIso_pure rfl (cmpP_spec p k hp hk) rfl
set_option maxRecDepth 8000 in
set_option maxHeartbeats 1000000 in
theorem bsearchP (l:List Pr) (hl:l.length≤1000000) (hs:srtP l) (ho:okP l) (k:Int) (hk:0≤k∧k < 256):call 151 [.one (.sl 0 2 0 l.length),vk .u8 k,.one (.f 152 [])] [.arr 2 (l.map Pr.enc) 0]=some (findPV l k,[.arr 2 (l.map Pr.enc) 0]):=by
 apply enterS s151 rfl
 obtain ⟨Z,hZ⟩:∃ Z:V × Hp,Z=(findPV l k,[.arr 2 (l.map Pr.enc) 0]):=⟨_,rfl⟩
 rw [← hZ]
 (simp (disch:=first|decide|omega|(intros;exact Eq.trans rfl rfl)|simp only[puri]) only [a151,go_sem,seval,dis])
 refine loop_boxM (m:=1) (σ:=Nat × Nat) (fun t=>t.2 - t.1) (fun t=>t.1≤posP l k∧posP l k≤t.2∧t.2≤l.length) (fun t=>[V.one (.sl 0 2 0 l.length),vk .u8 k,.one (.f 152 []),vi l.length,vi t.1,vi t.2]) (fun t=>[.arr 2 (l.map Pr.enc) 0])
  (fun t=>Z) ?_ (0,l.length) ⟨Nat.zero_le _,posP_le l k,Nat.le_refl _⟩ _ _ hdM
 rintro ⟨lo,hi⟩ ⟨h1,h2,h3⟩ R hR
 simp only at h1 h2 h3 ⊢
 by_cases c:lo < hi
 ·have hm:=half lo hi
  have hmid:(lo+hi) / 2 < l.length:=by omega
  have hp:=posP_iff hs k _ hmid
  have hmo:=(ho _ (List.getElem_mem hmid)).1
  obtain ⟨mid,hmd⟩:∃ mid,mid=(lo+hi) / 2:=⟨_,rfl⟩
  simp only [← hmd] at hm hmid hp hmo
  have g1:(l.map Pr.enc)[mid]?=some l[mid].enc:=by simp [hmid]
  have hc:=cmpPI l[mid] k hmo hk
  by_cases c2:l[mid].key < k
  ·have:=hp.1 c2
   have hcn:l[mid].key - k < 0:=by omega
   (simp (disch:=first|decide|omega|(intros;exact Eq.trans rfl rfl)|simp only[puri]) only [a151_0,↓shr1,hm,g1,Pr.len,Pr.tkL,Pr.tk,↓hc,hcn,go_sem,seval,dis])
   exact hR (mid+1,hi) (by simp only []; omega) ⟨by simp only []; omega,h2,h3⟩ _ _ hdM
  ·have:¬ mid < posP l k:=fun h=>c2 (hp.2 h)
   have hcn:¬ l[mid].key - k < 0:=by omega
   (simp (disch:=first|decide|omega|(intros;exact Eq.trans rfl rfl)|simp only[puri]) only [a151_0,↓shr1,hm,g1,Pr.len,Pr.tkL,Pr.tk,↓hc,hcn,go_sem,seval,dis])
   exact hR (lo,mid) (by simp only []; omega) ⟨h1,by simp only []; omega,by simp only []; omega⟩ _ _ hdM
 ·have hlo:lo=posP l k:=by omega
  subst hlo
  by_cases c0:posP l k < l.length
  ·have g1:(l.map Pr.enc)[posP l k]?=some l[posP l k].enc:=by simp [c0]
   have hhas:hasP l k=decide (l[posP l k].key=k):=by unfold hasP; rw [List.getElem?_eq_getElem c0]
   have hc:=cmpPI l[posP l k] k (ho _ (List.getElem_mem c0)).1 hk
   by_cases c3:l[posP l k].key=k
   ·have hcz:l[posP l k].key - k=0:=by omega
    (simp (disch:=first|decide|omega|(intros;exact Eq.trans rfl rfl)|simp only[puri]) only [a151_0,c,c0,g1,Pr.len,Pr.tkL,Pr.tk,↓hc,hcz,go_sem,seval,dis])
    rw [hZ]; simp [findPV,hhas,c3,trim,V.refs,L.refs,Box.refs]
   ·have hcz:¬ l[posP l k].key - k=0:=by omega
    (simp (disch:=first|decide|omega|(intros;exact Eq.trans rfl rfl)|simp only[puri]) only [a151_0,c,c0,g1,Pr.len,Pr.tkL,Pr.tk,↓hc,hcz,go_sem,seval,dis])
    rw [hZ]; simp [findPV,hhas,c3,trim,V.refs,L.refs,Box.refs]
  ·have hhas:hasP l k=false:=by unfold hasP; rw [List.getElem?_eq_none (by omega)]
   (simp (disch:=first|decide|omega|(intros;exact Eq.trans rfl rfl)|simp only[puri]) only [a151_0,c,c0,go_sem,seval,dis])
   rw [hZ]; simp [findPV,hhas,trim,V.refs,L.refs,Box.refs]
theorem findP_box (l:List Pr) (hl:l.length≤1000000) (hs:srtP l) (ho:okP l) (k:Int) (hk:0≤k∧k < 256):call 134 [.one (.sl 0 2 0 l.length),vk .u8 k] [.arr 2 (l.map Pr.enc) 0]=some (findPV l k,[.arr 2 (l.map Pr.enc) 0]):=by
 apply enterS s134 rfl
 have h:callIso call 151 [.one (.sl 0 2 0 l.length),vk .u8 k,.one (.f 152 [])] [.arr 2 (l.map Pr.enc) 0]=some (findPV l k,[.arr 2 (l.map Pr.enc) 0]) :=
  iso_at (ids:=[0]) rfl rfl rfl (bsearchP l hl hs ho k hk) rfl
 unfold findPV at h ⊢
 (simp (disch:=first|decide|omega|(intros;exact Eq.trans rfl rfl)|simp only[puri]) only [a134,↓h,go_sem,seval,dis])
 simp [trim,V.refs,L.refs,Box.refs]
theorem pos0 {k:Int} {l:List Pr} (h:∀ p∈l,k≤p.key):posP l k=0:=by
 unfold posP
 rw [List.countP_eq_zero]
 intro p hp
 have:=h p hp
 simp; omega
theorem tw_pos (k:Int):∀ (l:List Pr),srtP l→l.takeWhile (fun p=>decide (p.key < k))=l.take (posP l k)
 | [],_=>rfl
 | x::r,hs=>by
  have hr:=List.pairwise_cons.1 hs
  by_cases c:x.key < k
  ·have e:posP (x::r) k=posP r k+1:=by unfold posP; rw [List.countP_cons_of_pos (by simpa using c)]
   rw [e,List.takeWhile_cons,if_pos (by simpa using c),List.take_succ_cons,tw_pos k r hr.2]
  ·have e:posP (x::r) k=0:=pos0 fun p hp=>by
    rcases List.mem_cons.1 hp with rfl | hp
    ·omega
    ·have:=hr.1 p hp; omega
   rw [e,List.takeWhile_cons,if_neg (by simpa using c),List.take_zero]
theorem filt_all {Q:Pr→Bool} {l:List Pr} (h:∀ p∈l,Q p=true):l.filter Q=l:=List.filter_eq_self.2 h
theorem fl_pos (k:Int):∀ (l:List Pr),srtP l→l.filter (fun p=>decide (k < p.key))=l.drop (posP l k+(if hasP l k=true then 1 else 0))
 | [],_=>by simp
 | x::r,hs=>by
  have hr:=List.pairwise_cons.1 hs
  by_cases c:x.key < k
  ·have e:posP (x::r) k=posP r k+1:=by unfold posP; rw [List.countP_cons_of_pos (by simpa using c)]
   have e2:hasP (x::r) k=hasP r k:=by unfold hasP; rw [e,List.getElem?_cons_succ]
   rw [e,e2,List.filter_cons,if_neg (by simp; omega),fl_pos k r hr.2,show posP r k+1+(if hasP r k=true then 1 else 0)=(posP r k+(if hasP r k=true then 1 else 0))+1 by omega,List.drop_succ_cons]
  ·have hge:∀ p∈x::r,k≤p.key:=fun p hp=>by
    rcases List.mem_cons.1 hp with rfl | hp
    ·omega
    ·have:=hr.1 p hp; omega
   have e:posP (x::r) k=0:=pos0 hge
   by_cases c2:x.key=k
   ·have e2:hasP (x::r) k=true:=by unfold hasP; rw [e]; simpa using c2
    rw [e,e2,List.filter_cons,if_neg (by simp; omega),if_pos rfl]
    rw [filt_all (fun p hp=>by have:=hr.1 p hp; simp; omega)]
    try rfl
   ·have e2:hasP (x::r) k=false:=by unfold hasP; rw [e]; simpa using c2
    rw [e,e2,filt_all (fun p hp=>by
     rcases List.mem_cons.1 hp with rfl | hp
     ·simp; omega
     ·have:=hr.1 p hp; simp; omega)]
    try rfl
theorem stepF_c (l:List Pr) (c:UInt8) (r:List UInt8):stepF l (c::r)=l.takeWhile (fun p=>decide (p.key < (c.toNat:Int)))++(if r=[] then [] else [⟨(c.toNat:Int),r⟩])++l.filter (fun p=>decide ((c.toNat:Int) < p.key)):=by rw [stepF]
theorem step_pos {l:List Pr} (hs:srtP l) (c:UInt8) (r:List UInt8):stepF l (c::r)=l.take (posP l (c.toNat:Int))++(if r=[] then [] else [⟨(c.toNat:Int),r⟩])++l.drop (posP l (c.toNat:Int)+(if hasP l (c.toNat:Int)=true then 1 else 0)):=by
 rw [stepF_c,tw_pos _ l hs,fl_pos _ l hs]
theorem step_srt {l:List Pr} (hs:srtP l) (d:List UInt8):srtP (stepF l d):=by
 cases d with
 | nil=>exact hs
 | cons c r =>
  have h1:∀ p∈l.takeWhile (fun p=>decide (p.key < (c.toNat:Int))),p.key < (c.toNat:Int):=fun p hp=>by simpa using List.all_eq_true.1 (List.all_takeWhile (p:=fun p:Pr=>decide (p.key < (c.toNat:Int))) (l:=l)) p hp
  have h2:∀ p∈l.filter (fun p=>decide ((c.toNat:Int) < p.key)),(c.toNat:Int) < p.key:=fun p hp=>by simpa using (List.mem_filter.1 hp).2
  unfold srtP
  rw [stepF_c,List.append_assoc,List.pairwise_append]
  refine ⟨hs.sublist (List.takeWhile_sublist _),?_,?_⟩
  ·split
   ·exact hs.sublist List.filter_sublist
   ·rw [List.singleton_append,List.pairwise_cons]
    exact ⟨fun p hp=>h2 p hp,hs.sublist List.filter_sublist⟩
  ·intro a ha b hb
   have:=h1 a ha
   rw [List.mem_append] at hb
   rcases hb with hb | hb
   ·split at hb
    ·cases hb
    ·rw [List.mem_singleton.1 hb]; exact this
   ·have:=h2 b hb; omega
theorem hasP_at {l:List Pr} {k:Int} (h:hasP l k=true):∃ hp:posP l k < l.length,l[posP l k].key=k:=by
 unfold hasP at h
 split at h
 ·rename_i f hf
  obtain ⟨hp,rfl⟩:=List.getElem?_eq_some_iff.1 hf
  exact ⟨hp,by simpa using h⟩
 ·cases h
theorem Pr.dr (e:Pr):e.enc.drop 2=[]:=Eq.trans rfl rfl
def takeO (l:List Pr) (r:Option (V × Hp)):Prop :=
 r=some (.one (.sl 0 2 0 l.length),[.arr 2 (l.map Pr.enc) 0])∨(∃ p:Pr,r=some (.one (.sl 2 2 0 l.length),[.dead,.cells (p.enc.map .d),.arr 2 (l.map Pr.enc) 0])) ∨
 (∃ p:Pr,r=some (.one (.sl 3 2 0 l.length),[.dead,.cells (p.enc.map .d),.arr 2 [p.enc] 0,.arr 2 (l.map Pr.enc) 0]))
set_option maxRecDepth 8000 in
set_option maxHeartbeats 1000000 in
theorem take_own (l:List Pr) (hl:l.length≤100000) (hs:srtP l) (ho:okP l) (d:List UInt8) (hd:d.length≤1000):takeO (stepF l d) (call 101 [.one (.sl 0 2 0 l.length),vs d] [.arr 2 (l.map Pr.enc) 0]):=by
 cases d with
 | nil =>
  refine .inl ?_
  have e0:(([]:List UInt8) == [])=true:=rfl
  have e:stepF l []=l:=rfl
  rw [e]
  apply enterS s101 rfl
  (simp (disch:=first|decide|omega|(intros;exact Eq.trans rfl rfl)|simp only[puri]) only [a101,e0,go_sem,seval,dis])
  simp [trim,V.refs,L.refs,Box.refs]
 | cons c r =>
  have hc:0≤(c.toNat:Int)∧(c.toNat:Int) < 256:=⟨by omega,by have:=UInt8.toNat_lt c; omega⟩
  have hst:=step_pos hs c r
  have hf0:=findP_box l (by omega) hs ho (c.toNat:Int) hc
  have hf:callIso call 134 [.one (.sl 0 2 0 l.length),vk .u8 (c.toNat:Int)] [.arr 2 (l.map Pr.enc) 0]=some (findPV l (c.toNat:Int),[.arr 2 (l.map Pr.enc) 0]) :=
   iso_at (ids:=[0]) rfl rfl rfl hf0 rfl
  unfold findPV at hf
  have hp:=posP_le l (c.toNat:Int)
  have hat := @hasP_at l (c.toNat:Int)
  generalize posP l (c.toNat:Int)=k at *
  have e0:((c::r) == ([]:List UInt8))=false:=rfl
  have hc0:(c::r)[0]?=some c:=rfl
  have hdr:List.drop 1 (c::r)=r:=rfl
  have hdl:(c::r).length=r.length+1:=rfl
  obtain ⟨dt,hD⟩:∃ dt,dt=c::r:=⟨_,rfl⟩
  rw [← hD] at e0 hc0 hdr hdl ⊢
  have hdt:List.take dt.length dt=dt:=List.take_length
  have hdi:dt.tail=r:=by rw [hD]; rfl
  have hrl:r.length≤1000:=by have:(c::r).length≤1000:=hd; simp at this; omega
  by_cases hr:r=[]
  ·have er:r.isEmpty=true:=by rw [hr]; rfl
   have er2:(r == [])=true:=by rw [hr]; rfl
   rw [if_pos hr,List.append_nil] at hst
   cases ht:hasP l (c.toNat:Int) with
   | true =>
    obtain ⟨hk,hkey⟩:=hat ht
    rw [ht,if_pos rfl] at hst
    rw [ht] at hf
    have hd0:=del_at (l:=lib) (an:=anOf ans) (P:=Tryz.prog) (f:=135) (k:=2) rfl rfl rfl (l.map Pr.enc) k (by simpa using hk) (by simp; omega)
    rw [show (l.map Pr.enc).take k++(l.map Pr.enc).drop (k+1)=(l.take k++l.drop (k+1)).map Pr.enc by simp,List.length_map] at hd0
    have hi:∀ C:Box,callIso call 135 [.one (.sl 0 2 0 l.length),vi (k:Nat),.one (.d (.i .i64 ((k:Int)+1)))] [.arr 2 (l.map Pr.enc) 0,C]=some (.one (.sl 2 2 0 (l.length - 1)),[.dead,C,.arr 2 ((l.take k++l.drop (k+1)).map Pr.enc) 0]):=fun C =>
     iso_at (ids:=[0]) rfl rfl rfl hd0 rfl
    have hll:l.length - 1=(l.take k++l.drop (k+1)).length:=by simp; omega
    rw [hD,hst,← hD]
    generalize l.take k++l.drop (k+1)=q at *
    refine .inr (.inl ⟨⟨(c.toNat:Int),r⟩,?_⟩)
    apply enterS s101 rfl
    (simp (disch:=first|decide|omega|(intros;exact Eq.trans rfl rfl)|simp only[puri]) only [a101,e0,hc0,↓hf,hdr,hdt,hdi,er,er2,↓hi,hll,go_sem,seval,dis])
    simp [trim,V.refs,L.refs,Box.refs,Pr.enc]
   | false =>
    rw [ht,if_neg (by simp),Nat.add_zero,List.take_append_drop] at hst
    rw [ht] at hf
    refine .inl ?_
    rw [hD,hst,← hD]
    apply enterS s101 rfl
    (simp (disch:=first|decide|omega|(intros;exact Eq.trans rfl rfl)|simp only[puri]) only [a101,e0,hc0,↓hf,hdr,hdt,hdi,er,er2,go_sem,seval,dis])
    simp [trim,V.refs,L.refs,Box.refs]
  ·have er:r.isEmpty=false:=by simpa using hr
   have er2:(r == [])=false:=by simpa using hr
   rw [if_neg hr] at hst
   have henc:([.d (.i .u8 (c.toNat:Int)),.d (.s r)]:List L)=(⟨(c.toNat:Int),r⟩:Pr).enc.map .d:=rfl
   cases ht:hasP l (c.toNat:Int) with
   | true =>
    obtain ⟨hk,hkey⟩:=hat ht
    rw [ht,if_pos rfl] at hst
    rw [ht] at hf
    have e2:(l.map Pr.enc).set k [.i .u8 (c.toNat:Int),.s r]=(stepF l (c::r)).map Pr.enc:=by
     rw [hst,List.set_eq_take_append_cons_drop,if_pos (by simpa using hk)]
     simp [Pr.enc]
    have e3:l.length=(stepF l (c::r)).length:=by have:=congrArg List.length e2; simpa using this
    rw [← hD] at e2 e3
    have hkl:k < l.length:=hk
    generalize stepF l dt=q at *
    refine .inl ?_
    apply enterS s101 rfl
    (simp (disch:=first|decide|omega|(intros;exact Eq.trans rfl rfl)|simp only[puri]) only [a101,e0,hc0,↓hf,hdr,hdt,hdi,er,er2,e2,List.length_map,Pr.len,Pr.dr,go_sem,seval,dis])
    simp [trim,V.refs,L.refs,Box.refs,e3]
   | false =>
    rw [ht,if_neg (by simp),Nat.add_zero] at hst
    rw [ht] at hf
    have hi0:=ins_at (l:=lib) (an:=anOf ans) (P:=Tryz.prog) (f:=136) (k:=2) (bytes:=24) rfl rfl (l.map Pr.enc) (Pr.enc ⟨(c.toNat:Int),r⟩) k 0 rfl (by simpa using hp) (by simp; omega) (by simp; omega)
    rw [show (l.map Pr.enc).take k++Pr.enc ⟨(c.toNat:Int),r⟩::(l.map Pr.enc).drop k=(stepF l (c::r)).map Pr.enc by rw [hst]; simp,List.length_map] at hi0
    have hi:∀ C:Box,callIso call 136 [.one (.sl 0 2 0 l.length),vi (k:Nat),.one (.sl 2 2 0 1)] [.arr 2 (l.map Pr.enc) 0,C,.arr 2 [[.i .u8 (c.toNat:Int),.s r]] 0]=some (.one (.sl 3 2 0 (l.length+1)),[.dead,C,.arr 2 [[.i .u8 (c.toNat:Int),.s r]] 0,.arr 2 ((stepF l (c::r)).map Pr.enc) 0]):=fun C =>
     iso_at (ids:=[0,2]) rfl rfl rfl hi0 rfl
    have hll:l.length+1=(stepF l (c::r)).length:=by rw [hst]; simp; omega
    rw [← hD] at hi hll
    generalize stepF l dt=q at *
    refine .inr (.inr ⟨⟨(c.toNat:Int),r⟩,?_⟩)
    apply enterS s101 rfl
    (simp (disch:=first|decide|omega|(intros;exact Eq.trans rfl rfl)|simp only[puri]) only [a101,e0,hc0,↓hf,hdr,hdt,hdi,er,er2,↓hi,hll,go_sem,seval,dis])
    simp [trim,V.refs,L.refs,Box.refs,Pr.enc]
def foldP (l:List Pr) (R:List Rec):List Pr:=R.foldl (fun l r=>stepF l r.da) l
theorem foldP_app (l:List Pr) (A B:List Rec):foldP l (A++B)=foldP (foldP l A) B:=List.foldl_append
theorem foldP_ok:∀ (R:List Rec) (l:List Pr),srtP l→okP l→(∀ r∈R,r.da.length≤64)→srtP (foldP l R)∧okP (foldP l R)∧(foldP l R).length≤l.length+R.length
 | [],l,hs,ho,_=>⟨hs,ho,Nat.le_refl _⟩
 | r::R,l,hs,ho,hr=>by
  have h:=foldP_ok R (stepF l r.da) (step_srt hs _) (step_ok ho (hr r (by simp))) (fun x hx=>hr x (by simp [hx]))
  have h2:=step_len l r.da
  refine ⟨h.1,h.2.1,?_⟩
  have:(foldP l (r::R)).length≤(stepF l r.da).length+R.length:=h.2.2
  simp only [List.length_cons]; omega
theorem srt_len:∀ (l:List Pr) (a:Int),srtP l→(∀ p∈l,a≤p.key∧p.key < 256)→(l.length:Int)≤max 0 (256 - a)
 | [],a,_,_=>by simp; omega
 | p::r,a,hs,h=>by
  have hr:=List.pairwise_cons.1 hs
  have h1:=h p (by simp)
  have:=srt_len r (p.key+1) hr.2 (fun q hq=>⟨by have:=hr.1 q hq; omega,(h q (by simp [hq])).2⟩)
  simp only [List.length_cons]; omega
theorem st_len {l:List Pr} (hs:srtP l) (ho:okP l):l.length≤256:=by
 have:=srt_len l 0 hs (fun p hp=>(ho p hp).1)
 omega
set_option maxRecDepth 8000 in
set_option maxHeartbeats 1000000 in
theorem fold_spec (l:List Pr) (hs:srtP l) (ho:okP l) (R:List Rec) (hR:R.length≤1000000000) (hr:∀ r∈R,r.da.length≤64):call 61 [vl (l.map Pr.enc),vl (R.map Rec.enc)] []=some (vl ((foldP l R).map Pr.enc),[]):=by
 have hl:=st_len hs ho
 have hcl:=c100 (l.map Pr.enc) (okRows_map Pr.len _) (by simp; omega) (by simp; omega)
 obtain ⟨Z,hZ⟩:∃ Z:V,Z=vl ((foldP l R).map Pr.enc):=⟨_,rfl⟩
 rw [← hZ]
 apply enterS s61 rfl
 (simp (disch:=first|decide|omega|(intros;exact Eq.trans rfl rfl)|simp only[puri]) only [a61,↓hcl,List.length_map,go_sem,seval,dis])
 refine loop_boxM (m:=0) (σ:=Nat × List Pr) (fun t=>R.length - t.1) (fun t=>t.1≤R.length∧srtP t.2∧okP t.2∧foldP l R=foldP t.2 (R.drop t.1)) (fun t=>[V.one (.sl 0 2 0 t.2.length),vl (R.map Rec.enc),vi R.length,vi t.1]) (fun t=>[.arr 2 (t.2.map Pr.enc) 0])
  (fun _=>(Z,[])) ?_ (0,l) ⟨Nat.zero_le _,hs,ho,rfl⟩ _ _ hdM
 rintro ⟨i,q⟩ ⟨h1,h2,h3,h5⟩ K hK
 simp only at h1 h2 h3 h5 ⊢
 have h4:=st_len h2 h3
 by_cases c:i < R.length
 ·have hc:(i:Int) < (R.length:Int):=by omega
  have g1:(R.map Rec.enc)[i]?=some R[i].enc:=by rw [List.getElem?_map,List.getElem?_eq_getElem c]; rfl
  rw [List.drop_eq_getElem_cons c] at h5
  have hd:=hr _ (List.getElem_mem c)
  generalize R[i]=r at *
  have ht:=take_own q (by omega) h2 h3 r.da (by omega)
  have hK':=hK (i+1,stepF q r.da) (by simp only []; omega) ⟨by simp only []; omega,step_srt h2 _,step_ok h3 hd,h5⟩
  generalize stepF q r.da=q2 at *
  obtain ⟨a,b,d⟩:=r
  simp only [Rec.enc] at g1 ht
  rcases ht with ht | ⟨p,ht⟩ | ⟨p,ht⟩
  ·have hi:∀ C:Box,callIso call 101 [.one (.sl 0 2 0 q.length),vs d] [.arr 2 (q.map Pr.enc) 0,C]=some (.one (.sl 0 2 0 q2.length),[.arr 2 (q2.map Pr.enc) 0,C]):=fun C =>
    iso_at (ids:=[0]) rfl rfl rfl ht rfl
   (simp (disch:=first|decide|omega|(intros;exact Eq.trans rfl rfl)|simp only[puri]) only [a61_0,decide_eq_true hc,g1,↓hi,go_sem,seval,dis])
   exact hK' _ _ hdM
  ·have hi:∀ C:Box,callIso call 101 [.one (.sl 0 2 0 q.length),vs d] [.arr 2 (q.map Pr.enc) 0,C]=some (.one (.sl 3 2 0 q2.length),[.dead,C,.cells (p.enc.map .d),.arr 2 (q2.map Pr.enc) 0]):=fun C =>
    iso_at (ids:=[0]) rfl rfl rfl ht rfl
   (simp (disch:=first|decide|omega|(intros;exact Eq.trans rfl rfl)|simp only[puri]) only [a61_0,decide_eq_true hc,g1,↓hi,go_sem,seval,dis])
   exact hK' _ _ hdM
  ·have hi:∀ C:Box,callIso call 101 [.one (.sl 0 2 0 q.length),vs d] [.arr 2 (q.map Pr.enc) 0,C]=some (.one (.sl 4 2 0 q2.length),[.dead,C,.cells (p.enc.map .d),.arr 2 [p.enc] 0,.arr 2 (q2.map Pr.enc) 0]):=fun C =>
    iso_at (ids:=[0]) rfl rfl rfl ht rfl
   (simp (disch:=first|decide|omega|(intros;exact Eq.trans rfl rfl)|simp only[puri]) only [a61_0,decide_eq_true hc,g1,↓hi,go_sem,seval,dis])
   exact hK' _ _ hdM
 ·have hc:¬ (i:Int) < (R.length:Int):=by omega
  rw [List.drop_eq_nil_of_le (by omega)] at h5
  have e:Z=vl (q.map Pr.enc):=by rw [hZ,h5]; rfl
  rw [e]
  have htk:List.take q.length (q.map Pr.enc)=q.map Pr.enc:=List.take_of_length_le (by simp)
  (simp (disch:=first|decide|omega|(intros;exact Eq.trans rfl rfl)|simp only[puri]) only [a61_0,a61,decide_eq_false hc,htk,go_sem,seval,dis])
  try simp [trim]
theorem rowsOfBytes_app (a b:List UInt8):rowsOfBytes a++rowsOfBytes b=rowsOfBytes (a++b):=by simp [rowsOfBytes]
theorem rowsOfBytes_one (n:Int) (h:0≤n∧n < 256):([[.i .u8 n]]:List (List D))=rowsOfBytes [UInt8.ofNat n.toNat]:=by
 have:((UInt8.ofNat n.toNat).toNat:Int)=n:=by simp; omega
 simp only [rowsOfBytes,List.map_cons,List.map_nil,this]
theorem bytes_cut (l:List Pr) (i:Nat):(enc128 l.length++(l.take i).flatMap prB).length≤(bytesF l).length:=by
 have e:l.flatMap prB=(l.take i).flatMap prB++(l.drop i).flatMap prB:=by rw [← List.flatMap_append,List.take_append_drop]
 rw [bytesF,e]; simp
set_option maxRecDepth 4000 in
set_option maxHeartbeats 2000000 in
theorem bytes_prog (l:List Pr) (hl:l.length≤1000000) (hb:(bytesF l).length≤1000000000) (hk:∀ p∈l,0≤p.key∧p.key < 256):call 28 [vl (l.map Pr.enc)] []=some (vs (bytesF l),[]):=by
 apply enterS s28 rfl
 have h0:=put_spec l.length (by omega)
 have hel:(enc128 l.length).length≤1000:=by have:=nd_le9 (n:=l.length) (by omega); have:(enc128 l.length).length≤9:=this; omega
 (simp (disch:=first|decide|omega|(intros;exact Eq.trans rfl rfl)|simp only[puri]) only [a28,h0,hel,go_sem,seval,dis])
 refine loop_boxM (m:=0) (σ:=Nat) (fun i=>l.length - i) (fun i=>i≤l.length) (fun i=>[V.one (.sl 0 1 0 (enc128 l.length++(l.take i).flatMap prB).length),vl (l.map Pr.enc),vi l.length,vi i]) (fun i=>[.arr 1 (rowsOfBytes (enc128 l.length++(l.take i).flatMap prB)) 0])
  (fun _=>(vs (bytesF l),[])) ?_ 0 (Nat.zero_le _) _ _ (at_head2 (by decide) (by simp only [List.map_cons,List.map_nil,go_sem,seval]; exact rfl) (by simp [idsOf,reach,place_cons,place_nil,canonH,V.ren,L.ren,Box.ren,V.refs,L.refs,Box.refs,List.append_nil]) (by simp [idsOf,reach,place_cons,place_nil,canonH,V.ren,L.ren,Box.ren,V.refs,L.refs,Box.refs,List.append_nil]))
 intro i h1 R hR
 by_cases hi:i < l.length
 ·have g1:(l.map Pr.enc)[i]?=some l[i].enc:=by rw [List.getElem?_map,List.getElem?_eq_getElem hi]; rfl
  have hnx:enc128 l.length++(l.take (i+1)).flatMap prB=(enc128 l.length++(l.take i).flatMap prB)++prB l[i]:=by
   rw [List.take_succ_eq_append_getElem hi,List.flatMap_append]; simp
  have hle:=Nat.le_trans (bytes_cut l (i+1)) hb
  have hR':=hR (i+1) (by omega) (by omega)
  rw [hnx] at hR' hle
  have hpk:=hk _ (List.getElem_mem hi)
  obtain ⟨p,hp⟩:∃ p,p=l[i]:=⟨_,rfl⟩
  rw [← hp] at g1 hle hR' hpk
  obtain ⟨S,hS⟩:∃ S,S=enc128 l.length++(l.take i).flatMap prB:=⟨_,rfl⟩
  rw [← hS] at hle hR' ⊢
  have hpb:(prB p).length=1+(enc128 p.val.length).length+p.val.length:=by simp [prB]; omega
  rw [List.length_append] at hle
  have hput:=put_spec p.val.length (by omega)
  rw [show S++prB p=((S++[UInt8.ofNat p.key.toNat])++enc128 p.val.length)++p.val by simp [prB]] at hR'
  rw [hpb] at hle
  have hone:=rowsOfBytes_one p.key hpk
  obtain ⟨E,hE⟩:∃ E,E=enc128 p.val.length:=⟨_,rfl⟩
  rw [← hE] at hR' hput hle
  have hok1:okRows 1 (rowsOfBytes [UInt8.ofNat p.key.toNat])=true:=okRows_bytes _
  have hln1:(rowsOfBytes [UInt8.ofNat p.key.toNat]).length=1:=rfl
  have htk1:List.take 1 (rowsOfBytes [UInt8.ofNat p.key.toNat])=rowsOfBytes [UInt8.ofNat p.key.toNat]:=rfl
  generalize [UInt8.ofNat p.key.toNat]=K at *
  have hK1:K.length=1:=by rw [← rowsOfBytes_len,hln1]
  have q1:(S++K).length=S.length+1:=by simp [hK1]
  have q2:((S++K)++E).length=S.length+1+E.length:=by simp [hK1]; omega
  have q3:(((S++K)++E)++p.val).length=S.length+1+E.length+p.val.length:=by simp [hK1]; omega
  have r1:=rowsOfBytes_app S K
  have r2:=rowsOfBytes_app (S++K) E
  have r3:=rowsOfBytes_app ((S++K)++E) p.val
  obtain ⟨S1,hS1⟩:∃ S1,S1=S++K:=⟨_,rfl⟩
  rw [← hS1] at q1 q2 q3 hR' r1 r2 r3
  obtain ⟨S2,hS2⟩:∃ S2,S2=S1++E:=⟨_,rfl⟩
  rw [← hS2] at q2 q3 hR' r2 r3
  obtain ⟨S3,hS3⟩:∃ S3,S3=S2++p.val:=⟨_,rfl⟩
  rw [← hS3] at q3 hR' r3
  rw [q3] at hR'
  obtain ⟨pk,pv⟩:=p
  simp only [Pr.enc] at *
  (simp (disch:=first|decide|omega|(intros;exact Eq.trans rfl rfl)|simp only[puri]) only [a28_0,g1,hput,hone,hok1,hln1,htk1,r1,r2,r3,rowsOfBytes_len,okRows_bytes,q1,q2,go_sem,seval,dis])
  exact hR' _ _ hdM
 ·have ht:l.take i=l:=List.take_of_length_le (by omega)
  rw [ht]
  have e:enc128 l.length++l.flatMap prB=bytesF l:=rfl
  rw [e]
  have htk:(rowsOfBytes (bytesF l)).take (bytesF l).length=rowsOfBytes (bytesF l):=List.take_of_length_le (by rw [rowsOfBytes_len]; exact Nat.le_refl _)
  (simp (disch:=first|decide|omega|(intros;exact Eq.trans rfl rfl)|simp only[puri]) only [a28_0,a28,htk,rowsOfBytes_len,bytesOf_rows,go_sem,seval,dis])
  try simp [trim]
theorem sum_drop (f:Seg→Int) (l:List Seg) (i:Nat) (h:i < l.length):sumF f (l.drop i)=f l[i]+sumF f (l.drop (i+1)):=by
 rw [List.drop_eq_getElem_cons h]; rfl
theorem take_drop1 (l:List Seg) (i:Nat) (h:i+1 < l.length):(l.drop i).take (l.length - i - 1)=l[i]'(by omega)::(l.drop (i+1)).take (l.length - (i+1) - 1):=by
 rw [List.drop_eq_getElem_cons (by omega:i < l.length)]
 obtain ⟨k,hk⟩:∃ k,l.length - i - 1=k+1:=⟨l.length - i - 2,by omega⟩
 rw [hk,List.take_succ_cons]
 congr 2; omega
theorem stay_iff (l:List Seg) (keep count:Int) (i:Nat) (h:i+1 < l.length):stayF l keep count i=false↔(keep < sumF Seg.size ((l.drop i).take (l.length - i - 1))∨count < sumF Seg.n (l.drop i)):=by
 unfold stayF muchF
 have e:(l.drop i).length=l.length - i:=by simp
 rw [e]
 have:1 < l.length - i:=by omega
 simp [this]
 omega
theorem stay_last (l:List Seg) (keep count:Int) (i:Nat) (h:l.length≤i+1):stayF l keep count i=true:=by
 unfold stayF muchF
 have e:(l.drop i).length=l.length - i:=by simp
 have:¬ 1 < l.length - i:=by omega
 simp [this]
theorem stay_mono (l:List Seg) (keep count:Int) (h:segsB l) (i:Nat) (hs:stayF l keep count i=true):stayF l keep count (i+1)=true:=by
 by_cases c:i+2 < l.length
 ·cases hq:stayF l keep count (i+1) with
  | true=>rfl
  | false =>
   have h1:=(stay_iff l keep count (i+1) (by omega)).1 hq
   have hm:=h.2 _ (List.getElem_mem (by omega:i < l.length))
   have e1:sumF Seg.size ((l.drop i).take (l.length - i - 1))=l[i].size+sumF Seg.size ((l.drop (i+1)).take (l.length - (i+1) - 1)):=by rw [take_drop1 l i (by omega)]; rfl
   have e2:=sum_drop Seg.n l i (by omega)
   have:stayF l keep count i=false:=(stay_iff l keep count i (by omega)).2 (by rw [e1,e2]; omega)
   rw [this] at hs; cases hs
 ·exact stay_last l keep count (i+1) (by omega)
theorem pickF_at (l:List Seg) (keep count:Int) (j:Nat) (hj:j < l.length) (h1:stayF l keep count j=true) (h2:∀ i,i < j→stayF l keep count i=false):pickF l keep count=j:=by
 have:(List.range l.length).find? (stayF l keep count)=some j:=by
  rw [List.find?_range_eq_some]
  exact ⟨h1,by simpa using hj,fun i hi=>by rw [h2 i hi]; rfl⟩
 unfold pickF
 rw [this]
theorem stay_down (l:List Seg) (keep count:Int) (h:segsB l) (j:Nat) (hj:stayF l keep count j=false):∀ i,i≤j→stayF l keep count i=false:=by
 intro i hi
 cases hq:stayF l keep count i with
 | false=>rfl
 | true =>
  have:∀ k,stayF l keep count (i+k)=true:=by
   intro k
   induction k with
   | zero=>exact hq
   | succ k ih=>exact stay_mono l keep count h (i+k) ih
  have:=this (j - i)
  rw [show i+(j - i)=j by omega,hj] at this
  cases this
set_option maxHeartbeats 1000000 in
theorem ppick_spec (l:List Seg) (h:segsB l) (keep count:Int):call 27 [vl (l.map Seg.enc),vi keep,vi count] []=some (vi (pickF l keep count:Nat),[]):=by
 apply enterS s27 rfl
 have hlen:=h.1
 by_cases c0:l.length=0
 ·have e:pickF l keep count=0:=by unfold pickF; rw [c0]; rfl
  rw [e]
  (simp (disch:=first|decide|omega|(intros;exact Eq.trans rfl rfl)|simp only[puri]) only [a27,c0,go_sem,seval,dis])
  try simp [trim]
 ·have hL:l.length - 1 < l.length:=by omega
  have c1:¬ (l.length:Int)=0:=by omega
  have ek:((l.length:Int) - 1).toNat=l.length - 1:=by omega
  have ek0:(0:Int)≤(l.length:Int) - 1:=by omega
  have g0:(l.map Seg.enc)[l.length - 1]?=some l[l.length - 1].enc:=by rw [List.getElem?_map,List.getElem?_eq_getElem hL]; rfl
  have hs1:sumF Seg.n (l.drop (l.length - 1))=l[l.length - 1].n:=by rw [sum_drop _ _ _ hL,show l.length - 1+1=l.length by omega,List.drop_length]; simp [sumF]
  have hs0:sumF Seg.size ((l.drop (l.length - 1)).take (l.length - (l.length - 1) - 1))=0:=by rw [show l.length - (l.length - 1) - 1=0 by omega,List.take_zero]; rfl
  obtain ⟨W,hW⟩:∃ W,W=pickF l keep count:=⟨_,rfl⟩
  rw [← hW]
  have hsq:stayF l keep count (l.length - 1)=true:=stay_last _ _ _ _ (by omega)
  have hinit:sumF Seg.size ((l.drop (l.length - 1)).take (l.length - (l.length - 1) - 1))=0∧sumF Seg.n (l.drop (l.length - 1))=l[l.length - 1].n:=⟨hs0,hs1⟩
  obtain ⟨p,hp⟩:∃ p,p=l[l.length - 1]:=⟨_,rfl⟩
  rw [← hp] at g0 hinit
  (simp (disch:=first|decide|omega|(intros;exact Eq.trans rfl rfl)|simp only[puri]) only [a27,c1,ek,ek0,g0,Seg.enc,go_sem,seval,dis])
  refine loop_boxM (m:=0) (σ:=Nat × Int × Int × Int) (fun t=>t.1) (fun t=>t.1≤l.length - 1∧stayF l keep count t.1=true∧t.2.1=sumF Seg.size ((l.drop t.1).take (l.length - t.1 - 1))∧t.2.2.1=sumF Seg.n (l.drop t.1)∧t.2.2.2=(t.1:Int) - 1) (fun t=>[vl (l.map Seg.enc),vi keep,vi count,vi t.2.1,vi t.2.2.1,vi t.2.2.2]) (fun _=>[])
   (fun _=>(vi (W:Nat),[])) ?_ (l.length - 1,0,p.n,(l.length:Int) - 1 - 1) ⟨Nat.le_refl _,hsq,hinit.1.symm,hinit.2.symm,by simp only []; omega⟩ _ _ hdM
  rintro ⟨j,b,r,i⟩ ⟨h1,h2,h3,h4,h5⟩ R hR
  simp only at h1 h2 h3 h4 h5
  by_cases hj:j=0
  ·have e:W=0:=by rw [hW]; exact pickF_at l keep count 0 (by omega) (hj ▸ h2) (fun i hi=>absurd hi (by omega))
   have ci:¬ (0:Int)≤i:=by omega
   rw [e]
   (simp (disch:=first|decide|omega|(intros;exact Eq.trans rfl rfl)|simp only[puri]) only [a27_0,a27,decide_eq_false ci,go_sem,seval,dis])
   try simp [trim]
  ·have hjl:j - 1 < l.length:=by omega
   have ci:(0:Int)≤i:=by omega
   have ei:i.toNat=j - 1:=by omega
   have g1:(l.map Seg.enc)[j - 1]?=some l[j - 1].enc:=by rw [List.getElem?_map,List.getElem?_eq_getElem hjl]; rfl
   have s1:sumF Seg.size ((l.drop (j - 1)).take (l.length - (j - 1) - 1))=l[j - 1].size+sumF Seg.size ((l.drop j).take (l.length - j - 1)):=by
    have:=take_drop1 l (j - 1) (by omega)
    simp only [show j - 1+1=j by omega] at this
    rw [this]; rfl
   have s2:sumF Seg.n (l.drop (j - 1))=l[j - 1].n+sumF Seg.n (l.drop j):=by rw [sum_drop _ _ _ hjl,show j - 1+1=j by omega]
   have sb:=sum_lt Seg.size (l.drop j) (by simp; omega) (fun g hg=>(h.2 g (List.mem_of_mem_drop hg)).2) (l.length - j - 1)
   have sn:=sum_lt Seg.n (l.drop j) (by simp; omega) (fun g hg=>(h.2 g (List.mem_of_mem_drop hg)).1) l.length
   rw [List.take_of_length_le (by simp)] at sn
   have hm:=h.2 _ (List.getElem_mem hjl)
   have hst:=stay_iff l keep count (j - 1) (by omega)
   have hR':=hR (j - 1,b+l[j - 1].size,r+l[j - 1].n,i - 1) (by simp only []; omega)
   rw [s1,s2] at hst
   simp only [s1,s2] at hR'
   rw [← h3] at hst sb hR'
   rw [← h4] at hst sn hR'
   have hdn:=stay_down l keep count h (j - 1)
   obtain ⟨q,hq⟩:∃ q,q=l[j - 1]:=⟨_,rfl⟩
   rw [← hq] at g1 hst hm hR'
   have hjn:((j - 1:Nat):Int)+1=j:=by omega
   have hij:i+1=(j:Int):=by omega
   by_cases k1:keep < b+q.size
   ·have hf:=hst.2 (.inl (by omega))
    have e:W=j:=by rw [hW]; exact pickF_at l keep count j (by omega) h2 (fun i hi=>hdn hf i (by omega))
    rw [e]
    (simp (disch:=first|decide|omega|(intros;exact Eq.trans rfl rfl)|simp only[puri]) only [a27_0,ci,ei,g1,Seg.enc,decide_eq_true k1,hij,go_sem,seval,dis])
    try simp [trim]
   ·by_cases k2:count < r+q.n
    ·have hf:=hst.2 (.inr (by omega))
     have e:W=j:=by rw [hW]; exact pickF_at l keep count j (by omega) h2 (fun i hi=>hdn hf i (by omega))
     rw [e]
     (simp (disch:=first|decide|omega|(intros;exact Eq.trans rfl rfl)|simp only[puri]) only [a27_0,ci,ei,g1,Seg.enc,decide_eq_false k1,decide_eq_true k2,hij,go_sem,seval,dis])
     try simp [trim]
    ·have hsy:stayF l keep count (j - 1)=true:=by
      cases hx:stayF l keep count (j - 1) with
      | true=>rfl
      | false=>have:=hst.1 hx; omega
     (simp (disch:=first|decide|omega|(intros;exact Eq.trans rfl rfl)|simp only[puri]) only [a27_0,ci,ei,g1,Seg.enc,decide_eq_false k1,decide_eq_false k2,go_sem,seval,dis])
     exact hR' ⟨by omega,hsy,by omega,by omega,by omega⟩ _ _ hdM
end Go.Proofs.YtfalabebadoaiaaGreat
