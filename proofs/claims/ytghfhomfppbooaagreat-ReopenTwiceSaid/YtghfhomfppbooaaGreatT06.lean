import Derived.Test.YtghfhomfppbooaaGreatT05
import Derived.Test.YtghfhomfppbooaaGreatT04
import Derived.Test.YtghfhomfppbooaaGreatT03
set_option linter.unusedSimpArgs false
set_option linter.unusedVariables false
namespace Go.Proofs.YtghfhomfppbooaaGreat
open Go.Vi
def Sto.scans (s:Sto):List SR:=s.segs.map fun g=>(g,(cU (s.txt g) g.base).1.map (·.1))
theorem CJ {k u:Nat} {s:Sto} (h:okS k u s) (hu:u<=1000000):∀ p∈s.scans,p.2.length<=1000000:=by
 intro p hp;simp only[Sto.scans,List.mem_map] at hp;obtain⟨g,hg,rfl⟩:=hp;rw[List.length_map];exact Nat.le_trans (mH _ _) (Nat.le_trans (eD _ _) (Nat.le_trans h.dsk.used hu))
def oX (s:Sto) (off:Int):V:=if off<0∨s.next<=off then .tup [(true,[.d (.i .i64 0),.d (.i .i64 0),.d (.s [])]),(false,[.d (.i .i64 6)])] else jK (aY s.scans) off
set_option maxRecDepth 8000 in
theorem DI {k u:Nat} (s:Sto) (h:okS k u s) (hk:k<=800000) (hu:u<=1000000) (off:Int):call 16 [.agg s.l,vi off] []=some (oX s off,[]):=by
 have hall:=fun g hg=>FD s h hk hu g hg
 have n1:s.segs=s.scans.map (·.1):=by rw[Sto.scans,List.map_map];exact(List.map_id s.segs).symm
 have n3:∀ p∈s.scans,((cU (s.txt p.1) p.1.base).1.map fun x=>x.1.enc)=p.2.map Rec.enc:=by
  intro p hp;simp only[Sto.scans,List.mem_map] at hp;obtain⟨g,hg,rfl⟩:=hp;simp
 have hlen:=h.len;have hcell:s.l=[.d (.l (s.disk.files.map Fil.enc)),.d (.i .i64 s.disk.cap),.d (.b s.disk.armed),.d (.i .i64 s.disk.left),.d (.b s.disk.down),.d (.i .i64 s.ver),.d (.l (s.segs.map Seg.enc)),.d (.i .i64 s.next),.d (.i .i64 s.sure),.d (.i .i64 s.size),.d (.i .u32 s.sum)]:=rfl;apply ai Qc rfl;rw[hcell] at hall ⊢;by_cases c1:off<0
 ·have e:oX s off=.tup [(true,[.d (.i .i64 0),.d (.i .i64 0),.d (.s [])]),(false,[.d (.i .i64 6)])]:=by unfold oX;rw[if_pos (.inl c1)]
  rw[e];(simp(disch:=first|decide|omega|(intros;exact rfl)|simp only[aa]) only[aS,NK,c1,go_sem,seval,aq])
  try simp[trim]
 ·by_cases c2:s.next<=off
  ·have e:oX s off=.tup [(true,[.d (.i .i64 0),.d (.i .i64 0),.d (.s [])]),(false,[.d (.i .i64 6)])]:=by unfold oX;rw[if_pos (.inr c2)]
   rw[e];(simp(disch:=first|decide|omega|(intros;exact rfl)|simp only[aa]) only[aS,NK,c1,c2,go_sem,seval,aq])
   try simp[trim]
  ·have e:oX s off=jK (aY s.scans) off:=by unfold oX;rw[if_neg (by omega)]
   rw[e];obtain⟨R,n2⟩:∃ R,aY s.scans=R:=⟨_,rfl⟩;rw[n2];have hsc:=CJ h hu;obtain⟨N,hN⟩:∃ N,N=s.scans:=⟨_,rfl⟩;rw[<- hN] at n1 n2 n3 hsc;obtain⟨Z,hZ⟩:∃ Z:V,Z=jK R off:=⟨_,rfl⟩;rw[<- hZ];(simp(disch:=first|decide|omega|(intros;exact rfl)|simp only[aa]) only[aS,NK,c1,c2,go_sem,seval,aq])
   have hNl:N.length=s.segs.length:=by rw[n1];simp
   refine aI (m:=0) (σ:=Nat) (fun i=>N.length-i) (fun i=>i<=N.length∧jK R off=jK (aY (N.drop i)) off) (fun i=>[vi off,V.one (.p 0 0),V.one (.p 1 0),vi i])
    (fun _=>[.cells [.d (.l (s.disk.files.map Fil.enc)),.d (.i .i64 s.disk.cap),.d (.b s.disk.armed),.d (.i .i64 s.disk.left),.d (.b s.disk.down),.d (.i .i64 s.ver),.d (.l (s.segs.map Seg.enc)),.d (.i .i64 s.next),.d (.i .i64 s.sure),.d (.i .i64 s.size),.d (.i .u32 s.sum)],.cells [.d (.i .i64 0),.d (.i .i64 0),.d (.s [])]]) (fun _=>(Z,[])) ?_ 0 ⟨Nat.zero_le _,by rw[List.drop_zero,n2]⟩ _ _ ?_
   rotate_left
   ·exact cG
   rintro i ⟨hi,hinv⟩ K hK;by_cases c3:i<N.length
   ·have ci:(i:Int)<(s.segs.length:Int):=by omega
    have hsi:s.segs[i]?=some N[i].1:=by rw[n1];simp[c3]
    have hmem:N[i].1∈s.segs:=List.mem_of_getElem? hsi;have g1:(s.segs.map Seg.enc)[i]?=some N[i].1.enc:=by rw[List.getElem?_map,hsi];rfl
    have g2:=hall _ hmem;rw[n3 _ (List.getElem_mem c3)] at g2;rw[Dh N i c3] at hinv;have hpl:N[i].2.length<=1000000:=hsc _ (List.getElem_mem c3);generalize N[i]=p at *;obtain⟨⟨pb,pn,pz⟩,pl⟩:=p;simp only[Seg.enc,List.map_cons,List.map_nil] at g1 g2 hinv hpl;(simp(disch:=first|decide|omega|(intros;exact rfl)|simp only[aa]) only[aS,G0,ci,g1,g2,go_sem,seval,aq])
    refine aI (m:=0) (σ:=Nat) (fun j=>pl.length-j) (fun j=>j<=pl.length∧jK R off=jK (pl.drop j++aY (N.drop (i+1))) off) (fun j=>[vi off,V.one (.p 0 0),V.one (.p 1 0),vi i,vl (pl.map Rec.enc),vi j])
     (fun _=>[.cells [.d (.l (s.disk.files.map Fil.enc)),.d (.i .i64 s.disk.cap),.d (.b s.disk.armed),.d (.i .i64 s.disk.left),.d (.b s.disk.down),.d (.i .i64 s.ver),.d (.l (s.segs.map Seg.enc)),.d (.i .i64 s.next),.d (.i .i64 s.sure),.d (.i .i64 s.size),.d (.i .u32 s.sum)],.cells [.d (.i .i64 0),.d (.i .i64 0),.d (.s [])]]) (fun _=>(Z,[])) ?_ 0 ⟨Nat.zero_le _,hinv⟩ _ _ ?_
    rotate_left
    ·exact cG
    rintro j ⟨hj,hinv2⟩ K2 hK2;by_cases c4:j<pl.length
    ·have cj:(j:Int)<(pl.length:Int):=by omega
     have g3:(pl.map Rec.enc)[j]?=some pl[j].enc:=by simp[c4]
     rw[List.drop_eq_getElem_cons c4,List.cons_append] at hinv2;generalize pl[j]=r at *;by_cases c5:r.at_=off
     ·rw[Fa c5] at hinv2;rw[hinv2] at hZ;obtain⟨ra,rt,rd⟩:=r;simp only[Rec.enc,List.map_cons,List.map_nil] at g3 c5 hZ;(simp(disch:=first|decide|omega|(intros;exact rfl)|simp only[aa]) only[aS,B7,cj,g3,c5,go_sem,seval,aq])
      rw[hZ];try simp[trim,c5]
     ·rw[Ih c5] at hinv2;obtain⟨ra,rt,rd⟩:=r;simp only[Rec.enc,List.map_cons,List.map_nil] at g3 c5;(simp(disch:=first|decide|omega|(intros;exact rfl)|simp only[aa]) only[aS,B7,cj,g3,c5,go_sem,seval,aq])
      exact hK2 (j+1) (by omega) ⟨by omega,hinv2⟩ _ _ cG
    ·have cj:¬ (j:Int)<(pl.length:Int):=by omega
     rw[List.drop_of_length_le (by omega),List.nil_append] at hinv2
     (simp(disch:=first|decide|omega|(intros;exact rfl)|simp only[aa]) only[aS,B7,cj,go_sem,seval,aq])
     exact hK (i+1) (by omega) ⟨by omega,hinv2⟩ _ _ cG
   ·have ci:¬ (i:Int)<(s.segs.length:Int):=by omega
    rw[List.drop_of_length_le (by omega)] at hinv
    have e:jK (aY []) off=.tup [(true,[.d (.i .i64 0),.d (.i .i64 0),.d (.s [])]),(false,[.d (.i .i64 11)])]:=rfl;rw[e] at hinv;rw[hinv] at hZ;(simp(disch:=first|decide|omega|(intros;exact rfl)|simp only[aa]) only[aS,G0,ci,go_sem,seval,aq])
    rw[hZ];try simp[trim]
def aQ (n:Int):Txt:=eU 116 n.toNat
theorem EM {n:Int} (h:0<=n∧n<=1099511627776):call 105 [vi n] []=some (vs (aQ n),[]):=by
 apply ai N7 rfl;have h1:=uZ 116 n.toNat (by omega)
 have e:(((116:UInt8).toNat:Nat):Int)=116:=rfl;have e2:((n.toNat:Nat):Int)=n:=by omega
 rw[e,e2] at h1;have e3:aQ n=eU 116 n.toNat:=rfl;rw[e3];(simp(disch:=first|decide|omega|(intros;exact rfl)|simp only[aa]) only[ML,h1,go_sem,seval,aq])
 try simp[trim]
theorem pW {n:Int} (h:0<=n∧n<=1099511627776):call 30 [vi n] []=some (vs (aQ n),[]):=by
 have h1:=qn n.toNat (by omega)
 have e:((n.toNat:Nat):Int)=n:=by omega
 rw[e] at h1;have e2:aQ n=116::gi n.toNat 13:=by
  unfold aQ eU gi;congr 1
 have hl:(gi n.toNat 13).length=13:=by simp[gi]
 rw[e2];generalize gi n.toNat 13=T at *;have c1:¬ n<0:=by omega
 have c2:¬ (1099511627776:Int)<n:=by omega
 apply ai QN rfl;(simp(disch:=first|decide|omega|(intros;exact rfl)|simp only[aa]) only[PW,c1,c2,h1,hl,go_sem,seval,aq])
 try simp[trim]
theorem hU {k u:Nat} {s:Sto} (h:okS k u s):0<=s.floor∧s.floor<=1099511627776:=by
 have:=h.len;unfold Sto.floor;split
 ·omega
 ·rename_i g r he;exact(h.seg g (by rw[he];simp)).1
def fg (s:Sto):Txt:=if s.floor=0 then[] else(aC s.disk.files (aQ s.floor)).1
theorem Dd {k u:Nat} (s:Sto) (h:okS k u s) (hk:k<=800000):call 41 [.agg s.l] []=some (vs (fg s),[]):=by
 have hf:=l8 s;have hn:=pW (hU h);have hr:=sP s.disk (Nat.le_trans h.dsk.len (by omega)) h.dsk.srt (aQ s.floor)
 have e:fg s=if s.floor=0 then[] else(aC s.disk.files (aQ s.floor)).1:=rfl
 rw[e];generalize s.floor=fl at *;generalize aQ fl=N at *;generalize aC s.disk.files N=rf at *;have hcell:s.l=[.d (.l (s.disk.files.map Fil.enc)),.d (.i .i64 s.disk.cap),.d (.b s.disk.armed),.d (.i .i64 s.disk.left),.d (.b s.disk.down),.d (.i .i64 s.ver),.d (.l (s.segs.map Seg.enc)),.d (.i .i64 s.next),.d (.i .i64 s.sure),.d (.i .i64 s.size),.d (.i .u32 s.sum)]:=rfl;have hd:s.disk.l=[.d (.l (s.disk.files.map Fil.enc)),.d (.i .i64 s.disk.cap),.d (.b s.disk.armed),.d (.i .i64 s.disk.left),.d (.b s.disk.down)]:=rfl;apply ai P4 rfl;rw[hcell] at hf ⊢;rw[hd] at hr;by_cases c:fl=0
 ·rw[if_pos c];(simp(disch:=first|decide|omega|(intros;exact rfl)|simp only[aa]) only[aS,N8,hf,c,go_sem,seval,aq])
  try simp[trim]
 ·rw[if_neg c];have c':(fl == 0)=false:=by simpa using c
  (simp(disch:=first|decide|omega|(intros;exact rfl)|simp only[aa]) only[aS,N8,hf,hn,hr,c',go_sem,seval,aq])
  try simp[trim]
theorem Gg (t:List UInt8) (h:(gD t).2=0):whyF (gD t).1=0:=by
 unfold gD at *;split at h
 ·exact absurd h (by decide)
 ·split at h
  ·exact absurd h (by decide)
  ·rename_i n k _ _ m j _;by_cases c:whyF ⟨n,m,t.drop (k+j)⟩=0
   ·simp only[if_pos c];exact c
   ·simp only[if_neg c] at h;exact absurd h c
theorem sC (s:List UInt8):∀ (f a:Nat) (b:Int),∀ x∈(bg f s a b).1,whyF x.1=0
 | 0,a,b,x,hx=>by simp[bg] at hx
 | f+1,a,b,x,hx=>by
  by_cases ha:a<s.length
  ·obtain⟨⟨t,n,e⟩,hn⟩:∃ y,cr s a=y:=⟨_,rfl⟩;by_cases he:e=0
   ·subst he;by_cases hg:(gD t).2=0
    ·by_cases hb:(gD t).1.at_=b
     ·rw[dF ha hn hg hb] at hx;rcases List.mem_cons.1 hx with rfl|hx
      ·exact Gg t hg
      ·exact sC s f n (b+1) x hx
     ·rw[fS ha hn hg hb] at hx;cases hx
    ·rw[ga ha hn hg] at hx;cases hx
   ·rw[dG ha hn he] at hx;cases hx
  ·rw[dz (Nat.not_lt.1 ha)] at hx;cases hx
theorem Ha (s:List UInt8) (b:Int):∀ x∈(cU s b).1,whyF x.1=0:=by
 intro x hx;unfold cU at hx;split at hx
 ·exact sC s _ _ _ x hx
 ·cases hx
theorem BG {r:Rec} (h:whyF r=0):r.da.length<=64:=by
 unfold whyF at h;split at h
 ·split at h
  ·assumption
  ·exact absurd h (by decide)
 ·exact absurd h (by decide)
def i7 (s:Sto) (off:Int):List UInt8:=if off<0∨s.next<=off then[] else match (aY s.scans).find? (fun r=>decide (r.at_=off)) with
 | some r=>r.da
 | none=>[]
theorem IP (s:Sto) (off:Int):∃ a b e,oX s off=.tup [(true,[.d (.i .i64 a),.d (.i .i64 b),.d (.s (i7 s off))]),(false,[.d (.i .i64 e)])]:=by
 unfold oX i7;split
 ·exact⟨_,_,_,rfl⟩
 ·unfold jK;cases (aY s.scans).find? (fun r=>decide (r.at_=off)) with
  | none=>exact⟨_,_,_,rfl⟩
  | some r=>exact⟨r.at_,r.ti,0,rfl⟩
theorem xl (s:Sto) (off:Int):(i7 s off).length<=64:=by
 unfold i7;split
 ·simp
 ·cases hf:(aY s.scans).find? (fun r=>decide (r.at_=off)) with
  | none=>simp
  | some r =>
   have hm:=List.mem_of_find?_eq_some hf;simp only[aY,Sto.scans,List.flatMap_map,List.mem_flatMap,List.mem_map] at hm;obtain⟨g,_,x,hx,rfl⟩:=hm;exact BG (Ha _ _ x hx)
theorem Cb (P Q:Pr->Bool) (h:∀ p,P p=true->Q p=false):∀ l:List Pr,(l.takeWhile P).length+(l.filter Q).length<=l.length
 | []=>by simp
 | x::r=>by
  rw[List.takeWhile_cons,List.filter_cons];by_cases hp:P x=true
  ·have hq:=h x hp;have:=Cb P Q h r;simp[hp,hq];omega
  ·have h2:(r.filter Q).length<=r.length:=List.length_filter_le _ _;rw[if_neg hp];by_cases hq:Q x=true <;> simp[hq] <;> omega
theorem step_len (l:List Pr) (d:List UInt8):(eL l d).length<=l.length+1:=by
 cases d with
 | nil=>simp[eL]
 | cons c r =>
  have h1:=Cb (fun p=>decide (p.key<(c.toNat:Int))) (fun p=>decide ((c.toNat:Int)<p.key)) (fun p hp=>by simp at hp ⊢;omega) l
  simp only[eL,List.length_append];split <;> simp at h1 ⊢ <;> omega
def okP (l:List Pr):Prop:=∀ p∈l,(0<=p.key∧p.key<256)∧p.val.length<=64
theorem step_ok {l:List Pr} (h:okP l) {d:List UInt8} (hd:d.length<=64):okP (eL l d):=by
 cases d with
 | nil=>exact h
 | cons c r =>
  intro p hp;simp only[eL,List.mem_append] at hp;rcases hp with(hp|hp)|hp
  ·exact h p ((List.takeWhile_sublist _).subset hp)
  ·split at hp
   ·cases hp
   ·rw[List.mem_singleton] at hp;subst hp;have:=UInt8.toNat_lt c;simp at hd;exact⟨⟨by simp only[];omega,by simp only[];omega⟩,by simp only[];omega⟩
  ·exact h p (List.mem_filter.1 hp).1
theorem Bs (s:List UInt8):∀ (n a:Nat) (out:List Pr) (r:List Pr × Nat),gE s n a out=some r->(∀ p∈out,0<=p.key∧p.key<256)->(∀ p∈r.1,0<=p.key∧p.key<256)∧r.1.length=out.length+n
 | 0,a,out,r,h,ho=>by simp only[gE] at h;cases h;exact⟨ho,rfl⟩
 | n+1,a,out,r,h,ho=>by
  simp only[gE] at h;split at h
  ·rename_i p b hp;have hk:0<=p.key∧p.key<256:=by
    unfold oI at hp;split at hp
    ·split at hp
     ·cases hp
     ·cases hp;have:=UInt8.toNat_lt (s[a]?.getD 0);exact⟨by simp only[];omega,by simp only[];omega⟩
    ·cases hp
   have:=Bs s n b (out++[p]) r h (fun q hq=>by
    rcases List.mem_append.1 hq with hq|hq
    ·exact ho q hq
    ·rw[List.mem_singleton.1 hq];exact hk)
   refine⟨this.1,?_⟩;rw[this.2];simp;omega
  ·cases h
theorem Cw {l:List Pr} (h:fF l=true):∀ p∈l,p.val.length<=64:=by
 intro p hp;obtain⟨i,hi,rfl⟩:=List.getElem_of_mem hp;have:=(List.all_eq_true.1 h) i (by simpa using hi)
 simp only[qR,List.getElem?_eq_getElem hi,vq,Bool.and_eq_true,decide_eq_true_eq] at this;omega
theorem sS {s:List UInt8} {l:List Pr} (h:ch s=some l):okP l∧l.length<=256:=by
 unfold ch at h;split at h
 ·rename_i n k _;split at h
  ·cases h
  ·rename_i hn;unfold nb at h;split at h
   ·rename_i out a ho;split at h
    ·rename_i hc;cases h;have:=Bs s n k [] _ ho (fun p hp=>by cases hp)
     have hv:=Cw hc.2;refine⟨fun p hp=>⟨this.1 p hp,hv p hp⟩,?_⟩
     rw[this.2];simp;omega
    ·cases h
   ·cases h
 ·cases h
def pX (s:Sto):Nat->Int->List Pr->List Pr
 | 0,_,l=>l
 | n+1,i,l=>pX s n (i+1) (eL l (i7 s i))
def bo (s:Sto) (off:Int):List Pr:=pX s (off-s.floor).toNat s.floor ((ch (fg s)).getD [])
theorem GM (s:Sto):∀ (n:Nat) (i:Int) (l:List Pr),okP l->okP (pX s n i l)∧(pX s n i l).length<=l.length+n
 | 0,i,l,h=>⟨h,by simp[pX]⟩
 | n+1,i,l,h=>by
  have h1:=GM s n (i+1) (eL l (i7 s i)) (step_ok h (xl s i));have h2:=step_len l (i7 s i);exact⟨h1.1,by simp only[pX];omega⟩
theorem w6 (s:Sto) (off:Int):okP (bo s off)∧(bo s off).length<=256+(off-s.floor).toNat:=by
 have h:okP ((ch (fg s)).getD [])∧((ch (fg s)).getD []).length<=256:=by
  cases hp:ch (fg s) with
  | none=>exact⟨fun p hp=>(by simp at hp),by simp⟩
  | some l=>exact sS hp
 have:=GM s (off-s.floor).toNat s.floor _ h.1;exact⟨this.1,by unfold bo;omega⟩
set_option maxRecDepth 8000 in
set_option maxHeartbeats 1000000 in
theorem z7 {k u:Nat} (s:Sto) (h:okS k u s) (hk:k<=800000) (hu:u<=1000000) (off:Int) (ho:off<=s.floor+100000):call 18 [.agg s.l,vi off] []=some (vl ((bo s off).map Pr.enc),[]):=by
 have hf:=l8 s;have hfb:=hU h;have hs:=Dd s h hk;have hsl:(fg s).length<=1000000:=by
  unfold fg;split
  ·simp
  ·exact Nat.le_trans (eD _ _) (Nat.le_trans h.dsk.used hu)
 have hp:=C9 (fg s) (by omega)
 have hpv:∃ ok:Bool,i6 (ch (fg s))=.tup [(false,[.d (.l (((ch (fg s)).getD []).map Pr.enc))]),(false,[.d (.b ok)])]:=by
  cases ch (fg s) with
  | none=>exact⟨false,rfl⟩
  | some l=>exact⟨true,rfl⟩
 have hl0:((ch (fg s)).getD []).length<=256:=by
  cases hp:ch (fg s) with
  | none=>simp
  | some l=>exact(sS hp).2
 have hg:=fun i=>DI s h hk hu i
 obtain⟨Z,hZ⟩:∃ Z:V,Z=vl ((bo s off).map Pr.enc):=⟨_,rfl⟩;rw[<- hZ];have hZ':Z=vl ((pX s (off-s.floor).toNat s.floor ((ch (fg s)).getD [])).map Pr.enc):=hZ;clear hZ;obtain⟨ok,hpv⟩:=hpv;rw[hpv] at hp;generalize (ch (fg s)).getD []=l0 at *;generalize fg s=sn at *;have hcell:s.l=[.d (.l (s.disk.files.map Fil.enc)),.d (.i .i64 s.disk.cap),.d (.b s.disk.armed),.d (.i .i64 s.disk.left),.d (.b s.disk.down),.d (.i .i64 s.ver),.d (.l (s.segs.map Seg.enc)),.d (.i .i64 s.next),.d (.i .i64 s.sure),.d (.i .i64 s.size),.d (.i .u32 s.sum)]:=rfl;apply ai QI rfl;rw[hcell] at hf hs hg ⊢;obtain⟨fl,hfl⟩:∃ fl,fl=s.floor:=⟨_,rfl⟩;rw[<- hfl] at hf hfb hZ' ho;(simp(disch:=first|decide|omega|(intros;exact rfl)|simp only[aa]) only[aS,N5,hf,hs,hp,go_sem,seval,aq])
 refine aI (m:=0) (σ:=Int × List Pr) (fun t=>(off-t.1).toNat) (fun t=>fl<=t.1∧t.2.length<=256+(t.1-fl).toNat∧Z=vl ((pX s (off-t.1).toNat t.1 t.2).map Pr.enc)) (fun t=>[vi off,V.one (.p 0 0),vl (t.2.map Pr.enc),vi t.1])
  (fun _=>[.cells [.d (.l (s.disk.files.map Fil.enc)),.d (.i .i64 s.disk.cap),.d (.b s.disk.armed),.d (.i .i64 s.disk.left),.d (.b s.disk.down),.d (.i .i64 s.ver),.d (.l (s.segs.map Seg.enc)),.d (.i .i64 s.next),.d (.i .i64 s.sure),.d (.i .i64 s.size),.d (.i .u32 s.sum)]]) (fun _=>(Z,[])) ?_ (fl,l0) ⟨Int.le_refl _,by simp only[];omega,hZ'⟩ _ _ cG
 rintro⟨i,l⟩ ⟨h1,h2,h3⟩ R hR;simp only at h1 h2 h3;by_cases hi:i<off
 ·obtain⟨n,hn⟩:∃ n,(off-i).toNat=n+1:=⟨(off-i).toNat-1,by omega⟩
  rw[hn,pX] at h3;obtain⟨a,b,e,he⟩:=IP s i;have hgi:=hg i;rw[he] at hgi;have hst:=step_ref l (by omega) (i7 s i) (Nat.le_trans (xl s i) (by decide))
  have hsl:=step_len l (i7 s i);have hR':=hR (i+1,eL l (i7 s i)) (by simp only[];omega) ⟨by simp only[];omega,by simp only[];omega,by simp only[];rw[show(off-(i+1)).toNat=n by omega];exact h3⟩
  generalize eL l (i7 s i)=l1 at *;generalize i7 s i=dd at *;(simp(disch:=first|decide|omega|(intros;exact rfl)|simp only[aa]) only[aS,FJ,decide_eq_true hi,hgi,hst,go_sem,seval,aq])
  exact hR' _ _ cG
 ·have e:(off-i).toNat=0:=by omega
  rw[e,pX] at h3;rw[h3];(simp(disch:=first|decide|omega|(intros;exact rfl)|simp only[aa]) only[aS,FJ,N5,decide_eq_false hi,go_sem,seval,aq])
  try simp[trim]
theorem qD (d:Dsk) (hd:d.ok) (e:Int) (n:Txt):call 118 [.agg d.l,vi e,vs n] []=some (bu (cL n (d,e)),[]):=by
 have h:=dC d hd n;have e1:cN n (d,0)=au d (bZ d.files n):=bO _ _;have eu:cL n (d,e)=if e≠9 then(d,e) else if(au d (bZ d.files n)).2=0 then((au d (bZ d.files n)).1,9) else au d (bZ d.files n):=by
  unfold cL;simp only[e1]
 rw[eu];generalize au d (bZ d.files n)=q at *;obtain⟨⟨fl,cp,ar,lf,dn⟩,qe⟩:=q;obtain⟨fl0,cp0,ar0,lf0,dn0⟩:=d;simp only[bu,Dsk.l] at h ⊢;apply ai Pb rfl;by_cases c:e=9
 ·subst c;rw[if_neg (by simp)]
  by_cases c2:qe=0
  ·subst c2;rw[if_pos rfl];(simp(disch:=first|decide|omega|(intros;exact rfl)|simp only[aa]) only[aS,IR,h,go_sem,seval,aq])
   try simp[trim]
  ·rw[if_neg c2];(simp(disch:=first|decide|omega|(intros;exact rfl)|simp only[aa]) only[aS,IR,h,c2,go_sem,seval,aq])
   try simp[trim,c2]
 ·rw[if_pos c];(simp(disch:=first|decide|omega|(intros;exact rfl)|simp only[aa]) only[aS,IR,c,go_sem,seval,aq])
  try simp[trim,c]
def qP (x:Txt):Int:=(((bT 0#32 x).toNat:Nat):Int)
theorem Bx (x:Txt):0<=qP x∧qP x<4294967296:=by
 have:=(bT 0#32 x).isLt;unfold qP;omega
def nB (d:Dsk) (n x:Txt) (m:Man):Dsk × Int :=
 let a:=bQ n (d,0)
 let b:=if a.2=0 then cL n (j5 n x a) else a
 let c:=ee n b
 if c.2=0 then cL n (bR m c) else c
def eZ (l:List Seg) (s:Dsk × Int):Dsk × Int:=l.foldl (fun s g=>cN (fileN g.base) s) s
def qO (s:Sto) (k:Nat) (q:Dsk × Int):Dsk × Int :=
 let r:=eZ (s.segs.take k) q
 if r.2=0∧0<s.floor then cN (aQ s.floor) r else r
def aM (l:List Seg) (k:Nat):Int:=match l[k]? with|some g=>g.base|none=>0
def db (s:Sto) (k:Nat):Sto:={ s with ver:=s.ver+1,segs:=s.segs.drop k,size:=((bt (bo s (aM s.segs k))).length:Nat),sum:=qP (bt (bo s (aM s.segs k))) }
def oV (s:Sto) (k:Nat):Sto × Int :=
 let e:=nB s.disk (aQ (aM s.segs k)) (bt (bo s (aM s.segs k))) (db s k).man
 if e.2≠0 then({ s with disk:=e.1 },e.2) else({ db s k with disk:=(qO s k e).1 },(qO s k e).2)
def dk (s:Sto) (keep count:Int):Sto × Int:=if dR s.segs keep count=0 then(s,0) else oV s (dR s.segs keep count)
theorem wt {k u:Nat}:∀ (l:List Seg) (s:Dsk × Int),okN k u s.1->okN k u (eZ l s).1
 | [],s,h=>h
 | g::l,s,h=>wt l _ (ft h _)
theorem La {k u:Nat} {s:Sto} {n:Nat} {q:Dsk × Int} (h:okN k u q.1):okN k u (qO s n q).1:=by
 unfold qO;simp only[];split
 ·exact ft (wt _ _ h) _
 ·exact wt _ _ h
theorem LP {k u:Nat} {d:Dsk} (h:okN k u d) (n x:Txt) (m:Man):okN (k+2) (u+x.length+800) (nB d n x m).1:=by
 unfold nB;simp only[];have h1:=fN (s:=(d,0)) h n;have h2:okN (k+1) (u+x.length) (if(bQ n (d,0)).2=0 then cL n (j5 n x (bQ n (d,0))) else bQ n (d,0)).1:=by
  split
  ·exact lT (lW h1 n x) n
  ·exact h1.up (by omega) (by omega)
 generalize (if(bQ n (d,0)).2=0 then cL n (j5 n x (bQ n (d,0))) else bQ n (d,0))=b at *
 have h3:=lU h2 n;split
 ·exact lT (kl h3 m) n
 ·exact h3.up (by omega) (by omega)
theorem xh (n:Nat) (h:n<9223372036854775808):(ah n).length<=9:=gP h
theorem pF {l:List Pr} (h:okP l) (hl:l.length<=1000000):(bt l).length<=9+74*l.length:=by
 have h1:∀ l:List Pr,okP l->(l.flatMap lV).length<=74*l.length:=by
  intro l;induction l with
  | nil=>intro _;simp
  | cons p r ih =>
   intro h;have hp:=(h p (by simp)).2
   have hr:=ih (fun q hq=>h q (by simp[hq]))
   have he:=xh p.val.length (by omega)
   rw[List.flatMap_cons,List.length_append];simp only[lV,List.length_cons,List.length_append];omega
 have h2:=h1 l h;have h3:=xh l.length (by omega)
 unfold bt;rw[List.length_append];omega
theorem gv {l:List Seg} {k:Nat} (h:k<l.length):l[k]?=some l[k]∧aM l k=l[k].base:=by
 have e:l[k]?=some l[k]:=List.getElem?_eq_getElem h;exact⟨e,by unfold aM;rw[e]⟩
theorem wy {k u:Nat} {s:Sto} (h:okS k u s) {n:Nat} (hn:n<s.segs.length):0<=aM s.segs n∧aM s.segs n<=1099511627776:=by
 rw[(gv hn).2];exact(h.seg _ (List.getElem_mem hn)).1
theorem Fm {k u:Nat} {s:Sto} (h:okS k u s) {n:Nat} (hn:n<s.segs.length) (hb:aM s.segs n<=s.floor+40):okS (k+2) (u+23000) (oV s n).1:=by
 have hs:=w6 s (aM s.segs n);have hlen:=pF hs.1 (by omega)
 have hl:=LP h.dsk (aQ (aM s.segs n)) (bt (bo s (aM s.segs n))) (db s n).man;have hl':=hl.up (k':=k+2) (u':=u+23000) (Nat.le_refl _) (by omega)
 unfold oV;simp only[];split
 ·exact⟨hl',h.len,fun g hg=>by have:=h.seg g hg;omega,h.next,by have:=h.ver;simp only[];omega,h.sum⟩
 ·refine⟨La hl',?_,fun g hg=>?_,h.next,?_,Bx _⟩
  ·show 1<=(s.segs.drop n).length∧(s.segs.drop n).length<=64;have:=h.len;simp;omega
  ·have:=h.seg g (List.mem_of_mem_drop hg);omega
  ·show 0<=s.ver+1∧s.ver+1<=((u+23000:Nat):Int);have:=h.ver;omega
theorem Bb {s:Dsk × Int} (h:s.2≠0):∀ l:List Seg,eZ l s=s
 | []=>rfl
 | g::l=>by
  have e:eZ (g::l) s=eZ l (cN (fileN g.base) s):=rfl;rw[e,show cN (fileN g.base) s=s from gx h _]
  exact Bb h l
theorem Jd {l:List Seg} {i n:Nat} (hi:i<n) (h:i<l.length) (s:Dsk × Int):eZ ((l.take n).drop i) s=eZ ((l.take n).drop (i+1)) (cN (fileN l[i].base) s):=by
 rw[List.drop_eq_getElem_cons (by simp;omega),List.getElem_take];rfl
theorem okS.segsB {k u:Nat} {s:Sto} (h:okS k u s) (hu:u<=1000000):segsB s.segs :=
 ⟨by have:=h.len;omega,fun g hg=>by have:=h.seg g hg;omega⟩
set_option maxRecDepth 20000 in
set_option maxHeartbeats 4000000 in
theorem AS {k u:Nat} (s:Sto) (h:okS k u s) (hk:k<=700000) (hu:u<=1000000) (keep count:Int) (hb:∀ g∈s.segs,g.base<=s.floor+40):call 73 [.agg s.l,vi keep,vi count] []=some (cM (dk s keep count),[]):=by
 have q1:=CP s.segs (h.segsB (by omega)) keep count
 by_cases c0:dR s.segs keep count=0
 ·have e:dk s keep count=(s,0):=by unfold dk;rw[if_pos c0]
  rw[e];rw[c0] at q1;have z0:((0:Nat):Int)=0:=rfl;rw[z0] at q1;obtain⟨⟨fl,cp,ar,lf,dn⟩,ver,segs,next,sure,size,sum⟩:=s;simp only[Sto.l,Dsk.l,cM,List.cons_append,List.nil_append] at q1 ⊢;apply ai PK rfl;(simp(disch:=first|decide|omega|(intros;exact rfl)|simp only[aa]) only[aS,EL,q1,go_sem,seval,aq])
  try simp[trim]
 ·have hn:=tp s.segs keep count c0;have e:dk s keep count=oV s (dR s.segs keep count):=by unfold dk;rw[if_neg c0]
  rw[e];clear e;generalize dR s.segs keep count=n at *;have hfb:=wy h hn;have hbk:aM s.segs n<=s.floor+40:=by rw[(gv hn).2];exact hb _ (List.getElem_mem hn)
  have q2:(s.segs.map Seg.enc)[n]?=some [.i .i64 (aM s.segs n),.i .i64 s.segs[n].n,.i .i64 s.segs[n].size]:=by
   rw[List.getElem?_map,(gv hn).1,(gv hn).2];rfl
  have q3:=pW hfb;have q4:=z7 s h (by omega) (by omega) (aM s.segs n) (by omega)
  have hst:=w6 s (aM s.segs n);have hfo:=hU h;have hxl:=pF hst.1 (by omega)
  have q5:=Cu (bo s (aM s.segs n)) (by omega) (by omega) (fun p hp=>(hst.1 p hp).1)
  have q6:=gA s.disk (h.dsk.ok (by omega) (by omega)) (aQ (aM s.segs n))
  have e6:bQ (aQ (aM s.segs n)) (s.disk,0)=au s.disk (bP s.disk.files (aQ (aM s.segs n))):=bO _ _;have k6:=fN (s:=(s.disk,0)) h.dsk (aQ (aM s.segs n));have q10:=sf (bt (bo s (aM s.segs n))) (by omega)
  have hsum:=Bx (bt (bo s (aM s.segs n)));have es:qP (bt (bo s (aM s.segs n)))=(((bT 0#32 (bt (bo s (aM s.segs n)))).toNat:Nat):Int):=rfl;rw[<- es] at q10;have hxm:(db s n).segs.length<=1000000:=by show(s.segs.drop n).length<=_;have:=h.len;simp;omega
  have q11:=pM (db s n) hxm;have hmo:(db s n).man.ok:=⟨by show((s.segs.drop n).map _).length<=_;rw[List.length_map];exact hxm,hsum⟩
  have eX:db s n={ s with ver:=s.ver+1,segs:=s.segs.drop n,size:=((bt (bo s (aM s.segs n))).length:Nat),sum:=qP (bt (bo s (aM s.segs n))) }:=rfl
  have hX2:(bt (bo s (aM s.segs n))).length<=1000000:=by omega
  unfold oV nB;simp only[];rw[e6] at k6 ⊢;have hfin:∀ q,qO s n q=qO s n q:=fun _=>rfl
  generalize bo s (aM s.segs n)=st at *;generalize bt st=X at *;generalize aQ (aM s.segs n)=N at *;generalize aM s.segs n=fb at *;generalize au s.disk (bP s.disk.files N)=a at *;apply ai PK rfl;have hver:=h.ver;have hok:bf 3 (s.segs.map Seg.enc)=true:=bH Seg.len s.segs;have hslen:s.segs.length<=64:=h.len.2;have hnl:n<=s.segs.length:=Nat.le_of_lt hn;obtain⟨DQ,hDQ,hokd,hdl,hdl2⟩:∃ DQ,List.drop n (s.segs.map Seg.enc)=DQ∧bf 3 DQ=true∧DQ.length<=64∧DQ=(s.segs.drop n).map Seg.enc:=by
   have e:List.drop n (s.segs.map Seg.enc)=(s.segs.drop n).map Seg.enc:=by rw[List.map_drop]
   exact⟨_,rfl,by rw[e];exact bH Seg.len _,by rw[e];simp;omega,e⟩
  by_cases c1:a.2=0
  ·rw[if_pos c1];have e7:j5 N X a=au a.1 (bV a.1.files a.1.cap N X):=if_pos c1;have q7:=iB a.1 (k6.ok (by omega) (by omega)) N X (by omega)
   have k7:=lW k6 N X;rw[e7] at k7 ⊢;generalize au a.1 (bV a.1.files a.1.cap N X)=p at *;have q8:=qD p.1 (k7.ok (by omega) (by omega)) p.2 N
   have k8:=lT k7 N;have ep:cL N (p.1,p.2)=cL N p:=rfl;rw[ep] at q8;generalize cL N p=b at *;by_cases c2:b.2=0
   ·have e9:ee N b=au b.1 (cJ b.1.files N):=if_pos c2;have q9:=kD b.1 (k8.ok (by omega) (by omega)) N
    have k9:=lU k8 N;rw[e9] at k9 ⊢;generalize au b.1 (cJ b.1.files N)=c at *;by_cases c3:c.2=0
    ·rw[if_pos c3];have q12:=nw c.1 k9 (by omega) (by omega) (db s n).man hmo
     have ec:bR (db s n).man (c.1,0)=bR (db s n).man c:=by rw[<- c3]
     have k10:=kl k9 (db s n).man;rw[ec] at q12;generalize bR (db s n).man c=w at *;have q13:=qD w.1 (k10.ok (by omega) (by omega)) w.2 N
     have k11:=lT k10 N;have ew:cL N (w.1,w.2)=cL N w:=rfl;rw[ew] at q13;generalize cL N w=v at *;by_cases c4:v.2=0
     ·rw[if_neg (by simp[c4])]
      have hsg:(db s n).segs.map Seg.enc=DQ:=hdl2.symm;have qf:=l8 s;have qs:=pW hfo;have hseg:=h.seg;obtain⟨fl',hfl'⟩:∃ fl',fl'=s.floor:=⟨_,rfl⟩;have eold:qO s n v=(if(eZ (s.segs.take n) v).2=0∧0<fl' then cN (aQ fl') (eZ (s.segs.take n) v) else eZ (s.segs.take n) v):=by rw[hfl'];rfl
      rw[eold];rw[<- hfl'] at qf qs hfo;clear eold hfl' hfin hbk hb;generalize aQ fl'=FN at *;obtain⟨Z,hZ⟩:∃ Z:V,Z=cM ({ db s n with disk:=(if(eZ (s.segs.take n) v).2=0∧0<fl' then cN FN (eZ (s.segs.take n) v) else eZ (s.segs.take n) v).1 },(if(eZ (s.segs.take n) v).2=0∧0<fl' then cN FN (eZ (s.segs.take n) v) else eZ (s.segs.take n) v).2):=⟨_,rfl⟩
      rw[<- hZ];generalize hQ:eZ (s.segs.take n) v=Q at hZ;obtain⟨⟨fl,cp,ar,lf,dn⟩,ver,segs,next,sure,size,sum⟩:=s;obtain⟨⟨fl1,cp1,ar1,lf1,dn1⟩,a2⟩:=a;obtain⟨⟨fl2,cp2,ar2,lf2,dn2⟩,p2⟩:=p;obtain⟨⟨fl3,cp3,ar3,lf3,dn3⟩,b2⟩:=b;obtain⟨⟨fl4,cp4,ar4,lf4,dn4⟩,c2'⟩:=c;obtain⟨⟨fl5,cp5,ar5,lf5,dn5⟩,w2⟩:=w;obtain⟨⟨fl6,cp6,ar6,lf6,dn6⟩,v2⟩:=v;simp only at c1 c2 c3 c4;subst c1 c2 c3 c4;simp only[Sto.l,Dsk.l,cM,bu,Sto.man,Man.l,eX,List.cons_append,List.nil_append] at q1 q2 q4 q6 q7 q8 q9 q11 q12 q13 hok hnl hDQ hsg hver hZ hQ k11 hseg hn qf hslen ⊢;rw[hsg] at q11 hZ;(simp(disch:=first|decide|omega|(intros;exact rfl)|simp only[aa]) only[aS,EL,q1,q2,q3,q4,q5,q6,q7,q8,q9,q10,c0,hok,hnl,hDQ,hokd,↓df,l5,eg,na,dJ,q11,q12,q13,go_sem,seval,aq,cw,A.kind,A.xs,aP,A.isN])
      refine aI (m:=0) (σ:=Nat × (Dsk × Int)) (fun t=>n-t.1) (fun t=>t.1<=n∧okN (k+1+1) (u+X.length+800) t.2.1∧eZ ((segs.take n).drop t.1) t.2=Q) (fun t=>[V.one (.p 0 0),V.one (.p 1 0),vi n,V.one (.p 2 0),vi t.2.2,V.one (.p 3 0),vi t.1])
       (fun t=>[.cells [.d (.l (fl.map Fil.enc)),.d (.i .i64 cp),.d (.b ar),.d (.i .i64 lf),.d (.b dn),.d (.i .i64 ver),.d (.l (segs.map Seg.enc)),.d (.i .i64 next),.d (.i .i64 sure),.d (.i .i64 size),.d (.i .u32 sum)],
        .cells [.ns,.d (.i .i64 0),.d (.b false),.d (.i .i64 0),.d (.b false),.d (.i .i64 0),.ns,.d (.i .i64 0),.d (.i .i64 0),.d (.i .i64 0),.d (.i .u32 0)],
        .cells [.d (.l (t.2.1.files.map Fil.enc)),.d (.i .i64 t.2.1.cap),.d (.b t.2.1.armed),.d (.i .i64 t.2.1.left),.d (.b t.2.1.down)],
        .cells [.d (.l (fl.map Fil.enc)),.d (.i .i64 cp),.d (.b ar),.d (.i .i64 lf),.d (.b dn),.d (.i .i64 (ver+1)),.sl 4 3 0 DQ.length,.d (.i .i64 next),.d (.i .i64 sure),.d (.i .i64 X.length),.d (.i .u32 (qP X))],
        .arr 3 DQ (max 0 DQ.length)]) (fun _=>(Z,[])) ?_ (0,(⟨fl6,cp6,ar6,lf6,dn6⟩,0)) ⟨Nat.zero_le _,k11,by simpa using hQ⟩ _ _ ?_
      rotate_left
      ·exact cG
      rintro⟨i,⟨⟨dfl,dcp,dar,dlf,ddn⟩,de⟩⟩ ⟨h1,h2,h3⟩ R hR;simp only at h1 h2 h3 ⊢;clear q1 q3 q4 q5 q6 q7 q8 q9 q10 q11 q12 q13 hQ q2;have htk:List.take DQ.length DQ=DQ:=List.take_length;by_cases he:de=0
      ·subst he;by_cases hi:i<n
       ·have hil:i<segs.length:=by omega
        have g1:(segs.map Seg.enc)[i]?=some [.i .i64 segs[i].base,.i .i64 segs[i].n,.i .i64 segs[i].size]:=by
         rw[List.getElem?_map,List.getElem?_eq_getElem hil];rfl
        have g2:=kA (hseg _ (List.getElem_mem hil)).1;have g3:=dC ⟨dfl,dcp,dar,dlf,ddn⟩ (h2.ok (by omega) (by omega)) (fileN segs[i].base)
        have kk:=ft (s:=(⟨dfl,dcp,dar,dlf,ddn⟩,0)) h2 (fileN segs[i].base);have e1:cN (fileN segs[i].base) (⟨dfl,dcp,dar,dlf,ddn⟩,0)=au ⟨dfl,dcp,dar,dlf,ddn⟩ (bZ dfl (fileN segs[i].base)):=bO _ _;rw[Jd hi hil] at h3;rw[e1] at h3 kk;simp only at g3;generalize au ⟨dfl,dcp,dar,dlf,ddn⟩ (bZ dfl (fileN segs[i].base))=q at *;have hR':=hR (i+1,q) (by simp only[];omega) ⟨by simp only[];omega,kk,h3⟩
        generalize fileN segs[i].base=FB at *;obtain⟨⟨qfl,qcp,qar,qlf,qdn⟩,qe⟩:=q;simp only[Dsk.l,bu] at g3 hR';have hci:(i:Int)<(n:Int):=by omega
        (simp(disch:=first|decide|omega|(intros;exact rfl)|simp only[aa]) only[aS,uA,decide_eq_true hci,g1,g2,g3,go_sem,seval,aq,cw,A.kind,A.xs,aP,A.isN])
        exact hR' _ _ cG
       ·have hci:¬ (i:Int)<(n:Int):=by omega
        rw[List.drop_eq_nil_of_le (by simp;omega)] at h3
        have h3':Q=(⟨dfl,dcp,dar,dlf,ddn⟩,0):=h3.symm;subst h3';by_cases hf:0<fl'
        ·rw[if_pos ⟨rfl,hf⟩] at hZ;have g3:=dC ⟨dfl,dcp,dar,dlf,ddn⟩ (h2.ok (by omega) (by omega)) FN
         have e1:cN FN (⟨dfl,dcp,dar,dlf,ddn⟩,0)=au ⟨dfl,dcp,dar,dlf,ddn⟩ (bZ dfl FN):=bO _ _;rw[e1] at hZ;simp only at g3;generalize au ⟨dfl,dcp,dar,dlf,ddn⟩ (bZ dfl FN)=q at *;obtain⟨⟨qfl,qcp,qar,qlf,qdn⟩,qe⟩:=q;simp only[Dsk.l,bu] at g3 hZ;rw[hZ];(simp(disch:=first|decide|omega|(intros;exact rfl)|simp only[aa]) only[aS,uA,EL,decide_eq_false hci,qf,qs,decide_eq_true hf,g3,htk,go_sem,seval,aq,cw,A.kind,A.xs,aP,A.isN])
         try simp[trim]
        ·rw[if_neg (fun h=>hf h.2)] at hZ
         simp only at hZ;rw[hZ];(simp(disch:=first|decide|omega|(intros;exact rfl)|simp only[aa]) only[aS,uA,EL,decide_eq_false hci,qf,decide_eq_false hf,htk,go_sem,seval,aq,cw,A.kind,A.xs,aP,A.isN])
         try simp[trim]
      ·rw[Bb he] at h3;subst h3;rw[if_neg (fun h=>he h.1)] at hZ
       simp only at hZ;rw[hZ];have he':(de == 0)=false:=by simpa using he
       by_cases hi:i<n
       ·have hci:(i:Int)<(n:Int):=by omega
        (simp(disch:=first|decide|omega|(intros;exact rfl)|simp only[aa]) only[aS,uA,EL,decide_eq_true hci,he,he',htk,go_sem,seval,aq,cw,A.kind,A.xs,aP,A.isN])
        try simp[trim]
       ·have hci:¬ (i:Int)<(n:Int):=by omega
        (simp(disch:=first|decide|omega|(intros;exact rfl)|simp only[aa]) only[aS,uA,EL,decide_eq_false hci,he,he',htk,go_sem,seval,aq,cw,A.kind,A.xs,aP,A.isN])
        try simp[trim]
     ·rw[if_pos c4];have hsg:(db s n).segs.map Seg.enc=DQ:=hdl2.symm;obtain⟨⟨fl,cp,ar,lf,dn⟩,ver,segs,next,sure,size,sum⟩:=s;obtain⟨⟨fl1,cp1,ar1,lf1,dn1⟩,a2⟩:=a;obtain⟨⟨fl2,cp2,ar2,lf2,dn2⟩,p2⟩:=p;obtain⟨⟨fl3,cp3,ar3,lf3,dn3⟩,b2⟩:=b;obtain⟨⟨fl4,cp4,ar4,lf4,dn4⟩,c2'⟩:=c;obtain⟨⟨fl5,cp5,ar5,lf5,dn5⟩,w2⟩:=w;obtain⟨⟨fl6,cp6,ar6,lf6,dn6⟩,v2⟩:=v;simp only at c1 c2 c3;subst c1 c2 c3;simp only[Sto.l,Dsk.l,cM,bu,Sto.man,Man.l,hsg,eX,List.cons_append,List.nil_append] at *;rw[hsg] at q11;(simp(disch:=first|decide|omega|(intros;exact rfl)|simp only[aa]) only[aS,EL,q1,q2,q3,q4,q5,q6,q7,q8,q9,q10,c0,hok,hnl,hDQ,hokd,↓df,l5,eg,na,dJ,q11,q12,q13,c4,go_sem,seval,aq,cw,A.kind,A.xs,aP,A.isN])
      try simp[trim,c4]
    ·rw[if_neg c3,if_pos c3];obtain⟨⟨fl,cp,ar,lf,dn⟩,ver,segs,next,sure,size,sum⟩:=s;obtain⟨⟨fl1,cp1,ar1,lf1,dn1⟩,a2⟩:=a;obtain⟨⟨fl2,cp2,ar2,lf2,dn2⟩,p2⟩:=p;obtain⟨⟨fl3,cp3,ar3,lf3,dn3⟩,b2⟩:=b;obtain⟨⟨fl4,cp4,ar4,lf4,dn4⟩,c2'⟩:=c;simp only at c1 c2;subst c1 c2;simp only[Sto.l,Dsk.l,cM,bu,List.cons_append,List.nil_append] at *;(simp(disch:=first|decide|omega|(intros;exact rfl)|simp only[aa]) only[aS,EL,q1,q2,q3,q4,q5,q6,q7,q8,q9,q10,c0,c3,hok,hnl,hDQ,hokd,go_sem,seval,aq])
     try simp[trim,c3]
   ·have e9:ee N b=b:=gx c2 _;rw[e9,if_neg c2,if_pos c2];obtain⟨⟨fl,cp,ar,lf,dn⟩,ver,segs,next,sure,size,sum⟩:=s;obtain⟨⟨fl1,cp1,ar1,lf1,dn1⟩,a2⟩:=a;obtain⟨⟨fl2,cp2,ar2,lf2,dn2⟩,p2⟩:=p;obtain⟨⟨fl3,cp3,ar3,lf3,dn3⟩,b2⟩:=b;simp only at c1;subst c1;simp only[Sto.l,Dsk.l,cM,bu,List.cons_append,List.nil_append] at *;(simp(disch:=first|decide|omega|(intros;exact rfl)|simp only[aa]) only[aS,EL,q1,q2,q3,q4,q5,q6,q7,q8,q10,c0,c2,hok,hnl,hDQ,hokd,go_sem,seval,aq])
    try simp[trim,c2]
  ·rw[if_neg c1];have e1:ee N a=a:=gx c1 _;rw[e1,if_neg c1,if_pos c1];obtain⟨⟨fl,cp,ar,lf,dn⟩,ver,segs,next,sure,size,sum⟩:=s;obtain⟨⟨fl1,cp1,ar1,lf1,dn1⟩,a2⟩:=a;simp only[Sto.l,Dsk.l,cM,bu,List.cons_append,List.nil_append] at *;(simp(disch:=first|decide|omega|(intros;exact rfl)|simp only[aa]) only[aS,EL,q1,q2,q3,q4,q5,q6,q10,c0,c1,hok,hnl,hDQ,hokd,go_sem,seval,aq])
   try simp[trim,c1]
abbrev FM:=Txt->Option (Txt × Int)
def fm (l:List Fil):FM:=fun n=>(l.find? fun f=>decide (f.name=n)).map fun f=>(f.data,f.sure)
def up (F:FM) (n:Txt) (v:Option (Txt × Int)):FM:=fun k=>if k=n then v else F k
theorem dS (F:FM) (n:Txt) (v:Option (Txt × Int)):up F n v n=v:=if_pos rfl
theorem bW (F:FM) {n k:Txt} (v:Option (Txt × Int)) (h:k≠n):up F n v k=F k:=if_neg h
theorem jC (F:FM) (n:Txt) (v w:Option (Txt × Int)):up (up F n v) n w=up F n w:=by
 funext k;unfold up;split <;> rfl
theorem kW {F:FM} {n:Txt} {v:Option (Txt × Int)} (h:F n=v):up F n v=F:=by
 funext k;unfold up;split
 ·rename_i e;rw[e,h]
 ·rfl
theorem iC {l:List Fil} {n:Txt}:fm l n=none↔∀ f∈l,f.name≠n:=by
 unfold fm;rw[Option.map_eq_none_iff,List.find?_eq_none];simp
theorem th (A:List Fil) (x:Fil) (B:List Fil) (h:∀ a∈A,a.name≠x.name):fm (A++x::B)=up (fm (A++B)) x.name (some (x.data,x.sure)):=by
 funext k
 unfold fm up;simp only[List.find?_append,List.find?_cons];by_cases c:k=x.name
 ·have hn:A.find? (fun f=>decide (f.name=k))=none:=by
   rw[List.find?_eq_none];intro a ha;simpa[c] using h a ha
  rw[if_pos c,hn];simp[c]
 ·rw[if_neg c];have:decide (x.name=k)=false:=by simpa using fun e=>c e.symm
  rw[this]
theorem BU {l:List Fil} (hs:srt l) {i:Nat} (hi:i<l.length):(∀ a∈l.take i,a.name≠l[i].name)∧(∀ b∈l.drop (i+1),b.name≠l[i].name):=by
 constructor
 ·intro a ha;obtain⟨j,hj,rfl⟩:=List.getElem_of_mem ha;rw[List.length_take] at hj;rw[List.getElem_take];exact x6 ((List.pairwise_iff_getElem.1 hs) j i (by omega) hi (by omega))
 ·intro b hb;obtain⟨j,hj,rfl⟩:=List.getElem_of_mem hb;rw[List.length_drop] at hj;rw[List.getElem_drop];exact fun e=>x6 ((List.pairwise_iff_getElem.1 hs) i (i+1+j) hi (by omega) (by omega)) e.symm
theorem HQ (l:List Fil) {i:Nat} (hi:i<l.length):l=l.take i++l[i]::l.drop (i+1):=by
 conv=>lhs;rw[<- List.take_append_drop i l,List.drop_eq_getElem_cons hi]
theorem tG {l:List Fil} (hs:srt l) {i:Nat} (hi:i<l.length):fm l=up (fm (ef l i)) l[i].name (some (l[i].data,l[i].sure))∧fm (ef l i) l[i].name=none:=by
 have h:=BU hs hi;constructor
 ·conv=>lhs;rw[HQ l hi]
  exact th _ _ _ h.1
 ·rw[iC];intro f hf;rcases List.mem_append.1 hf with hf|hf
  ·exact h.1 f hf
  ·exact h.2 f hf
theorem Hd {l:List Fil} (hs:srt l) {i:Nat} (hi:i<l.length):fm (ef l i)=up (fm l) l[i].name none:=by
 have h:=tG hs hi;rw[h.1,jC,kW h.2]
theorem Ez {l:List Fil} (hs:srt l) {i:Nat} (hi:i<l.length) (g:Fil) (hg:g.name=l[i].name):fm (l.set i g)=up (fm l) l[i].name (some (g.data,g.sure)):=by
 have h:=BU hs hi;have e:l.set i g=l.take i++g::l.drop (i+1):=by rw[List.set_eq_take_append_cons_drop,if_pos hi]
 rw[e,th _ _ _ (fun a ha=>by rw[hg];exact h.1 a ha),hg]
 have h2:=tG hs hi;rw[h2.1,jC];try rfl
theorem kK {l:List Fil} (hs:srt l) (n:Txt):bz l n=(fm l n).isSome:=by
 cases h:bz l n with
 | true =>
  obtain⟨hp,he⟩:=bL h;rw[(tG hs hp).1,he,dS];rfl
 | false =>
  rw[iC.2 (mB hs h)];rfl
theorem vn {l:List Fil} (hs:srt l) {n:Txt} {v:Txt × Int} (h:fm l n=some v):∃ hp:aw l n<l.length,l[aw l n].name=n∧(l[aw l n].data,l[aw l n].sure)=v:=by
 have h1:bz l n=true:=by rw[kK hs,h];rfl
 obtain⟨hp,he⟩:=bL h1;refine⟨hp,he,?_⟩;have h2:=(tG hs hp).1;rw[h2,he,dS] at h;exact Option.some.inj h
theorem fA {l:List Fil} (hs:srt l) (n:Txt):aC l n=match fm l n with|some v=>(v.1,0)|none=>([],7):=by
 cases h:fm l n with
 | some v =>
  obtain⟨hp,he,hv⟩:=vn hs h;subst hv;unfold aC;rw[List.getElem?_eq_getElem hp];simp only[if_pos he]
 | none =>
  have h1:bz l n=false:=by rw[kK hs,h];rfl
  unfold aC;unfold bz at h1;split
  ·rename_i f hf;rw[hf] at h1;rw[if_neg (by simpa using h1)]
  ·rfl
theorem kJ {l:List Fil} (hs:srt l) (n d:Txt):hasD l n d↔∃ q,fm l n=some (d,q):=by
 constructor
 ·rintro⟨f,hf,rfl,rfl⟩;obtain⟨i,hi,rfl⟩:=List.getElem_of_mem hf;exact⟨l[i].sure,by rw[(tG hs hi).1,dS]⟩
 ·rintro⟨q,h⟩;obtain⟨hp,he,hv⟩:=vn hs h;exact⟨l[aw l n],List.getElem_mem hp,he,congrArg Prod.fst hv⟩
theorem FX {l:List Fil} (hs:srt l) {n:Txt} (d:Txt) (q:Int) (h:fm l n=none):fm (gC l (aw l n) ⟨n,d,q⟩)=up (fm l) n (some (d,q)):=by
 have h2:=iC.1 h;unfold gC;rw[th _ _ _ (fun a ha=>h2 a (List.mem_of_mem_take ha)),List.take_append_drop]
theorem Ka {l:List Fil} (hs:srt l) (f:Fil):fm (iu l f)=up (fm l) f.name (some (f.data,f.sure)):=by
 unfold iu;split
 ·rename_i h;obtain⟨hp,he⟩:=bL h;rw[Ez hs hp f he.symm,he]
 ·rename_i h;have h1:fm l f.name=none:=by
   cases hf:fm l f.name with
   | none=>rfl
   | some v=>exact absurd (by rw[kK hs,hf];rfl) h
  obtain⟨n,d,q⟩:=f;exact FX hs d q h1
structure Dk (d d':Dsk):Prop where
 cap:d'.cap=d.cap
 armed:d'.armed=d.armed
 down:d.down=true->d'=d
 idle:d.armed=false->d.down=false->d'.down=false∧d'.left=d.left
theorem Dk.refl (d:Dsk):Dk d d:=⟨rfl,rfl,fun _=>rfl,fun _ h=>⟨h,rfl⟩⟩
theorem Dk.trans {a b c:Dsk} (h1:Dk a b) (h2:Dk b c):Dk a c :=
  ⟨h2.cap.trans h1.cap,h2.armed.trans h1.armed,fun h=>by have e:=h1.down h;rw[h2.down (by rw[e];exact h),e],
   fun ha hd=>by
    have e1:=h1.idle ha hd
    have e2:=h2.idle (h1.armed.trans ha) e1.1
    exact⟨e2.1,e2.2.trans e1.2⟩⟩
def Out (d:Dsk) (r:Dsk × Int) (X:List Txt) (G:FM) (G9:Option FM):Prop :=
 Dk d r.1∧srt r.1.files∧((r.2=0∧r.1.down=false∧fm r.1.files=G)∨(∃ g,G9=some g∧r.2=9∧r.1.down=false∧fm r.1.files=g)∨(r.2=10∧r.1.down=true∧∀ n,n ∉ X->fm r.1.files n=fm d.files n))
theorem Out.up9 {d:Dsk} {r:Dsk × Int} {X:List Txt} {G:FM} (h:Out d r X G none) (g:Option FM):Out d r X G g:=by
 refine⟨h.1,h.2.1,?_⟩;rcases h.2.2 with h|⟨_,h,_⟩|h
 ·exact .inl h
 ·cases h
 ·exact .inr (.inr h)
theorem mN {d:Dsk} (hs:srt d.files) {r:List Fil × Int} {G:FM} (h0:r.2=0) (h1:srt r.1) (h2:fm r.1=G):Out d (au d r) [] G none:=by
 unfold au;split
 ·rename_i hd;exact⟨Dk.refl d,hs,.inr (.inr ⟨rfl,hd,fun _ _=>rfl⟩)⟩
 ·rename_i hd;have hd:d.down=false:=by simpa using hd
  rw[if_neg (by simp[h0])]
  split
  ·rename_i ha;split
   ·exact⟨⟨rfl,rfl,fun h=>(by rw[hd] at h;cases h),fun h _=>(by rw[ha] at h;cases h)⟩,hs,.inr (.inr ⟨rfl,rfl,fun _ _=>rfl⟩)⟩
   ·exact⟨⟨rfl,rfl,fun h=>(by rw[hd] at h;cases h),fun h _=>(by rw[ha] at h;cases h)⟩,h1,.inl ⟨rfl,hd,h2⟩⟩
  ·exact⟨⟨rfl,rfl,fun h=>(by rw[hd] at h;cases h),fun _ h=>⟨h,rfl⟩⟩,h1,.inl ⟨rfl,hd,h2⟩⟩
theorem qY {d:Dsk} (hs:srt d.files) {n:Txt} (hn:dE n=true) (h:fm d.files n=none):Out d (au d (bP d.files n)) [] (up (fm d.files) n (some ([],0))) none:=by
 have hf:bz d.files n=false:=by rw[kK hs,h];rfl
 have e:bP d.files n=(gC d.files (aw d.files n) ⟨n,[],0⟩,0):=by unfold bP;rw[if_pos hn,hf];rfl
 rw[e];exact mN hs rfl (vC hs ⟨n,[],0⟩ hf) (FX hs [] 0 h)
theorem zE {l:List Fil} (hs:srt l) {n:Txt} {v:Txt × Int} (h:fm l n=some v) (f:Fil->Fil) (hf:∀ x,(f x).name=x.name) :
  srt (mY l (aw l n) f)∧fm (mY l (aw l n) f)=up (fm l) n (some ((f ⟨n,v.1,v.2⟩).data,(f ⟨n,v.1,v.2⟩).sure)):=by
 obtain⟨hp,he,hv⟩:=vn hs h;refine⟨iM (mQ l _ f hf) hs,?_⟩;have e2:l[aw l n]=⟨n,v.1,v.2⟩:=by
  generalize l[aw l n]=x at *;obtain⟨a,b,c⟩:=x;simp only at he hv;subst he hv;try rfl
 rw[gL hp,Ez hs hp _ (by rw[hf]),he,e2]
theorem wO {d:Dsk} (hs:srt d.files) {n:Txt} (x:Txt) {v:Txt × Int} (h:fm d.files n=some v):Out d (au d (bV d.files d.cap n x)) [] (up (fm d.files) n (some (v.1++x,v.2))) (some (fm d.files)):=by
 have hf:bz d.files n=true:=by rw[kK hs,h];rfl
 by_cases c:0<d.cap∧d.cap-(usedF d.files:Nat)<x.length
 ·have e:bV d.files d.cap n x=([],9):=by unfold bV;rw[if_pos hf,if_pos c]
  rw[e];unfold au;split
  ·rename_i hd;exact⟨Dk.refl d,hs,.inr (.inr ⟨rfl,hd,fun _ _=>rfl⟩)⟩
  ·rename_i hd;rw[if_pos (by decide)]
   exact⟨Dk.refl d,hs,.inr (.inl ⟨_,rfl,rfl,by simpa using hd,rfl⟩)⟩
 ·have e:bV d.files d.cap n x=(mY d.files (aw d.files n) (fun f=>{ f with data:=f.data++x }),0):=by unfold bV;rw[if_pos hf,if_neg c]
  have hu:=zE hs h (fun f=>{ f with data:=f.data++x }) (fun _=>rfl)
  rw[e];exact(mN hs rfl hu.1 hu.2).up9 _
theorem jL {d:Dsk} (hs:srt d.files) {n:Txt} {v:Txt × Int} (h:fm d.files n=some v):Out d (au d (cJ d.files n)) [] (up (fm d.files) n (some (v.1,(v.1.length:Nat)))) none:=by
 have hf:bz d.files n=true:=by rw[kK hs,h];rfl
 have e:cJ d.files n=(mY d.files (aw d.files n) (fun f=>{ f with sure:=f.data.length }),0):=by unfold cJ;rw[if_pos hf]
 have hu:=zE hs h (fun f=>{ f with sure:=(f.data.length:Nat) }) (fun _=>rfl)
 rw[e];exact mN hs rfl hu.1 hu.2
theorem B5 {d:Dsk} (hs:srt d.files) {n:Txt} {v:Txt × Int} (h:fm d.files n=some v):Out d (au d (bZ d.files n)) [] (up (fm d.files) n none) none:=by
 have hf:bz d.files n=true:=by rw[kK hs,h];rfl
 have e:bZ d.files n=(ef d.files (aw d.files n),0):=by unfold bZ;rw[if_pos hf]
 obtain⟨hp,he⟩:=bL hf;rw[e];exact mN hs rfl (kP hs _) (by rw[Hd hs hp,he])
theorem ID {d:Dsk} (hs:srt d.files) {a b:Txt} (hb:dE b=true) {v:Txt × Int} (h:fm d.files a=some v):Out d (au d (iy d.files a b)) [] (up (up (fm d.files) a none) b (some v)) none:=by
 have hf:bz d.files a=true:=by rw[kK hs,h];rfl
 obtain⟨hp,he,hv⟩:=vn hs h;have e:iy d.files a b=(iu (ef d.files (aw d.files a)) (dj d.files (aw d.files a) b),0):=by unfold iy;rw[if_pos hf,if_pos hb]
 rw[e];refine mN hs rfl (Cc (kP hs _) _) ?_;have e2:dj d.files (aw d.files a) b={ d.files[aw d.files a] with name:=b }:=by unfold dj;rw[List.getElem?_eq_getElem hp]
 rw[Ka (kP hs _),Hd hs hp,he,e2,<- hv]
theorem Out.seq {d:Dsk} {r1 r2:Dsk × Int} {X X1 X2:List Txt} {G1 G2:FM} {g g1 g2:Option FM} (h1:Out d r1 X1 G1 g1) (h2:r1.2=0->r1.1.down=false->fm r1.1.files=G1->srt r1.1.files->Out r1.1 r2 X2 G2 g2)
  (hG:∀ n,n ∉ X->G1 n=fm d.files n) (hx1:∀ n∈X1,n∈X) (hx2:∀ n∈X2,n∈X) (hg1:∀ q,g1=some q->g=some q) (hg2:∀ q,g2=some q->g=some q):Out d (if r1.2=0 then r2 else r1) X G2 g:=by
 obtain⟨k1,s1,o1⟩:=h1;rcases o1 with⟨e,hd,hf⟩|⟨q,hq,e,hd,hf⟩|⟨e,hd,hf⟩
 ·rw[if_pos e];obtain⟨k2,s2,o2⟩:=h2 e hd hf s1;refine⟨k1.trans k2,s2,?_⟩;rcases o2 with o2|⟨q,hq,o2⟩|⟨e2,hd2,hf2⟩
  ·exact .inl o2
  ·exact .inr (.inl ⟨q,hg2 q hq,o2⟩)
  ·refine .inr (.inr ⟨e2,hd2,fun n hn=>?_⟩)
   rw[hf2 n (fun hm=>hn (hx2 n hm)),hf]
   exact hG n hn
 ·rw[if_neg (by rw[e];decide)]
  exact⟨k1,s1,.inr (.inl ⟨q,hg1 q hq,e,hd,hf⟩)⟩
 ·rw[if_neg (by rw[e];decide)]
  exact⟨k1,s1,.inr (.inr ⟨e,hd,fun n hn=>hf n (fun hm=>hn (hx1 n hm))⟩)⟩
theorem Out.unl {d:Dsk} {r:Dsk × Int} {X:List Txt} {G g:FM} {n:Txt} {v:Txt × Int} (h:Out d r X G (some g)) (hn:g n=some v) (hg:∀ k,k ∉ X->g k=fm d.files k):Out d (cL n r) X G (some (up g n none)):=by
 obtain⟨k1,s1,o1⟩:=h;obtain⟨r1,e⟩:=r;simp only at k1 s1 o1;rcases o1 with⟨rfl,hd,hf⟩|⟨q,hq,rfl,hd,hf⟩|⟨rfl,hd,hf⟩
 ·have:cL n (r1,0)=(r1,0):=by unfold cL;rw[if_pos (by simp)]
  rw[this];exact⟨k1,s1,.inl ⟨rfl,hd,hf⟩⟩
 ·cases hq;have e1:cN n (r1,0)=au r1 (bZ r1.files n):=bO _ _;have hdl:=B5 s1 (n:=n) (v:=v) (by rw[hf];exact hn)
  unfold cL;rw[if_neg (by simp)]
  simp only[e1];generalize au r1 (bZ r1.files n)=w at *;obtain⟨k2,s2,o2⟩:=hdl;rcases o2 with⟨e2,hd2,hf2⟩|⟨q,hq,_⟩|⟨e2,hd2,hf2⟩
  ·rw[if_pos e2];exact⟨k1.trans k2,s2,.inr (.inl ⟨_,rfl,rfl,hd2,by rw[hf2,hf]⟩)⟩
  ·cases hq
  ·rw[if_neg (by rw[e2];decide)]
   refine⟨k1.trans k2,s2,.inr (.inr ⟨e2,hd2,fun k hk=>?_⟩)⟩
   rw[hf2 k (by simp),hf]
   exact hg k hk
 ·have:cL n (r1,10)=(r1,10):=by unfold cL;rw[if_pos (by simp)]
  rw[this];exact⟨k1,s1,.inr (.inr ⟨rfl,hd,hf⟩)⟩
def wS (l:List Txt) (s:Dsk × Int):Dsk × Int:=l.foldl (fun s n=>cN n s) s
theorem tw (n:Txt) (l:List Txt) (s:Dsk × Int):wS (n::l) s=wS l (cN n s):=rfl
theorem wa (l:List Txt) (s:Dsk × Int) (h:s.2≠0):wS l s=s:=by
 induction l with
 | nil=>rfl
 | cons n l ih=>rw[tw,show cN n s=s from gx h _];exact ih
def lC (s:Sto) (k:Nat):List Txt:=(s.segs.take k).map (fun g=>fileN g.base)++(if 0<s.floor then[aQ s.floor] else[])
theorem HO (l:List Seg) (q:Dsk × Int):eZ l q=wS (l.map fun g=>fileN g.base) q:=by
 unfold eZ wS;rw[List.foldl_map]
theorem Kd (s:Sto) (k:Nat) (q:Dsk × Int):qO s k q=wS (lC s k) q:=by
 unfold qO lC;simp only[];rw[HO];unfold wS;rw[List.foldl_append];generalize List.foldl (fun s n=>cN n s) q ((s.segs.take k).map fun g=>fileN g.base)=r
 by_cases c:0<s.floor
 ·rw[if_pos c];by_cases c2:r.2=0
  ·rw[if_pos ⟨c2,c⟩];rfl
  ·rw[if_neg (fun h=>c2 h.1)]
   show r=cN (aQ s.floor) r;exact(gx c2 _).symm
 ·rw[if_neg (fun h=>c h.2),if_neg c];rfl
theorem lQ {d:Dsk} (h:d.down=true) (r:List Fil × Int):au d r=(d,10):=by unfold au;rw[if_pos h]
theorem Out.dn {d:Dsk} (hs:srt d.files) (h:d.down=true) (X:List Txt) (G:FM) (g:Option FM):Out d (d,10) X G g:=⟨Dk.refl d,hs,.inr (.inr ⟨rfl,h,fun _ _=>rfl⟩)⟩
theorem Out.eq {d:Dsk} {r:Dsk × Int} {X:List Txt} {G G':FM} {g g':Option FM} (h:Out d r X G g) (h1:G=G') (h2:g=g'):Out d r X G' g':=h1 ▸ h2 ▸ h
theorem Ev (n:Txt) (h:2<=n.length):n≠[110]:=fun e=>by rw[e] at h;simp at h
theorem gj {r:Dsk × Int} (h:r.2=0):r=(r.1,0):=by rw[<- h]
def manV (m:Man):Option (Txt × Int):=some (bC m,((bC m).length:Nat))
theorem r6 {d:Dsk} (hs:srt d.files) {m:Man} (hm:manB m=true) (hn:d.down=false->fm d.files [110]=none):Out d (bR m (d,0)) [[110]] (up (fm d.files) [109] (manV m)) (some (fm d.files)):=by
 have hp:bK m=(bC m,0):=by unfold bK;rw[if_pos hm]
 by_cases hd:d.down=true
 ·have e:bR m (d,0)=(d,10):=by
   have e1:∀ s:Dsk × Int,s=(d,0)∨s=(d,10)->bQ [110] s=(d,10):=by
    rintro s (rfl|rfl)
    ·show au d _=_;exact lQ hd _
    ·rfl
   have e2:(if(aC d.files [110]).2=0 then cN [110] (d,0) else(d,0))=(d,0)∨(if(aC d.files [110]).2=0 then cN [110] (d,0) else(d,0))=(d,10):=by
    split
    ·exact .inr (lQ hd _)
    ·exact .inl rfl
   unfold bR;simp only[hp,if_true];rw[e1 _ e2];try rfl
  rw[e];exact .dn hs hd _ _ _
 ·have hn:=hn (by simpa using hd)
  have hr:(aC d.files [110]).2≠0:=by rw[fA hs,hn];decide
  have e:bR m (d,0)=if(au d (bP d.files [110])).2=0 then tZ [110] [109] (ee [110] (cL [110] (j5 [110] (bC m) (au d (bP d.files [110]))))) else au d (bP d.files [110]):=by
   have e1:bQ [110] (d,0)=au d (bP d.files [110]):=bO _ _;unfold bR;simp only[hp,if_true,if_neg hr,e1];by_cases h:(au d (bP d.files [110])).2=0
   ·rw[if_neg (by simp[h]),if_pos h]
   ·rw[if_pos h,if_neg h]
  rw[e];refine Out.seq (qY hs (by decide) hn) (g1:=none) (g2:=some (fm d.files)) ?_ ?_ (by simp) (X2:=[[110]]) (by simp) (by simp) (by simp)
  ·intro h0 hd1 hf1 hs1;rw[gj h0];generalize (au d (bP d.files [110])).1=d1 at *;have ea:j5 [110] (bC m) (d1,0)=au d1 (bV d1.files d1.cap [110] (bC m)):=bO _ _;rw[ea];have h1:=wO hs1 (bC m) (n:=[110]) (v:=([],0)) (by rw[hf1,dS])
   have h2:=h1.unl (n:=[110]) (v:=([],0)) (by rw[hf1,dS]) (fun _ _=>rfl)
   have h3:=Out.seq (X:=[[110]]) (g:=some (fm d.files)) h2 (r2:=ee [110] ((cL [110] (au d1 (bV d1.files d1.cap [110] (bC m)))).1,0)) (X2:=[]) (G2:=up (up (fm d1.files) [110] (some ([]++bC m,0))) [110] (manV m)) (g2:=none)
    (fun h0 hd2 hf2 hs2=>(by
     have:=jL hs2 (n:=[110]) (v:=([]++bC m,0)) (by rw[hf2,dS])
     rw[hf2] at this;exact this)) (fun n hn=>bW _ _ (by simpa using hn)) (by simp) (by simp)
    (fun q hq=>by cases hq;rw[hf1,jC,kW hn]) (by simp)
   have e3:ee [110] (cL [110] (au d1 (bV d1.files d1.cap [110] (bC m))))=if(cL [110] (au d1 (bV d1.files d1.cap [110] (bC m)))).2=0 then ee [110] ((cL [110] (au d1 (bV d1.files d1.cap [110] (bC m)))).1,0) else cL [110] (au d1 (bV d1.files d1.cap [110] (bC m))):=by
    split
    ·rename_i h;rw[<- gj h]
    ·rename_i h;exact gx h _
   rw[<- e3] at h3;generalize ee [110] (cL [110] (au d1 (bV d1.files d1.cap [110] (bC m))))=w at *;have h4:=Out.seq (X:=[[110]]) (g:=some (fm d.files)) h3 (r2:=au w.1 (iy w.1.files [110] [109])) (X2:=[]) (G2:=up (fm d.files) [109] (manV m)) (g2:=none)
    (fun h0 hd2 hf2 hs2=>(by
     have:=ID hs2 (a:=[110]) (b:=[109]) (by decide) (v:=(bC m,((bC m).length:Nat))) (by rw[hf2,dS];rfl)
     refine this.eq ?_ rfl;rw[hf2,hf1,jC,jC,jC,kW hn];rfl)) (fun n hn=>by rw[jC];exact bW _ _ (by simpa using hn)) (by simp) (by simp) (by simp) (by simp)
   exact h4
  ·intro n hn;exact bW _ _ (by simpa using hn)
theorem vE {d:Dsk} (hs:srt d.files) {n:Txt} {m:Man} (hm:manB m=true) (hnm:dE n=true) (hn2:n≠[110]) (h1:d.down=false->fm d.files [110]=none) (h2:d.down=false->fm d.files n=none) :
  Out d (if(bQ n (d,0)).2=0 then cL n (bR m (bQ n (d,0))) else bQ n (d,0)) [n,[110]] (up (up (fm d.files) n (some ([],0))) [109] (manV m)) (some (fm d.files)):=by
 have e1:bQ n (d,0)=au d (bP d.files n):=bO _ _;rw[e1];by_cases hd:d.down=true
 ·rw[lQ hd,if_neg (by simp)]
  exact .dn hs hd _ _ _
 ·have hd:d.down=false:=by simpa using hd
  refine Out.seq (qY hs hnm (h2 hd)) (g1:=none) (g2:=some (fm d.files)) ?_ ?_ (by simp) (X2:=[[110]]) (by simp) (by simp) (by simp)
  ·intro h0 hd1 hf1 hs1;rw[gj h0];generalize (au d (bP d.files n)).1=d1 at *;have h3:=r6 hs1 hm (fun _=>by rw[hf1,bW _ _ (fun e=>hn2 e.symm)];exact h1 hd)
   have h4:=h3.unl (n:=n) (v:=([],0)) (by rw[hf1,dS]) (fun _ _=>rfl)
   rw[hf1,jC,kW (h2 hd)] at h4;exact h4
  ·intro k hk;exact bW _ _ (fun e=>hk (by simp[e]))
theorem HV {d:Dsk} (hs:srt d.files) {n x:Txt} {m:Man} (hm:manB m=true) (hnm:dE n=true) (hn2:n≠[110]) (h1:d.down=false->fm d.files [110]=none) (h2:d.down=false->fm d.files n=none) :
  Out d (nB d n x m) [n,[110]] (up (up (fm d.files) n (some (x,(x.length:Nat)))) [109] (manV m)) (some (fm d.files)):=by
 have e1:bQ n (d,0)=au d (bP d.files n):=bO _ _;unfold nB;simp only[e1];by_cases hd:d.down=true
 ·rw[lQ hd];have e2:ee n (d,10)=(d,10):=rfl;simp only[e2];exact .dn hs hd _ _ _
 ·have hd:d.down=false:=by simpa using hd
  have k1:=Out.seq (X:=[n]) (g:=some (fm d.files)) (qY hs hnm (h2 hd)) (r2:=cL n (j5 n x (au d (bP d.files n)))) (G2:=up (fm d.files) n (some (x,0))) (g2:=some (fm d.files)) (X2:=[]) (by
   intro h0 hd1 hf1 hs1;rw[gj h0];generalize (au d (bP d.files n)).1=d1 at *;have ea:j5 n x (d1,0)=au d1 (bV d1.files d1.cap n x):=bO _ _;rw[ea];have h3:=(wO hs1 x (n:=n) (v:=([],0)) (by rw[hf1,dS])).unl (n:=n) (v:=([],0)) (by rw[hf1,dS]) (fun _ _=>rfl)
   rw[hf1,jC,jC,kW (h2 hd)] at h3;exact h3) (fun k hk=>bW _ _ (by simpa using hk)) (by simp) (by simp) (by simp) (by simp)
  generalize (if(au d (bP d.files n)).2=0 then cL n (j5 n x (au d (bP d.files n))) else au d (bP d.files n))=b at *
  have k2:=Out.seq (X:=[n]) (g:=some (fm d.files)) k1 (r2:=au b.1 (cJ b.1.files n)) (G2:=up (fm d.files) n (some (x,(x.length:Nat)))) (g2:=none) (X2:=[]) (by
   intro h0 hd1 hf1 hs1;have:=jL hs1 (n:=n) (v:=(x,0)) (by rw[hf1,dS])
   rw[hf1,jC] at this;exact this) (fun k hk=>bW _ _ (by simpa using hk)) (by simp) (by simp) (by simp) (by simp)
  have e3:(if b.2=0 then au b.1 (cJ b.1.files n) else b)=ee n b:=rfl
  rw[e3] at k2;generalize ee n b=c at *;refine Out.seq (X:=[n,[110]]) k2 (g:=some (fm d.files)) (g2:=some (fm d.files)) (X2:=[[110]]) ?_ ?_ (by simp) (by simp) (by simp) (by simp)
  ·intro h0 hd1 hf1 hs1;rw[gj h0];have h3:=r6 hs1 hm (fun _=>by rw[hf1,bW _ _ (fun e=>hn2 e.symm)];exact h1 hd)
   have h4:=h3.unl (n:=n) (v:=(x,((x.length:Nat):Int))) (by rw[hf1,dS]) (fun _ _=>rfl)
   rw[hf1,jC,kW (h2 hd)] at h4;exact h4
  ·intro k hk;exact bW _ _ (fun e=>hk (by simp[e]))
def Kb (l:List Txt) (F:FM):FM:=fun k=>if k∈l then none else F k
theorem rk:∀ (l:List Txt) (d:Dsk),srt d.files->l.Nodup->d.down=false->(∀ n∈l,fm d.files n≠none)->Out d (wS l (d,0)) l (Kb l (fm d.files)) none
 | [],d,hs,_,hd,_=>⟨Dk.refl d,hs,.inl ⟨rfl,hd,by funext k;simp[Kb,wS]⟩⟩
 | n::l,d,hs,hn,hd,h=>by
  have hn:=List.nodup_cons.1 hn;obtain⟨v,hv⟩:=Option.ne_none_iff_exists'.1 (h n (by simp))
  have e1:cN n (d,0)=au d (bZ d.files n):=bO _ _;rw[tw,e1];have h1:=B5 hs hv;have e2:wS l (au d (bZ d.files n))=if(au d (bZ d.files n)).2=0 then wS l ((au d (bZ d.files n)).1,0) else au d (bZ d.files n):=by
   split
   ·rename_i h0;rw[<- gj h0]
   ·rename_i h0;exact wa l _ h0
  rw[e2];refine Out.seq h1 (X2:=l) (g2:=none) ?_ ?_ (by simp) (fun k hk=>by simp[hk]) (by simp) (by simp)
  ·intro h0 hd1 hf1 hs1;have h2:=rk l (au d (bZ d.files n)).1 hs1 hn.2 hd1 (fun k hk=>by
    rw[hf1,bW _ _ (fun e=>hn.1 (by rw[<- e];exact hk))];exact h k (by simp[hk]))
   rw[hf1] at h2;refine h2.eq ?_ rfl;funext k
   unfold Kb;by_cases c:k=n
   ·simp[c,hn.1,dS]
   ·by_cases c2:k∈l
    ·rw[if_pos c2,if_pos (List.mem_cons_of_mem _ c2)]
    ·rw[if_neg c2,if_neg (by simp[c,c2]),bW _ _ c]
  ·intro k hk;exact bW _ _ (fun e=>hk (by simp[e]))
structure Act where
 kind:Int
 n:Int
 data:List UInt8
 deriving DecidableEq
def Act.enc (e:Act):List D:=[.i .i64 e.kind,.i .i64 e.n,.s e.data]
theorem Act.len (e:Act):e.enc.length=3:=Eq.trans rfl rfl
theorem Act.tk (e:Act):e.enc.take 3=e.enc:=Eq.trans rfl rfl
theorem Act.tkL (e:Act):(e.enc.map L.d).take 3=e.enc.map L.d:=Eq.trans rfl rfl
theorem Act.dat (e:Act):eb (e.enc.map L.d)=some (e.enc.map L.d):=Eq.trans rfl rfl
theorem Act.rfs (e:Act):(e.enc.map L.d).flatMap L.refs=[]:=Eq.trans rfl rfl
theorem Act.rn (e:Act) (g:Nat->Option Nat):(e.enc.map L.d).map (L.ren g)=e.enc.map L.d:=Eq.trans rfl rfl
theorem Act.lenL (e:Act):(e.enc.map L.d).length=3:=Eq.trans rfl rfl
theorem Act.at0 (e:Act):e.enc[0]?=some (.i .i64 e.kind):=Eq.trans rfl rfl
theorem Act.fd0 (e:Act):(e.enc.map L.d)[0]?=some (.d (.i .i64 e.kind)):=Eq.trans rfl rfl
theorem Act.at1 (e:Act):(e.enc.drop 1)[0]?=some (.i .i64 e.n):=Eq.trans rfl rfl
theorem Act.fd1 (e:Act):(e.enc.map L.d)[1]?=some (.d (.i .i64 e.n)):=Eq.trans rfl rfl
theorem Act.at2 (e:Act):(e.enc.drop 2)[0]?=some (.s e.data):=Eq.trans rfl rfl
theorem Act.fd2 (e:Act):(e.enc.map L.d)[2]?=some (.d (.s e.data)):=Eq.trans rfl rfl
theorem Act.up1 (e:Act) (x:Int):e.enc.take 1++[.i .i64 x]++e.enc.drop 2=({ e with n:=x }:Act).enc:=Eq.trans rfl rfl
theorem Act.up2 (e:Act) (x:List UInt8):e.enc.take 2++[.s x]++e.enc.drop 3=({ e with data:=x }:Act).enc:=Eq.trans rfl rfl
def Act.ok (e:Act):Prop:=(-9223372036854775808<=e.kind∧e.kind<9223372036854775808)∧(-9223372036854775808<=e.n∧e.n<9223372036854775808)∧e.data.length<=9223372036854775807
def Act.ty:List Ty:=[.i .i64,.i .i64,.s]
theorem Act.eqs (a b:Act):fT [0,0,2] (a.enc.map L.d) (b.enc.map L.d)=some (decide (a=b)):=by
 cases a;cases b;simp only[Act.enc,List.map_cons,List.map_nil,fT,oT,if_true,Act.mk.injEq];congr 1
 rw[Bool.eq_iff_iff];simp only[Bool.and_eq_true,beq_iff_eq,decide_eq_true_eq,and_true]
theorem Act.of (r:List D) (h:cC Act.ty r):∃ e:Act,r=e.enc∧e.ok:=by
 simp only[Act.ty,cC,Ee] at h;obtain⟨_,_,rfl,⟨x0,rfl,h0,g0⟩,⟨_,_,rfl,⟨x1,rfl,h1,g1⟩,⟨_,_,rfl,⟨x2,rfl,h2⟩,rfl⟩⟩⟩:=h;refine⟨⟨x0,x1,x2⟩,rfl,?_⟩;exact⟨⟨Int.le_trans (by decide) h0,Int.lt_of_le_of_lt g0 (by decide)⟩,⟨Int.le_trans (by decide) h1,Int.lt_of_le_of_lt g1 (by decide)⟩,h2⟩
def j0 (d:Dsk) (n:Int):Dsk:={ d with armed:=decide (0<=n),left:=if 0<n then n else 0 }
def HC (d:Dsk) (n:Int):Dsk:={ d with cap:=if 0<n then n else 0 }
theorem xA (d:Dsk) (n:Int) (hn : -9223372036854775808<=n∧n<9223372036854775808):call 14 [.agg d.l,vi n] []=some (.agg (j0 d n).l,[]):=by
 apply ai Qz rfl;obtain⟨fl,cp,ar,lf,dn⟩:=d;unfold j0;by_cases c:0<n
 ·have c2:0<=n:=by omega
  (simp(disch:=first|decide|omega|(intros;exact rfl)|simp only[aa]) only[aS,O0,Dsk.l,c,c2,go_sem,seval,aq])
  try simp[trim]
  try omega
 ·have c3:¬ n > 0:=c;(simp(disch:=first|decide|omega|(intros;exact rfl)|simp only[aa]) only[aS,O0,Dsk.l,c,go_sem,seval,aq])
  try simp[trim]
  try omega
theorem F9 (d:Dsk) (n:Int) (hn : -9223372036854775808<=n∧n<9223372036854775808):call 74 [.agg d.l,vi n] []=some (.agg (HC d n).l,[]):=by
 apply ai P1 rfl;obtain⟨fl,cp,ar,lf,dn⟩:=d;unfold HC;by_cases c:0<n
 ·(simp(disch:=first|decide|omega|(intros;exact rfl)|simp only[aa]) only[aS,NX,Dsk.l,c,go_sem,seval,aq])
  try simp[trim]
  try omega
 ·(simp(disch:=first|decide|omega|(intros;exact rfl)|simp only[aa]) only[aS,NX,Dsk.l,c,go_sem,seval,aq])
  try simp[trim]
  try omega
variable {f:Int} {S:Txt} {l0:List Pr} {s:Sto} {M:List SR} {g:Seg} {l:List Rec}
theorem fQ (n:Int):(aQ n).length=14:=by simp[aQ,eU]
theorem cq (n:Int):(fileN n).length=14:=by simp[fileN,eU]
theorem dm (a b:Int):aQ a≠fileN b:=fun h=>by
 have:(aQ a)[0]?=(fileN b)[0]?:=by rw[h]
 simp[aQ,fileN,eU] at this
theorem m0 (n:Txt) (h:2<=n.length):n≠[109]:=fun e=>by rw[e] at h;simp at h
theorem AG {c:UInt8} {a b:Nat} (h:eU c a=eU c b):eU 115 a=eU 115 b:=by
 unfold eU at h ⊢;rw[(List.cons.inj h).2]
theorem pg {a b:Int} (ha:0<=a∧a<=1099511627776) (hb:0<=b∧b<=1099511627776) (h:aQ a=aQ b):a=b:=dL ha hb (AG h)
theorem F7 (n:Int):dE (fileN n)=true:=by
 have:=cq n;have h2:fileN n≠[]:=fun e=>by rw[e] at this;simp at this
 simp[dE,h2,this]
theorem Kc (n:Int):dE (aQ n)=true:=by
 have:=fQ n;have h2:aQ n≠[]:=fun e=>by rw[e] at this;simp at this
 simp[dE,h2,this]
def rel (f:Int) (s:Sto) (n:Txt):Prop:=n=[109]∨(∃ g∈s.segs,n=fileN g.base)∨(0<f∧n=aQ f)
theorem rL (f:Int) (s:Sto):¬ rel f s [110]:=by
 rintro(h|⟨g,_,h⟩|⟨_,h⟩)
 ·simp at h
 ·exact Ev _ (by rw[cq];decide) h.symm
 ·exact Ev _ (by rw[fQ];decide) h.symm
def Snp (f:Int) (S:Txt) (l0:List Pr) (s:Sto):Prop :=
 (f=0∧S=[]∧l0=[]∧s.size=0∧s.sum=0)∨(0<f∧fm s.disk.files (aQ f)=some (S,((S.length:Nat):Int))∧ch S=some l0∧s.size=((S.length:Nat):Int)∧s.sum=qP S)
structure W (f:Int) (S:Txt) (l0:List Pr) (s:Sto) (M:List SR) (g:Seg) (l:List Rec):Prop where
 inv:Inv f s M g l
 snp:Snp f S l0 s
 man:fm s.disk.files [109]=manV s.man
 right:manB s.man=true
 full:∀ p∈M,fm s.disk.files (fileN p.1.base)=some (rowS p.2,(((rowS p.2).length:Nat):Int))
 last:∃ q:Nat,fm s.disk.files (fileN g.base)=some (rowS l,((q:Nat):Int))∧(rowS (l.take (s.sure-g.base).toNat)).length<=q∧q<=(rowS l).length
 lo:g.base<=s.sure
 only:s.disk.down=false->∀ n,fm s.disk.files n≠none->rel f s n
theorem W.mem (h:W f S l0 s M g l):∀ p∈M++[(g,l)],p.1∈s.segs:=by
 intro p hp;rw[h.inv.segs];rcases List.mem_append.1 hp with hp|hp
 ·exact List.mem_append_left _ (List.mem_map_of_mem hp)
 ·rw[List.mem_singleton.1 hp];simp
theorem W.keep (h:W f S l0 s M g l) (hs:srt s.disk.files) {d:Dsk} (hs':srt d.files) (hk:∀ n,rel f s n->fm d.files n=fm s.disk.files n)
  (hd:d.down=true∨(fm d.files=fm s.disk.files∧s.disk.down=false)):W f S l0 { s with disk:=d } M g l:=by
 have hm:=h.mem;refine⟨h.inv.disk d fun p hp hh=>?_,?_,?_,h.right,fun p hp=>?_,?_,h.lo,fun hdn n hn=>?_⟩
 ·rw[kJ hs] at hh;rw[kJ hs',hk _ (.inr (.inl ⟨_,hm p hp,rfl⟩))];exact hh
 ·rcases h.snp with h1|⟨h1,h2,h3⟩
  ·exact .inl h1
  ·exact .inr ⟨h1,by show fm d.files _=_;rw[hk _ (.inr (.inr ⟨h1,rfl⟩))];exact h2,h3⟩
 ·show fm d.files _=_;rw[hk _ (.inl rfl)];exact h.man
 ·show fm d.files _=_;rw[hk _ (.inr (.inl ⟨_,hm p (List.mem_append_left _ hp),rfl⟩))];exact h.full p hp
 ·obtain⟨q,h1,h2⟩:=h.last;exact⟨q,by show fm d.files _=_;rw[hk _ (.inr (.inl ⟨_,hm (g,l) (by simp),rfl⟩))];exact h1,h2⟩
 ·rcases hd with hd|⟨h1,h2⟩
  ·rw[show d.down=false from hdn] at hd;cases hd
  ·exact h.only h2 n (by rw[<- h1];exact hn)
theorem W.fail (h:W f S l0 s M g l) (hs:srt s.disk.files) {r:Dsk × Int} {X:List Txt} {G:FM} (hO:Out s.disk r X G (some (fm s.disk.files))) (he:r.2≠0) (hX:∀ n∈X,¬ rel f s n) :
  W f S l0 { s with disk:=r.1 } M g l∧((r.2=9∧fm r.1.files=fm s.disk.files∧r.1.down=false)∨(r.2=10∧r.1.down=true)):=by
 obtain⟨k,s1,o⟩:=hO;rcases o with⟨e,_⟩|⟨q,hq,e,hd,hf⟩|⟨e,hd,hf⟩
 ·exact absurd e he
 ·cases hq;have h0:s.disk.down=false:=by
   cases hx:s.disk.down with
   | false=>rfl
   | true=>rw[k.down hx,hx] at hd;cases hd
  exact⟨h.keep hs s1 (fun n _=>by rw[hf]) (.inr ⟨hf,h0⟩),.inl ⟨e,hf,hd⟩⟩
 ·exact⟨h.keep hs s1 (fun n hn=>hf n (fun hx=>hX n hx hn)) (.inl hd),.inr ⟨e,hd⟩⟩
theorem W.same (h:W f S l0 s M g l) (hs:srt s.disk.files) {d:Dsk} (hf:d.files=s.disk.files) (hd:d.down=s.disk.down):W f S l0 { s with disk:=d } M g l:=by
 refine h.keep hs (by rw[hf];exact hs) (fun n _=>by rw[hf]) ?_
 cases hx:s.disk.down with
 | true=>exact .inl (hd.trans hx)
 | false=>exact .inr ⟨by rw[hf],rfl⟩
theorem W.arm (h:W f S l0 s M g l) (hs:srt s.disk.files) (n:Int):W f S l0 { s with disk:=j0 s.disk n } M g l:=h.same hs rfl rfl
theorem W.lim (h:W f S l0 s M g l) (hs:srt s.disk.files) (n:Int):W f S l0 { s with disk:=HC s.disk n } M g l:=h.same hs rfl rfl
theorem tK {f:Int} {M:List SR} {g:Seg} (h:chainM f M g.base):∀ p∈M,p.1.base<g.base:=fun p hp=>by
 have:=(iL _ _ _ h).2 p hp;omega
theorem nY:∀ (l:List Int) (a:Int),kT a l=true↔(l.Pairwise (· < ·)∧∀ n∈l,a<n∧n<=1099511627776)
 | [],a=>by simp[kT]
 | x::r,a=>by
  have ih:=nY r x;simp only[kT,Bool.and_eq_true,decide_eq_true_eq,ih,List.pairwise_cons,List.mem_cons];constructor
  ·rintro⟨h1,h2,h3⟩;exact⟨⟨fun b hb=>(h3 b hb).1,h2⟩,fun n hn=>by
    rcases hn with rfl|hn
    ·exact h1
    ·have:=h3 n hn;exact⟨by omega,this.2⟩⟩
  ·rintro⟨⟨h1,h2⟩,h3⟩;exact⟨h3 x (.inl rfl),h2,fun n hn=>⟨h1 n hn,(h3 n (.inr hn)).2⟩⟩
theorem BB {m:Man} (hv:1<=m.ver∧m.ver<=1099511627776) (hl:1<=m.segs.length∧m.segs.length<=64) (hi:kT (-1) m.segs=true) (hz:(m.segs.head?=some 0∧m.size=0∧m.sum=0)∨(m.segs.head?≠some 0∧0<m.size∧m.size<=65536)):manB m=true:=by
 unfold manB;rw[hi,Bool.true_and,Bool.and_eq_true];refine⟨by simpa using⟨hv.1,hv.2,hl.1,hl.2⟩,?_⟩
 rcases hz with⟨h1,h2,h3⟩|⟨h1,h2,h3⟩
 ·rw[if_pos h1];simp[h2,h3]
 ·rw[if_neg h1];simp[h2,h3]
theorem KU {m:Man} (h:manB m=true):(m.segs.head?=some 0∧m.size=0∧m.sum=0)∨(m.segs.head?≠some 0∧0<m.size∧m.size<=65536):=by
 unfold manB at h;rw[Bool.and_eq_true,Bool.and_eq_true] at h;have h2:=h.2.2;by_cases c:m.segs.head?=some 0
 ·rw[if_pos c] at h2;exact .inl ⟨c,by simpa using h2⟩
 ·rw[if_neg c] at h2;exact .inr ⟨c,by simpa using h2⟩
variable {k u:Nat} {f:Int} {S:Txt} {l0:List Pr} {s:Sto} {M:List SR} {g:Seg} {l:List Rec}
theorem W.file_ne (ho:okS k u s) (h:W f S l0 s M g l):∀ p∈M,fileN p.1.base≠fileN g.base:=fun p hp e=>by
 have h1:=(ho.seg _ (h.mem p (List.mem_append_left _ hp))).1;have h2:=(ho.seg _ (h.mem (g,l) (by simp))).1
 have:p.1.base=g.base:=dL h1 h2 e;have:=tK h.inv.chain p hp;omega
theorem Dk.up_of {d d':Dsk} (h:Dk d d') (hd:d'.down=false):d.down=false:=by
 cases hx:d.down with
 | false=>rfl
 | true=>rw[h.down hx,hx] at hd;cases hd
theorem W.change (ho:okS k u s) (h:W f S l0 s M g l) {s':Sto} {g':Seg} {l':List Rec} {x:Txt} {q:Nat} (hi:Inv f s' M g' l') (hb:g'.base=g.base) (hf:fm s'.disk.files=up (fm s.disk.files) (fileN g.base) (some (x,((q:Nat):Int)))) (hd:s.disk.down=false)
  (hm:s'.man=s.man) (hz:s'.size=s.size∧s'.sum=s.sum) (hx:x=rowS l') (h1:(rowS (l'.take (s'.sure-g.base).toNat)).length<=q∧q<=(rowS l').length) (hl:g.base<=s'.sure):W f S l0 s' M g' l':=by
 have hne:=h.file_ne ho;have hsg:∀ n,rel f s n->rel f s' n:=by
  rintro n (hn|⟨a,ha,hn⟩|hn)
  ·exact .inl hn
  ·refine .inr (.inl ?_);rw[h.inv.segs] at ha;rcases List.mem_append.1 ha with ha|ha
   ·exact⟨a,by rw[hi.segs];exact List.mem_append_left _ ha,hn⟩
   ·rw[List.mem_singleton.1 ha] at hn;exact⟨g',by rw[hi.segs];simp,by rw[hb];exact hn⟩
  ·exact .inr (.inr hn)
 refine⟨hi,?_,?_,by rw[hm];exact h.right,fun p hp=>?_,⟨q,?_,by rw[hb];exact h1⟩,by rw[hb];exact hl,fun _ n hn=>?_⟩
 ·rcases h.snp with h2|⟨h2,h3,h4⟩
  ·exact .inl ⟨h2.1,h2.2.1,h2.2.2.1,by rw[hz.1];exact h2.2.2.2.1,by rw[hz.2];exact h2.2.2.2.2⟩
  ·exact .inr ⟨h2,by rw[hf,bW _ _ (dm _ _)];exact h3,h4.1,by rw[hz.1];exact h4.2.1,by rw[hz.2];exact h4.2.2⟩
 ·rw[hf,hm,bW _ _ (m0 _ (by rw[cq];decide)).symm];exact h.man
 ·rw[hf,bW _ _ (hne p hp)];exact h.full p hp
 ·rw[hf,hb,dS,hx]
 ·by_cases c:n=fileN g.base
  ·exact hsg n (.inr (.inl ⟨g,h.mem (g,l) (by simp),c⟩))
  ·rw[hf,bW _ _ c] at hn;exact hsg n (h.only hd n hn)
theorem W.sync (ho:okS k u s) (h:W f S l0 s M g l):W f S l0 (a8 s).1 M g l∧(((a8 s).2=0∧(a8 s).1.sure=s.next∧(a8 s).1.disk.down=false)∨((a8 s).2=10∧(a8 s).1.disk.down=true∧(a8 s).1.sure=s.sure))∧(a8 s).1.disk.cap=s.disk.cap:=by
 have hi:=yx ho h.inv ho.next.1;obtain⟨q,h1,h2,h3⟩:=h.last;have hO:=jL ho.dsk.srt h1;have hl:=h.inv.last;have es:a8 s=({ s with disk:=(au s.disk (cJ s.disk.files (fileN g.base))).1,sure:=if(au s.disk (cJ s.disk.files (fileN g.base))).2=0 then s.next else s.sure },(au s.disk (cJ s.disk.files (fileN g.base))).2):=by unfold a8;rw[hl]
 rw[es] at hi ⊢;generalize au s.disk (cJ s.disk.files (fileN g.base))=r at *;have hnx:=h.inv.next;have hcap:=hO.1.cap;rcases hO.2.2 with⟨e,hd,hf⟩|⟨_,hc,_⟩|⟨e,hd,hf⟩
 ·have e1:(if r.2=0 then s.next else s.sure)=s.next:=if_pos e
  rw[e1] at hi ⊢;refine⟨h.change ho hi rfl hf (hO.1.up_of hd) rfl ⟨rfl,rfl⟩ rfl ⟨?_,Nat.le_refl _⟩ ?_,.inl ⟨e,rfl,hd⟩,hcap⟩
  ·simp only[];rw[List.take_of_length_le (by omega)];exact Nat.le_refl _
  ·simp only[];omega
 ·cases hc
 ·have e1:(if r.2=0 then s.next else s.sure)=s.sure:=if_neg (by rw[e];decide)
  rw[e1];exact⟨h.keep ho.dsk.srt hO.2.1 (fun n _=>hf n (by simp)) (.inl hd),.inr ⟨e,hd,rfl⟩,hcap⟩
theorem Gz (h:Inv f s M g l) (a b:Int):((s.segs.dropLast++[⟨s.last.base,a,b⟩]:List Seg)).map Seg.base=s.segs.map Seg.base:=by
 rw[h.last,h.segs];simp
theorem W.put (ho:okS k u s) (h:W f S l0 s M g l) (r:Rec) (hr:whyF r=0) (ha:r.at_=s.next) :
  ((dW s (dx r).1).1.disk.cap=s.disk.cap∧(dW s (dx r).1).1.sure=s.sure)∧((W f S l0 (dW s (dx r).1).1 M g l∧(dW s (dx r).1).1.next=s.next∧(dW s (dx r).1).1.segs=s.segs∧(dW s (dx r).1).1.ver=s.ver∧((((dW s (dx r).1).2=9∧(dW s (dx r).1).1.disk.down=false)∨((dW s (dx r).1).2=10∧(dW s (dx r).1).1.disk.down=true)))) ∨
  ((dW s (dx r).1).2=0∧(dW s (dx r).1).1.disk.down=false∧W f S l0 (dW s (dx r).1).1 M ⟨g.base,g.n+1,g.size+(aK (bA r)).length⟩ (l++[r]))):=by
 have hp:=JQ ho h.inv r hr ha;have hl:=h.inv.last;have e1:(dx r).1=aK (bA r):=by unfold dx;rw[if_pos hr]
 obtain⟨q,h1,h2,h3⟩:=h.last;have hO:=wO ho.dsk.srt (aK (bA r)) h1;have hsg:=Gz h.inv (s.last.n+1) (s.last.size+((aK (bA r)).length:Nat));have hnx:=h.inv.next;have hsu:=h.inv.sure;have es:dW s (dx r).1=if(au s.disk (bV s.disk.files s.disk.cap (fileN g.base) (aK (bA r)))).2≠0 then({ s with disk:=(au s.disk (bV s.disk.files s.disk.cap (fileN g.base) (aK (bA r)))).1 },(au s.disk (bV s.disk.files s.disk.cap (fileN g.base) (aK (bA r)))).2) else({ vm s (aK (bA r)).length with disk:=(au s.disk (bV s.disk.files s.disk.cap (fileN g.base) (aK (bA r)))).1 },0):=by
  unfold dW;rw[hl,e1]
 rw[es] at hp ⊢;have hcap:=hO.1.cap;by_cases c:(au s.disk (bV s.disk.files s.disk.cap (fileN g.base) (aK (bA r)))).2=0
 ·rw[if_neg (by simp[c])] at hp ⊢
  refine⟨⟨hcap,rfl⟩,.inr ?_⟩;rcases hp with⟨hp,_⟩|⟨_,hp⟩
  ·exact absurd rfl hp
  ·rcases hO.2.2 with⟨e,hd,hf⟩|⟨_,_,e,_⟩|⟨e,_⟩
   ·refine⟨rfl,hd,h.change ho hp rfl hf (hO.1.up_of hd) ?_ ⟨rfl,rfl⟩ (mL _ _).symm ⟨?_,?_⟩ h.lo⟩
    ·show(⟨s.ver,(s.segs.dropLast++[_]).map Seg.base,s.size,s.sum⟩:Man)=s.man;rw[hsg];rfl
    ·show(rowS ((l++[r]).take (s.sure-g.base).toNat)).length<=q;rw[List.take_append_of_le_length (by omega)];exact h2
    ·rw[mL,List.length_append];omega
   ·rw[e] at c;cases c
   ·rw[e] at c;cases c
 ·rw[if_pos c] at hp ⊢;refine⟨⟨hcap,rfl⟩,.inl ?_⟩;have:=h.fail ho.dsk.srt hO c (by simp)
  refine⟨this.1,rfl,rfl,rfl,?_⟩;rcases this.2 with⟨a,_,b⟩|h
  ·exact .inl ⟨a,b⟩
  ·exact .inr h
variable {k u:Nat} {f:Int} {S:Txt} {l0:List Pr} {s:Sto} {M:List SR} {g:Seg} {l:List Rec}
theorem W.man_inc (h:W f S l0 s M g l):(s.segs.map Seg.base).Pairwise (· < ·)∧(∀ n∈s.segs.map Seg.base,-1<n∧n<=1099511627776) :=
 (nY _ _).1 (dN h.right).2.2.1
theorem W.head (h:W f S l0 s M g l):(s.segs.map Seg.base).head?=some f:=by
 rw[h.inv.segs];have hc:=h.inv.chain;cases M with
 | nil=>simp[chainM] at hc ⊢;omega
 | cons p r=>simp[chainM] at hc ⊢;omega
theorem Ft (h:Inv f s M g l) (hl:l≠[]):∀ a∈s.segs,a.base<s.next:=by
 intro a ha;have hn:=h.next;have hp:0<l.length:=List.length_pos_iff.2 hl;rw[h.segs] at ha;rcases List.mem_append.1 ha with ha|ha
 ·obtain⟨p,hp2,rfl⟩:=List.mem_map.1 ha;have:=tK h.chain p hp2;omega
 ·rw[List.mem_singleton.1 ha];omega
theorem y9 (h:W f S l0 s M g l) (hl:l≠[]) (hn:s.next<=1099511627776) (hv:s.ver+1<=1099511627776) (hlen:s.segs.length<64):manB (iv s).man=true:=by
 have hm:=dN h.right;have hi:=h.man_inc;have hlt:=Ft h.inv hl;have hg0:=h.inv.next;have e:(iv s).man.segs=s.segs.map Seg.base++[s.next]:=by show(s.segs++[_]).map Seg.base=_;simp
 have hv1:1<=s.ver:=hm.1.1;have h0:0<=s.next:=by have:=h.inv.sure;omega
 refine BB ⟨by show 1<=s.ver+1;omega,hv⟩ ⟨by rw[e];simp,by rw[e];simp;omega⟩ ?_ ?_
 ·rw[e,nY,List.pairwise_append];refine⟨⟨hi.1,by simp,fun a ha b hb=>?_⟩,fun n hx=>?_⟩
  ·obtain⟨c,hc,rfl⟩:=List.mem_map.1 ha;rw[List.mem_singleton.1 hb];exact hlt c hc
  ·rcases List.mem_append.1 hx with hx|hx
   ·exact hi.2 n hx
   ·rw[List.mem_singleton.1 hx];omega
 ·have hz:=KU h.right;have eh:(iv s).man.segs.head?=s.man.segs.head?:=by
   rw[e];show _=(s.segs.map Seg.base).head?;rw[List.head?_append,h.head];rfl
  rw[eh];exact hz
theorem W.roll (ho:okS k u s) (h:W f S l0 s M g l) (hl:l≠[]) (hv:u<1000000000000) :
  (bN s).1.disk.cap=s.disk.cap∧((W f S l0 (bN s).1 M g l∧(bN s).1.segs=s.segs∧(((bN s).2=9∧(bN s).1.disk.down=s.disk.down)∨((bN s).2=10∧(bN s).1.disk.down=true))) ∨
  ((bN s).2=0∧(bN s).1.disk.down=false∧(bN s).1.sure=s.next∧W f S l0 (bN s).1 (M++[(g,l)]) ⟨s.next,0,0⟩ [])):=by
 have hri:=F3 ho h.inv hl;have hsy:=h.sync ho;have hos:=mj ho;unfold bN at hri ⊢;by_cases c1:64<=s.segs.length
 ·rw[if_pos c1];exact⟨rfl,.inl ⟨h,rfl,.inl ⟨rfl,rfl⟩⟩⟩
 ·rw[if_neg c1] at hri ⊢;by_cases c2:(a8 s).2=0
  ·rw[if_neg (by simp[c2])] at hri ⊢
   have hsg:(a8 s).1.segs=s.segs:=rfl;have hn:(a8 s).1.next=s.next:=rfl;obtain⟨hw,hst,hcap⟩:=hsy;have hst2:(a8 s).1.sure=s.next∧(a8 s).1.disk.down=false:=by
    rcases hst with h1|h1
    ·exact h1.2
    ·rw[h1.1] at c2;cases c2
   have hdn:s.disk.down=false:=by
    have hO:=jL ho.dsk.srt h.last.choose_spec.1;have hl2:=h.inv.last;have e2:(a8 s).1.disk=(au s.disk (cJ s.disk.files (fileN g.base))).1:=by unfold a8;rw[hl2]
    exact hO.1.up_of (by rw[<- e2];exact hst2.2)
   rw[<- hsg] at c1;rw[<- hn] at hst2 hri ⊢;generalize (a8 s).1=t at *;have hnx:=hos.next;have hvt:=hos.ver;have hlt:=Ft hw.inv hl;have hrt:=y9 hw hl hnx.2 (by omega) (by omega)
   have hnone:t.disk.down=false->fm t.disk.files (fileN t.next)=none:=fun hd=>by
    cases hx:fm t.disk.files (fileN t.next) with
    | none=>rfl
    | some v =>
     rcases hw.only hd (fileN t.next) (by rw[hx];simp) with e|⟨a,ha,e⟩|⟨_,e⟩
     ·exact absurd e (m0 _ (by rw[cq];decide))
     ·have:=dL (by omega) (hos.seg a ha).1 e
      have:=hlt a ha;omega
     ·exact absurd e.symm (dm _ _)
   have hnr:∀ n∈[fileN t.next,[110]],¬ rel f t n:=by
    intro n hx;rcases List.mem_cons.1 hx with rfl|hx
    ·rintro(e|⟨a,ha,e⟩|⟨_,e⟩)
     ·exact absurd e (m0 _ (by rw[cq];decide))
     ·have:=dL (by omega) (hos.seg a ha).1 e
      have:=hlt a ha;omega
     ·exact absurd e.symm (dm _ _)
    ·rw[List.mem_singleton.1 hx];exact rL f t
   have h110:t.disk.down=false->fm t.disk.files [110]=none:=fun hd=>by
    cases hx:fm t.disk.files [110] with
    | none=>rfl
    | some v=>exact absurd (hw.only hd [110] (by rw[hx];simp)) (rL f t)
   have hO:Out t.disk (dI t) [fileN t.next,[110]] _ _:=vE hos.dsk.srt hrt (F7 _) (Ev _ (by rw[cq];decide)) h110 hnone
   have hcap2:=hO.1.cap;by_cases c3:(dI t).2=0
   ·rw[if_pos c3] at hri ⊢;rcases hri with⟨hx,_⟩|⟨_,hri⟩
    ·exact absurd rfl hx
    rcases hO.2.2 with⟨e,hd,hf⟩|⟨_,_,e,_⟩|⟨e,_⟩
    ·refine⟨hcap2.trans hcap,.inr ⟨rfl,hd,hst2.1,hri,?_,?_,hrt,fun p hp=>?_,⟨0,?_,by simp[rowS],by simp⟩,?_,fun _ n hx=>?_⟩⟩
     ·rcases hw.snp with h2|⟨h2,h3,h4⟩
      ·exact .inl h2
      ·exact .inr ⟨h2,by show fm (dI t).1.files _=_;rw[hf,bW _ _ (m0 _ (by rw[fQ];decide)),bW _ _ (dm _ _)];exact h3,h4⟩
     ·show fm (dI t).1.files _=_;rw[hf,dS];rfl
     ·show fm (dI t).1.files _=_;have hpm:p.1∈t.segs:=hw.mem p hp;have hne:fileN p.1.base≠fileN t.next:=fun e=>by
       have:p.1.base=t.next:=dL (hos.seg _ hpm).1 (by omega) e
       have:=hlt _ hpm;omega
      rw[hf,bW _ _ (m0 _ (by rw[cq];decide)),bW _ _ hne]
      rcases List.mem_append.1 hp with hp|hp
      ·exact hw.full p hp
      ·rw[List.mem_singleton.1 hp];obtain⟨q,h1,h2,h3⟩:=hw.last;have hnn:=hw.inv.next;rw[List.take_of_length_le (by omega)] at h2
       rw[h1,show q=(rowS l).length by omega]
     ·show fm (dI t).1.files _=_;rw[hf,bW _ _ (m0 _ (by rw[cq];decide)),dS];rfl
     ·show t.next<=t.sure;omega
     ·have hx2:fm (dI t).1.files n≠none:=hx;rw[hf] at hx2;by_cases a1:n=[109]
      ·exact .inl a1
      ·rw[bW _ _ a1] at hx2;by_cases a2:n=fileN t.next
       ·exact .inr (.inl ⟨⟨t.next,0,0⟩,by show _∈t.segs++[_];simp,a2⟩)
       ·rw[bW _ _ a2] at hx2;rcases hw.only hst2.2 n hx2 with e|⟨a,ha,e⟩|e
        ·exact .inl e
        ·exact .inr (.inl ⟨a,by show a∈t.segs++[_];simp[ha],e⟩)
        ·exact .inr (.inr e)
    ·rw[e] at c3;cases c3
    ·rw[e] at c3;cases c3
   ·rw[if_neg c3];have:=hw.fail hos.dsk.srt hO c3 hnr;refine⟨hcap2.trans hcap,.inl ⟨this.1,hsg,?_⟩⟩;rcases this.2 with⟨a,_,b⟩|hh
    ·exact .inl ⟨a,b.trans hdn.symm⟩
    ·exact .inr hh
  ·rw[if_pos c2];refine⟨hsy.2.2,.inl ⟨hsy.1,rfl,?_⟩⟩;rcases hsy.2.1 with h1|h1
   ·exact absurd h1.1 c2
   ·exact .inr ⟨h1.1,h1.2.1⟩
def WR (f:Int) (S:Txt) (l0:List Pr) (s:Sto) (R:List Rec):Prop:=∃ M g l,W f S l0 s M g l∧aY (M++[(g,l)])=R
theorem WR.next {R:List Rec} (h:WR f S l0 s R):s.next=f+R.length:=by
 obtain⟨M,g,l,h,rfl⟩:=h;have:=iQ _ _ _ h.inv.chain;have hn:=h.inv.next;rw[cZ,dM,List.length_append];simp only[];omega
theorem WR.sure {R:List Rec} (h:WR f S l0 s R):f<=s.sure∧s.sure<=s.next:=by
 obtain⟨M,g,l,h,rfl⟩:=h;have:=(iL _ _ _ h.inv.chain).1;have:=h.lo;have:=h.inv.sure;omega
theorem WR.floor {R:List Rec} (h:WR f S l0 s R):s.floor=f:=by
 obtain⟨M,g,l,h,rfl⟩:=h;have h1:=h.head;unfold Sto.floor;cases hs:s.segs with
 | nil=>rw[hs] at h1;cases h1
 | cons a r=>rw[hs] at h1;simpa using h1
theorem WR.app {R:List Rec} (ho:okS k u s) (h:WR f S l0 s R) {seg:Int} (hseg:1<=seg) (hv:u<1000000000000) (r:Rec) :
  s.sure<=(gd s seg r).1.sure∧(gd s seg r).1.disk.cap=s.disk.cap∧(((gd s seg r).2=0∧r.at_=s.next∧whyF r=0∧s.next<1099511627776∧(gd s seg r).1.disk.down=false∧WR f S l0 (gd s seg r).1 (R++[r])) ∨
   (WR f S l0 (gd s seg r).1 R∧(((gd s seg r).2=1∧(gd s seg r).1=s∧(whyF r≠0∨r.at_≠s.next))∨((gd s seg r).2=13∧(gd s seg r).1=s∧1099511627776<=s.next)∨(gd s seg r).2=9∨((gd s seg r).2=10∧(gd s seg r).1.disk.down=true)))):=by
 have h0:=h;obtain⟨M,g,l,h,rfl⟩:=h;have hlast:=h.inv.last;unfold gd;by_cases c1:(dx r).2≠0∨r.at_≠s.next
 ·rw[if_pos c1];refine⟨Int.le_refl _,rfl,.inr ⟨h0,.inl ⟨rfl,rfl,?_⟩⟩⟩;rcases c1 with c1|c1
  ·refine .inl fun hw=>c1 ?_
   unfold dx;rw[if_pos hw]
  ·exact .inr c1
 ·rw[if_neg c1];simp only[not_or,Decidable.not_not] at c1;obtain⟨c1,ca⟩:=c1;have hr:whyF r=0:=by
   unfold dx at c1;split at c1
   ·assumption
   ·exact c1
  by_cases c2:1099511627776<=s.next
  ·rw[if_pos c2];exact⟨Int.le_refl _,rfl,.inr ⟨h0,.inr (.inl ⟨rfl,rfl,c2⟩)⟩⟩
  ·rw[if_neg c2];by_cases c3:seg<=s.last.size
   ·rw[if_pos c3];have hg:=(h.inv.file (g,l) (by simp)).size
    have hl:l≠[]:=by
     rintro rfl;rw[hlast] at c3;simp only[rowS,List.flatMap_nil,List.length_nil] at hg;omega
    have hro:=h.roll ho hl hv;have hmo:=Cs ho h.inv.sure.2;have hok:=oK ho;have hnx:=sY s;by_cases c4:(bN s).2=0
    ·rw[if_neg (by simp[c4])]
     rcases hro.2 with⟨_,_,⟨e,_⟩|⟨e,_⟩⟩|⟨_,hd,hs2,hw⟩
     ·rw[e] at c4;cases c4
     ·rw[e] at c4;cases c4
     ·have hcap:=hro.1;have hp:=hw.put hok r hr (by rw[hnx];exact ca)
      generalize (bN s).1=t at *;have e0:aY (M++[(g,l)]++[(⟨s.next,0,0⟩,[])])=aY (M++[(g,l)]):=by rw[cZ,dM,List.append_nil]
      refine⟨by rw[hp.1.2];exact hmo,hp.1.1.trans hcap,?_⟩
      rcases hp.2 with⟨h1,h2,_,_,h3⟩|⟨h1,h2,h3⟩
      ·refine .inr ⟨⟨_,_,_,h1,e0⟩,.inr (.inr ?_)⟩;rcases h3 with h3|h3
       ·exact .inl h3.1
       ·exact .inr h3
      ·refine .inl ⟨h1,ca,hr,by omega,h2,_,_,_,h3,?_⟩
       rw[cZ,dM];rfl
    ·rw[if_pos c4];refine⟨hmo,hro.1,.inr ?_⟩;rcases hro.2 with⟨h1,_,h2⟩|⟨e,_⟩
     ·refine⟨⟨_,_,_,h1,rfl⟩,.inr (.inr ?_)⟩;rcases h2 with h2|h2
      ·exact .inl h2.1
      ·exact .inr h2
     ·exact absurd e c4
   ·rw[if_neg c3];have hp:=h.put ho r hr ca;refine⟨by rw[hp.1.2];exact Int.le_refl _,hp.1.1,?_⟩
    rcases hp.2 with⟨h1,h2,_,_,h3⟩|⟨h1,h2,h3⟩
    ·refine .inr ⟨⟨_,_,_,h1,rfl⟩,.inr (.inr ?_)⟩;rcases h3 with h3|h3
     ·exact .inl h3.1
     ·exact .inr h3
    ·refine .inl ⟨h1,ca,hr,by omega,h2,_,_,_,h3,?_⟩
     rw[cZ,dM,cZ,dM,List.append_assoc]
def oN (l:List Pr):Prop:=l.Pairwise fun a b=>a.key<b.key
theorem IG (l:List Pr) (c:UInt8) (r:List UInt8):eL l (c::r)=l.takeWhile (fun p=>decide (p.key<(c.toNat:Int)))++(if r=[] then[] else[⟨(c.toNat:Int),r⟩])++l.filter (fun p=>decide ((c.toNat:Int)<p.key)):=by rw[eL]
theorem step_srt {l:List Pr} (hs:oN l) (d:List UInt8):oN (eL l d):=by
 cases d with
 | nil=>exact hs
 | cons c r =>
  have h1:∀ p∈l.takeWhile (fun p=>decide (p.key<(c.toNat:Int))),p.key<(c.toNat:Int):=fun p hp=>by simpa using List.all_eq_true.1 (List.all_takeWhile (p:=fun p:Pr=>decide (p.key<(c.toNat:Int))) (l:=l)) p hp
  have h2:∀ p∈l.filter (fun p=>decide ((c.toNat:Int)<p.key)),(c.toNat:Int)<p.key:=fun p hp=>by simpa using(List.mem_filter.1 hp).2
  unfold oN;rw[IG,List.append_assoc,List.pairwise_append];refine⟨hs.sublist (List.takeWhile_sublist _),?_,?_⟩
  ·split
   ·exact hs.sublist List.filter_sublist
   ·rw[List.singleton_append,List.pairwise_cons];exact⟨fun p hp=>h2 p hp,hs.sublist List.filter_sublist⟩
  ·intro a ha b hb;have:=h1 a ha;rw[List.mem_append] at hb;rcases hb with hb|hb
   ·split at hb
    ·cases hb
    ·rw[List.mem_singleton.1 hb];exact this
   ·have:=h2 b hb;omega
theorem Pr.dr (e:Pr):e.enc.drop 2=[]:=Eq.trans rfl rfl
def qb (l:List Pr) (R:List Rec):List Pr:=R.foldl (fun l r=>eL l r.da) l
theorem xK:∀ (R:List Rec) (l:List Pr),oN l->okP l->(∀ r∈R,r.da.length<=64)->oN (qb l R)∧okP (qb l R)∧(qb l R).length<=l.length+R.length
 | [],l,hs,ho,_=>⟨hs,ho,Nat.le_refl _⟩
 | r::R,l,hs,ho,hr=>by
  have h:=xK R (eL l r.da) (step_srt hs _) (step_ok ho (hr r (by simp))) (fun x hx=>hr x (by simp[hx]))
  have h2:=step_len l r.da;refine⟨h.1,h.2.1,?_⟩;have:(qb l (r::R)).length<=(eL l r.da).length+R.length:=h.2.2;simp only[List.length_cons];omega
theorem Bw:∀ (l:List Pr) (a:Int),oN l->(∀ p∈l,a<=p.key∧p.key<256)->(l.length:Int)<=max 0 (256-a)
 | [],a,_,_=>by simp;omega
 | p::r,a,hs,h=>by
  have hr:=List.pairwise_cons.1 hs;have h1:=h p (by simp)
  have:=Bw r (p.key+1) hr.2 (fun q hq=>⟨by have:=hr.1 q hq;omega,(h q (by simp[hq])).2⟩)
  simp only[List.length_cons];omega
theorem E7 {l:List Pr} (hs:oN l) (ho:okP l):l.length<=256:=by
 have:=Bw l 0 hs (fun p hp=>(ho p hp).1)
 omega
theorem FY (l:List Seg) (keep count:Int) (j:Nat) (hj:j<l.length) (h1:jT l keep count j=true) (h2:∀ i,i<j->jT l keep count i=false):dR l keep count=j:=by
 have:(List.range l.length).find? (jT l keep count)=some j:=by
  rw[List.find?_range_eq_some];exact⟨h1,by simpa using hj,fun i hi=>by rw[h2 i hi];rfl⟩
 unfold dR;rw[this]
end Go.Proofs.YtghfhomfppbooaaGreat
