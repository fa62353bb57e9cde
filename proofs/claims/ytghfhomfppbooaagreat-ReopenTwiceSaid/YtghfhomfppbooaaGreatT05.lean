import Derived.Test.YtghfhomfppbooaaGreatT04
import Derived.Test.YtghfhomfppbooaaGreatVid
set_option linter.unusedSimpArgs false
set_option linter.unusedVariables false
namespace Go.Proofs.YtghfhomfppbooaaGreat
open Go.Vi
theorem bM (d:Dsk) (hL:0<=d.left∧d.left<9223372036854775808) (l:List Fil) (own:Int):call 70 [.agg d.l,vl (l.map Fil.enc),vi own] []=some (bu (au d (l,own)),[]):=by
 apply ai Qs rfl;obtain⟨fl,cp,ar,lf,dn⟩:=d;unfold au bu;simp only at hL ⊢;cases dn with
 | true =>
  (simp(disch:=first|decide|omega|(intros;exact rfl)|simp only[aa]) only[aS,Me,Dsk.l,go_sem,seval,aq])
  try simp[trim]
 | false =>
  by_cases c:own=0
  ·subst c;cases ar with
   | false =>
    (simp(disch:=first|decide|omega|(intros;exact rfl)|simp only[aa]) only[aS,Me,Dsk.l,go_sem,seval,aq])
    try simp[trim]
   | true =>
    by_cases c2:lf=0
    ·subst c2;(simp(disch:=first|decide|omega|(intros;exact rfl)|simp only[aa]) only[aS,Me,Dsk.l,go_sem,seval,aq])
     try simp[trim]
    ·have e:(lf == 0)=false:=by simpa using c2
     (simp(disch:=first|decide|omega|(intros;exact rfl)|simp only[aa]) only[aS,Me,Dsk.l,c2,e,go_sem,seval,aq])
     try simp[trim,c2]
  ·(simp(disch:=first|decide|omega|(intros;exact rfl)|simp only[aa]) only[aS,Me,Dsk.l,c,go_sem,seval,aq])
   try simp[trim,c]
theorem KT {l:List Fil} (hs:srt l) {n:Txt} (h:bz l n=false):nW l n=l:=by
 unfold nW;rw[List.filter_eq_self];intro f hf;simpa using mB hs h f hf
theorem wk {l:List Fil} (hs:srt l) {n:Txt} (h:bz l n=true):nW l n=ef l (aw l n):=by
 obtain⟨hp,he⟩:=bL h;have hne:∀ i (hi:i<l.length),i≠aw l n->l[i].name≠n:=fun i hi h1 h2=>h1 ((qu hs n i hi).1 h2).2
 have e:l=l.take (aw l n)++(l[aw l n]::l.drop (aw l n+1)):=by rw[<- List.drop_eq_getElem_cons hp,List.take_append_drop]
 unfold nW ef;conv=>lhs;rw[e]
 rw[List.filter_append,List.filter_cons_of_neg (by simp[he]),List.filter_eq_self.2,List.filter_eq_self.2]
 ·intro f hf;obtain⟨i,hi,rfl⟩:=List.getElem_of_mem hf;rw[List.getElem_drop];rw[List.length_drop] at hi;simpa using hne _ (by omega) (by omega)
 ·intro f hf;obtain⟨i,hi,rfl⟩:=List.getElem_of_mem hf;rw[List.getElem_take];rw[List.length_take] at hi;simpa using hne _ (by omega) (by omega)
theorem HK {l:List Fil} (hs:srt l) {n:Txt} (h:bz l n=true):aw (ef l (aw l n)) n=aw l n:=by
 obtain⟨hp,he⟩:=bL h;have h1:(l.take (aw l n)).countP (fun f=>bl f.name n)=aw l n:=by
  conv=>rhs;rw[<- Nat.min_eq_left (Nat.le_of_lt hp),<- List.length_take]
  rw[List.countP_eq_length];intro f hf;obtain⟨i,hi,rfl⟩:=List.getElem_of_mem hf;rw[List.getElem_take];rw[List.length_take] at hi;exact(iE hs n i (by omega)).2 (by omega)
 have h2:(l.drop (aw l n+1)).countP (fun f=>bl f.name n)=0:=by
  rw[List.countP_eq_zero];intro f hf;obtain⟨i,hi,rfl⟩:=List.getElem_of_mem hf;rw[List.getElem_drop];rw[List.length_drop] at hi;intro h3;have:=(iE hs n _ (by omega)).1 h3
  omega
 unfold ef;show List.countP _ _=_;rw[List.countP_append,h1,h2];rfl
theorem Hs {l:List Fil} (hs:srt l) (f:Fil) (h:bz l f.name=false):JS l f=gC l (aw l f.name) f:=by unfold JS;rw[KT hs h]
theorem vY {l:List Fil} (hs:srt l) (f:Fil) (h:bz l f.name=true):JS l f=l.set (aw l f.name) f:=by
 unfold JS;rw[wk hs h,HK hs h];obtain⟨hp,he⟩:=bL h;generalize aw l f.name=p at *;unfold gC ef;rw[List.set_eq_take_append_cons_drop,if_pos hp];have hl:(l.take p).length=p:=by simp;omega
 congr 1
 ·rw[List.take_append_of_le_length (by omega),List.take_of_length_le (by omega)]
 ·congr 1
  rw[List.drop_append_of_le_length (by omega),List.drop_of_length_le (by omega),List.nil_append]
theorem H7 {l:List Fil} (hs:srt l) (f:Fil):JS l f=iu l f:=by
 unfold iu;cases h:bz l f.name with
 | true=>rw[if_pos rfl];exact vY hs f h
 | false=>rw[if_neg (by simp)];exact Hs hs f h
theorem jr {l:List Fil} {n:Txt} (h:bz l n=false):nv l n = -1:=by unfold nv;rw[h];rfl
theorem gV {l:List Fil} {n:Txt} (h:bz l n=true):nv l n=(aw l n:Nat):=by unfold nv;rw[if_pos h]
theorem gA (d:Dsk) (hd:d.ok) (n:Txt):call 77 [.agg d.l,vs n] []=some (bu (au d (bP d.files n)),[]):=by
 apply ai Qa rfl;have h1:=ql n;have h2:=fK d hd.len hd.srt n;have h3:=mI d.files hd.len hd.srt ⟨n,[],0⟩;have h4:=bM d hd.left [] 1;have h5:=bM d hd.left [] 8;have h6:=bM d hd.left (JS d.files ⟨n,[],0⟩) 0;unfold bP;cases c1:dE n with
 | false =>
  rw[c1] at h1;rw[if_neg (by simp)]
  generalize au d ([],1)=r at *;obtain⟨⟨f2,cp2,ar2,lf2,dn2⟩,e2⟩:=r;obtain⟨fl,cp,ar,lf,dn⟩:=d;simp only[bu,Dsk.l,List.map_nil] at h4 ⊢;(simp(disch:=first|decide|omega|(intros;exact rfl)|simp only[aa]) only[aS,NH,h1,h4,go_sem,seval,aq])
  try simp[trim]
 | true =>
  rw[c1] at h1;rw[if_pos rfl];cases c2:bz d.files n with
  | true =>
   rw[if_pos rfl];rw[gV c2] at h2;generalize au d ([],8)=r at *;obtain⟨⟨f2,cp2,ar2,lf2,dn2⟩,e2⟩:=r;obtain⟨fl,cp,ar,lf,dn⟩:=d;simp only[bu,Dsk.l,List.map_nil] at h2 h5 ⊢;(simp(disch:=first|decide|omega|(intros;exact rfl)|simp only[aa]) only[aS,NH,h1,h2,h5,go_sem,seval,aq])
   try simp[trim]
  | false =>
   rw[if_neg (by simp)]
   rw[jr c2] at h2;rw[Hs hd.srt ⟨n,[],0⟩ c2] at h3 h6;simp only[] at h3 h6;generalize gC d.files (aw d.files n) ⟨n,[],0⟩=q at *;generalize au d (q,0)=r at *;obtain⟨⟨f2,cp2,ar2,lf2,dn2⟩,e2⟩:=r;obtain⟨fl,cp,ar,lf,dn⟩:=d;simp only[bu,Dsk.l,Fil.enc,List.map_cons,List.map_nil] at h2 h3 h6 ⊢;(simp(disch:=first|decide|omega|(intros;exact rfl)|simp only[aa]) only[aS,NH,h1,h2,h3,h6,go_sem,seval,aq])
   try simp[trim]
theorem dC (d:Dsk) (hd:d.ok) (n:Txt):call 69 [.agg d.l,vs n] []=some (bu (au d (bZ d.files n)),[]):=by
 apply ai Qu rfl;have h2:=fK d hd.len hd.srt n;have h3:=kQ d.files hd.len n;have h4:=bM d hd.left [] 7;have h6:=bM d hd.left (nW d.files n) 0;unfold bZ;cases c2:bz d.files n with
 | false =>
  rw[if_neg (by simp)]
  rw[jr c2] at h2;generalize au d ([],7)=r at *;obtain⟨⟨f2,cp2,ar2,lf2,dn2⟩,e2⟩:=r;obtain⟨fl,cp,ar,lf,dn⟩:=d;simp only[bu,Dsk.l,List.map_nil] at h2 h4 ⊢;(simp(disch:=first|decide|omega|(intros;exact rfl)|simp only[aa]) only[aS,O4,h2,h4,go_sem,seval,aq])
  try simp[trim]
 | true =>
  rw[if_pos rfl];rw[gV c2] at h2;rw[wk hd.srt c2] at h3 h6;generalize ef d.files (aw d.files n)=q at *;generalize au d (q,0)=r at *;obtain⟨⟨f2,cp2,ar2,lf2,dn2⟩,e2⟩:=r;obtain⟨fl,cp,ar,lf,dn⟩:=d;simp only[bu,Dsk.l] at h2 h3 h6 ⊢;(simp(disch:=first|decide|omega|(intros;exact rfl)|simp only[aa]) only[aS,O4,h2,h3,h6,go_sem,seval,aq])
  try simp[trim]
theorem kD (d:Dsk) (hd:d.ok) (n:Txt):call 36 [.agg d.l,vs n] []=some (bu (au d (cJ d.files n)),[]):=by
 apply ai QX rfl;have h2:=fK d hd.len hd.srt n;have h4:=bM d hd.left [] 7;unfold cJ;cases c2:bz d.files n with
 | false =>
  rw[if_neg (by simp)]
  rw[jr c2] at h2;generalize au d ([],7)=r at *;obtain⟨⟨f2,cp2,ar2,lf2,dn2⟩,e2⟩:=r;obtain⟨fl,cp,ar,lf,dn⟩:=d;simp only[bu,Dsk.l,List.map_nil] at h2 h4 ⊢;(simp(disch:=first|decide|omega|(intros;exact rfl)|simp only[aa]) only[aS,Ow,h2,h4,go_sem,seval,aq])
  try simp[trim]
 | true =>
  rw[if_pos rfl];rw[gV c2] at h2;obtain⟨hp,he⟩:=bL c2;rw[gL hp];have g1:(d.files.map Fil.enc)[aw d.files n]?=some d.files[aw d.files n].enc:=by simp[hp]
  have hdl:=mX d.files _ hp;have hu:=hd.used;have h3:=mI d.files hd.len hd.srt { d.files[aw d.files n] with sure:=d.files[aw d.files n].data.length }
  have h5:=vY hd.srt { d.files[aw d.files n] with sure:=d.files[aw d.files n].data.length } (by simp only[he];exact c2)
  rw[h5] at h3;simp only[he] at h3;have hK:=bM d hd.left (d.files.set (aw d.files n) { d.files[aw d.files n] with sure:=d.files[aw d.files n].data.length }) 0
  have hpl:=hd.len;generalize aw d.files n=p at *;simp only[he] at hK ⊢;generalize d.files[p]=f at *;obtain⟨fn,fd,fs⟩:=f;simp only at he h3 hK hdl ⊢;subst he;generalize d.files.set p ⟨fn,fd,fd.length⟩=q at *;generalize au d (q,0)=r at *;obtain⟨⟨f2,cp2,ar2,lf2,dn2⟩,e2⟩:=r;obtain⟨fl,cp,ar,lf,dn⟩:=d;simp only[bu,Dsk.l,Fil.enc,List.map_cons,List.map_nil] at g1 h2 h3 hK hp hpl ⊢;(simp(disch:=first|decide|omega|(intros;exact rfl)|simp only[aa]) only[aS,Ow,h2,g1,h3,hK,go_sem,seval,aq])
  try simp[trim]
theorem iB (d:Dsk) (hd:d.ok) (n x:Txt) (hx:x.length<=1000000000000):call 46 [.agg d.l,vs n,vs x] []=some (bu (au d (bV d.files d.cap n x)),[]):=by
 apply ai Qe rfl;have h2:=fK d hd.len hd.srt n;have h4:=bM d hd.left [] 7;have h9:=bM d hd.left [] 9;have hus:=y8 d hd.len hd.used;have hul:=hd.used;have hcp:=hd.cap;unfold bV;cases c2:bz d.files n with
 | false =>
  rw[if_neg (by simp)]
  rw[jr c2] at h2;generalize au d ([],7)=r at *;obtain⟨⟨f2,cp2,ar2,lf2,dn2⟩,e2⟩:=r;obtain⟨fl,cp,ar,lf,dn⟩:=d;simp only[bu,Dsk.l,List.map_nil] at h2 h4 ⊢;(simp(disch:=first|decide|omega|(intros;exact rfl)|simp only[aa]) only[aS,M5,h2,h4,go_sem,seval,aq])
  try simp[trim]
 | true =>
  rw[if_pos rfl];rw[gV c2] at h2;obtain⟨hp,he⟩:=bL c2;by_cases c:0<d.cap∧d.cap-(usedF d.files:Nat)<x.length
  ·rw[if_pos c];obtain⟨c3,c4⟩:=c;have c5:d.cap<(usedF d.files:Nat)+(x.length:Int):=by omega
   generalize au d ([],9)=r at *;obtain⟨⟨f2,cp2,ar2,lf2,dn2⟩,e2⟩:=r;obtain⟨fl,cp,ar,lf,dn⟩:=d;have hpl:=hd.len;simp only[bu,Dsk.l,List.map_nil] at h2 h9 hus hul hcp c3 c4 c5 hp hpl ⊢;generalize aw fl n=p at *;(simp(disch:=first|decide|omega|(intros;exact rfl)|simp only[aa]) only[aS,M5,h2,c3,hus,c5,h9,go_sem,seval,aq])
   try simp[trim]
  ·rw[if_neg c,gL hp];have g1:(d.files.map Fil.enc)[aw d.files n]?=some d.files[aw d.files n].enc:=by simp[hp]
   have hdl:=mX d.files _ hp;have h3:=mI d.files hd.len hd.srt { d.files[aw d.files n] with data:=d.files[aw d.files n].data++x }
   have h5:=vY hd.srt { d.files[aw d.files n] with data:=d.files[aw d.files n].data++x } (by simp only[he];exact c2)
   rw[h5] at h3;simp only[he] at h3;have hK:=bM d hd.left (d.files.set (aw d.files n) { d.files[aw d.files n] with data:=d.files[aw d.files n].data++x }) 0
   have hpl:=hd.len;generalize aw d.files n=p at *;simp only[he] at hK ⊢;generalize d.files[p]=f at *;obtain⟨fn,fd,fs⟩:=f;simp only at he h3 hK hdl ⊢;subst he;have hfx:fd.length+x.length<=9223372036854775807:=by omega
   obtain⟨fx,hfe⟩:∃ fx,fd++x=fx:=⟨_,rfl⟩;rw[hfe] at h3 hK ⊢;generalize d.files.set p ⟨fn,fx,fs⟩=q at *;generalize au d (q,0)=r at *;obtain⟨⟨f2,cp2,ar2,lf2,dn2⟩,e2⟩:=r;obtain⟨fl,cp,ar,lf,dn⟩:=d;simp only[bu,Dsk.l,Fil.enc,List.map_cons,List.map_nil] at g1 h2 h3 hK hp hpl hus hul hcp c ⊢;by_cases c3:0<cp
   ·have c5:¬ cp<(usedF fl:Nat)+(x.length:Int):=by omega
    (simp(disch:=first|decide|omega|(intros;exact rfl)|simp only[aa]) only[aS,M5,h2,c3,hus,c5,g1,hfe,h3,hK,go_sem,seval,aq])
    try simp[trim]
   ·(simp(disch:=first|decide|omega|(intros;exact rfl)|simp only[aa]) only[aS,M5,h2,c3,g1,hfe,h3,hK,go_sem,seval,aq])
    try simp[trim]
theorem oU (d:Dsk) (hd:d.ok) (n t:Txt):call 119 [.agg d.l,vs n,vs t] []=some (bu (au d (iy d.files n t)),[]):=by
 apply ai OQ rfl;have h1:=ql t;have h2:=fK d hd.len hd.srt n;have h4:=bM d hd.left [] 7;have h9:=bM d hd.left [] 1;unfold iy;cases c2:bz d.files n with
 | false =>
  rw[if_neg (by simp)]
  rw[jr c2] at h2;generalize au d ([],7)=r at *;obtain⟨⟨f2,cp2,ar2,lf2,dn2⟩,e2⟩:=r;obtain⟨fl,cp,ar,lf,dn⟩:=d;simp only[bu,Dsk.l,List.map_nil] at h2 h4 ⊢;(simp(disch:=first|decide|omega|(intros;exact rfl)|simp only[aa]) only[aS,JR,h2,h4,go_sem,seval,aq])
  try simp[trim]
 | true =>
  rw[if_pos rfl];rw[gV c2] at h2;obtain⟨hp,he⟩:=bL c2;cases c1:dE t with
  | false =>
   rw[c1] at h1;rw[if_neg (by simp)]
   have hpl:=hd.len;generalize au d ([],1)=r at *;obtain⟨⟨f2,cp2,ar2,lf2,dn2⟩,e2⟩:=r;obtain⟨fl,cp,ar,lf,dn⟩:=d;simp only[bu,Dsk.l,List.map_nil] at h2 h9 hp hpl ⊢;generalize aw fl n=p at *;(simp(disch:=first|decide|omega|(intros;exact rfl)|simp only[aa]) only[aS,JR,h2,h1,h9,go_sem,seval,aq])
   try simp[trim]
  | true =>
   rw[c1] at h1;rw[if_pos rfl];have g1:(d.files.map Fil.enc)[aw d.files n]?=some d.files[aw d.files n].enc:=by simp[hp]
   have h3:=kQ d.files hd.len n;rw[wk hd.srt c2] at h3;have hds:=kP hd.srt (aw d.files n);have hdl:=n8 _ _ hp;have hpl:=hd.len;have hna:dj d.files (aw d.files n) t={ d.files[aw d.files n] with name:=t }:=by unfold dj;rw[List.getElem?_eq_getElem hp]
   have h5:=mI (ef d.files (aw d.files n)) (by omega) hds (dj d.files (aw d.files n) t)
   rw[H7 hds] at h5;generalize iu (ef d.files (aw d.files n)) (dj d.files (aw d.files n) t)=q at *;have hK:=bM d hd.left q 0;rw[hna] at h5;generalize ef d.files (aw d.files n)=dq at *;generalize aw d.files n=p at *;generalize d.files[p]=f at *;obtain⟨fn,fd,fs⟩:=f;generalize au d (q,0)=r at *;obtain⟨⟨f2,cp2,ar2,lf2,dn2⟩,e2⟩:=r;obtain⟨fl,cp,ar,lf,dn⟩:=d;simp only[bu,Dsk.l,Fil.enc,List.map_cons,List.map_nil] at g1 h2 h3 h5 hK hp hpl ⊢;(simp(disch:=first|decide|omega|(intros;exact rfl)|simp only[aa]) only[aS,JR,h2,h1,g1,h3,h5,hK,go_sem,seval,aq])
   try simp[trim]
theorem sP (d:Dsk) (hl:d.files.length<=1000000) (hs:srt d.files) (n:Txt):call 27 [.agg d.l,vs n] []=some (.tup [(false,[.d (.s (aC d.files n).1)]),(false,[.d (.i .i64 (aC d.files n).2)])],[]):=by
 apply ai Qr rfl;have h2:=fK d hl hs n;cases c2:bz d.files n with
 | false =>
  have hr:aC d.files n=([],7):=by
   unfold aC;unfold bz at c2;cases hf:d.files[aw d.files n]? with
   | none=>rfl
   | some f =>
    rw[hf] at c2;simp only[] at c2 ⊢;rw[if_neg (by simpa using c2)]
  rw[jr c2] at h2;rw[hr];obtain⟨fl,cp,ar,lf,dn⟩:=d;simp only[Dsk.l] at h2 ⊢;(simp(disch:=first|decide|omega|(intros;exact rfl)|simp only[aa]) only[aS,N0,h2,go_sem,seval,aq])
  try simp[trim]
 | true =>
  obtain⟨hp,he⟩:=bL c2;have hr:aC d.files n=(d.files[aw d.files n].data,0):=by
   unfold aC;rw[List.getElem?_eq_getElem hp];simp[he]
  rw[gV c2] at h2;rw[hr];have g1:(d.files.map Fil.enc)[aw d.files n]?=some d.files[aw d.files n].enc:=by simp[hp]
  generalize aw d.files n=p at *;generalize d.files[p]=f at *;obtain⟨fn,fd,fs⟩:=f;obtain⟨fl,cp,ar,lf,dn⟩:=d;simp only[Dsk.l,Fil.enc] at g1 h2 hp hl ⊢;(simp(disch:=first|decide|omega|(intros;exact rfl)|simp only[aa]) only[aS,N0,h2,g1,go_sem,seval,aq])
  try simp[trim]
def gi (n k:Nat):Txt:=(List.range k).map fun j=>UInt8.ofNat (jk n (14-k+j))
theorem A2 (n k:Nat) (h:k<13):gi n (k+1)=UInt8.ofNat (jk n (13-k))::gi n k:=by
 unfold gi;rw[List.range_succ_eq_map,List.map_cons,List.map_map];have e:14-(k+1)+0=13-k:=by omega
 rw[e];congr 1
 apply List.map_congr_left;intro j hj;simp only[Function.comp];have e2:14-(k+1)+(j+1)=14-k+j:=by omega
 rw[Nat.succ_eq_add_one,e2]
theorem qn (n:Nat) (hn:n<=1099511627776):call 65 [vi n] []=some (vs (gi n 13),[]):=by
 apply ai QK rfl;(simp(disch:=first|decide|omega|(intros;exact rfl)|simp only[aa]) only[Px,go_sem,seval,aq])
 obtain⟨Z,hZ⟩:∃ Z:V,Z=vs (gi n 13):=⟨_,rfl⟩;rw[<- hZ];refine aI (m:=0) (σ:=Nat) (fun i=>13-i) (fun i=>i<=13) (fun i=>[vi (n / 10 ^ i:Nat),vs (gi n i),vi i])
  (fun _=>[]) (fun _=>(Z,[])) ?_ 0 (by decide) _ _ ?_
 rotate_left
 ·have e:n / 10 ^ 0=n:=by simp
  rw[e];exact cG
 intro i hi R hR;by_cases c:i<13
 ·have ci:(i:Int)<13:=by omega
  have hK:=hR (i+1) (by omega) (by omega)
  rw[A2 n i c] at hK;have hq:n / 10 ^ (i+1)=n / 10 ^ i / 10:=by rw[Nat.pow_succ,Nat.div_div_eq_div_mul]
  rw[hq] at hK;have hdg:jk n (13-i)=48+n / 10 ^ i % 10:=by
   unfold jk;have:13-(13-i)=i:=by omega
   rw[this]
  rw[hdg] at hK;have hqn:n / 10 ^ i<=n:=Nat.div_le_self _ _;have hlt:(gi n i).length=i:=by simp[gi]
  generalize gi n i=T at *;generalize n / 10 ^ i=q at *;have hm:((q:Nat):Int).tmod 10=((q % 10:Nat):Int):=by rw[Int.tmod_eq_emod_of_nonneg (by omega)];omega
  have hd:((q:Nat):Int).tdiv 10=((q / 10:Nat):Int):=by rw[Int.tdiv_eq_ediv_of_nonneg (by omega)];omega
  have hw:IntKind.u8.wrap (48+((q % 10:Nat):Int))=((48+q % 10:Nat):Int):=by rw[rC (by omega)];omega
  (simp(disch:=first|decide|omega|(intros;exact rfl)|simp only[aa]) only[EA,ci,hm,hd,hw,fp,hlt,go_sem,seval,aq])
  exact hK _ _ cG
 ·have hie:i=13:=by omega
  subst hie;(simp(disch:=first|decide|omega|(intros;exact rfl)|simp only[aa]) only[EA,go_sem,seval,aq])
  try rw[hZ]
  try simp[trim]
theorem kA {n:Int} (h:0<=n∧n<=1099511627776):call 33 [vi n] []=some (vs (fileN n),[]):=by
 have h1:=qn n.toNat (by omega)
 have e:((n.toNat:Nat):Int)=n:=by omega
 rw[e] at h1;have e2:fileN n=115::gi n.toNat 13:=by
  unfold fileN eU gi;congr 1
 have hl:(gi n.toNat 13).length=13:=by simp[gi]
 rw[e2];generalize gi n.toNat 13=T at *;have c1:¬ n<0:=by omega
 have c2:¬ (1099511627776:Int)<n:=by omega
 apply ai QB rfl;(simp(disch:=first|decide|omega|(intros;exact rfl)|simp only[aa]) only[Pk,c1,c2,h1,hl,go_sem,seval,aq])
 try simp[trim]
set_option maxRecDepth 8000 in
theorem pM (s:Sto) (hl:s.segs.length<=1000000):call 79 [.agg s.l] []=some (.agg s.man.l,[]):=by
 apply ai QS rfl;obtain⟨⟨fl,cp,ar,lf,dn⟩,ver,segs,next,sure,size,sum⟩:=s;simp only at hl;unfold Sto.man;(simp(disch:=first|decide|omega|(intros;exact rfl)|simp only[aa]) only[Py,Sto.l,Dsk.l,Man.l,go_sem,seval,aq,cw,A.kind,A.xs,aP,A.isN])
 obtain⟨Z,hZ⟩:∃ Z:V,Z=V.agg [.d (.i .i64 ver),.d (.l ((segs.map Seg.base).map eI)),.d (.i .i64 size),.d (.i .u32 sum)]:=⟨_,rfl⟩;rw[<- hZ];refine aI (m:=0) (σ:=Option Nat) (fun t=>match t with|none=>segs.length+1|some i=>segs.length-i) (fun t=>match t with|none=>True|some i=>i+1<=segs.length) (fun t=>match t with|none=>[V.one (.p 0 0),V.one (.p 1 0),V.one (.p 2 0),vi 0]|some i=>[V.one (.p 0 0),V.one (.p 1 0),V.one (.p 2 0),vi ((i+1:Nat):Int)])
  (fun t=>match t with|none=>[.cells [.d (.l (fl.map Fil.enc)),.d (.i .i64 cp),.d (.b ar),.d (.i .i64 lf),.d (.b dn),.d (.i .i64 ver),.d (.l (segs.map Seg.enc)),.d (.i .i64 next),.d (.i .i64 sure),.d (.i .i64 size),.d (.i .u32 sum)],.cells [.d (.i .i64 0),.ns,.d (.i .i64 0),.d (.i .u32 0)],.cells [.d (.i .i64 ver),.ns,.d (.i .i64 size),.d (.i .u32 sum)]]|some i=>[.cells [.d (.l (fl.map Fil.enc)),.d (.i .i64 cp),.d (.b ar),.d (.i .i64 lf),.d (.b dn),.d (.i .i64 ver),.d (.l (segs.map Seg.enc)),.d (.i .i64 next),.d (.i .i64 sure),.d (.i .i64 size),.d (.i .u32 sum)],.cells [.d (.i .i64 0),.ns,.d (.i .i64 0),.d (.i .u32 0)],.cells [.d (.i .i64 ver),.sl 3 1 0 (i+1),.d (.i .i64 size),.d (.i .u32 sum)],.arr 1 ((segs.take (i+1)).map fun g=>eI g.base) 0]) (fun _=>(Z,[])) ?_ none trivial _ _ ?_
 rotate_left
 ·exact cG
 intro t hi R hR;cases t with
 | none =>
  by_cases c:0<segs.length
  ·have g1:(segs.map Seg.enc)[0]?=some segs[0].enc:=by simp[c]
   have ci:(0:Int)<(segs.length:Int):=by omega
   have hK:=hR (some 0) (by simp only[];omega) (by simp only[];omega)
   have e1:((segs.take (0+1)).map fun g=>eI g.base)=[eI segs[0].base]:=by cases segs with|nil=>cases c|cons a r=>rfl
   clear hR;simp only[] at hK ⊢;rw[e1] at hK;generalize segs[0]=g at *;obtain⟨gb,gn,gz⟩:=g;simp only[Seg.enc,eI] at g1 hK;(simp(disch:=first|decide|omega|(intros;exact rfl)|simp only[aa]) only[xy,ci,g1,↓qi,GZ,go_sem,seval,aq,cw,A.kind,A.xs,aP,A.isN])
   exact hK _ _ cG
  ·have e:segs=[]:=List.length_eq_zero_iff.1 (by omega)
   subst e;clear hR;simp only[];(simp(disch:=first|decide|omega|(intros;exact rfl)|simp only[aa]) only[xy,go_sem,seval,aq,cw,A.kind,A.xs,aP,A.isN])
   try rw[hZ]
   try simp[trim]
 | some i =>
  have hln:((segs.take (i+1)).map fun g=>eI g.base).length=i+1:=by simp;omega
  by_cases c:i+1<segs.length
  ·have g1:(segs.map Seg.enc)[i+1]?=some segs[i+1].enc:=by simp[c]
   have hK:=hR (some (i+1)) (by simp only[];omega) (by simp only[];omega)
   clear hR;simp only[] at hK ⊢;have e1:((segs.take (i+1+1)).map fun g=>eI g.base)=((segs.take (i+1)).map fun g=>eI g.base)++[eI segs[i+1].base]:=by
    rw[List.take_succ_eq_append_getElem c,List.map_append];rfl
   rw[e1] at hK;generalize ((segs.take (i+1)).map fun g=>eI g.base)=Q at *
   generalize segs[i+1]=g at *;obtain⟨gb,gn,gz⟩:=g;have ci:((i+1:Nat):Int)<(segs.length:Int):=by omega
   simp only[Seg.enc,eI] at g1 hK;(simp(disch:=first|decide|omega|(intros;exact rfl)|simp only[aa]) only[xy,ci,g1,hln,↓pa,zY,go_sem,seval,aq,cw,A.kind,A.xs,aP,A.isN])
   exact hK _ _ cG
  ·have ci:¬ ((i+1:Nat):Int)<(segs.length:Int):=by omega
   have e:segs.take (i+1)=segs:=List.take_of_length_le (by omega)
   clear hR;simp only[];rw[e] at hln ⊢;have e3:(segs.map Seg.base).map eI=segs.map fun g=>eI g.base:=by simp
   rw[e3] at hZ;generalize (segs.map fun g=>eI g.base)=Q at *
   have e4:Q.take (i+1)=Q:=List.take_of_length_le (by omega)
   (simp(disch:=first|decide|omega|(intros;exact rfl)|simp only[aa]) only[xy,ci,hln,e4,go_sem,seval,aq,cw,A.kind,A.xs,aP,A.isN])
   rw[hZ];try simp[trim,V.refs,L.refs,Box.refs]
def l6 (segs:List Int) (i:Nat):Int:=match i with|0 => -1|i+1=>segs.getD i 0
set_option maxRecDepth 8000 in
set_option maxHeartbeats 2000000 in
theorem sd (m:Man) (hl:m.segs.length<=1000000):call 112 [.agg m.l] []=some (vb (manB m),[]):=by
 obtain⟨ver,segs,size,sum⟩:=m;unfold manB Man.l;simp only at hl ⊢;apply ai Og rfl;by_cases c1:1<=ver
 ·by_cases c2:ver<=1099511627776
  ·by_cases c3:1<=segs.length
   ·by_cases c4:segs.length<=64
    ·rw[decide_eq_true ⟨c1,c2,c3,c4⟩,Bool.true_and];obtain⟨Z,hZ⟩:∃ Z:V × Hp,Z=(vb (kT (-1) segs && (if segs.head?=some 0 then decide (size=0∧sum=0) else decide (0<size∧size<=65536))),[]):=⟨_,rfl⟩
     rw[<- hZ];have d1:¬ ver<1:=by omega
     have d2:¬ (1099511627776:Int)<ver:=by omega
     have d3:¬ (segs.length:Int)<1:=by omega
     have d4:¬ (64:Int)<segs.length:=by omega
     (simp(disch:=first|decide|omega|(intros;exact rfl)|simp only[aa]) only[DW,d1,d2,d3,d4,go_sem,seval,aq])
     refine aI (m:=0) (σ:=Nat) (fun i=>segs.length-i) (fun i=>i<=segs.length∧kT (-1) segs=kT (l6 segs i) (segs.drop i)∧(0<i->0<=l6 segs i)) (fun i=>[V.one (.p 0 0),vi i])
      (fun _=>[.cells [.d (.i .i64 ver),.d (.l (segs.map eI)),.d (.i .i64 size),.d (.i .u32 sum)]]) (fun _=>Z) ?_ 0 ⟨Nat.zero_le _,rfl,by omega⟩ _ _ ?_
     rotate_left
     ·exact cG
     rintro i ⟨hi,hinc,hpv⟩ R hR;by_cases c5:i<segs.length
     ·have c5i:(i:Int)<(segs.length:Int):=by omega
      have g1:(segs.map eI)[i]?=some (eI segs[i]):=by simp[c5]
      rw[uf _ c5] at hinc;have hpn:l6 segs (i+1)=segs[i]:=by simp[l6,c5]
      by_cases c6:segs[i]<0
      ·have hd:decide (l6 segs i<segs[i]∧segs[i]<=1099511627776)=false:=decide_eq_false (by
        rintro⟨h1,h2⟩;cases i with
        | zero=>simp only[l6] at h1;omega
        | succ i=>have:=hpv (by omega);omega)
       rw[hd,Bool.false_and] at hinc;rw[hinc,Bool.false_and] at hZ;(simp(disch:=first|decide|omega|(intros;exact rfl)|simp only[aa]) only[im,c5i,g1,cY,eN,c6,go_sem,seval,aq])
       rw[hZ]
      ·by_cases c7:(1099511627776:Int)<segs[i]
       ·have hd:decide (l6 segs i<segs[i]∧segs[i]<=1099511627776)=false:=decide_eq_false (by omega)
        rw[hd,Bool.false_and] at hinc;rw[hinc,Bool.false_and] at hZ;(simp(disch:=first|decide|omega|(intros;exact rfl)|simp only[aa]) only[im,c5i,g1,cY,eN,c6,c7,go_sem,seval,aq])
        rw[hZ]
       ·cases i with
        | zero =>
         have hd:decide (l6 segs 0<segs[0]∧segs[0]<=1099511627776)=true:=decide_eq_true (by simp only[l6];omega)
         rw[hd,Bool.true_and] at hinc;(simp(disch:=first|decide|omega|(intros;exact rfl)|simp only[aa]) only[im,c5i,g1,cY,eN,c6,c7,go_sem,seval,aq])
         exact hR (0+1) (by omega) ⟨by omega,by rw[hpn];exact hinc,fun _=>by rw[hpn];omega⟩ _ _ cG
        | succ i =>
         have hpi:l6 segs (i+1)=segs[i]:=by simp[l6,show i<segs.length by omega]
         rw[hpi] at hinc;have g2:(segs.map eI)[i]?=some (eI segs[i]):=by simp[show i<segs.length by omega]
         have hsub:((i+1:Nat):Int)-1=(i:Int):=by omega
         have c0:(0:Int)<((i+1:Nat):Int):=by omega
         by_cases c8:segs[i+1]<=segs[i]
         ·have hd:decide (segs[i]<segs[i+1]∧segs[i+1]<=1099511627776)=false:=decide_eq_false (by omega)
          rw[hd,Bool.false_and] at hinc;rw[hinc,Bool.false_and] at hZ;(simp(disch:=first|decide|omega|(intros;exact rfl)|simp only[aa]) only[im,c5i,g1,g2,cY,eN,c6,c7,c0,hsub,c8,go_sem,seval,aq])
          rw[hZ]
         ·have hd:decide (segs[i]<segs[i+1]∧segs[i+1]<=1099511627776)=true:=decide_eq_true (by omega)
          rw[hd,Bool.true_and] at hinc;(simp(disch:=first|decide|omega|(intros;exact rfl)|simp only[aa]) only[im,c5i,g1,g2,cY,eN,c6,c7,c0,hsub,c8,go_sem,seval,aq])
          exact hR (i+1+1) (by omega) ⟨by omega,by rw[hpn];exact hinc,fun _=>by rw[hpn];omega⟩ _ _ cG
     ·rw[List.drop_of_length_le (by omega)] at hinc
      have hinc2:kT (-1) segs=true:=hinc;rw[hinc2,Bool.true_and] at hZ;have c5i:¬ (i:Int)<(segs.length:Int):=by omega
      have g0:(segs.map eI)[0]?=some (eI segs[0]):=by rw[List.getElem?_map,List.getElem?_eq_getElem c3];rfl
      have hh:segs.head?=some segs[0]:=by rw[List.head?_eq_getElem?];simp
      rw[hh] at hZ;by_cases z:segs[0]=0
      ·rw[if_pos (by rw[z])] at hZ
       by_cases z2:size=0
       ·by_cases z3:sum=0
        ·(simp(disch:=first|decide|omega|(intros;exact rfl)|simp only[aa]) only[im,c5i,g0,cY,eN,z,z2,z3,go_sem,seval,aq])
         rw[hZ];simp[z2,z3]
        ·(simp(disch:=first|decide|omega|(intros;exact rfl)|simp only[aa]) only[im,c5i,g0,cY,eN,z,z2,z3,go_sem,seval,aq])
         rw[hZ];simp[z2,z3]
       ·(simp(disch:=first|decide|omega|(intros;exact rfl)|simp only[aa]) only[im,c5i,g0,cY,eN,z,z2,go_sem,seval,aq])
        rw[hZ];simp[z2]
      ·rw[if_neg (by simpa using z)] at hZ
       by_cases z2:1<=size
       ·by_cases z3:size<=65536
        ·(simp(disch:=first|decide|omega|(intros;exact rfl)|simp only[aa]) only[im,c5i,g0,cY,eN,z,z2,z3,go_sem,seval,aq])
         rw[hZ];simp[z3];omega
        ·(simp(disch:=first|decide|omega|(intros;exact rfl)|simp only[aa]) only[im,c5i,g0,cY,eN,z,z2,z3,go_sem,seval,aq])
         rw[hZ];simp[z3]
       ·(simp(disch:=first|decide|omega|(intros;exact rfl)|simp only[aa]) only[im,c5i,g0,cY,eN,z,z2,go_sem,seval,aq])
        rw[hZ];simp;omega
    ·rw[decide_eq_false (fun h=>c4 h.2.2.2),Bool.false_and]
     have d1:¬ ver<1:=by omega
     have d2:¬ (1099511627776:Int)<ver:=by omega
     have d3:¬ (segs.length:Int)<1:=by omega
     have d4:(64:Int)<segs.length:=by omega
     (simp(disch:=first|decide|omega|(intros;exact rfl)|simp only[aa]) only[DW,d1,d2,d3,d4,go_sem,seval,aq])
     try simp[trim]
   ·rw[decide_eq_false (fun h=>c3 h.2.2.1),Bool.false_and]
    have d1:¬ ver<1:=by omega
    have d2:¬ (1099511627776:Int)<ver:=by omega
    have d3:(segs.length:Int)<1:=by omega
    (simp(disch:=first|decide|omega|(intros;exact rfl)|simp only[aa]) only[DW,d1,d2,d3,go_sem,seval,aq])
    try simp[trim]
  ·rw[decide_eq_false (fun h=>c2 h.2.1),Bool.false_and]
   have d1:¬ ver<1:=by omega
   have d2:(1099511627776:Int)<ver:=by omega
   (simp(disch:=first|decide|omega|(intros;exact rfl)|simp only[aa]) only[DW,d1,d2,go_sem,seval,aq])
   try simp[trim]
 ·rw[decide_eq_false (fun h=>c1 h.1),Bool.false_and]
  have d1:ver<1:=by omega
  (simp(disch:=first|decide|omega|(intros;exact rfl)|simp only[aa]) only[DW,d1,go_sem,seval,aq])
  try simp[trim]
set_option maxRecDepth 8000 in
set_option maxHeartbeats 2000000 in
theorem wv (m:Man) (hm:m.ok):call 64 [.agg m.l] []=some (.tup [(false,[.d (.s (bK m).1)]),(false,[.d (.i .i64 (bK m).2)])],[]):=by
 have hr:=sd m hm.len;unfold bK;cases c:manB m with
 | false =>
  rw[c] at hr;apply ai Pn rfl;simp only[Man.l] at hr;(simp(disch:=first|decide|omega|(intros;exact rfl)|simp only[aa]) only[NY,Man.l,hr,go_sem,seval,aq])
  try simp[trim]
 | true =>
  rw[c] at hr;have hb:=jz c;obtain⟨h1,h2,h3,h4⟩:=dN c;have hmem:=eB _ _ h3;have hsum:=hm.sum;have hf:call 113 [.one (.d (.i .u32 m.sum))] []=some (vs (cP (gT m)),[]):=by
   have:=oD (gT m);have e:(((gT m).toNat:Nat):Int)=m.sum:=by unfold gT;simp;omega
   rw[e] at this;exact this
  have hp:=gJ (bB m) (by omega)
  unfold xo at hp;rw[if_pos ⟨hb.1,by omega⟩] at hp
  have q1:=mP (n:=m.ver) (by omega) (by omega)
  have q2:=mP (n:=(m.segs.length:Int)) (by omega) (by omega)
  rw[Int.toNat_natCast] at q2;have q3:=mP (n:=m.size) (by omega) (by omega)
  have l1:=(vt (n:=m.ver.toNat) (by omega)).2
  have l2:=(vt (n:=m.segs.length) (by omega)).2
  have l3:=(vt (n:=m.size.toNat) (by omega)).2
  unfold bC;have hbd:bB m=((ah m.ver.toNat++ah m.segs.length)++ba m.segs++ah m.size.toNat)++cP (gT m):=by
   unfold bB;simp[ba,List.append_assoc]
  rw[hbd] at hp hb ⊢;have h4l:=gh (gT m);generalize cP (gT m)=F4 at *;obtain⟨ver,segs,size,sum⟩:=m;simp only[Man.l] at *;apply ai Pn rfl;obtain⟨W,hW⟩:∃ W:Txt,W=aK (((ah ver.toNat++ah segs.length)++ba segs++ah size.toNat)++F4):=⟨_,rfl⟩;rw[<- hW] at hp ⊢;have l12:(ah ver.toNat).length+(ah segs.length).length<=9223372036854775807:=by omega
  (simp(disch:=first|decide|omega|(intros;exact rfl)|simp only[aa]) only[NY,hr,q1,q2,l12,go_sem,seval,aq])
  refine aI (m:=0) (σ:=Nat) (fun i=>segs.length-i) (fun i=>i<=segs.length) (fun i=>[V.one (.p 0 0),vs ((ah ver.toNat++ah segs.length)++ba (segs.take i)),vi i])
   (fun _=>[.cells [.d (.i .i64 ver),.d (.l (segs.map eI)),.d (.i .i64 size),.d (.i .u32 sum)]]) (fun _=>(V.tup [(false,[.d (.s W)]),(false,[.d (.i .i64 0)])],[])) ?_ 0 (Nat.zero_le _) _ _ ?_
  rotate_left
  ·have e:(ah ver.toNat++ah segs.length)++ba (segs.take 0)=ah ver.toNat++ah segs.length:=by simp[ba]
   rw[e];exact cG
  intro i hi R hR;have hln:=mU (segs.take i) (fun n hn=>by have:=hmem n (List.mem_of_mem_take hn);omega)
  have hti:(segs.take i).length=i:=by simp;omega
  rw[hti] at hln;by_cases c5:i<segs.length
  ·have g1:(segs.map eI)[i]?=some (eI segs[i]):=by simp[c5]
   have hmi:=hmem _ (List.getElem_mem c5);have q4:=mP (n:=segs[i]) (by omega) (by omega)
   have l4:=(vt (n:=segs[i].toNat) (by omega)).2
   have hR':=hR (i+1) (by omega) (by omega)
   have e1:ba (segs.take (i+1))=ba (segs.take i)++ah segs[i].toNat:=by
    rw[List.take_succ_eq_append_getElem c5,kB];simp[ba]
   rw[e1,<- List.append_assoc] at hR';obtain⟨P,hP⟩:∃ P:Txt,P=(ah ver.toNat++ah segs.length)++ba (segs.take i):=⟨_,rfl⟩;have hPl:P.length+(ah segs[i].toNat).length<=9223372036854775807:=by rw[hP,List.length_append,List.length_append];omega
   rw[<- hP] at hR' ⊢;(simp(disch:=first|decide|omega|(intros;exact rfl)|simp only[aa]) only[Fu,g1,cY,eN,q4,hPl,go_sem,seval,aq])
   exact hR' _ _ cG
  ·have hin:i=segs.length:=by omega
   subst hin;rw[List.take_length] at hln ⊢;obtain⟨P,hP⟩:∃ P:Txt,P=(ah ver.toNat++ah segs.length)++ba segs:=⟨_,rfl⟩;have hPl:P.length+(ah size.toNat).length<=9223372036854775807:=by rw[hP,List.length_append,List.length_append];omega
   have hPl2:(P++ah size.toNat).length+F4.length<=9223372036854775807:=by rw[hP,List.length_append,List.length_append,List.length_append];omega
   rw[<- hP] at hp ⊢;obtain⟨P2,hP2⟩:∃ P2:Txt,P2=P++ah size.toNat:=⟨_,rfl⟩;rw[<- hP2] at hp hPl2;(simp(disch:=first|decide|omega|(intros;exact rfl)|simp only[aa]) only[Fu,q3,hPl,<- hP2,hPl2,hf,hp,go_sem,seval,aq])
   try simp[trim]
theorem yn (l:List Fil) (n:Txt):(aC l n).2=0↔bz l n=true:=by
 unfold aC bz;cases l[aw l n]? with
 | none=>simp
 | some f =>
  simp only[];by_cases h:f.name=n
  ·simp[h]
  ·simp[h]
def qJ (tx:Txt) (d:Dsk):Dsk × Int :=
 let c:=au d (bP d.files [110])
 if c.2≠0 then c else
  let p:=au c.1 (bV c.1.files c.1.cap [110] tx)
  if p.2=9 then(let x:=au p.1 (bZ p.1.files [110]);if x.2=0 then(x.1,9) else x) else
   if p.2≠0 then p else
    let y:=au p.1 (cJ p.1.files [110])
    if y.2≠0 then y else au y.1 (iy y.1.files [110] [109])
def Au (m:Man) (d:Dsk):Dsk × Int :=
 if(bK m).2≠0 then(d,(bK m).2) else
  if bz d.files [110]=true then(let x:=au d (bZ d.files [110]);if x.2≠0 then x else qJ (bK m).1 x.1) else qJ (bK m).1 d
theorem gx {s:Dsk × Int} (h:s.2≠0) (f:Dsk->Dsk × Int):qX s f=s:=by unfold qX;rw[if_neg h]
theorem bO (d:Dsk) (f:Dsk->Dsk × Int):qX (d,0) f=f d:=by unfold qX;rw[if_pos rfl]
theorem jh {s:Dsk × Int} {e:Int} (h:s.2=e):s=(s.1,e):=by rw[<- h]
theorem Bf (tx:Txt) (d:Dsk):(if(bQ [110] (d,0)).2≠0 then bQ [110] (d,0) else tZ [110] [109] (ee [110] (cL [110] (j5 [110] tx (bQ [110] (d,0))))))=qJ tx d:=by
 unfold qJ;have e0:bQ [110] (d,0)=au d (bP d.files [110]):=bO _ _;rw[e0];simp only[];generalize au d (bP d.files [110])=c;by_cases h1:c.2=0
 ·rw[if_neg (by simp[h1]),if_neg (by simp[h1]),jh h1]
  have e1:j5 [110] tx (c.1,0)=au c.1 (bV c.1.files c.1.cap [110] tx):=bO _ _;rw[e1];simp only[];generalize au c.1 (bV c.1.files c.1.cap [110] tx)=p;by_cases h2:p.2=9
  ·rw[if_pos h2];unfold cL;rw[if_neg (by simp[h2])]
   have e2:cN [110] (p.1,0)=au p.1 (bZ p.1.files [110]):=bO _ _;rw[e2];generalize au p.1 (bZ p.1.files [110])=x;by_cases h3:x.2=0
   ·rw[if_pos h3];rfl
   ·rw[if_neg h3];unfold tZ ee;rw[gx (s:=x) h3,gx h3]
  ·rw[if_neg h2];unfold cL;rw[if_pos h2];by_cases h3:p.2=0
   ·rw[if_neg (by simp[h3]),jh h3]
    have e2:ee [110] (p.1,0)=au p.1 (cJ p.1.files [110]):=bO _ _;rw[e2];simp only[];generalize au p.1 (cJ p.1.files [110])=y;by_cases h4:y.2=0
    ·rw[if_neg (by simp[h4]),jh h4]
     exact bO _ _
    ·rw[if_pos h4];exact gx h4 _
   ·rw[if_pos h3];unfold tZ ee;rw[gx h3,gx h3]
 ·rw[if_pos h1,if_pos h1]
theorem Iw (m:Man) (d:Dsk):bR m (d,0)=Au m d:=by
 unfold bR Au;simp only[if_true];by_cases h1:(bK m).2=0
 ·rw[if_neg (c:=(bK m).2≠0) (by simp[h1])]
  by_cases h2:bz d.files [110]=true
  ·rw[if_pos h2,if_pos ((yn _ _).2 h2),h1];have e0:cN [110] (d,0)=au d (bZ d.files [110]):=bO _ _;rw[e0];generalize au d (bZ d.files [110])=x;by_cases h3:x.2=0
   ·rw[if_neg (c:=x.2≠0) (by simp[h3]),jh h3];exact Bf _ _
   ·rw[if_pos (c:=x.2≠0) h3];have e1:bQ [110] x=x:=gx h3 _;simp only[e1];rw[if_pos (c:=x.2≠0) h3]
  ·rw[if_neg h2,if_neg (fun h=>h2 ((yn _ _).1 h)),h1]
   exact Bf _ _
 ·rw[if_pos h1];have e0:cN [110] (d,(bK m).2)=(d,(bK m).2):=gx h1 _;rw[e0,ite_self];have e1:bQ [110] (d,(bK m).2)=(d,(bK m).2):=gx h1 _;rw[e1,if_pos h1]
set_option maxRecDepth 8000 in
set_option maxHeartbeats 2000000 in
theorem nw (d:Dsk) {k u:Nat} (hd:okN k u d) (hk:k<=900000) (hu:u<=900000000000) (m:Man) (hm:m.ok):call 78 [.agg d.l,.agg m.l] []=some (bu (bR m (d,0)),[]):=by
 rw[Iw];have q0:=wv m hm;have hpl:=nM m;unfold Au;generalize bK m=p0 at *;obtain⟨tx,pe⟩:=p0;obtain⟨mv,ms,mz,mm⟩:=m;have q1:=fK d (Nat.le_trans hd.len (by omega)) hd.srt [110]
 have q2:=dC d (hd.ok (by omega) (by omega)) [110]
 have k1:okN k u (au d (bZ d.files [110])).1:=ft (s:=(d,0)) hd [110];simp only[Man.l] at q0 hpl ⊢;apply ai Qi rfl;by_cases c0:pe=0
 ·subst c0;rw[if_neg (by simp)]
  cases c1:bz d.files [110] with
  | true =>
   rw[if_pos rfl];rw[gV c1] at q1;generalize aw d.files [110]=pp at *;generalize au d (bZ d.files [110])=x at *;by_cases c2:x.2=0
   ·rw[if_neg (by simp[c2])]
    rw[jh c2] at q2;generalize x.1=y at *;have t1:=gA y (k1.ok (by omega) (by omega)) [110]
    have k2:=fN (s:=(y,0)) k1 [110];have ec:bQ [110] (y,0)=au y (bP y.files [110]):=bO _ _;rw[ec] at k2;unfold qJ;simp only[];generalize au y (bP y.files [110])=c at *;by_cases c3:c.2=0
    ·rw[if_neg (by simp[c3])]
     have t2:=iB c.1 (k2.ok (by omega) (by omega)) [110] tx (by omega)
     have k3:=lW (s:=(c.1,0)) k2 [110] tx;have ea:j5 [110] tx (c.1,0)=au c.1 (bV c.1.files c.1.cap [110] tx):=bO _ _;rw[ea] at k3;generalize au c.1 (bV c.1.files c.1.cap [110] tx)=p at *;have t3:=dC p.1 (k3.ok (by omega) (by omega)) [110]
     have t4:=kD p.1 (k3.ok (by omega) (by omega)) [110]
     have k4:=lU (s:=(p.1,0)) k3 [110];have es:ee [110] (p.1,0)=au p.1 (cJ p.1.files [110]):=bO _ _;rw[es] at k4;generalize au p.1 (bZ p.1.files [110])=r at *;generalize au p.1 (cJ p.1.files [110])=w at *;have t5:=oU w.1 (k4.ok (by omega) (by omega)) [110] [109]
     generalize au w.1 (iy w.1.files [110] [109])=v at *;obtain⟨⟨f1,cp1,ar1,lf1,dn1⟩,e1⟩:=c;obtain⟨⟨f2,cp2,ar2,lf2,dn2⟩,e2⟩:=p;obtain⟨⟨f3,cp3,ar3,lf3,dn3⟩,e3⟩:=r;obtain⟨⟨f4,cp4,ar4,lf4,dn4⟩,e4⟩:=w;obtain⟨⟨f5,cp5,ar5,lf5,dn5⟩,e5⟩:=v;obtain⟨fy,cpy,ary,lfy,dny⟩:=y;obtain⟨fl,cp,ar,lf,dn⟩:=d;simp only[bu,Dsk.l] at q1 q2 t1 t2 t3 t4 t5 c3 ⊢;subst c3;by_cases c4:e2=9
     ·subst c4;rw[if_pos rfl];by_cases c5:e3=0
      ·subst c5;(simp(disch:=first|decide|omega|(intros;exact rfl)|simp only[aa]) only[aS,Ay,q0,q1,q2,t1,t2,t3,go_sem,seval,aq])
       try simp[trim]
      ·(simp(disch:=first|decide|omega|(intros;exact rfl)|simp only[aa]) only[aS,Ay,q0,q1,q2,t1,t2,t3,c5,go_sem,seval,aq])
       try simp[trim,c5]
     ·rw[if_neg c4];by_cases c5:e2=0
      ·subst c5;by_cases c6:e4=0
       ·subst c6;(simp(disch:=first|decide|omega|(intros;exact rfl)|simp only[aa]) only[aS,Ay,q0,q1,q2,t1,t2,t4,t5,go_sem,seval,aq])
        try simp[trim]
       ·(simp(disch:=first|decide|omega|(intros;exact rfl)|simp only[aa]) only[aS,Ay,q0,q1,q2,t1,t2,t4,c6,go_sem,seval,aq])
        try simp[trim,c6]
      ·(simp(disch:=first|decide|omega|(intros;exact rfl)|simp only[aa]) only[aS,Ay,q0,q1,q2,t1,t2,c4,c5,go_sem,seval,aq])
       try simp[trim,c4,c5]
    ·rw[if_pos c3];obtain⟨⟨f1,cp1,ar1,lf1,dn1⟩,e1⟩:=c;obtain⟨fy,cpy,ary,lfy,dny⟩:=y;obtain⟨fl,cp,ar,lf,dn⟩:=d;simp only[bu,Dsk.l] at q1 q2 t1 c3 ⊢;(simp(disch:=first|decide|omega|(intros;exact rfl)|simp only[aa]) only[aS,Ay,q0,q1,q2,t1,c3,go_sem,seval,aq])
     try simp[trim,c3]
   ·rw[if_pos c2];obtain⟨⟨fx,cpx,arx,lfx,dnx⟩,ex⟩:=x;obtain⟨fl,cp,ar,lf,dn⟩:=d;simp only[bu,Dsk.l] at q1 q2 c2 ⊢;(simp(disch:=first|decide|omega|(intros;exact rfl)|simp only[aa]) only[aS,Ay,q0,q1,q2,c2,go_sem,seval,aq])
    try simp[trim,c2]
  | false =>
   rw[if_neg (by simp)]
   rw[jr c1] at q1;clear q2 k1;have k1:=hd;obtain⟨y,hy⟩:∃ y,y=d:=⟨_,rfl⟩;have q2:True:=trivial;rw[<- hy] at k1;have hyd:qJ tx d=qJ tx y:=by rw[hy]
   rw[hyd];have t1:=gA y (k1.ok (by omega) (by omega)) [110]
   have k2:=fN (s:=(y,0)) k1 [110];have ec:bQ [110] (y,0)=au y (bP y.files [110]):=bO _ _;rw[ec] at k2;unfold qJ;simp only[];generalize au y (bP y.files [110])=c at *;by_cases c3:c.2=0
   ·rw[if_neg (by simp[c3])]
    have t2:=iB c.1 (k2.ok (by omega) (by omega)) [110] tx (by omega)
    have k3:=lW (s:=(c.1,0)) k2 [110] tx;have ea:j5 [110] tx (c.1,0)=au c.1 (bV c.1.files c.1.cap [110] tx):=bO _ _;rw[ea] at k3;generalize au c.1 (bV c.1.files c.1.cap [110] tx)=p at *;have t3:=dC p.1 (k3.ok (by omega) (by omega)) [110]
    have t4:=kD p.1 (k3.ok (by omega) (by omega)) [110]
    have k4:=lU (s:=(p.1,0)) k3 [110];have es:ee [110] (p.1,0)=au p.1 (cJ p.1.files [110]):=bO _ _;rw[es] at k4;generalize au p.1 (bZ p.1.files [110])=r at *;generalize au p.1 (cJ p.1.files [110])=w at *;have t5:=oU w.1 (k4.ok (by omega) (by omega)) [110] [109]
    generalize au w.1 (iy w.1.files [110] [109])=v at *;obtain⟨⟨f1,cp1,ar1,lf1,dn1⟩,e1⟩:=c;obtain⟨⟨f2,cp2,ar2,lf2,dn2⟩,e2⟩:=p;obtain⟨⟨f3,cp3,ar3,lf3,dn3⟩,e3⟩:=r;obtain⟨⟨f4,cp4,ar4,lf4,dn4⟩,e4⟩:=w;obtain⟨⟨f5,cp5,ar5,lf5,dn5⟩,e5⟩:=v;subst hy;obtain⟨fl,cp,ar,lf,dn⟩:=y;simp only[bu,Dsk.l] at q1 t1 t2 t3 t4 t5 c3 ⊢;subst c3;by_cases c4:e2=9
    ·subst c4;rw[if_pos rfl];by_cases c5:e3=0
     ·subst c5;(simp(disch:=first|decide|omega|(intros;exact rfl)|simp only[aa]) only[aS,Ay,q0,q1,t1,t2,t3,go_sem,seval,aq])
      try simp[trim]
     ·(simp(disch:=first|decide|omega|(intros;exact rfl)|simp only[aa]) only[aS,Ay,q0,q1,t1,t2,t3,c5,go_sem,seval,aq])
      try simp[trim,c5]
    ·rw[if_neg c4];by_cases c5:e2=0
     ·subst c5;by_cases c6:e4=0
      ·subst c6;(simp(disch:=first|decide|omega|(intros;exact rfl)|simp only[aa]) only[aS,Ay,q0,q1,t1,t2,t4,t5,go_sem,seval,aq])
       try simp[trim]
      ·(simp(disch:=first|decide|omega|(intros;exact rfl)|simp only[aa]) only[aS,Ay,q0,q1,t1,t2,t4,c6,go_sem,seval,aq])
       try simp[trim,c6]
     ·(simp(disch:=first|decide|omega|(intros;exact rfl)|simp only[aa]) only[aS,Ay,q0,q1,t1,t2,c4,c5,go_sem,seval,aq])
      try simp[trim,c4,c5]
   ·rw[if_pos c3];obtain⟨⟨f1,cp1,ar1,lf1,dn1⟩,e1⟩:=c;subst hy;obtain⟨fl,cp,ar,lf,dn⟩:=y;simp only[bu,Dsk.l] at q1 t1 c3 ⊢;(simp(disch:=first|decide|omega|(intros;exact rfl)|simp only[aa]) only[aS,Ay,q0,q1,t1,c3,go_sem,seval,aq])
    try simp[trim,c3]
 ·rw[if_pos c0];obtain⟨fl,cp,ar,lf,dn⟩:=d;simp only[bu,Dsk.l] at ⊢;(simp(disch:=first|decide|omega|(intros;exact rfl)|simp only[aa]) only[aS,Ay,q0,c0,go_sem,seval,aq])
  try simp[trim,c0]
theorem tj (s:Sto) (g:Seg) (hl:s.segs.length<=1000000) (hg:s.segs.getLast?=some g) (hb:0<=g.base∧g.base<=1099511627776):call 47 [.agg s.l] []=some (vs (fileN g.base),[]):=by
 have q:=kA hb;apply ai Qy rfl;obtain⟨⟨fl,cp,ar,lf,dn⟩,ver,segs,next,sure,size,sum⟩:=s;simp only at hg hl;have h0:0<segs.length:=by cases segs <;> simp_all
 have h2:((segs.length:Int)-1).toNat=segs.length-1:=by omega
 have g1:(segs.map Seg.enc)[segs.length-1]?=some g.enc:=by rw[List.getElem?_map,<- List.getLast?_eq_getElem?,hg];rfl
 generalize fileN g.base=N at *;obtain⟨gb,gn,gz⟩:=g;simp only[Seg.enc] at g1 q;(simp(disch:=first|decide|omega|(intros;exact rfl)|simp only[aa]) only[PR,Sto.l,Dsk.l,h2,g1,q,go_sem,seval,aq])
 try simp[trim]
theorem uY {k u:Nat} (s:Sto) (h:okS k u s) (hk:k<=800000) (hu:u<=800000000000):call 72 [.agg s.l] []=some (cM (a8 s),[]):=by
 have q1:=tj s s.last (by have:=h.len;omega) (rM h.len.1) (h.seg _ (mg h.len.1)).1
 have q3:=kD s.disk (h.dsk.ok (by omega) (by omega)) (fileN s.last.base)
 apply ai QW rfl;unfold a8;simp only[];generalize au s.disk (cJ s.disk.files (fileN s.last.base))=r at *;generalize fileN s.last.base=N at *;obtain⟨⟨fl,cp,ar,lf,dn⟩,ver,segs,next,sure,size,sum⟩:=s;obtain⟨⟨f2,cp2,ar2,lf2,dn2⟩,e2⟩:=r;simp only[Sto.l,Dsk.l,bu,List.cons_append,List.nil_append] at q1 q3 ⊢;by_cases c:e2=0
 ·subst c;(simp(disch:=first|decide|omega|(intros;exact rfl)|simp only[aa]) only[aS,Oa,q1,q3,cM,Sto.l,Dsk.l,go_sem,seval,aq,cw,A.kind,A.xs,aP,A.isN])
  try simp[trim]
 ·(simp(disch:=first|decide|omega|(intros;exact rfl)|simp only[aa]) only[aS,Oa,q1,q3,c,cM,Sto.l,Dsk.l,go_sem,seval,aq,cw,A.kind,A.xs,aP,A.isN])
  try simp[trim,c]
theorem Jz (d:Dsk):aR d=(let c:=au d (bP d.files (fileN 0));if c.2≠0 then(⟨c.1,0,[],0,0,0,0⟩,c.2) else
  let w:=bR ⟨1,[0],0,0⟩ (c.1,0);if w.2≠0 then(⟨w.1,0,[],0,0,0,0⟩,w.2) else(⟨w.1,1,[⟨0,0,0⟩],0,0,0,0⟩,0)):=by
 unfold aR;have e0:bQ (fileN 0) (d,0)=au d (bP d.files (fileN 0)):=bO _ _;rw[e0];simp only[];generalize au d (bP d.files (fileN 0))=c;by_cases h:c.2=0
 ·rw[if_pos h,if_neg (show ¬ (c.2≠0) from by simp[h]),<- jh h]
  generalize bR ⟨1,[0],0,0⟩ c=w;by_cases h2:w.2=0
  ·simp[h2]
  ·simp[h2]
 ·simp[h]
set_option maxRecDepth 8000 in
theorem Dw {k u:Nat} (d:Dsk) (hd:okN k u d) (hk:k<=800000) (hu:u<=800000000000):call 61 [.agg d.l] []=some (cM (aR d),[]):=by
 rw[Jz];have q1:=kA (n:=0) ⟨by decide,by decide⟩
 have q2:=gA d (hd.ok (by omega) (by omega)) (fileN 0)
 have k1:okN (k+1) u (au d (bP d.files (fileN 0))).1:=by
  have:=fN (s:=(d,0)) hd (fileN 0);exact this
 have q3:=fun dd:Dsk=>pM ⟨dd,1,[⟨0,0,0⟩],0,0,0,0⟩ (by simp)
 simp only[];generalize au d (bP d.files (fileN 0))=c at *;have q3:=q3 c.1;have q4:=nw c.1 k1 (by omega) (by omega) ⟨1,[0],0,0⟩ ⟨by simp,by simp⟩
 generalize bR ⟨1,[0],0,0⟩ (c.1,0)=w at *;apply ai QC rfl;generalize fileN 0=N at *;obtain⟨fl,cp,ar,lf,dn⟩:=d;obtain⟨⟨f1,cp1,ar1,lf1,dn1⟩,e1⟩:=c;obtain⟨⟨f3,cp3,ar3,lf3,dn3⟩,e3⟩:=w;simp only[bu,Dsk.l,Sto.l,Seg.enc,Sto.man,Man.l,List.cons_append,List.nil_append,List.map_cons,List.map_nil,eI] at q1 q2 q3 q4 ⊢;by_cases c1:e1=0
 ·subst c1;by_cases c3:e3=0
  ·subst c3;(simp(disch:=first|decide|omega|(intros;exact rfl)|simp only[aa]) only[aS,NS,q1,q2,↓df,l5,eg,na,dJ,q3,q4,go_sem,seval,aq,cw,A.kind,A.xs,aP,A.isN])
   try simp[trim,cM,Sto.l,Dsk.l,Seg.enc]
  ·(simp(disch:=first|decide|omega|(intros;exact rfl)|simp only[aa]) only[aS,NS,q1,q2,↓df,l5,eg,na,dJ,q3,q4,c3,go_sem,seval,aq,cw,A.kind,A.xs,aP,A.isN])
   try simp[trim,cM,Sto.l,Dsk.l,Seg.enc,c3]
 ·(simp(disch:=first|decide|omega|(intros;exact rfl)|simp only[aa]) only[aS,NS,q1,q2,c1,go_sem,seval,aq,cw,A.kind,A.xs,aP,A.isN])
  try simp[trim,cM,Sto.l,Dsk.l,Seg.enc,c1]
def zG (s:Sto):Dsk × Int :=
 let c:=au s.disk (bP s.disk.files (fileN s.next))
 if c.2≠0 then c else
  let w:=bR (iv s).man (c.1,0)
  if w.2=9 then(let r:=au w.1 (bZ w.1.files (fileN s.next));if r.2=0 then(r.1,9) else r) else w
theorem Cy (s:Sto):dI s=zG s:=by
 unfold dI zG;have e0:bQ (fileN s.next) (s.disk,0)=au s.disk (bP s.disk.files (fileN s.next)):=bO _ _;rw[e0];simp only[];generalize au s.disk (bP s.disk.files (fileN s.next))=c;by_cases h:c.2=0
 ·rw[if_pos h,if_neg (show ¬ (c.2≠0) from by simp[h]),<- jh h]
  generalize bR (iv s).man c=w;unfold cL;have e1:cN (fileN s.next) (w.1,0)=au w.1 (bZ w.1.files (fileN s.next)):=bO _ _;rw[e1];by_cases h2:w.2=9
  ·simp[h2]
  ·simp[h2]
 ·simp[h]
set_option maxRecDepth 8000 in
set_option maxHeartbeats 2000000 in
theorem sq {k u:Nat} (s:Sto) (h:okS k u s) (hk:k<=800000) (hu:u<=800000000000):call 44 [.agg s.l] []=some (cM (bN s),[]):=by
 have q1:=uY s h hk hu;have h1:=mj h;have hsl:(a8 s).1.segs=s.segs:=rfl;apply ai QR rfl;unfold bN;by_cases c0:64<=s.segs.length
 ·rw[if_pos c0];obtain⟨⟨fl,cp,ar,lf,dn⟩,ver,segs,next,sure,size,sum⟩:=s;simp only at c0;have c1:(64:Int)<=segs.length:=by omega
  (simp(disch:=first|decide|omega|(intros;exact rfl)|simp only[aa]) only[aS,J5,c1,cM,Sto.l,Dsk.l,go_sem,seval,aq])
  try simp[trim]
 ·rw[if_neg c0];have c1:¬ (64:Int)<=s.segs.length:=by omega
  rw[<- hsl] at c1;generalize a8 s=r at *;obtain⟨s1,e1⟩:=r;simp only at q1 h1 hsl c1 ⊢;by_cases c2:e1=0
  ·subst c2;rw[if_neg (by simp),Cy]
   have q2:=kA h1.next;have q3:=gA s1.disk (h1.dsk.ok (by omega) (by omega)) (fileN s1.next)
   have k1:okN (k+1) u (au s1.disk (bP s1.disk.files (fileN s1.next))).1:=by
    have:=fN (s:=(s1.disk,0)) h1.dsk (fileN s1.next);exact this
   have hxl:(iv s1).segs.length<=1000000:=by have:=h1.len;show(s1.segs++[_]).length<=_;simp;omega
   have q4:=fun d:Dsk=>pM { iv s1 with disk:=d } hxl
   unfold zG;simp only[];generalize au s1.disk (bP s1.disk.files (fileN s1.next))=c at *;have q4:=q4 c.1;have q5:=nw c.1 k1 (by omega) (by omega) (iv s1).man ⟨by have:=h1.len;show((s1.segs++[_]).map _).length<=_;simp;omega,h1.sum⟩
   have k2:okN (k+1+1) (u+800) (bR (iv s1).man (c.1,0)).1:=kl (s:=(c.1,0)) k1 _;generalize bR (iv s1).man (c.1,0)=w at *;have q6:=dC w.1 (k2.ok (by omega) (by omega)) (fileN s1.next)
   generalize au w.1 (bZ w.1.files (fileN s1.next))=t at *;generalize fileN s1.next=N at *;obtain⟨⟨fl,cp,ar,lf,dn⟩,ver,segs,next,sure,size,sum⟩:=s;obtain⟨⟨fl1,cp1,ar1,lf1,dn1⟩,ver1,segs1,next1,sure1,size1,sum1⟩:=s1;obtain⟨⟨fl2,cp2,ar2,lf2,dn2⟩,e2⟩:=c;obtain⟨⟨fl3,cp3,ar3,lf3,dn3⟩,e3⟩:=w;obtain⟨⟨fl4,cp4,ar4,lf4,dn4⟩,e4⟩:=t;simp only at hsl;subst hsl;have hver:=h1.ver;have hlen:=h1.len;simp only[bu,Dsk.l,Sto.l,Sto.man,iv,Man.l,cM,List.cons_append,List.nil_append,List.map_cons,List.map_nil,List.map_append,Seg.enc] at q1 q2 q3 q4 q5 q6 c1 hver hlen ⊢;have hok:bf 3 (segs1.map Seg.enc)=true:=bH Seg.len segs1;have hsm:(segs1.map Seg.enc).length=segs1.length:=by simp
   obtain⟨SQ,hSQ⟩:∃ SQ,segs1.map Seg.enc=SQ:=⟨_,rfl⟩;rw[hSQ] at hok hsm q1 q4 ⊢;have hsl2:SQ.length<=64:=by omega
   have htk:(SQ++[[D.i .i64 next1,D.i .i64 0,D.i .i64 0]]).take (segs1.length+1)=SQ++[[D.i .i64 next1,D.i .i64 0,D.i .i64 0]]:=List.take_of_length_le (by simp;omega)
   have c1':¬ (64:Int)<=SQ.length:=by omega
   rw[<- hsm] at htk;by_cases c3:e2=0
   ·subst c3;by_cases c4:e3=9
    ·subst c4;by_cases c5:e4=0
     ·subst c5;(simp(disch:=first|decide|omega|(intros;exact rfl)|simp only[aa]) only[aS,J5,q1,c1',hver,q2,q3,hok,htk,↓df,l5,eg,na,dJ,q4,q5,q6,go_sem,seval,aq,cw,A.kind,A.xs,aP,A.isN])
      try simp[trim,hSQ]
     ·(simp(disch:=first|decide|omega|(intros;exact rfl)|simp only[aa]) only[aS,J5,q1,c1',hver,q2,q3,hok,htk,↓df,l5,eg,na,dJ,q4,q5,q6,c5,go_sem,seval,aq,cw,A.kind,A.xs,aP,A.isN])
      try simp[trim,hSQ,c5]
    ·by_cases c5:e3=0
     ·subst c5;(simp(disch:=first|decide|omega|(intros;exact rfl)|simp only[aa]) only[aS,J5,q1,c1',hver,q2,q3,hok,htk,↓df,l5,eg,na,dJ,q4,q5,go_sem,seval,aq,cw,A.kind,A.xs,aP,A.isN])
      simp[trim,hSQ,Seg.enc,c4]
     ·(simp(disch:=first|decide|omega|(intros;exact rfl)|simp only[aa]) only[aS,J5,q1,c1',hver,q2,q3,hok,htk,↓df,l5,eg,na,dJ,q4,q5,c4,c5,go_sem,seval,aq,cw,A.kind,A.xs,aP,A.isN])
      simp[trim,hSQ,c4,c5]
   ·(simp(disch:=first|decide|omega|(intros;exact rfl)|simp only[aa]) only[aS,J5,q1,c1',hver,q2,q3,c3,go_sem,seval,aq,cw,A.kind,A.xs,aP,A.isN])
    simp[trim,hSQ,c3]
  ·rw[if_pos c2];obtain⟨⟨fl,cp,ar,lf,dn⟩,ver,segs,next,sure,size,sum⟩:=s;obtain⟨⟨fl1,cp1,ar1,lf1,dn1⟩,ver1,segs1,next1,sure1,size1,sum1⟩:=s1;simp only at hsl;subst hsl;simp only[Dsk.l,Sto.l,cM,List.cons_append,List.nil_append] at q1 c1 ⊢;(simp(disch:=first|decide|omega|(intros;exact rfl)|simp only[aa]) only[aS,J5,q1,c1,c2,go_sem,seval,aq,cw,A.kind,A.xs,aP,A.isN])
   try simp[trim]
theorem Gy {r:Rec} (h:whyF r≠0):(dx r).2≠0:=by unfold dx;rw[if_neg h];exact h
set_option maxRecDepth 8000 in
set_option maxHeartbeats 2000000 in
theorem oR {k u:Nat} (s t:Sto) (h:okS k u s) (ht:okS k u t) (hn:t.next<1099511627776) (hk:k<=800000) (hu:u<=800000000000) (seg:Int) (r:Rec) (tx:Txt) (hx:tx.length<=90)
  (q0:call 43 [.agg (r.enc.map .d)] []=some (vb true,[]))
  (q1:call 45 [.agg (r.enc.map .d)] []=some (.tup [(false,[.d (.s tx)]),(false,[.d (.i .i64 0)])],[])) (c2:r.at_=s.next) (c3:s.next<1099511627776)
  (hc:(seg<=s.last.size∧bN s=(t,0))∨(¬ seg<=t.last.size∧t=s)) :
  call 21 [.agg s.l,vi seg,.agg (r.enc.map .d)] []=some (cM (dW t tx),[]):=by
 have q3:=sq s h hk hu;have q5:=tj t t.last (by have:=ht.len;omega) (rM ht.len.1) (ht.seg _ (mg ht.len.1)).1
 have q7:=iB t.disk (ht.dsk.ok (by omega) (by omega)) (fileN t.last.base) tx (by omega)
 have hsz:=(ht.seg _ (mg ht.len.1)).2;have hlen:=ht.len;have hlens:=h.len;have hnx:=ht.next;have hsp:t.segs.map Seg.enc=t.segs.dropLast.map Seg.enc++[t.last.enc]:=by
  have hne:t.segs≠[]:=by intro e;rw[e] at hlen;simp at hlen
  have e:t.segs=t.segs.dropLast++[t.segs.getLast hne]:=(List.dropLast_concat_getLast hne).symm;have e2:t.last=t.segs.getLast hne:=by unfold Sto.last;rw[List.getLastD_eq_getLast?,List.getLast?_eq_some_getLast hne];rfl
  rw[e2];conv=>lhs;rw[e]
  rw[List.map_append];rfl
 have hsl:(s.segs.map Seg.enc)[s.segs.length-1]?=some s.last.enc:=by rw[List.getElem?_map,<- List.getLast?_eq_getElem?,rM hlens.1];rfl
 have hok:=bH Seg.len t.segs;have hQ:(t.segs.dropLast.map Seg.enc).length=t.segs.length-1:=by simp
 have hks:((s.segs.length:Int)-1)=((s.segs.length-1:Nat):Int):=by omega
 have hkt:((t.segs.length:Int)-1)=((t.segs.length-1:Nat):Int):=by omega
 unfold dW vm;simp only[];generalize au t.disk (bV t.disk.files t.disk.cap (fileN t.last.base) tx)=d at *;generalize fileN t.last.base=N at *;generalize t.last=g at *;generalize s.last=g0 at *;generalize bN s=rr at *;obtain⟨b,n,z⟩:=g;obtain⟨b0,n0,z0⟩:=g0;obtain⟨⟨fl,cp,ar,lf,dn⟩,ver,segs,next,sure,size,sum⟩:=s;obtain⟨⟨fl1,cp1,ar1,lf1,dn1⟩,ver1,segs1,next1,sure1,size1,sum1⟩:=t;obtain⟨⟨fl2,cp2,ar2,lf2,dn2⟩,e2⟩:=d;obtain⟨at_,ti,da⟩:=r;simp only[Rec.enc,Seg.enc,List.map_cons,List.map_nil,Sto.l,Dsk.l,bu,List.cons_append,List.nil_append] at q0 q1 q3 q5 q7 c2 c3 hn hsz hlen hlens hnx hsp hsl hok hQ hks hkt hc ⊢;subst c2;have c3':¬ 1099511627776<=at_:=by omega
 have hfin:({ disk:=⟨fl2,cp2,ar2,lf2,dn2⟩,ver:=ver1,segs:=segs1.dropLast++[⟨b,n+1,z+tx.length⟩],next:=next1+1,sure:=sure1,size:=size1,sum:=sum1 }:Sto).segs.map Seg.enc=segs1.dropLast.map Seg.enc++[[D.i .i64 b,D.i .i64 (n+1),D.i .i64 (z+tx.length)]]:=by simp[Seg.enc]
 generalize segs1.dropLast.map Seg.enc=Q at *;have hml:(segs1.map Seg.enc).length=segs1.length:=by simp
 have hl1:segs1.length=Q.length+1:=by omega
 have hkt1:((Q.length+1:Nat):Int)-1=(Q.length:Nat):=by omega
 have hkt2:((Q.length:Nat):Int)+1-1=(Q.length:Nat):=by omega
 have hat:∀ x:List D,(Q++[x])[Q.length]?=some x:=fun x=>by simp
 have hst:∀ x y:List D,(Q++[x]).set Q.length y=Q++[y]:=fun x y=>by simp
 rw[hsp] at hok q5;have hql:Q.length<=64:=by omega
 have htk:∀ x:List D,(Q++[x]).take (Q.length+1)=Q++[x]:=fun x=>List.take_of_length_le (by simp)
 apply ai Np rfl;rcases hc with⟨c4,rfl⟩|⟨c4,he⟩
 ·simp only[cM,Sto.l,Dsk.l,List.cons_append,List.nil_append] at q3;rw[hsp] at q3;by_cases c5:e2=0
  ·subst c5;(simp(disch:=first|decide|omega|(intros;exact rfl)|simp only[aa]) only[aS,Je,q0,q1,c3',hks,hsl,c4,q3,q5,q7,hok,hkt1,hkt2,hat,hst,hql,htk,List.length_append,List.length_cons,List.length_nil,Nat.zero_add,go_sem,seval,aq,cw,A.kind,A.xs,aP,A.isN])
   simp only[ne_eq,not_true_eq_false,if_false,cM,Sto.l,Dsk.l,List.cons_append,List.nil_append];simp only[] at hfin;rw[hfin]
  ·(simp(disch:=first|decide|omega|(intros;exact rfl)|simp only[aa]) only[aS,Je,q0,q1,c3',hks,hsl,c4,q3,q5,q7,c5,go_sem,seval,aq,cw,A.kind,A.xs,aP,A.isN])
   simp[trim,c5,cM,Sto.l,Dsk.l,hsp]
 ·simp only[Sto.mk.injEq,Dsk.mk.injEq] at he;obtain⟨⟨rfl,rfl,rfl,rfl,rfl⟩,rfl,rfl,rfl,rfl,rfl,rfl⟩:=he;clear q3 hsl;rw[hsp];by_cases c5:e2=0
  ·subst c5;(simp(disch:=first|decide|omega|(intros;exact rfl)|simp only[aa]) only[aS,Je,q0,q1,c3',c4,q5,q7,hok,hkt1,hkt2,hat,hst,hql,htk,List.length_append,List.length_cons,List.length_nil,Nat.zero_add,go_sem,seval,aq,cw,A.kind,A.xs,aP,A.isN])
   simp only[ne_eq,not_true_eq_false,if_false,cM,Sto.l,Dsk.l,List.cons_append,List.nil_append];simp only[] at hfin;rw[hfin]
  ·(simp(disch:=first|decide|omega|(intros;exact rfl)|simp only[aa]) only[aS,Je,q0,q1,c3',hkt1,hkt2,hat,c4,q5,q7,c5,List.length_append,List.length_cons,List.length_nil,Nat.zero_add,go_sem,seval,aq,cw,A.kind,A.xs,aP,A.isN])
   simp[trim,c5,cM,Sto.l,Dsk.l,hsp]
set_option maxRecDepth 8000 in
theorem qj {k u:Nat} (s:Sto) (h:okS k u s) (hk:k<=700000) (hu:u<=700000000000) (seg:Int) (r:Rec) (hr:r.ok):call 21 [.agg s.l,vi seg,.agg (r.enc.map .d)] []=some (cM (gd s seg r),[]):=by
 have q1:=sN r hr;have hpl:=yM r;have e1:putR r=.tup [(false,[.d (.s (dx r).1)]),(false,[.d (.i .i64 (dx r).2)])]:=by unfold putR dx;split <;> rfl
 rw[e1] at q1;unfold gd;by_cases c1:whyF r=0
 ·have c1':(dx r).2=0:=by unfold dx;rw[if_pos c1]
  rw[c1'] at q1;have q0':=nh r;rw[decide_eq_true c1] at q0';by_cases c2:r.at_=s.next
  ·rw[if_neg (by simp[c2,c1'])]
   by_cases c3:1099511627776<=s.next
   ·rw[if_pos c3];obtain⟨⟨fl,cp,ar,lf,dn⟩,ver,segs,next,sure,size,sum⟩:=s;obtain⟨at_,ti,da⟩:=r;simp only[Rec.enc,List.map_cons,List.map_nil] at q0' c2 c3 ⊢;subst c2;apply ai Np rfl;(simp(disch:=first|decide|omega|(intros;exact rfl)|simp only[aa]) only[aS,Je,q0',c3,cM,Sto.l,Dsk.l,go_sem,seval,aq])
    try simp[trim]
   ·rw[if_neg c3];by_cases c4:seg<=s.last.size
    ·rw[if_pos c4];by_cases c5:(bN s).2=0
     ·rw[if_neg (by simp[c5])]
      have hn:(bN s).1.next=s.next:=sY s;exact oR (k:=k+2) (u:=u+800) s (bN s).1 (h.up (by omega) (by omega)) (oK h) (by rw[hn];omega) (by omega) (by omega) seg r (dx r).1 hpl q0' q1 c2 (by omega) (.inl ⟨c4,by rw[<- c5]⟩)
     ·rw[if_pos c5];have q3:=sq s h (by omega) (by omega)
      have hsl:(s.segs.map Seg.enc)[s.segs.length-1]?=some s.last.enc:=by rw[List.getElem?_map,<- List.getLast?_eq_getElem?,rM h.len.1];rfl
      have hlens:=h.len;have hks:((s.segs.length:Int)-1)=((s.segs.length-1:Nat):Int):=by omega
      generalize bN s=t at *;generalize s.last=g at *;obtain⟨b,n,z⟩:=g;obtain⟨⟨fl,cp,ar,lf,dn⟩,ver,segs,next,sure,size,sum⟩:=s;obtain⟨⟨⟨fl1,cp1,ar1,lf1,dn1⟩,ver1,segs1,next1,sure1,size1,sum1⟩,e⟩:=t;obtain⟨at_,ti,da⟩:=r;simp only[Rec.enc,Seg.enc,List.map_cons,List.map_nil,Sto.l,Dsk.l,cM,List.cons_append,List.nil_append] at q0' q3 c2 c3 c4 c5 hsl hks hlens ⊢;subst c2;apply ai Np rfl;(simp(disch:=first|decide|omega|(intros;exact rfl)|simp only[aa]) only[aS,Je,q0',c3,hks,hsl,c4,q3,c5,go_sem,seval,aq])
      try simp[trim,c5]
    ·rw[if_neg c4];exact oR (k:=k) (u:=u) s s h h (by omega) (by omega) (by omega) seg r (dx r).1 hpl q0' q1 c2 (by omega) (.inr ⟨c4,rfl⟩)
  ·rw[if_pos (.inr c2)];obtain⟨⟨fl,cp,ar,lf,dn⟩,ver,segs,next,sure,size,sum⟩:=s;obtain⟨at_,ti,da⟩:=r;simp only[Rec.enc,List.map_cons,List.map_nil] at q0' c2 ⊢;apply ai Np rfl;(simp(disch:=first|decide|omega|(intros;exact rfl)|simp only[aa]) only[aS,Je,q0',c2,cM,Sto.l,Dsk.l,go_sem,seval,aq])
   try simp[trim]
 ·rw[if_pos (.inl (Gy c1))];have q0':=nh r;rw[decide_eq_false c1] at q0';obtain⟨⟨fl,cp,ar,lf,dn⟩,ver,segs,next,sure,size,sum⟩:=s;obtain⟨at_,ti,da⟩:=r;simp only[Rec.enc,List.map_cons,List.map_nil] at q0' ⊢;apply ai Np rfl;(simp(disch:=first|decide|omega|(intros;exact rfl)|simp only[aa]) only[aS,Je,q0',cM,Sto.l,Dsk.l,go_sem,seval,aq])
  try simp[trim]
theorem BX (n:Int):(n != n)=false:=by simp
theorem w7 (n:Bool):(n != n)=false:=by simp
set_option maxRecDepth 8000 in
theorem yI (d:Dsk) (hl:d.files.length<=1000000):call 37 [.agg d.l,.agg d.l] []=some (vb true,[]):=by
 apply ai Qg rfl;obtain⟨fl,cp,ar,lf,dn⟩:=d;simp only at hl;(simp(disch:=first|decide|omega|(intros;exact rfl)|simp only[aa]) only[aS,Pq,Dsk.l,BX,w7,go_sem,seval,aq])
 refine aI (m:=0) (σ:=Nat) (fun i=>fl.length-i) (fun i=>i<=fl.length) (fun i=>[V.one (.p 0 0),V.one (.p 1 0),vi i])
  (fun _=>[.cells [.d (.l (fl.map Fil.enc)),.d (.i .i64 cp),.d (.b ar),.d (.i .i64 lf),.d (.b dn)],.cells [.d (.l (fl.map Fil.enc)),.d (.i .i64 cp),.d (.b ar),.d (.i .i64 lf),.d (.b dn)]]) (fun _=>(vb true,[])) ?_ 0 (Nat.zero_le _) _ _ ?_
 rotate_left
 ·exact cG
 intro i hi R hR;by_cases c:i<fl.length
 ·have ci:(i:Int)<(fl.length:Int):=by omega
  have g1:(fl.map Fil.enc)[i]?=some fl[i].enc:=by simp[c]
  have hq:=Fil.eqs fl[i] fl[i];rw[decide_eq_true rfl] at hq;generalize fl[i]=f at *;obtain⟨fn,fd,fs⟩:=f;simp only[Fil.enc,List.map_cons,List.map_nil] at g1 hq;(simp(disch:=first|decide|omega|(intros;exact rfl)|simp only[aa]) only[aS,FV,ci,g1,hq,go_sem,seval,aq])
  exact hR (i+1) (by omega) (by omega) _ _ cG
 ·have ci:¬ (i:Int)<(fl.length:Int):=by omega
  (simp(disch:=first|decide|omega|(intros;exact rfl)|simp only[aa]) only[aS,FV,ci,go_sem,seval,aq])
  try simp[trim]
set_option maxRecDepth 8000 in
theorem xj (s:Sto) (hf:s.disk.files.length<=1000000) (hl:s.segs.length<=1000000):call 12 [.agg s.l,.agg s.l] []=some (vb true,[]):=by
 have q:=yI s.disk hf;apply ai QM rfl;obtain⟨⟨fl,cp,ar,lf,dn⟩,ver,segs,next,sure,size,sum⟩:=s;simp only[Dsk.l] at hl q;(simp(disch:=first|decide|omega|(intros;exact rfl)|simp only[aa]) only[aS,PT,Sto.l,Dsk.l,q,BX,w7,go_sem,seval,aq])
 refine aI (m:=0) (σ:=Nat) (fun i=>segs.length-i) (fun i=>i<=segs.length) (fun i=>[V.one (.p 0 0),V.one (.p 1 0),vi i])
  (fun _=>[.cells [.d (.l (fl.map Fil.enc)),.d (.i .i64 cp),.d (.b ar),.d (.i .i64 lf),.d (.b dn),.d (.i .i64 ver),.d (.l (segs.map Seg.enc)),.d (.i .i64 next),.d (.i .i64 sure),.d (.i .i64 size),.d (.i .u32 sum)],.cells [.d (.l (fl.map Fil.enc)),.d (.i .i64 cp),.d (.b ar),.d (.i .i64 lf),.d (.b dn),.d (.i .i64 ver),.d (.l (segs.map Seg.enc)),.d (.i .i64 next),.d (.i .i64 sure),.d (.i .i64 size),.d (.i .u32 sum)]]) (fun _=>(vb true,[])) ?_ 0 (Nat.zero_le _) _ _ ?_
 rotate_left
 ·exact cG
 intro i hi R hR;by_cases c:i<segs.length
 ·have ci:(i:Int)<(segs.length:Int):=by omega
  have g1:(segs.map Seg.enc)[i]?=some segs[i].enc:=by simp[c]
  have hq:=Seg.eqs segs[i] segs[i];rw[decide_eq_true rfl] at hq;generalize segs[i]=f at *;obtain⟨fb,fn,fs⟩:=f;simp only[Seg.enc,List.map_cons,List.map_nil] at g1 hq;(simp(disch:=first|decide|omega|(intros;exact rfl)|simp only[aa]) only[aS,En,ci,g1,hq,go_sem,seval,aq])
  exact hR (i+1) (by omega) (by omega) _ _ cG
 ·have ci:¬ (i:Int)<(segs.length:Int):=by omega
  (simp(disch:=first|decide|omega|(intros;exact rfl)|simp only[aa]) only[aS,En,ci,go_sem,seval,aq])
  try simp[trim]
theorem l8 (s:Sto):call 15 [.agg s.l] []=some (vi s.floor,[]):=by
 apply ai P6 rfl;obtain⟨⟨fl,cp,ar,lf,dn⟩,ver,segs,next,sure,size,sum⟩:=s;unfold Sto.floor;cases segs with
 | nil=>(simp(disch:=first|decide|omega|(intros;exact rfl)|simp only[aa]) only[OC,Sto.l,Dsk.l,go_sem,seval,aq])
 | cons g r =>
  (simp(disch:=first|decide|omega|(intros;exact rfl)|simp only[aa]) only[OC,Sto.l,Dsk.l,Seg.len,Seg.at0,go_sem,seval,aq])
  try simp[trim]
theorem FD {k u:Nat} (s:Sto) (h:okS k u s) (hk:k<=800000) (hu:u<=1000000) (g:Seg) (hg:g∈s.segs):call 39 [.agg s.l,.agg (g.enc.map .d)] []=some (vl ((cU (s.txt g) g.base).1.map fun x=>x.1.enc),[]):=by
 have hb:=(h.seg _ hg).1;have q1:=kA hb;have q2:=sP s.disk (Nat.le_trans h.dsk.len (by omega)) h.dsk.srt (fileN g.base)
 have hl:(s.txt g).length<=1000000:=Nat.le_trans (eD _ _) (Nat.le_trans h.dsk.used hu);have q3:=vK (s.txt g) hl g.base (by omega)
 have e2:(aC s.disk.files (fileN g.base)).1=s.txt g:=rfl;rw[e2] at q2;unfold ir at q3;generalize (cU (s.txt g) g.base)=sc at *;generalize s.txt g=T at *;generalize (aC s.disk.files (fileN g.base)).2=re at *;generalize fileN g.base=N at *;obtain⟨b,n,z⟩:=g;obtain⟨⟨fl,cp,ar,lf,dn⟩,ver,segs,next,sure,size,sum⟩:=s;simp only[Seg.enc,List.map_cons,List.map_nil,Sto.l,Dsk.l,List.cons_append,List.nil_append] at q1 q2 q3 ⊢;apply ai PY rfl;(simp(disch:=first|decide|omega|(intros;exact rfl)|simp only[aa]) only[aS,PC,q1,q2,q3,go_sem,seval,aq])
 try simp[trim]
def jK (R:List Rec) (off:Int):V:=match R.find? (fun r=>decide (r.at_=off)) with
 | some r=>.tup [(true,r.enc.map .d),(false,[.d (.i .i64 0)])]
 | none=>.tup [(true,[.d (.i .i64 0),.d (.i .i64 0),.d (.s [])]),(false,[.d (.i .i64 11)])]
theorem Ih {r:Rec} {R:List Rec} {off:Int} (h:r.at_≠off):jK (r::R) off=jK R off:=by
 unfold jK;rw[List.find?_cons_of_neg (by simpa using h)]
theorem Fa {r:Rec} {R:List Rec} {off:Int} (h:r.at_=off):jK (r::R) off=.tup [(true,r.enc.map .d),(false,[.d (.i .i64 0)])]:=by
 unfold jK;rw[List.find?_cons_of_pos (by simpa using h)]
theorem Dh (N:List SR) (i:Nat) (h:i<N.length):aY (N.drop i)=N[i].2++aY (N.drop (i+1)):=by
 rw[List.drop_eq_getElem_cons h];rfl
def gO (f:Seg->Int):List Seg->Int
 | []=>0
 | g::r=>f g+gO f r
theorem IV (f:Seg->Int) (a b:List Seg):gO f (a++b)=gO f a+gO f b:=by
 induction a with
 | nil=>simp[gO]
 | cons x r ih=>simp only[List.cons_append,gO,ih];omega
theorem yE (f:Seg->Int) (l:List Seg) (i:Nat) (h:i<l.length):gO f (l.take (i+1))=gO f (l.take i)+f l[i]:=by
 rw[List.take_succ_eq_append_getElem h,IV];simp[gO]
theorem EN (f:Seg->Int) (u:Nat):∀ (l:List Seg),(∀ g∈l,0<=f g∧f g<=u)->0<=gO f l∧gO f l<=l.length*u
 | [],_=>by simp[gO]
 | x::r,h=>by
  have h1:=h x (by simp)
  have h2:=EN f u r (fun g hg=>h g (by simp[hg]))
  simp only[gO,List.length_cons];rw[Int.natCast_add,Int.add_mul];omega
theorem GI (f:Seg->Int) (l:List Seg) (hl:l.length<=1000) (h:∀ g∈l,0<=f g∧f g<=(1000000000000:Nat)) (i:Nat):0<=gO f (l.take i)∧gO f (l.take i)<=1000000000000000:=by
 have:=EN f 1000000000000 (l.take i) (fun g hg=>h g (List.mem_of_mem_take hg))
 have h2:(l.take i).length<=1000:=Nat.le_trans (List.length_take_le' _ _) hl;have h3:((l.take i).length:Int)*((1000000000000:Nat):Int)<=1000*1000000000000:=by omega
 omega
theorem ym (l:List Seg) (hl:l.length<=1000) (h:∀ g∈l,0<=g.size∧g.size<=(1000000000000:Nat)):call 146 [vl (l.map Seg.enc)] []=some (vi (gO Seg.size l),[]):=by
 apply ai OL rfl;(simp(disch:=first|decide|omega|(intros;exact rfl)|simp only[aa]) only[J8,go_sem,seval,aq])
 refine aI (m:=0) (σ:=Nat) (fun i=>l.length-i) (fun i=>i<=l.length) (fun i=>[vl (l.map Seg.enc),vi (gO Seg.size (l.take i)),vi i]) (fun _=>[])
  (fun _=>(vi (gO Seg.size l),[])) ?_ 0 (Nat.zero_le _) _ _ cG
 intro i h1 R hR;have hb:=GI Seg.size l hl h i;by_cases hi:i<l.length
 ·have g1:(l.map Seg.enc)[i]?=some l[i].enc:=by rw[List.getElem?_map,List.getElem?_eq_getElem hi];rfl
  have hR':=hR (i+1) (by omega) (by omega)
  rw[yE _ l i hi] at hR';have hg:=h l[i] (List.getElem_mem hi);obtain⟨p,hp⟩:∃ p,p=l[i]:=⟨_,rfl⟩;rw[<- hp] at g1 hR' hg;generalize gO Seg.size (l.take i)=x at *;(simp(disch:=first|decide|omega|(intros;exact rfl)|simp only[aa]) only[Ax,g1,Seg.enc,go_sem,seval,aq])
  exact hR' _ _ cG
 ·have ht:l.take i=l:=List.take_of_length_le (by omega)
  rw[ht];(simp(disch:=first|decide|omega|(intros;exact rfl)|simp only[aa]) only[Ax,J8,go_sem,seval,aq])
  try simp[trim]
theorem ub (l:List Seg) (hl:l.length<=1000) (h:∀ g∈l,0<=g.n∧g.n<=(1000000000000:Nat)):call 147 [vl (l.map Seg.enc)] []=some (vi (gO Seg.n l),[]):=by
 apply ai Oh rfl;(simp(disch:=first|decide|omega|(intros;exact rfl)|simp only[aa]) only[J6,go_sem,seval,aq])
 refine aI (m:=0) (σ:=Nat) (fun i=>l.length-i) (fun i=>i<=l.length) (fun i=>[vl (l.map Seg.enc),vi (gO Seg.n (l.take i)),vi i]) (fun _=>[])
  (fun _=>(vi (gO Seg.n l),[])) ?_ 0 (Nat.zero_le _) _ _ cG
 intro i h1 R hR;have hb:=GI Seg.n l hl h i;by_cases hi:i<l.length
 ·have g1:(l.map Seg.enc)[i]?=some l[i].enc:=by rw[List.getElem?_map,List.getElem?_eq_getElem hi];rfl
  have hR':=hR (i+1) (by omega) (by omega)
  rw[yE _ l i hi] at hR';have hg:=h l[i] (List.getElem_mem hi);obtain⟨p,hp⟩:∃ p,p=l[i]:=⟨_,rfl⟩;rw[<- hp] at g1 hR' hg;generalize gO Seg.n (l.take i)=x at *;(simp(disch:=first|decide|omega|(intros;exact rfl)|simp only[aa]) only[zx,g1,Seg.enc,go_sem,seval,aq])
  exact hR' _ _ cG
 ·have ht:l.take i=l:=List.take_of_length_le (by omega)
  rw[ht];(simp(disch:=first|decide|omega|(intros;exact rfl)|simp only[aa]) only[zx,J6,go_sem,seval,aq])
  try simp[trim]
def oC (l:List Seg) (keep count:Int):Bool:=decide (1<l.length) && (decide (keep<gO Seg.size (l.take (l.length-1))) || decide (count<gO Seg.n l))
def segsB (l:List Seg):Prop:=l.length<=1000∧∀ g∈l,(0<=g.n∧g.n<=(1000000000000:Nat))∧(0<=g.size∧g.size<=(1000000000000:Nat))
theorem segsB.take {l:List Seg} (h:segsB l) (k:Nat):segsB (l.take k):=⟨Nat.le_trans (List.length_take_le' _ _) h.1,fun g hg=>h.2 g (List.mem_of_mem_take hg)⟩
theorem segsB.drop {l:List Seg} (h:segsB l) (k:Nat):segsB (l.drop k):=⟨Nat.le_trans (by simp) h.1,fun g hg=>h.2 g (List.mem_of_mem_drop hg)⟩
theorem Do (l:List Seg) (h:segsB l) (keep count:Int):call 139 [vl (l.map Seg.enc),vi keep,vi count] []=some (vb (oC l keep count),[]):=by
 apply ai NZ rfl;have hlen:=h.1;by_cases c1:(1:Int)<(l.length:Int)
 ·have h1:=ym (l.take (l.length-1)) (h.take _).1 (fun g hg=>((h.take _).2 g hg).2)
  have h2:=ub l h.1 (fun g hg=>(h.2 g hg).1)
  have ek:((l.length:Int)-1).toNat=l.length-1:=by omega
  have el:List.take (l.length-1) (l.map Seg.enc)=(l.take (l.length-1)).map Seg.enc:=by rw[List.map_take]
  have hok:bf 3 (l.map Seg.enc)=true:=bH Seg.len _;by_cases c2:keep<gO Seg.size (l.take (l.length-1))
  ·have e:oC l keep count=true:=by simp[oC,c2];omega
   rw[e];(simp(disch:=first|decide|omega|(intros;exact rfl)|simp only[aa]) only[Ix,decide_eq_true c1,ek,el,hok,h1,decide_eq_true c2,go_sem,seval,aq])
   try simp[trim]
  ·have e:oC l keep count=decide (count<gO Seg.n l):=by simp[oC,c2];omega
   rw[e];(simp(disch:=first|decide|omega|(intros;exact rfl)|simp only[aa]) only[Ix,decide_eq_true c1,ek,el,hok,h1,h2,decide_eq_false c2,go_sem,seval,aq])
   try simp[trim]
 ·have e:oC l keep count=false:=by simp[oC];omega
  rw[e];(simp(disch:=first|decide|omega|(intros;exact rfl)|simp only[aa]) only[Ix,decide_eq_false c1,go_sem,seval,aq])
  try simp[trim]
def jT (l:List Seg) (keep count:Int) (k:Nat):Bool := !oC (l.drop k) keep count
def dR (l:List Seg) (keep count:Int):Nat:=match (List.range l.length).find? (jT l keep count) with|some k=>k|none=>0
theorem tp (l:List Seg) (keep count:Int) (h:dR l keep count≠0):dR l keep count<l.length:=by
 unfold dR at *;cases hf:(List.range l.length).find? (jT l keep count) with
 | none=>rw[hf] at h;exact absurd rfl h
 | some k=>simpa using List.mem_of_find?_eq_some hf
theorem CP (l:List Seg) (h:segsB l) (keep count:Int):call 116 [vl (l.map Seg.enc),vi keep,vi count] []=some (vi (dR l keep count:Nat),[]):=by
 apply ai N1 rfl;have hlen:=h.1;have hok:bf 3 (l.map Seg.enc)=true:=bH Seg.len _;(simp(disch:=first|decide|omega|(intros;exact rfl)|simp only[aa]) only[LU,go_sem,seval,aq])
 refine aI (m:=0) (σ:=Nat) (fun i=>l.length-i) (fun i=>i<=l.length∧(List.range l.length).find? (jT l keep count)=((List.range l.length).drop i).find? (jT l keep count)) (fun i=>[vl (l.map Seg.enc),vi keep,vi count,vi i]) (fun _=>[])
  (fun _=>(vi (dR l keep count:Nat),[])) ?_ 0 ⟨Nat.zero_le _,rfl⟩ _ _ cG
 intro i ⟨h1,h2⟩ R hR;by_cases hi:i<l.length
 ·rw[List.drop_eq_getElem_cons (by simpa using hi),List.find?_cons,List.getElem_range] at h2
  have hm:=Do (l.drop i) (h.drop i) keep count;have hd:List.drop i (l.map Seg.enc)=(l.drop i).map Seg.enc:=by rw[List.map_drop]
  have htk:List.take l.length (l.map Seg.enc)=l.map Seg.enc:=List.take_of_length_le (by simp)
  cases hq:oC (l.drop i) keep count with
  | true =>
   have hs:jT l keep count i=false:=by simp[jT,hq]
   rw[hs] at h2;rw[hq] at hm;(simp(disch:=first|decide|omega|(intros;exact rfl)|simp only[aa]) only[vN,hok,htk,hd,hm,go_sem,seval,aq])
   exact hR (i+1) (by omega) ⟨by omega,h2⟩ _ _ cG
  | false =>
   have hs:jT l keep count i=true:=by simp[jT,hq]
   rw[hs] at h2;have e:dR l keep count=i:=by unfold dR;rw[h2]
   rw[hq] at hm;rw[e];(simp(disch:=first|decide|omega|(intros;exact rfl)|simp only[aa]) only[vN,hok,htk,hd,hm,go_sem,seval,aq])
   try simp[trim]
 ·rw[List.drop_eq_nil_of_le (by simpa using Nat.not_lt.1 hi)] at h2
  have e:dR l keep count=0:=by unfold dR;rw[h2];rfl
  rw[e];(simp(disch:=first|decide|omega|(intros;exact rfl)|simp only[aa]) only[vN,LU,go_sem,seval,aq])
  try simp[trim]
end Go.Proofs.YtghfhomfppbooaaGreat
