import Derived.Test.YtghfhomfppbooaaGreatT04
import Derived.Test.YtghfhomfppbooaaGreatVid
set_option linter.unusedSimpArgs false
set_option linter.unusedVariables false
namespace Go.Proofs.YtghfhomfppbooaaGreat
open Go.Vi
theorem rchange_spec (d:Dsk) (hL:0<=d.left∧d.left<9223372036854775808) (l:List Fil) (own:Int):call 70 [.agg d.l,vl (l.map Fil.enc),vi own] []=some (dskV (chgF d (l,own)),[]):=by
 apply enterS s70 rfl;obtain⟨fl,cp,ar,lf,dn⟩:=d;unfold chgF dskV;simp only at hL ⊢;cases dn with
 | true =>
  (simp(disch:=first|decide|omega|(intros;exact Eq.trans rfl rfl)|simp only[puri]) only[wkf,a70,Dsk.l,go_sem,seval,dis])
  try simp[trim]
 | false =>
  by_cases c:own=0
  ·subst c;cases ar with
   | false =>
    (simp(disch:=first|decide|omega|(intros;exact Eq.trans rfl rfl)|simp only[puri]) only[wkf,a70,Dsk.l,go_sem,seval,dis])
    try simp[trim]
   | true =>
    by_cases c2:lf=0
    ·subst c2;(simp(disch:=first|decide|omega|(intros;exact Eq.trans rfl rfl)|simp only[puri]) only[wkf,a70,Dsk.l,go_sem,seval,dis])
     try simp[trim]
    ·have e:(lf == 0)=false:=by simpa using c2
     (simp(disch:=first|decide|omega|(intros;exact Eq.trans rfl rfl)|simp only[puri]) only[wkf,a70,Dsk.l,c2,e,go_sem,seval,dis])
     try simp[trim,c2]
  ·(simp(disch:=first|decide|omega|(intros;exact Eq.trans rfl rfl)|simp only[puri]) only[wkf,a70,Dsk.l,c,go_sem,seval,dis])
   try simp[trim,c]
theorem woF_no {l:List Fil} (hs:srt l) {n:Txt} (h:hasF l n=false):woF l n=l:=by
 unfold woF;rw[List.filter_eq_self];intro f hf;simpa using has_false hs h f hf
theorem woF_yes {l:List Fil} (hs:srt l) {n:Txt} (h:hasF l n=true):woF l n=delF l (posF l n):=by
 obtain⟨hp,he⟩:=has_at h;have hne:∀ i (hi:i<l.length),i≠posF l n->l[i].name≠n:=fun i hi h1 h2=>h1 ((name_at_iff hs n i hi).1 h2).2
 have e:l=l.take (posF l n)++(l[posF l n]::l.drop (posF l n+1)):=by rw[<- List.drop_eq_getElem_cons hp,List.take_append_drop]
 unfold woF delF;conv=>lhs;rw[e]
 rw[List.filter_append,List.filter_cons_of_neg (by simp[he]),List.filter_eq_self.2,List.filter_eq_self.2]
 ·intro f hf;obtain⟨i,hi,rfl⟩:=List.getElem_of_mem hf;rw[List.getElem_drop];rw[List.length_drop] at hi;simpa using hne _ (by omega) (by omega)
 ·intro f hf;obtain⟨i,hi,rfl⟩:=List.getElem_of_mem hf;rw[List.getElem_take];rw[List.length_take] at hi;simpa using hne _ (by omega) (by omega)
theorem pos_del {l:List Fil} (hs:srt l) {n:Txt} (h:hasF l n=true):posF (delF l (posF l n)) n=posF l n:=by
 obtain⟨hp,he⟩:=has_at h;have h1:(l.take (posF l n)).countP (fun f=>bl f.name n)=posF l n:=by
  conv=>rhs;rw[<- Nat.min_eq_left (Nat.le_of_lt hp),<- List.length_take]
  rw[List.countP_eq_length];intro f hf;obtain⟨i,hi,rfl⟩:=List.getElem_of_mem hf;rw[List.getElem_take];rw[List.length_take] at hi;exact(pos_iff hs n i (by omega)).2 (by omega)
 have h2:(l.drop (posF l n+1)).countP (fun f=>bl f.name n)=0:=by
  rw[List.countP_eq_zero];intro f hf;obtain⟨i,hi,rfl⟩:=List.getElem_of_mem hf;rw[List.getElem_drop];rw[List.length_drop] at hi;intro h3;have:=(pos_iff hs n _ (by omega)).1 h3
  omega
 unfold delF;show List.countP _ _=_;rw[List.countP_append,h1,h2];rfl
theorem wiF_no {l:List Fil} (hs:srt l) (f:Fil) (h:hasF l f.name=false):wiF l f=insF l (posF l f.name) f:=by unfold wiF;rw[woF_no hs h]
theorem wiF_yes {l:List Fil} (hs:srt l) (f:Fil) (h:hasF l f.name=true):wiF l f=l.set (posF l f.name) f:=by
 unfold wiF;rw[woF_yes hs h,pos_del hs h];obtain⟨hp,he⟩:=has_at h;generalize posF l f.name=p at *;unfold insF delF;rw[List.set_eq_take_append_cons_drop,if_pos hp];have hl:(l.take p).length=p:=by simp;omega
 congr 1
 ·rw[List.take_append_of_le_length (by omega),List.take_of_length_le (by omega)]
 ·congr 1
  rw[List.drop_append_of_le_length (by omega),List.drop_of_length_le (by omega),List.nil_append]
theorem wiF_put {l:List Fil} (hs:srt l) (f:Fil):wiF l f=putAt l f:=by
 unfold putAt;cases h:hasF l f.name with
 | true=>rw[if_pos rfl];exact wiF_yes hs f h
 | false=>rw[if_neg (by simp)];exact wiF_no hs f h
theorem findI_no {l:List Fil} {n:Txt} (h:hasF l n=false):findI l n = -1:=by unfold findI;rw[h];rfl
theorem findI_yes {l:List Fil} {n:Txt} (h:hasF l n=true):findI l n=(posF l n:Nat):=by unfold findI;rw[if_pos h]
theorem rcreate_spec (d:Dsk) (hd:d.ok) (n:Txt):call 77 [.agg d.l,vs n] []=some (dskV (chgF d (crtR d.files n)),[]):=by
 apply enterS s77 rfl;have h1:=rnamed_spec n;have h2:=rfind_spec d hd.len hd.srt n;have h3:=with_spec d.files hd.len hd.srt ⟨n,[],0⟩;have h4:=rchange_spec d hd.left [] 1;have h5:=rchange_spec d hd.left [] 8;have h6:=rchange_spec d hd.left (wiF d.files ⟨n,[],0⟩) 0;unfold crtR;cases c1:namedF n with
 | false =>
  rw[c1] at h1;rw[if_neg (by simp)]
  generalize chgF d ([],1)=r at *;obtain⟨⟨f2,cp2,ar2,lf2,dn2⟩,e2⟩:=r;obtain⟨fl,cp,ar,lf,dn⟩:=d;simp only[dskV,Dsk.l,List.map_nil] at h4 ⊢;(simp(disch:=first|decide|omega|(intros;exact Eq.trans rfl rfl)|simp only[puri]) only[wkf,a77,h1,h4,go_sem,seval,dis])
  try simp[trim]
 | true =>
  rw[c1] at h1;rw[if_pos rfl];cases c2:hasF d.files n with
  | true =>
   rw[if_pos rfl];rw[findI_yes c2] at h2;generalize chgF d ([],8)=r at *;obtain⟨⟨f2,cp2,ar2,lf2,dn2⟩,e2⟩:=r;obtain⟨fl,cp,ar,lf,dn⟩:=d;simp only[dskV,Dsk.l,List.map_nil] at h2 h5 ⊢;(simp(disch:=first|decide|omega|(intros;exact Eq.trans rfl rfl)|simp only[puri]) only[wkf,a77,h1,h2,h5,go_sem,seval,dis])
   try simp[trim]
  | false =>
   rw[if_neg (by simp)]
   rw[findI_no c2] at h2;rw[wiF_no hd.srt ⟨n,[],0⟩ c2] at h3 h6;simp only[] at h3 h6;generalize insF d.files (posF d.files n) ⟨n,[],0⟩=q at *;generalize chgF d (q,0)=r at *;obtain⟨⟨f2,cp2,ar2,lf2,dn2⟩,e2⟩:=r;obtain⟨fl,cp,ar,lf,dn⟩:=d;simp only[dskV,Dsk.l,Fil.enc,List.map_cons,List.map_nil] at h2 h3 h6 ⊢;(simp(disch:=first|decide|omega|(intros;exact Eq.trans rfl rfl)|simp only[puri]) only[wkf,a77,h1,h2,h3,h6,go_sem,seval,dis])
   try simp[trim]
theorem rdelete_spec (d:Dsk) (hd:d.ok) (n:Txt):call 69 [.agg d.l,vs n] []=some (dskV (chgF d (delR d.files n)),[]):=by
 apply enterS s69 rfl;have h2:=rfind_spec d hd.len hd.srt n;have h3:=without_spec d.files hd.len n;have h4:=rchange_spec d hd.left [] 7;have h6:=rchange_spec d hd.left (woF d.files n) 0;unfold delR;cases c2:hasF d.files n with
 | false =>
  rw[if_neg (by simp)]
  rw[findI_no c2] at h2;generalize chgF d ([],7)=r at *;obtain⟨⟨f2,cp2,ar2,lf2,dn2⟩,e2⟩:=r;obtain⟨fl,cp,ar,lf,dn⟩:=d;simp only[dskV,Dsk.l,List.map_nil] at h2 h4 ⊢;(simp(disch:=first|decide|omega|(intros;exact Eq.trans rfl rfl)|simp only[puri]) only[wkf,a69,h2,h4,go_sem,seval,dis])
  try simp[trim]
 | true =>
  rw[if_pos rfl];rw[findI_yes c2] at h2;rw[woF_yes hd.srt c2] at h3 h6;generalize delF d.files (posF d.files n)=q at *;generalize chgF d (q,0)=r at *;obtain⟨⟨f2,cp2,ar2,lf2,dn2⟩,e2⟩:=r;obtain⟨fl,cp,ar,lf,dn⟩:=d;simp only[dskV,Dsk.l] at h2 h3 h6 ⊢;(simp(disch:=first|decide|omega|(intros;exact Eq.trans rfl rfl)|simp only[puri]) only[wkf,a69,h2,h3,h6,go_sem,seval,dis])
  try simp[trim]
theorem rsync_spec (d:Dsk) (hd:d.ok) (n:Txt):call 36 [.agg d.l,vs n] []=some (dskV (chgF d (synR d.files n)),[]):=by
 apply enterS s36 rfl;have h2:=rfind_spec d hd.len hd.srt n;have h4:=rchange_spec d hd.left [] 7;unfold synR;cases c2:hasF d.files n with
 | false =>
  rw[if_neg (by simp)]
  rw[findI_no c2] at h2;generalize chgF d ([],7)=r at *;obtain⟨⟨f2,cp2,ar2,lf2,dn2⟩,e2⟩:=r;obtain⟨fl,cp,ar,lf,dn⟩:=d;simp only[dskV,Dsk.l,List.map_nil] at h2 h4 ⊢;(simp(disch:=first|decide|omega|(intros;exact Eq.trans rfl rfl)|simp only[puri]) only[wkf,a36,h2,h4,go_sem,seval,dis])
  try simp[trim]
 | true =>
  rw[if_pos rfl];rw[findI_yes c2] at h2;obtain⟨hp,he⟩:=has_at c2;rw[upd_at hp];have g1:(d.files.map Fil.enc)[posF d.files n]?=some d.files[posF d.files n].enc:=by simp[hp]
  have hdl:=data_le d.files _ hp;have hu:=hd.used;have h3:=with_spec d.files hd.len hd.srt { d.files[posF d.files n] with sure:=d.files[posF d.files n].data.length }
  have h5:=wiF_yes hd.srt { d.files[posF d.files n] with sure:=d.files[posF d.files n].data.length } (by simp only[he];exact c2)
  rw[h5] at h3;simp only[he] at h3;have hK:=rchange_spec d hd.left (d.files.set (posF d.files n) { d.files[posF d.files n] with sure:=d.files[posF d.files n].data.length }) 0
  have hpl:=hd.len;generalize posF d.files n=p at *;simp only[he] at hK ⊢;generalize d.files[p]=f at *;obtain⟨fn,fd,fs⟩:=f;simp only at he h3 hK hdl ⊢;subst he;generalize d.files.set p ⟨fn,fd,fd.length⟩=q at *;generalize chgF d (q,0)=r at *;obtain⟨⟨f2,cp2,ar2,lf2,dn2⟩,e2⟩:=r;obtain⟨fl,cp,ar,lf,dn⟩:=d;simp only[dskV,Dsk.l,Fil.enc,List.map_cons,List.map_nil] at g1 h2 h3 hK hp hpl ⊢;(simp(disch:=first|decide|omega|(intros;exact Eq.trans rfl rfl)|simp only[puri]) only[wkf,a36,h2,g1,h3,hK,go_sem,seval,dis])
  try simp[trim]
theorem rappend_spec (d:Dsk) (hd:d.ok) (n x:Txt) (hx:x.length<=1000000000000):call 46 [.agg d.l,vs n,vs x] []=some (dskV (chgF d (appR d.files d.cap n x)),[]):=by
 apply enterS s46 rfl;have h2:=rfind_spec d hd.len hd.srt n;have h4:=rchange_spec d hd.left [] 7;have h9:=rchange_spec d hd.left [] 9;have hus:=rused_spec d hd.len hd.used;have hul:=hd.used;have hcp:=hd.cap;unfold appR;cases c2:hasF d.files n with
 | false =>
  rw[if_neg (by simp)]
  rw[findI_no c2] at h2;generalize chgF d ([],7)=r at *;obtain⟨⟨f2,cp2,ar2,lf2,dn2⟩,e2⟩:=r;obtain⟨fl,cp,ar,lf,dn⟩:=d;simp only[dskV,Dsk.l,List.map_nil] at h2 h4 ⊢;(simp(disch:=first|decide|omega|(intros;exact Eq.trans rfl rfl)|simp only[puri]) only[wkf,a46,h2,h4,go_sem,seval,dis])
  try simp[trim]
 | true =>
  rw[if_pos rfl];rw[findI_yes c2] at h2;obtain⟨hp,he⟩:=has_at c2;by_cases c:0<d.cap∧d.cap-(usedF d.files:Nat)<x.length
  ·rw[if_pos c];obtain⟨c3,c4⟩:=c;have c5:d.cap<(usedF d.files:Nat)+(x.length:Int):=by omega
   generalize chgF d ([],9)=r at *;obtain⟨⟨f2,cp2,ar2,lf2,dn2⟩,e2⟩:=r;obtain⟨fl,cp,ar,lf,dn⟩:=d;have hpl:=hd.len;simp only[dskV,Dsk.l,List.map_nil] at h2 h9 hus hul hcp c3 c4 c5 hp hpl ⊢;generalize posF fl n=p at *;(simp(disch:=first|decide|omega|(intros;exact Eq.trans rfl rfl)|simp only[puri]) only[wkf,a46,h2,c3,hus,c5,h9,go_sem,seval,dis])
   try simp[trim]
  ·rw[if_neg c,upd_at hp];have g1:(d.files.map Fil.enc)[posF d.files n]?=some d.files[posF d.files n].enc:=by simp[hp]
   have hdl:=data_le d.files _ hp;have h3:=with_spec d.files hd.len hd.srt { d.files[posF d.files n] with data:=d.files[posF d.files n].data++x }
   have h5:=wiF_yes hd.srt { d.files[posF d.files n] with data:=d.files[posF d.files n].data++x } (by simp only[he];exact c2)
   rw[h5] at h3;simp only[he] at h3;have hK:=rchange_spec d hd.left (d.files.set (posF d.files n) { d.files[posF d.files n] with data:=d.files[posF d.files n].data++x }) 0
   have hpl:=hd.len;generalize posF d.files n=p at *;simp only[he] at hK ⊢;generalize d.files[p]=f at *;obtain⟨fn,fd,fs⟩:=f;simp only at he h3 hK hdl ⊢;subst he;have hfx:fd.length+x.length<=9223372036854775807:=by omega
   obtain⟨fx,hfe⟩:∃ fx,fd++x=fx:=⟨_,rfl⟩;rw[hfe] at h3 hK ⊢;generalize d.files.set p ⟨fn,fx,fs⟩=q at *;generalize chgF d (q,0)=r at *;obtain⟨⟨f2,cp2,ar2,lf2,dn2⟩,e2⟩:=r;obtain⟨fl,cp,ar,lf,dn⟩:=d;simp only[dskV,Dsk.l,Fil.enc,List.map_cons,List.map_nil] at g1 h2 h3 hK hp hpl hus hul hcp c ⊢;by_cases c3:0<cp
   ·have c5:¬ cp<(usedF fl:Nat)+(x.length:Int):=by omega
    (simp(disch:=first|decide|omega|(intros;exact Eq.trans rfl rfl)|simp only[puri]) only[wkf,a46,h2,c3,hus,c5,g1,hfe,h3,hK,go_sem,seval,dis])
    try simp[trim]
   ·(simp(disch:=first|decide|omega|(intros;exact Eq.trans rfl rfl)|simp only[puri]) only[wkf,a46,h2,c3,g1,hfe,h3,hK,go_sem,seval,dis])
    try simp[trim]
theorem rrename_spec (d:Dsk) (hd:d.ok) (n t:Txt):call 119 [.agg d.l,vs n,vs t] []=some (dskV (chgF d (renR d.files n t)),[]):=by
 apply enterS s119 rfl;have h1:=rnamed_spec t;have h2:=rfind_spec d hd.len hd.srt n;have h4:=rchange_spec d hd.left [] 7;have h9:=rchange_spec d hd.left [] 1;unfold renR;cases c2:hasF d.files n with
 | false =>
  rw[if_neg (by simp)]
  rw[findI_no c2] at h2;generalize chgF d ([],7)=r at *;obtain⟨⟨f2,cp2,ar2,lf2,dn2⟩,e2⟩:=r;obtain⟨fl,cp,ar,lf,dn⟩:=d;simp only[dskV,Dsk.l,List.map_nil] at h2 h4 ⊢;(simp(disch:=first|decide|omega|(intros;exact Eq.trans rfl rfl)|simp only[puri]) only[wkf,a119,h2,h4,go_sem,seval,dis])
  try simp[trim]
 | true =>
  rw[if_pos rfl];rw[findI_yes c2] at h2;obtain⟨hp,he⟩:=has_at c2;cases c1:namedF t with
  | false =>
   rw[c1] at h1;rw[if_neg (by simp)]
   have hpl:=hd.len;generalize chgF d ([],1)=r at *;obtain⟨⟨f2,cp2,ar2,lf2,dn2⟩,e2⟩:=r;obtain⟨fl,cp,ar,lf,dn⟩:=d;simp only[dskV,Dsk.l,List.map_nil] at h2 h9 hp hpl ⊢;generalize posF fl n=p at *;(simp(disch:=first|decide|omega|(intros;exact Eq.trans rfl rfl)|simp only[puri]) only[wkf,a119,h2,h1,h9,go_sem,seval,dis])
   try simp[trim]
  | true =>
   rw[c1] at h1;rw[if_pos rfl];have g1:(d.files.map Fil.enc)[posF d.files n]?=some d.files[posF d.files n].enc:=by simp[hp]
   have h3:=without_spec d.files hd.len n;rw[woF_yes hd.srt c2] at h3;have hds:=srt_del hd.srt (posF d.files n);have hdl:=del_len _ _ hp;have hpl:=hd.len;have hna:nameAt d.files (posF d.files n) t={ d.files[posF d.files n] with name:=t }:=by unfold nameAt;rw[List.getElem?_eq_getElem hp]
   have h5:=with_spec (delF d.files (posF d.files n)) (by omega) hds (nameAt d.files (posF d.files n) t)
   rw[wiF_put hds] at h5;generalize putAt (delF d.files (posF d.files n)) (nameAt d.files (posF d.files n) t)=q at *;have hK:=rchange_spec d hd.left q 0;rw[hna] at h5;generalize delF d.files (posF d.files n)=dq at *;generalize posF d.files n=p at *;generalize d.files[p]=f at *;obtain⟨fn,fd,fs⟩:=f;generalize chgF d (q,0)=r at *;obtain⟨⟨f2,cp2,ar2,lf2,dn2⟩,e2⟩:=r;obtain⟨fl,cp,ar,lf,dn⟩:=d;simp only[dskV,Dsk.l,Fil.enc,List.map_cons,List.map_nil] at g1 h2 h3 h5 hK hp hpl ⊢;(simp(disch:=first|decide|omega|(intros;exact Eq.trans rfl rfl)|simp only[puri]) only[wkf,a119,h2,h1,g1,h3,h5,hK,go_sem,seval,dis])
   try simp[trim]
theorem rread_spec (d:Dsk) (hl:d.files.length<=1000000) (hs:srt d.files) (n:Txt):call 27 [.agg d.l,vs n] []=some (.tup [(false,[.d (.s (readF d.files n).1)]),(false,[.d (.i .i64 (readF d.files n).2)])],[]):=by
 apply enterS s27 rfl;have h2:=rfind_spec d hl hs n;cases c2:hasF d.files n with
 | false =>
  have hr:readF d.files n=([],7):=by
   unfold readF;unfold hasF at c2;cases hf:d.files[posF d.files n]? with
   | none=>rfl
   | some f =>
    rw[hf] at c2;simp only[] at c2 ⊢;rw[if_neg (by simpa using c2)]
  rw[findI_no c2] at h2;rw[hr];obtain⟨fl,cp,ar,lf,dn⟩:=d;simp only[Dsk.l] at h2 ⊢;(simp(disch:=first|decide|omega|(intros;exact Eq.trans rfl rfl)|simp only[puri]) only[wkf,a27,h2,go_sem,seval,dis])
  try simp[trim]
 | true =>
  obtain⟨hp,he⟩:=has_at c2;have hr:readF d.files n=(d.files[posF d.files n].data,0):=by
   unfold readF;rw[List.getElem?_eq_getElem hp];simp[he]
  rw[findI_yes c2] at h2;rw[hr];have g1:(d.files.map Fil.enc)[posF d.files n]?=some d.files[posF d.files n].enc:=by simp[hp]
  generalize posF d.files n=p at *;generalize d.files[p]=f at *;obtain⟨fn,fd,fs⟩:=f;obtain⟨fl,cp,ar,lf,dn⟩:=d;simp only[Dsk.l,Fil.enc] at g1 h2 hp hl ⊢;(simp(disch:=first|decide|omega|(intros;exact Eq.trans rfl rfl)|simp only[puri]) only[wkf,a27,h2,g1,go_sem,seval,dis])
  try simp[trim]
def tailN (n k:Nat):Txt:=(List.range k).map fun j=>UInt8.ofNat (digN n (14-k+j))
theorem tailN_succ (n k:Nat) (h:k<13):tailN n (k+1)=UInt8.ofNat (digN n (13-k))::tailN n k:=by
 unfold tailN;rw[List.range_succ_eq_map,List.map_cons,List.map_map];have e:14-(k+1)+0=13-k:=by omega
 rw[e];congr 1
 apply List.map_congr_left;intro j hj;simp only[Function.comp];have e2:14-(k+1)+(j+1)=14-k+j:=by omega
 rw[Nat.succ_eq_add_one,e2]
theorem digits_spec (n:Nat) (hn:n<=1099511627776):call 65 [vi n] []=some (vs (tailN n 13),[]):=by
 apply enterS s65 rfl;(simp(disch:=first|decide|omega|(intros;exact Eq.trans rfl rfl)|simp only[puri]) only[a65,go_sem,seval,dis])
 obtain⟨Z,hZ⟩:∃ Z:V,Z=vs (tailN n 13):=⟨_,rfl⟩;rw[<- hZ];refine loop_boxM (m:=0) (σ:=Nat) (fun i=>13-i) (fun i=>i<=13) (fun i=>[vi (n / 10 ^ i:Nat),vs (tailN n i),vi i])
  (fun _=>[]) (fun _=>(Z,[])) ?_ 0 (by decide) _ _ ?_
 rotate_left
 ·have e:n / 10 ^ 0=n:=by simp
  rw[e];exact hdM
 intro i hi R hR;by_cases c:i<13
 ·have ci:(i:Int)<13:=by omega
  have hK:=hR (i+1) (by omega) (by omega)
  rw[tailN_succ n i c] at hK;have hq:n / 10 ^ (i+1)=n / 10 ^ i / 10:=by rw[Nat.pow_succ,Nat.div_div_eq_div_mul]
  rw[hq] at hK;have hdg:digN n (13-i)=48+n / 10 ^ i % 10:=by
   unfold digN;have:13-(13-i)=i:=by omega
   rw[this]
  rw[hdg] at hK;have hqn:n / 10 ^ i<=n:=Nat.div_le_self _ _;have hlt:(tailN n i).length=i:=by simp[tailN]
  generalize tailN n i=T at *;generalize n / 10 ^ i=q at *;have hm:((q:Nat):Int).tmod 10=((q % 10:Nat):Int):=by rw[Int.tmod_eq_emod_of_nonneg (by omega)];omega
  have hd:((q:Nat):Int).tdiv 10=((q / 10:Nat):Int):=by rw[Int.tdiv_eq_ediv_of_nonneg (by omega)];omega
  have hw:IntKind.u8.wrap (48+((q % 10:Nat):Int))=((48+q % 10:Nat):Int):=by rw[wrap_u8 (by omega)];omega
  (simp(disch:=first|decide|omega|(intros;exact Eq.trans rfl rfl)|simp only[puri]) only[a65_0,ci,hm,hd,hw,bytesOf,hlt,go_sem,seval,dis])
  exact hK _ _ hdM
 ·have hie:i=13:=by omega
  subst hie;(simp(disch:=first|decide|omega|(intros;exact Eq.trans rfl rfl)|simp only[puri]) only[a65_0,go_sem,seval,dis])
  try rw[hZ]
  try simp[trim]
theorem rseg_spec {n:Int} (h:0<=n∧n<=1099511627776):call 33 [vi n] []=some (vs (fileN n),[]):=by
 have h1:=digits_spec n.toNat (by omega)
 have e:((n.toNat:Nat):Int)=n:=by omega
 rw[e] at h1;have e2:fileN n=115::tailN n.toNat 13:=by
  unfold fileN nameF tailN;congr 1
 have hl:(tailN n.toNat 13).length=13:=by simp[tailN]
 rw[e2];generalize tailN n.toNat 13=T at *;have c1:¬ n<0:=by omega
 have c2:¬ (1099511627776:Int)<n:=by omega
 apply enterS s33 rfl;(simp(disch:=first|decide|omega|(intros;exact Eq.trans rfl rfl)|simp only[puri]) only[a33,c1,c2,h1,hl,go_sem,seval,dis])
 try simp[trim]
set_option maxRecDepth 8000 in
theorem rman_spec (s:Sto) (hl:s.segs.length<=1000000):call 79 [.agg s.l] []=some (.agg s.man.l,[]):=by
 apply enterS s79 rfl;obtain⟨⟨fl,cp,ar,lf,dn⟩,ver,segs,next,sure,size,sum⟩:=s;simp only at hl;unfold Sto.man;(simp(disch:=first|decide|omega|(intros;exact Eq.trans rfl rfl)|simp only[puri]) only[a79,Sto.l,Dsk.l,Man.l,go_sem,seval,dis,vdr,A.kind,A.xs,optX,A.isN])
 obtain⟨Z,hZ⟩:∃ Z:V,Z=V.agg [.d (.i .i64 ver),.d (.l ((segs.map Seg.base).map eI)),.d (.i .i64 size),.d (.i .u32 sum)]:=⟨_,rfl⟩;rw[<- hZ];refine loop_boxM (m:=0) (σ:=Option Nat) (fun t=>match t with|none=>segs.length+1|some i=>segs.length-i) (fun t=>match t with|none=>True|some i=>i+1<=segs.length) (fun t=>match t with|none=>[V.one (.p 0 0),V.one (.p 1 0),V.one (.p 2 0),vi 0]|some i=>[V.one (.p 0 0),V.one (.p 1 0),V.one (.p 2 0),vi ((i+1:Nat):Int)])
  (fun t=>match t with|none=>[.cells [.d (.l (fl.map Fil.enc)),.d (.i .i64 cp),.d (.b ar),.d (.i .i64 lf),.d (.b dn),.d (.i .i64 ver),.d (.l (segs.map Seg.enc)),.d (.i .i64 next),.d (.i .i64 sure),.d (.i .i64 size),.d (.i .u32 sum)],.cells [.d (.i .i64 0),.ns,.d (.i .i64 0),.d (.i .u32 0)],.cells [.d (.i .i64 ver),.ns,.d (.i .i64 size),.d (.i .u32 sum)]]|some i=>[.cells [.d (.l (fl.map Fil.enc)),.d (.i .i64 cp),.d (.b ar),.d (.i .i64 lf),.d (.b dn),.d (.i .i64 ver),.d (.l (segs.map Seg.enc)),.d (.i .i64 next),.d (.i .i64 sure),.d (.i .i64 size),.d (.i .u32 sum)],.cells [.d (.i .i64 0),.ns,.d (.i .i64 0),.d (.i .u32 0)],.cells [.d (.i .i64 ver),.sl 3 1 0 (i+1),.d (.i .i64 size),.d (.i .u32 sum)],.arr 1 ((segs.take (i+1)).map fun g=>eI g.base) 0]) (fun _=>(Z,[])) ?_ none trivial _ _ ?_
 rotate_left
 ·exact hdM
 intro t hi R hR;cases t with
 | none =>
  by_cases c:0<segs.length
  ·have g1:(segs.map Seg.enc)[0]?=some segs[0].enc:=by simp[c]
   have ci:(0:Int)<(segs.length:Int):=by omega
   have hK:=hR (some 0) (by simp only[];omega) (by simp only[];omega)
   have e1:((segs.take (0+1)).map fun g=>eI g.base)=[eI segs[0].base]:=by cases segs with|nil=>cases c|cons a r=>rfl
   clear hR;simp only[] at hK ⊢;rw[e1] at hK;generalize segs[0]=g at *;obtain⟨gb,gn,gz⟩:=g;simp only[Seg.enc,eI] at g1 hK;(simp(disch:=first|decide|omega|(intros;exact Eq.trans rfl rfl)|simp only[puri]) only[a79_0,ci,g1,↓iso_appns_e,anK_ns,go_sem,seval,dis,vdr,A.kind,A.xs,optX,A.isN])
   exact hK _ _ hdM
  ·have e:segs=[]:=List.length_eq_zero_iff.1 (by omega)
   subst e;clear hR;simp only[];(simp(disch:=first|decide|omega|(intros;exact Eq.trans rfl rfl)|simp only[puri]) only[a79_0,go_sem,seval,dis,vdr,A.kind,A.xs,optX,A.isN])
   try rw[hZ]
   try simp[trim]
 | some i =>
  have hln:((segs.take (i+1)).map fun g=>eI g.base).length=i+1:=by simp;omega
  by_cases c:i+1<segs.length
  ·have g1:(segs.map Seg.enc)[i+1]?=some segs[i+1].enc:=by simp[c]
   have hK:=hR (some (i+1)) (by simp only[];omega) (by simp only[];omega)
   clear hR;simp only[] at hK ⊢;have e1:((segs.take (i+1+1)).map fun g=>eI g.base)=((segs.take (i+1)).map fun g=>eI g.base)++[eI segs[i+1].base]:=by
    rw[List.take_succ_eq_append_getElem c,List.map_append];rfl
   rw[e1] at hK;generalize ((segs.take (i+1)).map fun g=>eI g.base)=Q at *
   generalize segs[i+1]=g at *;obtain⟨gb,gn,gz⟩:=g;have ci:((i+1:Nat):Int)<(segs.length:Int):=by omega
   simp only[Seg.enc,eI] at g1 hK;(simp(disch:=first|decide|omega|(intros;exact Eq.trans rfl rfl)|simp only[puri]) only[a79_0,ci,g1,hln,↓iso_sto_e,stKo_p,go_sem,seval,dis,vdr,A.kind,A.xs,optX,A.isN])
   exact hK _ _ hdM
  ·have ci:¬ ((i+1:Nat):Int)<(segs.length:Int):=by omega
   have e:segs.take (i+1)=segs:=List.take_of_length_le (by omega)
   clear hR;simp only[];rw[e] at hln ⊢;have e3:(segs.map Seg.base).map eI=segs.map fun g=>eI g.base:=by simp
   rw[e3] at hZ;generalize (segs.map fun g=>eI g.base)=Q at *
   have e4:Q.take (i+1)=Q:=List.take_of_length_le (by omega)
   (simp(disch:=first|decide|omega|(intros;exact Eq.trans rfl rfl)|simp only[puri]) only[a79_0,ci,hln,e4,go_sem,seval,dis,vdr,A.kind,A.xs,optX,A.isN])
   rw[hZ];try simp[trim,V.refs,L.refs,Box.refs]
def prevI (segs:List Int) (i:Nat):Int:=match i with|0 => -1|i+1=>segs.getD i 0
set_option maxRecDepth 8000 in
set_option maxHeartbeats 2000000 in
theorem rmanRight_spec (m:Man) (hl:m.segs.length<=1000000):call 112 [.agg m.l] []=some (vb (manB m),[]):=by
 obtain⟨ver,segs,size,sum⟩:=m;unfold manB Man.l;simp only at hl ⊢;apply enterS s112 rfl;by_cases c1:1<=ver
 ·by_cases c2:ver<=1099511627776
  ·by_cases c3:1<=segs.length
   ·by_cases c4:segs.length<=64
    ·rw[decide_eq_true ⟨c1,c2,c3,c4⟩,Bool.true_and];obtain⟨Z,hZ⟩:∃ Z:V × Hp,Z=(vb (incB (-1) segs && (if segs.head?=some 0 then decide (size=0∧sum=0) else decide (0<size∧size<=65536))),[]):=⟨_,rfl⟩
     rw[<- hZ];have d1:¬ ver<1:=by omega
     have d2:¬ (1099511627776:Int)<ver:=by omega
     have d3:¬ (segs.length:Int)<1:=by omega
     have d4:¬ (64:Int)<segs.length:=by omega
     (simp(disch:=first|decide|omega|(intros;exact Eq.trans rfl rfl)|simp only[puri]) only[a112,d1,d2,d3,d4,go_sem,seval,dis])
     refine loop_boxM (m:=0) (σ:=Nat) (fun i=>segs.length-i) (fun i=>i<=segs.length∧incB (-1) segs=incB (prevI segs i) (segs.drop i)∧(0<i->0<=prevI segs i)) (fun i=>[V.one (.p 0 0),vi i])
      (fun _=>[.cells [.d (.i .i64 ver),.d (.l (segs.map eI)),.d (.i .i64 size),.d (.i .u32 sum)]]) (fun _=>Z) ?_ 0 ⟨Nat.zero_le _,rfl,by omega⟩ _ _ ?_
     rotate_left
     ·exact hdM
     rintro i ⟨hi,hinc,hpv⟩ R hR;by_cases c5:i<segs.length
     ·have c5i:(i:Int)<(segs.length:Int):=by omega
      have g1:(segs.map eI)[i]?=some (eI segs[i]):=by simp[c5]
      rw[incB_drop _ c5] at hinc;have hpn:prevI segs (i+1)=segs[i]:=by simp[prevI,c5]
      by_cases c6:segs[i]<0
      ·have hd:decide (prevI segs i<segs[i]∧segs[i]<=1099511627776)=false:=decide_eq_false (by
        rintro⟨h1,h2⟩;cases i with
        | zero=>simp only[prevI] at h1;omega
        | succ i=>have:=hpv (by omega);omega)
       rw[hd,Bool.false_and] at hinc;rw[hinc,Bool.false_and] at hZ;(simp(disch:=first|decide|omega|(intros;exact Eq.trans rfl rfl)|simp only[puri]) only[a112_0,c5i,g1,eI_len,eI_at,c6,go_sem,seval,dis])
       rw[hZ]
      ·by_cases c7:(1099511627776:Int)<segs[i]
       ·have hd:decide (prevI segs i<segs[i]∧segs[i]<=1099511627776)=false:=decide_eq_false (by omega)
        rw[hd,Bool.false_and] at hinc;rw[hinc,Bool.false_and] at hZ;(simp(disch:=first|decide|omega|(intros;exact Eq.trans rfl rfl)|simp only[puri]) only[a112_0,c5i,g1,eI_len,eI_at,c6,c7,go_sem,seval,dis])
        rw[hZ]
       ·cases i with
        | zero =>
         have hd:decide (prevI segs 0<segs[0]∧segs[0]<=1099511627776)=true:=decide_eq_true (by simp only[prevI];omega)
         rw[hd,Bool.true_and] at hinc;(simp(disch:=first|decide|omega|(intros;exact Eq.trans rfl rfl)|simp only[puri]) only[a112_0,c5i,g1,eI_len,eI_at,c6,c7,go_sem,seval,dis])
         exact hR (0+1) (by omega) ⟨by omega,by rw[hpn];exact hinc,fun _=>by rw[hpn];omega⟩ _ _ hdM
        | succ i =>
         have hpi:prevI segs (i+1)=segs[i]:=by simp[prevI,show i<segs.length by omega]
         rw[hpi] at hinc;have g2:(segs.map eI)[i]?=some (eI segs[i]):=by simp[show i<segs.length by omega]
         have hsub:((i+1:Nat):Int)-1=(i:Int):=by omega
         have c0:(0:Int)<((i+1:Nat):Int):=by omega
         by_cases c8:segs[i+1]<=segs[i]
         ·have hd:decide (segs[i]<segs[i+1]∧segs[i+1]<=1099511627776)=false:=decide_eq_false (by omega)
          rw[hd,Bool.false_and] at hinc;rw[hinc,Bool.false_and] at hZ;(simp(disch:=first|decide|omega|(intros;exact Eq.trans rfl rfl)|simp only[puri]) only[a112_0,c5i,g1,g2,eI_len,eI_at,c6,c7,c0,hsub,c8,go_sem,seval,dis])
          rw[hZ]
         ·have hd:decide (segs[i]<segs[i+1]∧segs[i+1]<=1099511627776)=true:=decide_eq_true (by omega)
          rw[hd,Bool.true_and] at hinc;(simp(disch:=first|decide|omega|(intros;exact Eq.trans rfl rfl)|simp only[puri]) only[a112_0,c5i,g1,g2,eI_len,eI_at,c6,c7,c0,hsub,c8,go_sem,seval,dis])
          exact hR (i+1+1) (by omega) ⟨by omega,by rw[hpn];exact hinc,fun _=>by rw[hpn];omega⟩ _ _ hdM
     ·rw[List.drop_of_length_le (by omega)] at hinc
      have hinc2:incB (-1) segs=true:=hinc;rw[hinc2,Bool.true_and] at hZ;have c5i:¬ (i:Int)<(segs.length:Int):=by omega
      have g0:(segs.map eI)[0]?=some (eI segs[0]):=by rw[List.getElem?_map,List.getElem?_eq_getElem c3];rfl
      have hh:segs.head?=some segs[0]:=by rw[List.head?_eq_getElem?];simp
      rw[hh] at hZ;by_cases z:segs[0]=0
      ·rw[if_pos (by rw[z])] at hZ
       by_cases z2:size=0
       ·by_cases z3:sum=0
        ·(simp(disch:=first|decide|omega|(intros;exact Eq.trans rfl rfl)|simp only[puri]) only[a112_0,c5i,g0,eI_len,eI_at,z,z2,z3,go_sem,seval,dis])
         rw[hZ];simp[z2,z3]
        ·(simp(disch:=first|decide|omega|(intros;exact Eq.trans rfl rfl)|simp only[puri]) only[a112_0,c5i,g0,eI_len,eI_at,z,z2,z3,go_sem,seval,dis])
         rw[hZ];simp[z2,z3]
       ·(simp(disch:=first|decide|omega|(intros;exact Eq.trans rfl rfl)|simp only[puri]) only[a112_0,c5i,g0,eI_len,eI_at,z,z2,go_sem,seval,dis])
        rw[hZ];simp[z2]
      ·rw[if_neg (by simpa using z)] at hZ
       by_cases z2:1<=size
       ·by_cases z3:size<=65536
        ·(simp(disch:=first|decide|omega|(intros;exact Eq.trans rfl rfl)|simp only[puri]) only[a112_0,c5i,g0,eI_len,eI_at,z,z2,z3,go_sem,seval,dis])
         rw[hZ];simp[z3];omega
        ·(simp(disch:=first|decide|omega|(intros;exact Eq.trans rfl rfl)|simp only[puri]) only[a112_0,c5i,g0,eI_len,eI_at,z,z2,z3,go_sem,seval,dis])
         rw[hZ];simp[z3]
       ·(simp(disch:=first|decide|omega|(intros;exact Eq.trans rfl rfl)|simp only[puri]) only[a112_0,c5i,g0,eI_len,eI_at,z,z2,go_sem,seval,dis])
        rw[hZ];simp;omega
    ·rw[decide_eq_false (fun h=>c4 h.2.2.2),Bool.false_and]
     have d1:¬ ver<1:=by omega
     have d2:¬ (1099511627776:Int)<ver:=by omega
     have d3:¬ (segs.length:Int)<1:=by omega
     have d4:(64:Int)<segs.length:=by omega
     (simp(disch:=first|decide|omega|(intros;exact Eq.trans rfl rfl)|simp only[puri]) only[a112,d1,d2,d3,d4,go_sem,seval,dis])
     try simp[trim]
   ·rw[decide_eq_false (fun h=>c3 h.2.2.1),Bool.false_and]
    have d1:¬ ver<1:=by omega
    have d2:¬ (1099511627776:Int)<ver:=by omega
    have d3:(segs.length:Int)<1:=by omega
    (simp(disch:=first|decide|omega|(intros;exact Eq.trans rfl rfl)|simp only[puri]) only[a112,d1,d2,d3,go_sem,seval,dis])
    try simp[trim]
  ·rw[decide_eq_false (fun h=>c2 h.2.1),Bool.false_and]
   have d1:¬ ver<1:=by omega
   have d2:(1099511627776:Int)<ver:=by omega
   (simp(disch:=first|decide|omega|(intros;exact Eq.trans rfl rfl)|simp only[puri]) only[a112,d1,d2,go_sem,seval,dis])
   try simp[trim]
 ·rw[decide_eq_false (fun h=>c1 h.1),Bool.false_and]
  have d1:ver<1:=by omega
  (simp(disch:=first|decide|omega|(intros;exact Eq.trans rfl rfl)|simp only[puri]) only[a112,d1,go_sem,seval,dis])
  try simp[trim]
set_option maxRecDepth 8000 in
set_option maxHeartbeats 2000000 in
theorem rmanPut_spec (m:Man) (hm:m.ok):call 64 [.agg m.l] []=some (.tup [(false,[.d (.s (manPut m).1)]),(false,[.d (.i .i64 (manPut m).2)])],[]):=by
 have hr:=rmanRight_spec m hm.len;unfold manPut;cases c:manB m with
 | false =>
  rw[c] at hr;apply enterS s64 rfl;simp only[Man.l] at hr;(simp(disch:=first|decide|omega|(intros;exact Eq.trans rfl rfl)|simp only[puri]) only[a64,Man.l,hr,go_sem,seval,dis])
  try simp[trim]
 | true =>
  rw[c] at hr;have hb:=manBody_len c;obtain⟨h1,h2,h3,h4⟩:=manB_t c;have hmem:=incB_mem _ _ h3;have hsum:=hm.sum;have hf:call 113 [.one (.d (.i .u32 m.sum))] []=some (vs (four (sumM m)),[]):=by
   have:=refFour_spec (sumM m);have e:(((sumM m).toNat:Nat):Int)=m.sum:=by unfold sumM;simp;omega
   rw[e] at this;exact this
  have hp:=refPutFrame_spec (manBody m) (by omega)
  unfold putV at hp;rw[if_pos ⟨hb.1,by omega⟩] at hp
  have q1:=refPutN (n:=m.ver) (by omega) (by omega)
  have q2:=refPutN (n:=(m.segs.length:Int)) (by omega) (by omega)
  rw[Int.toNat_natCast] at q2;have q3:=refPutN (n:=m.size) (by omega) (by omega)
  have l1:=(enc9 (n:=m.ver.toNat) (by omega)).2
  have l2:=(enc9 (n:=m.segs.length) (by omega)).2
  have l3:=(enc9 (n:=m.size.toNat) (by omega)).2
  unfold manText;have hbd:manBody m=((enc128 m.ver.toNat++enc128 m.segs.length)++numsE m.segs++enc128 m.size.toNat)++four (sumM m):=by
   unfold manBody;simp[numsE,List.append_assoc]
  rw[hbd] at hp hb ⊢;have h4l:=four_len (sumM m);generalize four (sumM m)=F4 at *;obtain⟨ver,segs,size,sum⟩:=m;simp only[Man.l] at *;apply enterS s64 rfl;obtain⟨W,hW⟩:∃ W:Txt,W=frameF (((enc128 ver.toNat++enc128 segs.length)++numsE segs++enc128 size.toNat)++F4):=⟨_,rfl⟩;rw[<- hW] at hp ⊢;have l12:(enc128 ver.toNat).length+(enc128 segs.length).length<=9223372036854775807:=by omega
  (simp(disch:=first|decide|omega|(intros;exact Eq.trans rfl rfl)|simp only[puri]) only[a64,hr,q1,q2,l12,go_sem,seval,dis])
  refine loop_boxM (m:=0) (σ:=Nat) (fun i=>segs.length-i) (fun i=>i<=segs.length) (fun i=>[V.one (.p 0 0),vs ((enc128 ver.toNat++enc128 segs.length)++numsE (segs.take i)),vi i])
   (fun _=>[.cells [.d (.i .i64 ver),.d (.l (segs.map eI)),.d (.i .i64 size),.d (.i .u32 sum)]]) (fun _=>(V.tup [(false,[.d (.s W)]),(false,[.d (.i .i64 0)])],[])) ?_ 0 (Nat.zero_le _) _ _ ?_
  rotate_left
  ·have e:(enc128 ver.toNat++enc128 segs.length)++numsE (segs.take 0)=enc128 ver.toNat++enc128 segs.length:=by simp[numsE]
   rw[e];exact hdM
  intro i hi R hR;have hln:=numsE_len (segs.take i) (fun n hn=>by have:=hmem n (List.mem_of_mem_take hn);omega)
  have hti:(segs.take i).length=i:=by simp;omega
  rw[hti] at hln;by_cases c5:i<segs.length
  ·have g1:(segs.map eI)[i]?=some (eI segs[i]):=by simp[c5]
   have hmi:=hmem _ (List.getElem_mem c5);have q4:=refPutN (n:=segs[i]) (by omega) (by omega)
   have l4:=(enc9 (n:=segs[i].toNat) (by omega)).2
   have hR':=hR (i+1) (by omega) (by omega)
   have e1:numsE (segs.take (i+1))=numsE (segs.take i)++enc128 segs[i].toNat:=by
    rw[List.take_succ_eq_append_getElem c5,numsE_app];simp[numsE]
   rw[e1,<- List.append_assoc] at hR';obtain⟨P,hP⟩:∃ P:Txt,P=(enc128 ver.toNat++enc128 segs.length)++numsE (segs.take i):=⟨_,rfl⟩;have hPl:P.length+(enc128 segs[i].toNat).length<=9223372036854775807:=by rw[hP,List.length_append,List.length_append];omega
   rw[<- hP] at hR' ⊢;(simp(disch:=first|decide|omega|(intros;exact Eq.trans rfl rfl)|simp only[puri]) only[a64_0,g1,eI_len,eI_at,q4,hPl,go_sem,seval,dis])
   exact hR' _ _ hdM
  ·have hin:i=segs.length:=by omega
   subst hin;rw[List.take_length] at hln ⊢;obtain⟨P,hP⟩:∃ P:Txt,P=(enc128 ver.toNat++enc128 segs.length)++numsE segs:=⟨_,rfl⟩;have hPl:P.length+(enc128 size.toNat).length<=9223372036854775807:=by rw[hP,List.length_append,List.length_append];omega
   have hPl2:(P++enc128 size.toNat).length+F4.length<=9223372036854775807:=by rw[hP,List.length_append,List.length_append,List.length_append];omega
   rw[<- hP] at hp ⊢;obtain⟨P2,hP2⟩:∃ P2:Txt,P2=P++enc128 size.toNat:=⟨_,rfl⟩;rw[<- hP2] at hp hPl2;(simp(disch:=first|decide|omega|(intros;exact Eq.trans rfl rfl)|simp only[puri]) only[a64_0,q3,hPl,<- hP2,hPl2,hf,hp,go_sem,seval,dis])
   try simp[trim]
theorem read_has (l:List Fil) (n:Txt):(readF l n).2=0↔hasF l n=true:=by
 unfold readF hasF;cases l[posF l n]? with
 | none=>simp
 | some f =>
  simp only[];by_cases h:f.name=n
  ·simp[h]
  ·simp[h]
def tailT (tx:Txt) (d:Dsk):Dsk × Int :=
 let c:=chgF d (crtR d.files [110])
 if c.2≠0 then c else
  let p:=chgF c.1 (appR c.1.files c.1.cap [110] tx)
  if p.2=9 then(let x:=chgF p.1 (delR p.1.files [110]);if x.2=0 then(x.1,9) else x) else
   if p.2≠0 then p else
    let y:=chgF p.1 (synR p.1.files [110])
    if y.2≠0 then y else chgF y.1 (renR y.1.files [110] [109])
def rswapT (m:Man) (d:Dsk):Dsk × Int :=
 if(manPut m).2≠0 then(d,(manPut m).2) else
  if hasF d.files [110]=true then(let x:=chgF d (delR d.files [110]);if x.2≠0 then x else tailT (manPut m).1 x.1) else tailT (manPut m).1 d
theorem stp_no {s:Dsk × Int} (h:s.2≠0) (f:Dsk->Dsk × Int):stp s f=s:=by unfold stp;rw[if_neg h]
theorem stp_ye (d:Dsk) (f:Dsk->Dsk × Int):stp (d,0) f=f d:=by unfold stp;rw[if_pos rfl]
theorem pair_eta {s:Dsk × Int} {e:Int} (h:s.2=e):s=(s.1,e):=by rw[<- h]
theorem tail_eq (tx:Txt) (d:Dsk):(if(crtS [110] (d,0)).2≠0 then crtS [110] (d,0) else renS [110] [109] (synS [110] (unlS [110] (appS [110] tx (crtS [110] (d,0))))))=tailT tx d:=by
 unfold tailT;have e0:crtS [110] (d,0)=chgF d (crtR d.files [110]):=stp_ye _ _;rw[e0];simp only[];generalize chgF d (crtR d.files [110])=c;by_cases h1:c.2=0
 ·rw[if_neg (by simp[h1]),if_neg (by simp[h1]),pair_eta h1]
  have e1:appS [110] tx (c.1,0)=chgF c.1 (appR c.1.files c.1.cap [110] tx):=stp_ye _ _;rw[e1];simp only[];generalize chgF c.1 (appR c.1.files c.1.cap [110] tx)=p;by_cases h2:p.2=9
  ·rw[if_pos h2];unfold unlS;rw[if_neg (by simp[h2])]
   have e2:delS [110] (p.1,0)=chgF p.1 (delR p.1.files [110]):=stp_ye _ _;rw[e2];generalize chgF p.1 (delR p.1.files [110])=x;by_cases h3:x.2=0
   ·rw[if_pos h3];rfl
   ·rw[if_neg h3];unfold renS synS;rw[stp_no (s:=x) h3,stp_no h3]
  ·rw[if_neg h2];unfold unlS;rw[if_pos h2];by_cases h3:p.2=0
   ·rw[if_neg (by simp[h3]),pair_eta h3]
    have e2:synS [110] (p.1,0)=chgF p.1 (synR p.1.files [110]):=stp_ye _ _;rw[e2];simp only[];generalize chgF p.1 (synR p.1.files [110])=y;by_cases h4:y.2=0
    ·rw[if_neg (by simp[h4]),pair_eta h4]
     exact stp_ye _ _
    ·rw[if_pos h4];exact stp_no h4 _
   ·rw[if_pos h3];unfold renS synS;rw[stp_no h3,stp_no h3]
 ·rw[if_pos h1,if_pos h1]
theorem swap_eq (m:Man) (d:Dsk):swapS m (d,0)=rswapT m d:=by
 unfold swapS rswapT;simp only[if_true];by_cases h1:(manPut m).2=0
 ·rw[if_neg (c:=(manPut m).2≠0) (by simp[h1])]
  by_cases h2:hasF d.files [110]=true
  ·rw[if_pos h2,if_pos ((read_has _ _).2 h2),h1];have e0:delS [110] (d,0)=chgF d (delR d.files [110]):=stp_ye _ _;rw[e0];generalize chgF d (delR d.files [110])=x;by_cases h3:x.2=0
   ·rw[if_neg (c:=x.2≠0) (by simp[h3]),pair_eta h3];exact tail_eq _ _
   ·rw[if_pos (c:=x.2≠0) h3];have e1:crtS [110] x=x:=stp_no h3 _;simp only[e1];rw[if_pos (c:=x.2≠0) h3]
  ·rw[if_neg h2,if_neg (fun h=>h2 ((read_has _ _).1 h)),h1]
   exact tail_eq _ _
 ·rw[if_pos h1];have e0:delS [110] (d,(manPut m).2)=(d,(manPut m).2):=stp_no h1 _;rw[e0,ite_self];have e1:crtS [110] (d,(manPut m).2)=(d,(manPut m).2):=stp_no h1 _;rw[e1,if_pos h1]
set_option maxRecDepth 8000 in
set_option maxHeartbeats 2000000 in
theorem rswap_spec (d:Dsk) {k u:Nat} (hd:okN k u d) (hk:k<=900000) (hu:u<=900000000000) (m:Man) (hm:m.ok):call 78 [.agg d.l,.agg m.l] []=some (dskV (swapS m (d,0)),[]):=by
 rw[swap_eq];have q0:=rmanPut_spec m hm;have hpl:=manPut_len m;unfold rswapT;generalize manPut m=p0 at *;obtain⟨tx,pe⟩:=p0;obtain⟨mv,ms,mz,mm⟩:=m;have q1:=rfind_spec d (Nat.le_trans hd.len (by omega)) hd.srt [110]
 have q2:=rdelete_spec d (hd.ok (by omega) (by omega)) [110]
 have k1:okN k u (chgF d (delR d.files [110])).1:=del_okN (s:=(d,0)) hd [110];simp only[Man.l] at q0 hpl ⊢;apply enterS s78 rfl;by_cases c0:pe=0
 ·subst c0;rw[if_neg (by simp)]
  cases c1:hasF d.files [110] with
  | true =>
   rw[if_pos rfl];rw[findI_yes c1] at q1;generalize posF d.files [110]=pp at *;generalize chgF d (delR d.files [110])=x at *;by_cases c2:x.2=0
   ·rw[if_neg (by simp[c2])]
    rw[pair_eta c2] at q2;generalize x.1=y at *;have t1:=rcreate_spec y (k1.ok (by omega) (by omega)) [110]
    have k2:=crt_ok (s:=(y,0)) k1 [110];have ec:crtS [110] (y,0)=chgF y (crtR y.files [110]):=stp_ye _ _;rw[ec] at k2;unfold tailT;simp only[];generalize chgF y (crtR y.files [110])=c at *;by_cases c3:c.2=0
    ·rw[if_neg (by simp[c3])]
     have t2:=rappend_spec c.1 (k2.ok (by omega) (by omega)) [110] tx (by omega)
     have k3:=app_ok (s:=(c.1,0)) k2 [110] tx;have ea:appS [110] tx (c.1,0)=chgF c.1 (appR c.1.files c.1.cap [110] tx):=stp_ye _ _;rw[ea] at k3;generalize chgF c.1 (appR c.1.files c.1.cap [110] tx)=p at *;have t3:=rdelete_spec p.1 (k3.ok (by omega) (by omega)) [110]
     have t4:=rsync_spec p.1 (k3.ok (by omega) (by omega)) [110]
     have k4:=syn_ok (s:=(p.1,0)) k3 [110];have es:synS [110] (p.1,0)=chgF p.1 (synR p.1.files [110]):=stp_ye _ _;rw[es] at k4;generalize chgF p.1 (delR p.1.files [110])=r at *;generalize chgF p.1 (synR p.1.files [110])=w at *;have t5:=rrename_spec w.1 (k4.ok (by omega) (by omega)) [110] [109]
     generalize chgF w.1 (renR w.1.files [110] [109])=v at *;obtain⟨⟨f1,cp1,ar1,lf1,dn1⟩,e1⟩:=c;obtain⟨⟨f2,cp2,ar2,lf2,dn2⟩,e2⟩:=p;obtain⟨⟨f3,cp3,ar3,lf3,dn3⟩,e3⟩:=r;obtain⟨⟨f4,cp4,ar4,lf4,dn4⟩,e4⟩:=w;obtain⟨⟨f5,cp5,ar5,lf5,dn5⟩,e5⟩:=v;obtain⟨fy,cpy,ary,lfy,dny⟩:=y;obtain⟨fl,cp,ar,lf,dn⟩:=d;simp only[dskV,Dsk.l] at q1 q2 t1 t2 t3 t4 t5 c3 ⊢;subst c3;by_cases c4:e2=9
     ·subst c4;rw[if_pos rfl];by_cases c5:e3=0
      ·subst c5;(simp(disch:=first|decide|omega|(intros;exact Eq.trans rfl rfl)|simp only[puri]) only[wkf,a78,q0,q1,q2,t1,t2,t3,go_sem,seval,dis])
       try simp[trim]
      ·(simp(disch:=first|decide|omega|(intros;exact Eq.trans rfl rfl)|simp only[puri]) only[wkf,a78,q0,q1,q2,t1,t2,t3,c5,go_sem,seval,dis])
       try simp[trim,c5]
     ·rw[if_neg c4];by_cases c5:e2=0
      ·subst c5;by_cases c6:e4=0
       ·subst c6;(simp(disch:=first|decide|omega|(intros;exact Eq.trans rfl rfl)|simp only[puri]) only[wkf,a78,q0,q1,q2,t1,t2,t4,t5,go_sem,seval,dis])
        try simp[trim]
       ·(simp(disch:=first|decide|omega|(intros;exact Eq.trans rfl rfl)|simp only[puri]) only[wkf,a78,q0,q1,q2,t1,t2,t4,c6,go_sem,seval,dis])
        try simp[trim,c6]
      ·(simp(disch:=first|decide|omega|(intros;exact Eq.trans rfl rfl)|simp only[puri]) only[wkf,a78,q0,q1,q2,t1,t2,c4,c5,go_sem,seval,dis])
       try simp[trim,c4,c5]
    ·rw[if_pos c3];obtain⟨⟨f1,cp1,ar1,lf1,dn1⟩,e1⟩:=c;obtain⟨fy,cpy,ary,lfy,dny⟩:=y;obtain⟨fl,cp,ar,lf,dn⟩:=d;simp only[dskV,Dsk.l] at q1 q2 t1 c3 ⊢;(simp(disch:=first|decide|omega|(intros;exact Eq.trans rfl rfl)|simp only[puri]) only[wkf,a78,q0,q1,q2,t1,c3,go_sem,seval,dis])
     try simp[trim,c3]
   ·rw[if_pos c2];obtain⟨⟨fx,cpx,arx,lfx,dnx⟩,ex⟩:=x;obtain⟨fl,cp,ar,lf,dn⟩:=d;simp only[dskV,Dsk.l] at q1 q2 c2 ⊢;(simp(disch:=first|decide|omega|(intros;exact Eq.trans rfl rfl)|simp only[puri]) only[wkf,a78,q0,q1,q2,c2,go_sem,seval,dis])
    try simp[trim,c2]
  | false =>
   rw[if_neg (by simp)]
   rw[findI_no c1] at q1;clear q2 k1;have k1:=hd;obtain⟨y,hy⟩:∃ y,y=d:=⟨_,rfl⟩;have q2:True:=trivial;rw[<- hy] at k1;have hyd:tailT tx d=tailT tx y:=by rw[hy]
   rw[hyd];have t1:=rcreate_spec y (k1.ok (by omega) (by omega)) [110]
   have k2:=crt_ok (s:=(y,0)) k1 [110];have ec:crtS [110] (y,0)=chgF y (crtR y.files [110]):=stp_ye _ _;rw[ec] at k2;unfold tailT;simp only[];generalize chgF y (crtR y.files [110])=c at *;by_cases c3:c.2=0
   ·rw[if_neg (by simp[c3])]
    have t2:=rappend_spec c.1 (k2.ok (by omega) (by omega)) [110] tx (by omega)
    have k3:=app_ok (s:=(c.1,0)) k2 [110] tx;have ea:appS [110] tx (c.1,0)=chgF c.1 (appR c.1.files c.1.cap [110] tx):=stp_ye _ _;rw[ea] at k3;generalize chgF c.1 (appR c.1.files c.1.cap [110] tx)=p at *;have t3:=rdelete_spec p.1 (k3.ok (by omega) (by omega)) [110]
    have t4:=rsync_spec p.1 (k3.ok (by omega) (by omega)) [110]
    have k4:=syn_ok (s:=(p.1,0)) k3 [110];have es:synS [110] (p.1,0)=chgF p.1 (synR p.1.files [110]):=stp_ye _ _;rw[es] at k4;generalize chgF p.1 (delR p.1.files [110])=r at *;generalize chgF p.1 (synR p.1.files [110])=w at *;have t5:=rrename_spec w.1 (k4.ok (by omega) (by omega)) [110] [109]
    generalize chgF w.1 (renR w.1.files [110] [109])=v at *;obtain⟨⟨f1,cp1,ar1,lf1,dn1⟩,e1⟩:=c;obtain⟨⟨f2,cp2,ar2,lf2,dn2⟩,e2⟩:=p;obtain⟨⟨f3,cp3,ar3,lf3,dn3⟩,e3⟩:=r;obtain⟨⟨f4,cp4,ar4,lf4,dn4⟩,e4⟩:=w;obtain⟨⟨f5,cp5,ar5,lf5,dn5⟩,e5⟩:=v;subst hy;obtain⟨fl,cp,ar,lf,dn⟩:=y;simp only[dskV,Dsk.l] at q1 t1 t2 t3 t4 t5 c3 ⊢;subst c3;by_cases c4:e2=9
    ·subst c4;rw[if_pos rfl];by_cases c5:e3=0
     ·subst c5;(simp(disch:=first|decide|omega|(intros;exact Eq.trans rfl rfl)|simp only[puri]) only[wkf,a78,q0,q1,t1,t2,t3,go_sem,seval,dis])
      try simp[trim]
     ·(simp(disch:=first|decide|omega|(intros;exact Eq.trans rfl rfl)|simp only[puri]) only[wkf,a78,q0,q1,t1,t2,t3,c5,go_sem,seval,dis])
      try simp[trim,c5]
    ·rw[if_neg c4];by_cases c5:e2=0
     ·subst c5;by_cases c6:e4=0
      ·subst c6;(simp(disch:=first|decide|omega|(intros;exact Eq.trans rfl rfl)|simp only[puri]) only[wkf,a78,q0,q1,t1,t2,t4,t5,go_sem,seval,dis])
       try simp[trim]
      ·(simp(disch:=first|decide|omega|(intros;exact Eq.trans rfl rfl)|simp only[puri]) only[wkf,a78,q0,q1,t1,t2,t4,c6,go_sem,seval,dis])
       try simp[trim,c6]
     ·(simp(disch:=first|decide|omega|(intros;exact Eq.trans rfl rfl)|simp only[puri]) only[wkf,a78,q0,q1,t1,t2,c4,c5,go_sem,seval,dis])
      try simp[trim,c4,c5]
   ·rw[if_pos c3];obtain⟨⟨f1,cp1,ar1,lf1,dn1⟩,e1⟩:=c;subst hy;obtain⟨fl,cp,ar,lf,dn⟩:=y;simp only[dskV,Dsk.l] at q1 t1 c3 ⊢;(simp(disch:=first|decide|omega|(intros;exact Eq.trans rfl rfl)|simp only[puri]) only[wkf,a78,q0,q1,t1,c3,go_sem,seval,dis])
    try simp[trim,c3]
 ·rw[if_pos c0];obtain⟨fl,cp,ar,lf,dn⟩:=d;simp only[dskV,Dsk.l] at ⊢;(simp(disch:=first|decide|omega|(intros;exact Eq.trans rfl rfl)|simp only[puri]) only[wkf,a78,q0,c0,go_sem,seval,dis])
  try simp[trim,c0]
theorem rlast_spec (s:Sto) (g:Seg) (hl:s.segs.length<=1000000) (hg:s.segs.getLast?=some g) (hb:0<=g.base∧g.base<=1099511627776):call 47 [.agg s.l] []=some (vs (fileN g.base),[]):=by
 have q:=rseg_spec hb;apply enterS s47 rfl;obtain⟨⟨fl,cp,ar,lf,dn⟩,ver,segs,next,sure,size,sum⟩:=s;simp only at hg hl;have h0:0<segs.length:=by cases segs <;> simp_all
 have h2:((segs.length:Int)-1).toNat=segs.length-1:=by omega
 have g1:(segs.map Seg.enc)[segs.length-1]?=some g.enc:=by rw[List.getElem?_map,<- List.getLast?_eq_getElem?,hg];rfl
 generalize fileN g.base=N at *;obtain⟨gb,gn,gz⟩:=g;simp only[Seg.enc] at g1 q;(simp(disch:=first|decide|omega|(intros;exact Eq.trans rfl rfl)|simp only[puri]) only[a47,Sto.l,Dsk.l,h2,g1,q,go_sem,seval,dis])
 try simp[trim]
theorem rsync_sto {k u:Nat} (s:Sto) (h:okS k u s) (hk:k<=800000) (hu:u<=800000000000):call 72 [.agg s.l] []=some (stoV (syncT s),[]):=by
 have q1:=rlast_spec s s.last (by have:=h.len;omega) (last_q h.len.1) (h.seg _ (last_mem h.len.1)).1
 have q3:=rsync_spec s.disk (h.dsk.ok (by omega) (by omega)) (fileN s.last.base)
 apply enterS s72 rfl;unfold syncT;simp only[];generalize chgF s.disk (synR s.disk.files (fileN s.last.base))=r at *;generalize fileN s.last.base=N at *;obtain⟨⟨fl,cp,ar,lf,dn⟩,ver,segs,next,sure,size,sum⟩:=s;obtain⟨⟨f2,cp2,ar2,lf2,dn2⟩,e2⟩:=r;simp only[Sto.l,Dsk.l,dskV,List.cons_append,List.nil_append] at q1 q3 ⊢;by_cases c:e2=0
 ·subst c;(simp(disch:=first|decide|omega|(intros;exact Eq.trans rfl rfl)|simp only[puri]) only[wkf,a72,q1,q3,stoV,Sto.l,Dsk.l,go_sem,seval,dis,vdr,A.kind,A.xs,optX,A.isN])
  try simp[trim]
 ·(simp(disch:=first|decide|omega|(intros;exact Eq.trans rfl rfl)|simp only[puri]) only[wkf,a72,q1,q3,c,stoV,Sto.l,Dsk.l,go_sem,seval,dis,vdr,A.kind,A.xs,optX,A.isN])
  try simp[trim,c]
theorem rnew_eq (d:Dsk):createT d=(let c:=chgF d (crtR d.files (fileN 0));if c.2≠0 then(⟨c.1,0,[],0,0,0,0⟩,c.2) else
  let w:=swapS ⟨1,[0],0,0⟩ (c.1,0);if w.2≠0 then(⟨w.1,0,[],0,0,0,0⟩,w.2) else(⟨w.1,1,[⟨0,0,0⟩],0,0,0,0⟩,0)):=by
 unfold createT;have e0:crtS (fileN 0) (d,0)=chgF d (crtR d.files (fileN 0)):=stp_ye _ _;rw[e0];simp only[];generalize chgF d (crtR d.files (fileN 0))=c;by_cases h:c.2=0
 ·rw[if_pos h,if_neg (show ¬ (c.2≠0) from by simp[h]),<- pair_eta h]
  generalize swapS ⟨1,[0],0,0⟩ c=w;by_cases h2:w.2=0
  ·simp[h2]
  ·simp[h2]
 ·simp[h]
set_option maxRecDepth 8000 in
theorem rnew_spec {k u:Nat} (d:Dsk) (hd:okN k u d) (hk:k<=800000) (hu:u<=800000000000):call 61 [.agg d.l] []=some (stoV (createT d),[]):=by
 rw[rnew_eq];have q1:=rseg_spec (n:=0) ⟨by decide,by decide⟩
 have q2:=rcreate_spec d (hd.ok (by omega) (by omega)) (fileN 0)
 have k1:okN (k+1) u (chgF d (crtR d.files (fileN 0))).1:=by
  have:=crt_ok (s:=(d,0)) hd (fileN 0);exact this
 have q3:=fun dd:Dsk=>rman_spec ⟨dd,1,[⟨0,0,0⟩],0,0,0,0⟩ (by simp)
 simp only[];generalize chgF d (crtR d.files (fileN 0))=c at *;have q3:=q3 c.1;have q4:=rswap_spec c.1 k1 (by omega) (by omega) ⟨1,[0],0,0⟩ ⟨by simp,by simp⟩
 generalize swapS ⟨1,[0],0,0⟩ (c.1,0)=w at *;apply enterS s61 rfl;generalize fileN 0=N at *;obtain⟨fl,cp,ar,lf,dn⟩:=d;obtain⟨⟨f1,cp1,ar1,lf1,dn1⟩,e1⟩:=c;obtain⟨⟨f3,cp3,ar3,lf3,dn3⟩,e3⟩:=w;simp only[dskV,Dsk.l,Sto.l,Seg.enc,Sto.man,Man.l,List.cons_append,List.nil_append,List.map_cons,List.map_nil,eI] at q1 q2 q3 q4 ⊢;by_cases c1:e1=0
 ·subst c1;by_cases c3:e3=0
  ·subst c3;(simp(disch:=first|decide|omega|(intros;exact Eq.trans rfl rfl)|simp only[puri]) only[wkf,a61,q1,q2,↓iso_callzA_e,czKA_a,splitS,allD,czR_some,q3,q4,go_sem,seval,dis,vdr,A.kind,A.xs,optX,A.isN])
   try simp[trim,stoV,Sto.l,Dsk.l,Seg.enc]
  ·(simp(disch:=first|decide|omega|(intros;exact Eq.trans rfl rfl)|simp only[puri]) only[wkf,a61,q1,q2,↓iso_callzA_e,czKA_a,splitS,allD,czR_some,q3,q4,c3,go_sem,seval,dis,vdr,A.kind,A.xs,optX,A.isN])
   try simp[trim,stoV,Sto.l,Dsk.l,Seg.enc,c3]
 ·(simp(disch:=first|decide|omega|(intros;exact Eq.trans rfl rfl)|simp only[puri]) only[wkf,a61,q1,q2,c1,go_sem,seval,dis,vdr,A.kind,A.xs,optX,A.isN])
  try simp[trim,stoV,Sto.l,Dsk.l,Seg.enc,c1]
def rrollD (s:Sto):Dsk × Int :=
 let c:=chgF s.disk (crtR s.disk.files (fileN s.next))
 if c.2≠0 then c else
  let w:=swapS (rollX s).man (c.1,0)
  if w.2=9 then(let r:=chgF w.1 (delR w.1.files (fileN s.next));if r.2=0 then(r.1,9) else r) else w
theorem rrollD_eq (s:Sto):rollD s=rrollD s:=by
 unfold rollD rrollD;have e0:crtS (fileN s.next) (s.disk,0)=chgF s.disk (crtR s.disk.files (fileN s.next)):=stp_ye _ _;rw[e0];simp only[];generalize chgF s.disk (crtR s.disk.files (fileN s.next))=c;by_cases h:c.2=0
 ·rw[if_pos h,if_neg (show ¬ (c.2≠0) from by simp[h]),<- pair_eta h]
  generalize swapS (rollX s).man c=w;unfold unlS;have e1:delS (fileN s.next) (w.1,0)=chgF w.1 (delR w.1.files (fileN s.next)):=stp_ye _ _;rw[e1];by_cases h2:w.2=9
  ·simp[h2]
  ·simp[h2]
 ·simp[h]
set_option maxRecDepth 8000 in
set_option maxHeartbeats 2000000 in
theorem rroll_spec {k u:Nat} (s:Sto) (h:okS k u s) (hk:k<=800000) (hu:u<=800000000000):call 44 [.agg s.l] []=some (stoV (rollT s),[]):=by
 have q1:=rsync_sto s h hk hu;have h1:=syncT_ok h;have hsl:(syncT s).1.segs=s.segs:=rfl;apply enterS s44 rfl;unfold rollT;by_cases c0:64<=s.segs.length
 ·rw[if_pos c0];obtain⟨⟨fl,cp,ar,lf,dn⟩,ver,segs,next,sure,size,sum⟩:=s;simp only at c0;have c1:(64:Int)<=segs.length:=by omega
  (simp(disch:=first|decide|omega|(intros;exact Eq.trans rfl rfl)|simp only[puri]) only[wkf,a44,c1,stoV,Sto.l,Dsk.l,go_sem,seval,dis])
  try simp[trim]
 ·rw[if_neg c0];have c1:¬ (64:Int)<=s.segs.length:=by omega
  rw[<- hsl] at c1;generalize syncT s=r at *;obtain⟨s1,e1⟩:=r;simp only at q1 h1 hsl c1 ⊢;by_cases c2:e1=0
  ·subst c2;rw[if_neg (by simp),rrollD_eq]
   have q2:=rseg_spec h1.next;have q3:=rcreate_spec s1.disk (h1.dsk.ok (by omega) (by omega)) (fileN s1.next)
   have k1:okN (k+1) u (chgF s1.disk (crtR s1.disk.files (fileN s1.next))).1:=by
    have:=crt_ok (s:=(s1.disk,0)) h1.dsk (fileN s1.next);exact this
   have hxl:(rollX s1).segs.length<=1000000:=by have:=h1.len;show(s1.segs++[_]).length<=_;simp;omega
   have q4:=fun d:Dsk=>rman_spec { rollX s1 with disk:=d } hxl
   unfold rrollD;simp only[];generalize chgF s1.disk (crtR s1.disk.files (fileN s1.next))=c at *;have q4:=q4 c.1;have q5:=rswap_spec c.1 k1 (by omega) (by omega) (rollX s1).man ⟨by have:=h1.len;show((s1.segs++[_]).map _).length<=_;simp;omega,h1.sum⟩
   have k2:okN (k+1+1) (u+800) (swapS (rollX s1).man (c.1,0)).1:=swap_okN (s:=(c.1,0)) k1 _;generalize swapS (rollX s1).man (c.1,0)=w at *;have q6:=rdelete_spec w.1 (k2.ok (by omega) (by omega)) (fileN s1.next)
   generalize chgF w.1 (delR w.1.files (fileN s1.next))=t at *;generalize fileN s1.next=N at *;obtain⟨⟨fl,cp,ar,lf,dn⟩,ver,segs,next,sure,size,sum⟩:=s;obtain⟨⟨fl1,cp1,ar1,lf1,dn1⟩,ver1,segs1,next1,sure1,size1,sum1⟩:=s1;obtain⟨⟨fl2,cp2,ar2,lf2,dn2⟩,e2⟩:=c;obtain⟨⟨fl3,cp3,ar3,lf3,dn3⟩,e3⟩:=w;obtain⟨⟨fl4,cp4,ar4,lf4,dn4⟩,e4⟩:=t;simp only at hsl;subst hsl;have hver:=h1.ver;have hlen:=h1.len;simp only[dskV,Dsk.l,Sto.l,Sto.man,rollX,Man.l,stoV,List.cons_append,List.nil_append,List.map_cons,List.map_nil,List.map_append,Seg.enc] at q1 q2 q3 q4 q5 q6 c1 hver hlen ⊢;have hok:okRows 3 (segs1.map Seg.enc)=true:=okRows_map Seg.len segs1;have hsm:(segs1.map Seg.enc).length=segs1.length:=by simp
   obtain⟨SQ,hSQ⟩:∃ SQ,segs1.map Seg.enc=SQ:=⟨_,rfl⟩;rw[hSQ] at hok hsm q1 q4 ⊢;have hsl2:SQ.length<=64:=by omega
   have htk:(SQ++[[D.i .i64 next1,D.i .i64 0,D.i .i64 0]]).take (segs1.length+1)=SQ++[[D.i .i64 next1,D.i .i64 0,D.i .i64 0]]:=List.take_of_length_le (by simp;omega)
   have c1':¬ (64:Int)<=SQ.length:=by omega
   rw[<- hsm] at htk;by_cases c3:e2=0
   ·subst c3;by_cases c4:e3=9
    ·subst c4;by_cases c5:e4=0
     ·subst c5;(simp(disch:=first|decide|omega|(intros;exact Eq.trans rfl rfl)|simp only[puri]) only[wkf,a44,q1,c1',hver,q2,q3,hok,htk,↓iso_callzA_e,czKA_a,splitS,allD,czR_some,q4,q5,q6,go_sem,seval,dis,vdr,A.kind,A.xs,optX,A.isN])
      try simp[trim,hSQ]
     ·(simp(disch:=first|decide|omega|(intros;exact Eq.trans rfl rfl)|simp only[puri]) only[wkf,a44,q1,c1',hver,q2,q3,hok,htk,↓iso_callzA_e,czKA_a,splitS,allD,czR_some,q4,q5,q6,c5,go_sem,seval,dis,vdr,A.kind,A.xs,optX,A.isN])
      try simp[trim,hSQ,c5]
    ·by_cases c5:e3=0
     ·subst c5;(simp(disch:=first|decide|omega|(intros;exact Eq.trans rfl rfl)|simp only[puri]) only[wkf,a44,q1,c1',hver,q2,q3,hok,htk,↓iso_callzA_e,czKA_a,splitS,allD,czR_some,q4,q5,go_sem,seval,dis,vdr,A.kind,A.xs,optX,A.isN])
      simp[trim,hSQ,Seg.enc,c4]
     ·(simp(disch:=first|decide|omega|(intros;exact Eq.trans rfl rfl)|simp only[puri]) only[wkf,a44,q1,c1',hver,q2,q3,hok,htk,↓iso_callzA_e,czKA_a,splitS,allD,czR_some,q4,q5,c4,c5,go_sem,seval,dis,vdr,A.kind,A.xs,optX,A.isN])
      simp[trim,hSQ,c4,c5]
   ·(simp(disch:=first|decide|omega|(intros;exact Eq.trans rfl rfl)|simp only[puri]) only[wkf,a44,q1,c1',hver,q2,q3,c3,go_sem,seval,dis,vdr,A.kind,A.xs,optX,A.isN])
    simp[trim,hSQ,c3]
  ·rw[if_pos c2];obtain⟨⟨fl,cp,ar,lf,dn⟩,ver,segs,next,sure,size,sum⟩:=s;obtain⟨⟨fl1,cp1,ar1,lf1,dn1⟩,ver1,segs1,next1,sure1,size1,sum1⟩:=s1;simp only at hsl;subst hsl;simp only[Dsk.l,Sto.l,stoV,List.cons_append,List.nil_append] at q1 c1 ⊢;(simp(disch:=first|decide|omega|(intros;exact Eq.trans rfl rfl)|simp only[puri]) only[wkf,a44,q1,c1,c2,go_sem,seval,dis,vdr,A.kind,A.xs,optX,A.isN])
   try simp[trim]
theorem putF_why {r:Rec} (h:whyF r≠0):(putF r).2≠0:=by unfold putF;rw[if_neg h];exact h
set_option maxRecDepth 8000 in
set_option maxHeartbeats 2000000 in
theorem rappend_tail {k u:Nat} (s t:Sto) (h:okS k u s) (ht:okS k u t) (hn:t.next<1099511627776) (hk:k<=800000) (hu:u<=800000000000) (seg:Int) (r:Rec) (tx:Txt) (hx:tx.length<=90)
  (q0:call 43 [.agg (r.enc.map .d)] []=some (vb true,[]))
  (q1:call 45 [.agg (r.enc.map .d)] []=some (.tup [(false,[.d (.s tx)]),(false,[.d (.i .i64 0)])],[])) (c2:r.at_=s.next) (c3:s.next<1099511627776)
  (hc:(seg<=s.last.size∧rollT s=(t,0))∨(¬ seg<=t.last.size∧t=s)) :
  call 21 [.agg s.l,vi seg,.agg (r.enc.map .d)] []=some (stoV (putT t tx),[]):=by
 have q3:=rroll_spec s h hk hu;have q5:=rlast_spec t t.last (by have:=ht.len;omega) (last_q ht.len.1) (ht.seg _ (last_mem ht.len.1)).1
 have q7:=rappend_spec t.disk (ht.dsk.ok (by omega) (by omega)) (fileN t.last.base) tx (by omega)
 have hsz:=(ht.seg _ (last_mem ht.len.1)).2;have hlen:=ht.len;have hlens:=h.len;have hnx:=ht.next;have hsp:t.segs.map Seg.enc=t.segs.dropLast.map Seg.enc++[t.last.enc]:=by
  have hne:t.segs≠[]:=by intro e;rw[e] at hlen;simp at hlen
  have e:t.segs=t.segs.dropLast++[t.segs.getLast hne]:=(List.dropLast_concat_getLast hne).symm;have e2:t.last=t.segs.getLast hne:=by unfold Sto.last;rw[List.getLastD_eq_getLast?,List.getLast?_eq_some_getLast hne];rfl
  rw[e2];conv=>lhs;rw[e]
  rw[List.map_append];rfl
 have hsl:(s.segs.map Seg.enc)[s.segs.length-1]?=some s.last.enc:=by rw[List.getElem?_map,<- List.getLast?_eq_getElem?,last_q hlens.1];rfl
 have hok:=okRows_map Seg.len t.segs;have hQ:(t.segs.dropLast.map Seg.enc).length=t.segs.length-1:=by simp
 have hks:((s.segs.length:Int)-1)=((s.segs.length-1:Nat):Int):=by omega
 have hkt:((t.segs.length:Int)-1)=((t.segs.length-1:Nat):Int):=by omega
 unfold putT addSeg;simp only[];generalize chgF t.disk (appR t.disk.files t.disk.cap (fileN t.last.base) tx)=d at *;generalize fileN t.last.base=N at *;generalize t.last=g at *;generalize s.last=g0 at *;generalize rollT s=rr at *;obtain⟨b,n,z⟩:=g;obtain⟨b0,n0,z0⟩:=g0;obtain⟨⟨fl,cp,ar,lf,dn⟩,ver,segs,next,sure,size,sum⟩:=s;obtain⟨⟨fl1,cp1,ar1,lf1,dn1⟩,ver1,segs1,next1,sure1,size1,sum1⟩:=t;obtain⟨⟨fl2,cp2,ar2,lf2,dn2⟩,e2⟩:=d;obtain⟨at_,ti,da⟩:=r;simp only[Rec.enc,Seg.enc,List.map_cons,List.map_nil,Sto.l,Dsk.l,dskV,List.cons_append,List.nil_append] at q0 q1 q3 q5 q7 c2 c3 hn hsz hlen hlens hnx hsp hsl hok hQ hks hkt hc ⊢;subst c2;have c3':¬ 1099511627776<=at_:=by omega
 have hfin:({ disk:=⟨fl2,cp2,ar2,lf2,dn2⟩,ver:=ver1,segs:=segs1.dropLast++[⟨b,n+1,z+tx.length⟩],next:=next1+1,sure:=sure1,size:=size1,sum:=sum1 }:Sto).segs.map Seg.enc=segs1.dropLast.map Seg.enc++[[D.i .i64 b,D.i .i64 (n+1),D.i .i64 (z+tx.length)]]:=by simp[Seg.enc]
 generalize segs1.dropLast.map Seg.enc=Q at *;have hml:(segs1.map Seg.enc).length=segs1.length:=by simp
 have hl1:segs1.length=Q.length+1:=by omega
 have hkt1:((Q.length+1:Nat):Int)-1=(Q.length:Nat):=by omega
 have hkt2:((Q.length:Nat):Int)+1-1=(Q.length:Nat):=by omega
 have hat:∀ x:List D,(Q++[x])[Q.length]?=some x:=fun x=>by simp
 have hst:∀ x y:List D,(Q++[x]).set Q.length y=Q++[y]:=fun x y=>by simp
 rw[hsp] at hok q5;have hql:Q.length<=64:=by omega
 have htk:∀ x:List D,(Q++[x]).take (Q.length+1)=Q++[x]:=fun x=>List.take_of_length_le (by simp)
 apply enterS s21 rfl;rcases hc with⟨c4,rfl⟩|⟨c4,he⟩
 ·simp only[stoV,Sto.l,Dsk.l,List.cons_append,List.nil_append] at q3;rw[hsp] at q3;by_cases c5:e2=0
  ·subst c5;(simp(disch:=first|decide|omega|(intros;exact Eq.trans rfl rfl)|simp only[puri]) only[wkf,a21,q0,q1,c3',hks,hsl,c4,q3,q5,q7,hok,hkt1,hkt2,hat,hst,hql,htk,List.length_append,List.length_cons,List.length_nil,Nat.zero_add,go_sem,seval,dis,vdr,A.kind,A.xs,optX,A.isN])
   simp only[ne_eq,not_true_eq_false,if_false,stoV,Sto.l,Dsk.l,List.cons_append,List.nil_append];simp only[] at hfin;rw[hfin]
  ·(simp(disch:=first|decide|omega|(intros;exact Eq.trans rfl rfl)|simp only[puri]) only[wkf,a21,q0,q1,c3',hks,hsl,c4,q3,q5,q7,c5,go_sem,seval,dis,vdr,A.kind,A.xs,optX,A.isN])
   simp[trim,c5,stoV,Sto.l,Dsk.l,hsp]
 ·simp only[Sto.mk.injEq,Dsk.mk.injEq] at he;obtain⟨⟨rfl,rfl,rfl,rfl,rfl⟩,rfl,rfl,rfl,rfl,rfl,rfl⟩:=he;clear q3 hsl;rw[hsp];by_cases c5:e2=0
  ·subst c5;(simp(disch:=first|decide|omega|(intros;exact Eq.trans rfl rfl)|simp only[puri]) only[wkf,a21,q0,q1,c3',c4,q5,q7,hok,hkt1,hkt2,hat,hst,hql,htk,List.length_append,List.length_cons,List.length_nil,Nat.zero_add,go_sem,seval,dis,vdr,A.kind,A.xs,optX,A.isN])
   simp only[ne_eq,not_true_eq_false,if_false,stoV,Sto.l,Dsk.l,List.cons_append,List.nil_append];simp only[] at hfin;rw[hfin]
  ·(simp(disch:=first|decide|omega|(intros;exact Eq.trans rfl rfl)|simp only[puri]) only[wkf,a21,q0,q1,c3',hkt1,hkt2,hat,c4,q5,q7,c5,List.length_append,List.length_cons,List.length_nil,Nat.zero_add,go_sem,seval,dis,vdr,A.kind,A.xs,optX,A.isN])
   simp[trim,c5,stoV,Sto.l,Dsk.l,hsp]
set_option maxRecDepth 8000 in
theorem rappend_sto {k u:Nat} (s:Sto) (h:okS k u s) (hk:k<=700000) (hu:u<=700000000000) (seg:Int) (r:Rec) (hr:r.ok):call 21 [.agg s.l,vi seg,.agg (r.enc.map .d)] []=some (stoV (appT s seg r),[]):=by
 have q1:=refPutRec_spec r hr;have hpl:=putF_len r;have e1:putR r=.tup [(false,[.d (.s (putF r).1)]),(false,[.d (.i .i64 (putF r).2)])]:=by unfold putR putF;split <;> rfl
 rw[e1] at q1;unfold appT;by_cases c1:whyF r=0
 ·have c1':(putF r).2=0:=by unfold putF;rw[if_pos c1]
  rw[c1'] at q1;have q0':=refRight_spec r;rw[decide_eq_true c1] at q0';by_cases c2:r.at_=s.next
  ·rw[if_neg (by simp[c2,c1'])]
   by_cases c3:1099511627776<=s.next
   ·rw[if_pos c3];obtain⟨⟨fl,cp,ar,lf,dn⟩,ver,segs,next,sure,size,sum⟩:=s;obtain⟨at_,ti,da⟩:=r;simp only[Rec.enc,List.map_cons,List.map_nil] at q0' c2 c3 ⊢;subst c2;apply enterS s21 rfl;(simp(disch:=first|decide|omega|(intros;exact Eq.trans rfl rfl)|simp only[puri]) only[wkf,a21,q0',c3,stoV,Sto.l,Dsk.l,go_sem,seval,dis])
    try simp[trim]
   ·rw[if_neg c3];by_cases c4:seg<=s.last.size
    ·rw[if_pos c4];by_cases c5:(rollT s).2=0
     ·rw[if_neg (by simp[c5])]
      have hn:(rollT s).1.next=s.next:=rollT_next s;exact rappend_tail (k:=k+2) (u:=u+800) s (rollT s).1 (h.up (by omega) (by omega)) (rollT_ok h) (by rw[hn];omega) (by omega) (by omega) seg r (putF r).1 hpl q0' q1 c2 (by omega) (.inl ⟨c4,by rw[<- c5]⟩)
     ·rw[if_pos c5];have q3:=rroll_spec s h (by omega) (by omega)
      have hsl:(s.segs.map Seg.enc)[s.segs.length-1]?=some s.last.enc:=by rw[List.getElem?_map,<- List.getLast?_eq_getElem?,last_q h.len.1];rfl
      have hlens:=h.len;have hks:((s.segs.length:Int)-1)=((s.segs.length-1:Nat):Int):=by omega
      generalize rollT s=t at *;generalize s.last=g at *;obtain⟨b,n,z⟩:=g;obtain⟨⟨fl,cp,ar,lf,dn⟩,ver,segs,next,sure,size,sum⟩:=s;obtain⟨⟨⟨fl1,cp1,ar1,lf1,dn1⟩,ver1,segs1,next1,sure1,size1,sum1⟩,e⟩:=t;obtain⟨at_,ti,da⟩:=r;simp only[Rec.enc,Seg.enc,List.map_cons,List.map_nil,Sto.l,Dsk.l,stoV,List.cons_append,List.nil_append] at q0' q3 c2 c3 c4 c5 hsl hks hlens ⊢;subst c2;apply enterS s21 rfl;(simp(disch:=first|decide|omega|(intros;exact Eq.trans rfl rfl)|simp only[puri]) only[wkf,a21,q0',c3,hks,hsl,c4,q3,c5,go_sem,seval,dis])
      try simp[trim,c5]
    ·rw[if_neg c4];exact rappend_tail (k:=k) (u:=u) s s h h (by omega) (by omega) (by omega) seg r (putF r).1 hpl q0' q1 c2 (by omega) (.inr ⟨c4,rfl⟩)
  ·rw[if_pos (.inr c2)];obtain⟨⟨fl,cp,ar,lf,dn⟩,ver,segs,next,sure,size,sum⟩:=s;obtain⟨at_,ti,da⟩:=r;simp only[Rec.enc,List.map_cons,List.map_nil] at q0' c2 ⊢;apply enterS s21 rfl;(simp(disch:=first|decide|omega|(intros;exact Eq.trans rfl rfl)|simp only[puri]) only[wkf,a21,q0',c2,stoV,Sto.l,Dsk.l,go_sem,seval,dis])
   try simp[trim]
 ·rw[if_pos (.inl (putF_why c1))];have q0':=refRight_spec r;rw[decide_eq_false c1] at q0';obtain⟨⟨fl,cp,ar,lf,dn⟩,ver,segs,next,sure,size,sum⟩:=s;obtain⟨at_,ti,da⟩:=r;simp only[Rec.enc,List.map_cons,List.map_nil] at q0' ⊢;apply enterS s21 rfl;(simp(disch:=first|decide|omega|(intros;exact Eq.trans rfl rfl)|simp only[puri]) only[wkf,a21,q0',stoV,Sto.l,Dsk.l,go_sem,seval,dis])
  try simp[trim]
theorem rfloor_spec (s:Sto):call 15 [.agg s.l] []=some (vi s.floor,[]):=by
 apply enterS s15 rfl;obtain⟨⟨fl,cp,ar,lf,dn⟩,ver,segs,next,sure,size,sum⟩:=s;unfold Sto.floor;cases segs with
 | nil=>(simp(disch:=first|decide|omega|(intros;exact Eq.trans rfl rfl)|simp only[puri]) only[a15,Sto.l,Dsk.l,go_sem,seval,dis])
 | cons g r =>
  (simp(disch:=first|decide|omega|(intros;exact Eq.trans rfl rfl)|simp only[puri]) only[a15,Sto.l,Dsk.l,Seg.len,Seg.at0,go_sem,seval,dis])
  try simp[trim]
theorem all_spec {k u:Nat} (s:Sto) (h:okS k u s) (hk:k<=800000) (hu:u<=1000000) (g:Seg) (hg:g∈s.segs):call 39 [.agg s.l,.agg (g.enc.map .d)] []=some (vl ((scanS (s.txt g) g.base).1.map fun x=>x.1.enc),[]):=by
 have hb:=(h.seg _ hg).1;have q1:=rseg_spec hb;have q2:=rread_spec s.disk (Nat.le_trans h.dsk.len (by omega)) h.dsk.srt (fileN g.base)
 have hl:(s.txt g).length<=1000000:=Nat.le_trans (readF_len _ _) (Nat.le_trans h.dsk.used hu);have q3:=refScan_spec (s.txt g) hl g.base (by omega)
 have e2:(readF s.disk.files (fileN g.base)).1=s.txt g:=rfl;rw[e2] at q2;unfold scanV at q3;generalize (scanS (s.txt g) g.base)=sc at *;generalize s.txt g=T at *;generalize (readF s.disk.files (fileN g.base)).2=re at *;generalize fileN g.base=N at *;obtain⟨b,n,z⟩:=g;obtain⟨⟨fl,cp,ar,lf,dn⟩,ver,segs,next,sure,size,sum⟩:=s;simp only[Seg.enc,List.map_cons,List.map_nil,Sto.l,Dsk.l,List.cons_append,List.nil_append] at q1 q2 q3 ⊢;apply enterS s39 rfl;(simp(disch:=first|decide|omega|(intros;exact Eq.trans rfl rfl)|simp only[puri]) only[wkf,a39,q1,q2,q3,go_sem,seval,dis])
 try simp[trim]
def seekV (R:List Rec) (off:Int):V:=match R.find? (fun r=>decide (r.at_=off)) with
 | some r=>.tup [(true,r.enc.map .d),(false,[.d (.i .i64 0)])]
 | none=>.tup [(true,[.d (.i .i64 0),.d (.i .i64 0),.d (.s [])]),(false,[.d (.i .i64 11)])]
theorem seek_no {r:Rec} {R:List Rec} {off:Int} (h:r.at_≠off):seekV (r::R) off=seekV R off:=by
 unfold seekV;rw[List.find?_cons_of_neg (by simpa using h)]
theorem seek_yes {r:Rec} {R:List Rec} {off:Int} (h:r.at_=off):seekV (r::R) off=.tup [(true,r.enc.map .d),(false,[.d (.i .i64 0)])]:=by
 unfold seekV;rw[List.find?_cons_of_pos (by simpa using h)]
theorem recs_cons (N:List SR) (i:Nat) (h:i<N.length):recsM (N.drop i)=N[i].2++recsM (N.drop (i+1)):=by
 rw[List.drop_eq_getElem_cons h];rfl
def sumF (f:Seg->Int):List Seg->Int
 | []=>0
 | g::r=>f g+sumF f r
theorem sum_app (f:Seg->Int) (a b:List Seg):sumF f (a++b)=sumF f a+sumF f b:=by
 induction a with
 | nil=>simp[sumF]
 | cons x r ih=>simp only[List.cons_append,sumF,ih];omega
theorem sum_take (f:Seg->Int) (l:List Seg) (i:Nat) (h:i<l.length):sumF f (l.take (i+1))=sumF f (l.take i)+f l[i]:=by
 rw[List.take_succ_eq_append_getElem h,sum_app];simp[sumF]
theorem sum_le (f:Seg->Int) (u:Nat):∀ (l:List Seg),(∀ g∈l,0<=f g∧f g<=u)->0<=sumF f l∧sumF f l<=l.length*u
 | [],_=>by simp[sumF]
 | x::r,h=>by
  have h1:=h x (by simp)
  have h2:=sum_le f u r (fun g hg=>h g (by simp[hg]))
  simp only[sumF,List.length_cons];rw[Int.natCast_add,Int.add_mul];omega
theorem sum_lt (f:Seg->Int) (l:List Seg) (hl:l.length<=1000) (h:∀ g∈l,0<=f g∧f g<=(1000000000000:Nat)) (i:Nat):0<=sumF f (l.take i)∧sumF f (l.take i)<=1000000000000000:=by
 have:=sum_le f 1000000000000 (l.take i) (fun g hg=>h g (List.mem_of_mem_take hg))
 have h2:(l.take i).length<=1000:=Nat.le_trans (List.length_take_le' _ _) hl;have h3:((l.take i).length:Int)*((1000000000000:Nat):Int)<=1000*1000000000000:=by omega
 omega
theorem rbytes_spec (l:List Seg) (hl:l.length<=1000) (h:∀ g∈l,0<=g.size∧g.size<=(1000000000000:Nat)):call 146 [vl (l.map Seg.enc)] []=some (vi (sumF Seg.size l),[]):=by
 apply enterS s146 rfl;(simp(disch:=first|decide|omega|(intros;exact Eq.trans rfl rfl)|simp only[puri]) only[a146,go_sem,seval,dis])
 refine loop_boxM (m:=0) (σ:=Nat) (fun i=>l.length-i) (fun i=>i<=l.length) (fun i=>[vl (l.map Seg.enc),vi (sumF Seg.size (l.take i)),vi i]) (fun _=>[])
  (fun _=>(vi (sumF Seg.size l),[])) ?_ 0 (Nat.zero_le _) _ _ hdM
 intro i h1 R hR;have hb:=sum_lt Seg.size l hl h i;by_cases hi:i<l.length
 ·have g1:(l.map Seg.enc)[i]?=some l[i].enc:=by rw[List.getElem?_map,List.getElem?_eq_getElem hi];rfl
  have hR':=hR (i+1) (by omega) (by omega)
  rw[sum_take _ l i hi] at hR';have hg:=h l[i] (List.getElem_mem hi);obtain⟨p,hp⟩:∃ p,p=l[i]:=⟨_,rfl⟩;rw[<- hp] at g1 hR' hg;generalize sumF Seg.size (l.take i)=x at *;(simp(disch:=first|decide|omega|(intros;exact Eq.trans rfl rfl)|simp only[puri]) only[a146_0,g1,Seg.enc,go_sem,seval,dis])
  exact hR' _ _ hdM
 ·have ht:l.take i=l:=List.take_of_length_le (by omega)
  rw[ht];(simp(disch:=first|decide|omega|(intros;exact Eq.trans rfl rfl)|simp only[puri]) only[a146_0,a146,go_sem,seval,dis])
  try simp[trim]
theorem rrecords_spec (l:List Seg) (hl:l.length<=1000) (h:∀ g∈l,0<=g.n∧g.n<=(1000000000000:Nat)):call 147 [vl (l.map Seg.enc)] []=some (vi (sumF Seg.n l),[]):=by
 apply enterS s147 rfl;(simp(disch:=first|decide|omega|(intros;exact Eq.trans rfl rfl)|simp only[puri]) only[a147,go_sem,seval,dis])
 refine loop_boxM (m:=0) (σ:=Nat) (fun i=>l.length-i) (fun i=>i<=l.length) (fun i=>[vl (l.map Seg.enc),vi (sumF Seg.n (l.take i)),vi i]) (fun _=>[])
  (fun _=>(vi (sumF Seg.n l),[])) ?_ 0 (Nat.zero_le _) _ _ hdM
 intro i h1 R hR;have hb:=sum_lt Seg.n l hl h i;by_cases hi:i<l.length
 ·have g1:(l.map Seg.enc)[i]?=some l[i].enc:=by rw[List.getElem?_map,List.getElem?_eq_getElem hi];rfl
  have hR':=hR (i+1) (by omega) (by omega)
  rw[sum_take _ l i hi] at hR';have hg:=h l[i] (List.getElem_mem hi);obtain⟨p,hp⟩:∃ p,p=l[i]:=⟨_,rfl⟩;rw[<- hp] at g1 hR' hg;generalize sumF Seg.n (l.take i)=x at *;(simp(disch:=first|decide|omega|(intros;exact Eq.trans rfl rfl)|simp only[puri]) only[a147_0,g1,Seg.enc,go_sem,seval,dis])
  exact hR' _ _ hdM
 ·have ht:l.take i=l:=List.take_of_length_le (by omega)
  rw[ht];(simp(disch:=first|decide|omega|(intros;exact Eq.trans rfl rfl)|simp only[puri]) only[a147_0,a147,go_sem,seval,dis])
  try simp[trim]
def muchF (l:List Seg) (keep count:Int):Bool:=decide (1<l.length) && (decide (keep<sumF Seg.size (l.take (l.length-1))) || decide (count<sumF Seg.n l))
def segsB (l:List Seg):Prop:=l.length<=1000∧∀ g∈l,(0<=g.n∧g.n<=(1000000000000:Nat))∧(0<=g.size∧g.size<=(1000000000000:Nat))
theorem segsB.take {l:List Seg} (h:segsB l) (k:Nat):segsB (l.take k):=⟨Nat.le_trans (List.length_take_le' _ _) h.1,fun g hg=>h.2 g (List.mem_of_mem_take hg)⟩
theorem segsB.drop {l:List Seg} (h:segsB l) (k:Nat):segsB (l.drop k):=⟨Nat.le_trans (by simp) h.1,fun g hg=>h.2 g (List.mem_of_mem_drop hg)⟩
theorem much_spec (l:List Seg) (h:segsB l) (keep count:Int):call 139 [vl (l.map Seg.enc),vi keep,vi count] []=some (vb (muchF l keep count),[]):=by
 apply enterS s139 rfl;have hlen:=h.1;by_cases c1:(1:Int)<(l.length:Int)
 ·have h1:=rbytes_spec (l.take (l.length-1)) (h.take _).1 (fun g hg=>((h.take _).2 g hg).2)
  have h2:=rrecords_spec l h.1 (fun g hg=>(h.2 g hg).1)
  have ek:((l.length:Int)-1).toNat=l.length-1:=by omega
  have el:List.take (l.length-1) (l.map Seg.enc)=(l.take (l.length-1)).map Seg.enc:=by rw[List.map_take]
  have hok:okRows 3 (l.map Seg.enc)=true:=okRows_map Seg.len _;by_cases c2:keep<sumF Seg.size (l.take (l.length-1))
  ·have e:muchF l keep count=true:=by simp[muchF,c2];omega
   rw[e];(simp(disch:=first|decide|omega|(intros;exact Eq.trans rfl rfl)|simp only[puri]) only[a139,decide_eq_true c1,ek,el,hok,h1,decide_eq_true c2,go_sem,seval,dis])
   try simp[trim]
  ·have e:muchF l keep count=decide (count<sumF Seg.n l):=by simp[muchF,c2];omega
   rw[e];(simp(disch:=first|decide|omega|(intros;exact Eq.trans rfl rfl)|simp only[puri]) only[a139,decide_eq_true c1,ek,el,hok,h1,h2,decide_eq_false c2,go_sem,seval,dis])
   try simp[trim]
 ·have e:muchF l keep count=false:=by simp[muchF];omega
  rw[e];(simp(disch:=first|decide|omega|(intros;exact Eq.trans rfl rfl)|simp only[puri]) only[a139,decide_eq_false c1,go_sem,seval,dis])
  try simp[trim]
def stayF (l:List Seg) (keep count:Int) (k:Nat):Bool := !muchF (l.drop k) keep count
def pickF (l:List Seg) (keep count:Int):Nat:=match (List.range l.length).find? (stayF l keep count) with|some k=>k|none=>0
theorem pickF_lt (l:List Seg) (keep count:Int) (h:pickF l keep count≠0):pickF l keep count<l.length:=by
 unfold pickF at *;cases hf:(List.range l.length).find? (stayF l keep count) with
 | none=>rw[hf] at h;exact absurd rfl h
 | some k=>simpa using List.mem_of_find?_eq_some hf
theorem pick_spec (l:List Seg) (h:segsB l) (keep count:Int):call 116 [vl (l.map Seg.enc),vi keep,vi count] []=some (vi (pickF l keep count:Nat),[]):=by
 apply enterS s116 rfl;have hlen:=h.1;have hok:okRows 3 (l.map Seg.enc)=true:=okRows_map Seg.len _;(simp(disch:=first|decide|omega|(intros;exact Eq.trans rfl rfl)|simp only[puri]) only[a116,go_sem,seval,dis])
 refine loop_boxM (m:=0) (σ:=Nat) (fun i=>l.length-i) (fun i=>i<=l.length∧(List.range l.length).find? (stayF l keep count)=((List.range l.length).drop i).find? (stayF l keep count)) (fun i=>[vl (l.map Seg.enc),vi keep,vi count,vi i]) (fun _=>[])
  (fun _=>(vi (pickF l keep count:Nat),[])) ?_ 0 ⟨Nat.zero_le _,rfl⟩ _ _ hdM
 intro i ⟨h1,h2⟩ R hR;by_cases hi:i<l.length
 ·rw[List.drop_eq_getElem_cons (by simpa using hi),List.find?_cons,List.getElem_range] at h2
  have hm:=much_spec (l.drop i) (h.drop i) keep count;have hd:List.drop i (l.map Seg.enc)=(l.drop i).map Seg.enc:=by rw[List.map_drop]
  have htk:List.take l.length (l.map Seg.enc)=l.map Seg.enc:=List.take_of_length_le (by simp)
  cases hq:muchF (l.drop i) keep count with
  | true =>
   have hs:stayF l keep count i=false:=by simp[stayF,hq]
   rw[hs] at h2;rw[hq] at hm;(simp(disch:=first|decide|omega|(intros;exact Eq.trans rfl rfl)|simp only[puri]) only[a116_0,hok,htk,hd,hm,go_sem,seval,dis])
   exact hR (i+1) (by omega) ⟨by omega,h2⟩ _ _ hdM
  | false =>
   have hs:stayF l keep count i=true:=by simp[stayF,hq]
   rw[hs] at h2;have e:pickF l keep count=i:=by unfold pickF;rw[h2]
   rw[hq] at hm;rw[e];(simp(disch:=first|decide|omega|(intros;exact Eq.trans rfl rfl)|simp only[puri]) only[a116_0,hok,htk,hd,hm,go_sem,seval,dis])
   try simp[trim]
 ·rw[List.drop_eq_nil_of_le (by simpa using Nat.not_lt.1 hi)] at h2
  have e:pickF l keep count=0:=by unfold pickF;rw[h2];rfl
  rw[e];(simp(disch:=first|decide|omega|(intros;exact Eq.trans rfl rfl)|simp only[puri]) only[a116_0,a116,go_sem,seval,dis])
  try simp[trim]
def Sto.scans (s:Sto):List SR:=s.segs.map fun g=>(g,(scanS (s.txt g) g.base).1.map (·.1))
theorem scans_len {k u:Nat} {s:Sto} (h:okS k u s) (hu:u<=1000000):∀ p∈s.scans,p.2.length<=1000000:=by
 intro p hp;simp only[Sto.scans,List.mem_map] at hp;obtain⟨g,hg,rfl⟩:=hp;rw[List.length_map];exact Nat.le_trans (scanS_len _ _) (Nat.le_trans (readF_len _ _) (Nat.le_trans h.dsk.used hu))
def rgetT (s:Sto) (off:Int):V:=if off<0∨s.next<=off then .tup [(true,[.d (.i .i64 0),.d (.i .i64 0),.d (.s [])]),(false,[.d (.i .i64 6)])] else seekV (recsM s.scans) off
set_option maxRecDepth 8000 in
theorem rread_any {k u:Nat} (s:Sto) (h:okS k u s) (hk:k<=800000) (hu:u<=1000000) (off:Int):call 16 [.agg s.l,vi off] []=some (rgetT s off,[]):=by
 have hall:=fun g hg=>all_spec s h hk hu g hg
 have n1:s.segs=s.scans.map (·.1):=by rw[Sto.scans,List.map_map];exact(List.map_id s.segs).symm
 have n3:∀ p∈s.scans,((scanS (s.txt p.1) p.1.base).1.map fun x=>x.1.enc)=p.2.map Rec.enc:=by
  intro p hp;simp only[Sto.scans,List.mem_map] at hp;obtain⟨g,hg,rfl⟩:=hp;simp
 have hlen:=h.len;have hcell:s.l=[.d (.l (s.disk.files.map Fil.enc)),.d (.i .i64 s.disk.cap),.d (.b s.disk.armed),.d (.i .i64 s.disk.left),.d (.b s.disk.down),.d (.i .i64 s.ver),.d (.l (s.segs.map Seg.enc)),.d (.i .i64 s.next),.d (.i .i64 s.sure),.d (.i .i64 s.size),.d (.i .u32 s.sum)]:=rfl;apply enterS s16 rfl;rw[hcell] at hall ⊢;by_cases c1:off<0
 ·have e:rgetT s off=.tup [(true,[.d (.i .i64 0),.d (.i .i64 0),.d (.s [])]),(false,[.d (.i .i64 6)])]:=by unfold rgetT;rw[if_pos (.inl c1)]
  rw[e];(simp(disch:=first|decide|omega|(intros;exact Eq.trans rfl rfl)|simp only[puri]) only[wkf,a16,c1,go_sem,seval,dis])
  try simp[trim]
 ·by_cases c2:s.next<=off
  ·have e:rgetT s off=.tup [(true,[.d (.i .i64 0),.d (.i .i64 0),.d (.s [])]),(false,[.d (.i .i64 6)])]:=by unfold rgetT;rw[if_pos (.inr c2)]
   rw[e];(simp(disch:=first|decide|omega|(intros;exact Eq.trans rfl rfl)|simp only[puri]) only[wkf,a16,c1,c2,go_sem,seval,dis])
   try simp[trim]
  ·have e:rgetT s off=seekV (recsM s.scans) off:=by unfold rgetT;rw[if_neg (by omega)]
   rw[e];obtain⟨R,n2⟩:∃ R,recsM s.scans=R:=⟨_,rfl⟩;rw[n2];have hsc:=scans_len h hu;obtain⟨N,hN⟩:∃ N,N=s.scans:=⟨_,rfl⟩;rw[<- hN] at n1 n2 n3 hsc;obtain⟨Z,hZ⟩:∃ Z:V,Z=seekV R off:=⟨_,rfl⟩;rw[<- hZ];(simp(disch:=first|decide|omega|(intros;exact Eq.trans rfl rfl)|simp only[puri]) only[wkf,a16,c1,c2,go_sem,seval,dis])
   have hNl:N.length=s.segs.length:=by rw[n1];simp
   refine loop_boxM (m:=0) (σ:=Nat) (fun i=>N.length-i) (fun i=>i<=N.length∧seekV R off=seekV (recsM (N.drop i)) off) (fun i=>[vi off,V.one (.p 0 0),V.one (.p 1 0),vi i])
    (fun _=>[.cells [.d (.l (s.disk.files.map Fil.enc)),.d (.i .i64 s.disk.cap),.d (.b s.disk.armed),.d (.i .i64 s.disk.left),.d (.b s.disk.down),.d (.i .i64 s.ver),.d (.l (s.segs.map Seg.enc)),.d (.i .i64 s.next),.d (.i .i64 s.sure),.d (.i .i64 s.size),.d (.i .u32 s.sum)],.cells [.d (.i .i64 0),.d (.i .i64 0),.d (.s [])]]) (fun _=>(Z,[])) ?_ 0 ⟨Nat.zero_le _,by rw[List.drop_zero,n2]⟩ _ _ ?_
   rotate_left
   ·exact hdM
   rintro i ⟨hi,hinv⟩ K hK;by_cases c3:i<N.length
   ·have ci:(i:Int)<(s.segs.length:Int):=by omega
    have hsi:s.segs[i]?=some N[i].1:=by rw[n1];simp[c3]
    have hmem:N[i].1∈s.segs:=List.mem_of_getElem? hsi;have g1:(s.segs.map Seg.enc)[i]?=some N[i].1.enc:=by rw[List.getElem?_map,hsi];rfl
    have g2:=hall _ hmem;rw[n3 _ (List.getElem_mem c3)] at g2;rw[recs_cons N i c3] at hinv;have hpl:N[i].2.length<=1000000:=hsc _ (List.getElem_mem c3);generalize N[i]=p at *;obtain⟨⟨pb,pn,pz⟩,pl⟩:=p;simp only[Seg.enc,List.map_cons,List.map_nil] at g1 g2 hinv hpl;(simp(disch:=first|decide|omega|(intros;exact Eq.trans rfl rfl)|simp only[puri]) only[wkf,a16_0,ci,g1,g2,go_sem,seval,dis])
    refine loop_boxM (m:=0) (σ:=Nat) (fun j=>pl.length-j) (fun j=>j<=pl.length∧seekV R off=seekV (pl.drop j++recsM (N.drop (i+1))) off) (fun j=>[vi off,V.one (.p 0 0),V.one (.p 1 0),vi i,vl (pl.map Rec.enc),vi j])
     (fun _=>[.cells [.d (.l (s.disk.files.map Fil.enc)),.d (.i .i64 s.disk.cap),.d (.b s.disk.armed),.d (.i .i64 s.disk.left),.d (.b s.disk.down),.d (.i .i64 s.ver),.d (.l (s.segs.map Seg.enc)),.d (.i .i64 s.next),.d (.i .i64 s.sure),.d (.i .i64 s.size),.d (.i .u32 s.sum)],.cells [.d (.i .i64 0),.d (.i .i64 0),.d (.s [])]]) (fun _=>(Z,[])) ?_ 0 ⟨Nat.zero_le _,hinv⟩ _ _ ?_
    rotate_left
    ·exact hdM
    rintro j ⟨hj,hinv2⟩ K2 hK2;by_cases c4:j<pl.length
    ·have cj:(j:Int)<(pl.length:Int):=by omega
     have g3:(pl.map Rec.enc)[j]?=some pl[j].enc:=by simp[c4]
     rw[List.drop_eq_getElem_cons c4,List.cons_append] at hinv2;generalize pl[j]=r at *;by_cases c5:r.at_=off
     ·rw[seek_yes c5] at hinv2;rw[hinv2] at hZ;obtain⟨ra,rt,rd⟩:=r;simp only[Rec.enc,List.map_cons,List.map_nil] at g3 c5 hZ;(simp(disch:=first|decide|omega|(intros;exact Eq.trans rfl rfl)|simp only[puri]) only[wkf,a16_1,cj,g3,c5,go_sem,seval,dis])
      rw[hZ];try simp[trim,c5]
     ·rw[seek_no c5] at hinv2;obtain⟨ra,rt,rd⟩:=r;simp only[Rec.enc,List.map_cons,List.map_nil] at g3 c5;(simp(disch:=first|decide|omega|(intros;exact Eq.trans rfl rfl)|simp only[puri]) only[wkf,a16_1,cj,g3,c5,go_sem,seval,dis])
      exact hK2 (j+1) (by omega) ⟨by omega,hinv2⟩ _ _ hdM
    ·have cj:¬ (j:Int)<(pl.length:Int):=by omega
     rw[List.drop_of_length_le (by omega),List.nil_append] at hinv2
     (simp(disch:=first|decide|omega|(intros;exact Eq.trans rfl rfl)|simp only[puri]) only[wkf,a16_1,cj,go_sem,seval,dis])
     exact hK (i+1) (by omega) ⟨by omega,hinv2⟩ _ _ hdM
   ·have ci:¬ (i:Int)<(s.segs.length:Int):=by omega
    rw[List.drop_of_length_le (by omega)] at hinv
    have e:seekV (recsM []) off=.tup [(true,[.d (.i .i64 0),.d (.i .i64 0),.d (.s [])]),(false,[.d (.i .i64 11)])]:=rfl;rw[e] at hinv;rw[hinv] at hZ;(simp(disch:=first|decide|omega|(intros;exact Eq.trans rfl rfl)|simp only[puri]) only[wkf,a16_0,ci,go_sem,seval,dis])
    rw[hZ];try simp[trim]
def snapN (n:Int):Txt:=nameF 116 n.toNat
theorem snap_int {n:Int} (h:0<=n∧n<=1099511627776):call 105 [vi n] []=some (vs (snapN n),[]):=by
 apply enterS s105 rfl;have h1:=name_spec 116 n.toNat (by omega)
 have e:(((116:UInt8).toNat:Nat):Int)=116:=rfl;have e2:((n.toNat:Nat):Int)=n:=by omega
 rw[e,e2] at h1;have e3:snapN n=nameF 116 n.toNat:=rfl;rw[e3];(simp(disch:=first|decide|omega|(intros;exact Eq.trans rfl rfl)|simp only[puri]) only[a105,h1,go_sem,seval,dis])
 try simp[trim]
theorem rsnap_int {n:Int} (h:0<=n∧n<=1099511627776):call 30 [vi n] []=some (vs (snapN n),[]):=by
 have h1:=digits_spec n.toNat (by omega)
 have e:((n.toNat:Nat):Int)=n:=by omega
 rw[e] at h1;have e2:snapN n=116::tailN n.toNat 13:=by
  unfold snapN nameF tailN;congr 1
 have hl:(tailN n.toNat 13).length=13:=by simp[tailN]
 rw[e2];generalize tailN n.toNat 13=T at *;have c1:¬ n<0:=by omega
 have c2:¬ (1099511627776:Int)<n:=by omega
 apply enterS s30 rfl;(simp(disch:=first|decide|omega|(intros;exact Eq.trans rfl rfl)|simp only[puri]) only[a30,c1,c2,h1,hl,go_sem,seval,dis])
 try simp[trim]
theorem floor_ok {k u:Nat} {s:Sto} (h:okS k u s):0<=s.floor∧s.floor<=1099511627776:=by
 have:=h.len;unfold Sto.floor;split
 ·omega
 ·rename_i g r he;exact(h.seg g (by rw[he];simp)).1
def snapT (s:Sto):Txt:=if s.floor=0 then[] else(readF s.disk.files (snapN s.floor)).1
theorem rsnap_sto {k u:Nat} (s:Sto) (h:okS k u s) (hk:k<=800000):call 41 [.agg s.l] []=some (vs (snapT s),[]):=by
 have hf:=rfloor_spec s;have hn:=rsnap_int (floor_ok h);have hr:=rread_spec s.disk (Nat.le_trans h.dsk.len (by omega)) h.dsk.srt (snapN s.floor)
 have e:snapT s=if s.floor=0 then[] else(readF s.disk.files (snapN s.floor)).1:=rfl
 rw[e];generalize s.floor=fl at *;generalize snapN fl=N at *;generalize readF s.disk.files N=rf at *;have hcell:s.l=[.d (.l (s.disk.files.map Fil.enc)),.d (.i .i64 s.disk.cap),.d (.b s.disk.armed),.d (.i .i64 s.disk.left),.d (.b s.disk.down),.d (.i .i64 s.ver),.d (.l (s.segs.map Seg.enc)),.d (.i .i64 s.next),.d (.i .i64 s.sure),.d (.i .i64 s.size),.d (.i .u32 s.sum)]:=rfl;have hd:s.disk.l=[.d (.l (s.disk.files.map Fil.enc)),.d (.i .i64 s.disk.cap),.d (.b s.disk.armed),.d (.i .i64 s.disk.left),.d (.b s.disk.down)]:=rfl;apply enterS s41 rfl;rw[hcell] at hf ⊢;rw[hd] at hr;by_cases c:fl=0
 ·rw[if_pos c];(simp(disch:=first|decide|omega|(intros;exact Eq.trans rfl rfl)|simp only[puri]) only[wkf,a41,hf,c,go_sem,seval,dis])
  try simp[trim]
 ·rw[if_neg c];have c':(fl == 0)=false:=by simpa using c
  (simp(disch:=first|decide|omega|(intros;exact Eq.trans rfl rfl)|simp only[puri]) only[wkf,a41,hf,hn,hr,c',go_sem,seval,dis])
  try simp[trim]
end Go.Proofs.YtghfhomfppbooaaGreat
