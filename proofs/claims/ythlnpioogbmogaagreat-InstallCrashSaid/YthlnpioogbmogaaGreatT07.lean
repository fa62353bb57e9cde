import Derived.Test.YthlnpioogbmogaaGreatT06
import Derived.Test.YthlnpioogbmogaaGreatT03
import Derived.Test.YthlnpioogbmogaaGreatT05
import Derived.Test.YthlnpioogbmogaaGreatVid
import Derived.Test.YthlnpioogbmogaaGreatT02
set_option linter.unusedSimpArgs false
set_option linter.unusedVariables false
namespace Go.Proofs.YthlnpioogbmogaaGreat
open Go.Vi
variable {k u:Nat} {f:Int} {S:Txt} {l0:List Pr} {s:Sto} {M:List SR} {g:Seg} {l:List Rec}
theorem oldN_nodup (ho:okS k u s) (h:W f S l0 s M g l) (n:Nat):(oldN s n).Nodup:=by
 have hp:s.segs.Pairwise (fun a b=>a.base<b.base):=List.pairwise_map.1 h.man_inc.1
 unfold oldN List.Nodup;rw[List.pairwise_append];refine⟨?_,by split <;> simp,?_⟩
 ·rw[List.pairwise_map];refine List.Pairwise.imp_of_mem (fun {a b} ha hb hab e=>?_) (hp.sublist (List.take_sublist n _))
  have:=fileN_inj (ho.seg a (List.mem_of_mem_take ha)).1 (ho.seg b (List.mem_of_mem_take hb)).1 e;omega
 ·intro a ha b hb e;obtain⟨c,_,rfl⟩:=List.mem_map.1 ha;split at hb
  ·rw[List.mem_singleton.1 hb] at e;exact snap_file _ _ e.symm
  ·cases hb
theorem W.cut (ho:okS k u s) (h:W f S l0 s M g l) (hv:u<1000000000000) {n:Nat} (hn:n<s.segs.length) (h0:n≠0) {d1:Dsk} {w:Dsk × Int}
  (hs1:srt d1.files) (hd1:d1.down=false) (hf1:fm d1.files=up (up (fm s.disk.files) (snapN (baseF s.segs n)) (some (bytesF (stateT s (baseF s.segs n)),(((bytesF (stateT s (baseF s.segs n))).length:Nat):Int)))) [109] (manV (trimX s n).man)) (hdn:s.disk.down=false)
  (hO:Out d1 w (oldN s n) (rmv (oldN s n) (fm d1.files)) none) :
  W (baseF s.segs n) (bytesF (stateT s (baseF s.segs n))) (stateT s (baseF s.segs n)) { trimX s n with disk:=w.1 } (M.drop n) g l:=by
 have hT:=h.trimR ho hv hn h0;have hb:=h.base_k hn;have hf0:0<=f:=by have:=WR.floor ⟨M,g,l,h,rfl⟩;rw[<- this];exact(floor_ok ho).1
 have hst:=h.st (baseF s.segs n);rw[<- hT.2.2.1] at hst;have hfl:s.floor=f:=WR.floor ⟨M,g,l,h,rfl⟩;have hbo:=base_ok ho hn;have hlt:∀ a∈s.segs.take n,a.base<baseF s.segs n:=by
  intro a ha;have hp:s.segs.Pairwise (fun a b=>a.base<b.base):=List.pairwise_map.1 h.man_inc.1
  obtain⟨i,hi,rfl⟩:=List.getElem_of_mem ha;rw[List.length_take] at hi;rw[List.getElem_take,(base_at hn).2];exact(List.pairwise_iff_getElem.1 hp) i n (by omega) hn (by omega)
 have hge:∀ a∈s.segs.drop n,baseF s.segs n<=a.base:=by
  intro a ha;have hp:s.segs.Pairwise (fun a b=>a.base<b.base):=List.pairwise_map.1 h.man_inc.1
  obtain⟨i,hi,rfl⟩:=List.getElem_of_mem ha;rw[List.length_drop] at hi;rw[List.getElem_drop,(base_at hn).2];by_cases c:i=0
  ·subst c;simp
  ·have:=(List.pairwise_iff_getElem.1 hp) n (n+i) hn (by omega) (by omega);omega
 have hold:∀ m,m∈oldN s n↔(∃ a∈s.segs.take n,m=fileN a.base)∨(0<f∧m=snapN f):=by
  intro m;unfold oldN;rw[List.mem_append,List.mem_map,hfl];constructor
  ·rintro(⟨a,ha,rfl⟩|hm)
   ·exact .inl ⟨a,ha,rfl⟩
   ·split at hm
    ·rename_i c;exact .inr ⟨c,List.mem_singleton.1 hm⟩
    ·cases hm
  ·rintro(⟨a,ha,rfl⟩|⟨hc,rfl⟩)
   ·exact .inl ⟨a,ha,rfl⟩
   ·rw[if_pos hc];exact .inr (by simp)
 have hsd:s.segs.drop n=(M.drop n).map (·.1)++[g]:=by rw[h.inv.segs,List.drop_append_of_le_length (by simpa using hb.1),List.map_drop]
 have k1:[109] ∉ oldN s n:=by
  rw[hold];rintro(⟨a,_,e⟩|⟨_,e⟩)
  ·exact absurd e.symm (n109 _ (by rw[fileN_len];decide))
  ·exact absurd e.symm (n109 _ (by rw[snapN_len];decide))
 have k2:snapN (baseF s.segs n) ∉ oldN s n:=by
  rw[hold];rintro(⟨a,_,e⟩|⟨_,e⟩)
  ·exact absurd e (snap_file _ _)
  ·have:=snapN_inj hbo (by omega) e;omega
 have k3:∀ a∈s.segs.drop n,fileN a.base ∉ oldN s n:=by
  intro a ha;rw[hold];rintro(⟨b,hb2,e⟩|⟨_,e⟩)
  ·have:=fileN_inj (ho.seg a (List.mem_of_mem_drop ha)).1 (ho.seg b (List.mem_of_mem_take hb2)).1 e;have:=hge a ha;have:=hlt b hb2;omega
  ·exact absurd e.symm (snap_file _ _)
 have hkeep:∀ m,m ∉ oldN s n->fm w.1.files m=fm d1.files m:=by
  intro m hm;rcases hO.2.2 with⟨_,_,hf⟩|⟨_,hc,_⟩|⟨_,_,hf⟩
  ·rw[hf];exact if_neg hm
  ·cases hc
  ·exact hf m hm
 have hfile:∀ a∈s.segs.drop n,fm w.1.files (fileN a.base)=fm s.disk.files (fileN a.base):=by
  intro a ha;rw[hkeep _ (k3 a ha),hf1,up_ne _ _ (n109 _ (by rw[fileN_len];decide)),up_ne _ _ (fun e=>snap_file _ _ e.symm)]
 have hpm:∀ p∈M.drop n++[(g,l)],p.1∈s.segs.drop n:=by
  intro p hp;rw[hsd];rcases List.mem_append.1 hp with hp|hp
  ·exact List.mem_append_left _ (List.mem_map_of_mem hp)
  ·rw[List.mem_singleton.1 hp];simp
 have hpM:∀ p∈M.drop n++[(g,l)],p∈M++[(g,l)]:=by
  intro p hp;rcases List.mem_append.1 hp with hp|hp
  ·exact List.mem_append_left _ (List.mem_of_mem_drop hp)
  ·exact List.mem_append_right _ hp
 refine⟨⟨hsd,fun p hp=>?_,?_,h.inv.next,h.inv.sure⟩,.inr ⟨by omega,?_,parse_bytes hst.1 hst.2,rfl,rfl⟩,?_,hT.2.2.2,fun p hp=>?_,?_,h.lo,fun hd m hm=>?_⟩
 ·have hfo:=h.inv.file p (hpM p hp);refine hfo.keep fun hh=>?_
  rw[fm_hasD ho.dsk.srt] at hh;rw[fm_hasD hO.2.1,hfile _ (hpm p hp)];exact hh
 ·have:=chain_drop n M f g.base hb.1 h.inv.chain;rw[<- hb.2] at this;exact this
 ·show fm w.1.files _=_;rw[hkeep _ k2,hf1,up_ne _ _ (n109 _ (by rw[snapN_len];decide)),up_at]
 ·show fm w.1.files _=_;rw[hkeep _ k1,hf1,up_at];rfl
 ·show fm w.1.files _=_;rw[hfile _ (hpm p (List.mem_append_left _ hp))];exact h.full p (List.mem_of_mem_drop hp)
 ·obtain⟨q,h1,h2⟩:=h.last;exact⟨q,by show fm w.1.files _=_;rw[hfile _ (hpm (g,l) (by simp))];exact h1,h2⟩
 ·have hm2:fm w.1.files m≠none:=hm;have hd2:w.1.down=false:=hd;rcases hO.2.2 with⟨_,_,hf⟩|⟨_,hc,_⟩|⟨_,hd3,_⟩
  ·rw[hf] at hm2;unfold rmv at hm2;by_cases c:m∈oldN s n
   ·rw[if_pos c] at hm2;exact absurd rfl hm2
   ·rw[if_neg c,hf1] at hm2;by_cases c1:m=[109]
    ·exact .inl c1
    ·rw[up_ne _ _ c1] at hm2;by_cases c2:m=snapN (baseF s.segs n)
     ·exact .inr (.inr ⟨by omega,c2⟩)
     ·rw[up_ne _ _ c2] at hm2;rcases h.only hdn m hm2 with e|⟨a,ha,e⟩|⟨e1,e2⟩
      ·exact .inl e
      ·rw[<- List.take_append_drop n s.segs] at ha;rcases List.mem_append.1 ha with ha|ha
       ·exact absurd ((hold m).2 (.inl ⟨a,ha,e⟩)) c
       ·exact .inr (.inl ⟨a,ha,e⟩)
      ·exact absurd ((hold m).2 (.inr ⟨e1,e2⟩)) c
  ·cases hc
  ·rw[hd2] at hd3;cases hd3
theorem recs_drop (h:Inv f s M g l) {n:Nat} (hn:n<=M.length):recsM (M.drop n++[(g,l)])=(recsM (M++[(g,l)])).drop (recsM (M.take n)).length:=by
 have e:recsM (M++[(g,l)])=recsM (M.take n)++recsM (M.drop n++[(g,l)]):=by
  rw[<- recsM_app,<- List.append_assoc,List.take_append_drop]
 rw[e,List.drop_left]
theorem WR.trim {R:List Rec} (ho:okS k u s) (h:WR f S l0 s R) (hv:u<1000000000000) (keep count:Int) :
  ∃ f' S' l0',f<=f'∧f'<=s.next∧l0'=stF l0 f R f'∧WR f' S' l0' (trimT s keep count).1 (R.drop (f'-f).toNat)∧(trimT s keep count).1.next=s.next∧(trimT s keep count).1.sure=s.sure∧(trimT s keep count).1.disk.cap=s.disk.cap ∧
   ((trimT s keep count).2=0∨(trimT s keep count).2=9∨((trimT s keep count).2=10∧(trimT s keep count).1.disk.down=true)) ∧
   ((trimT s keep count).2=0->pickF (trimT s keep count).1.segs keep count=0)∧((trimT s keep count).2≠10->(trimT s keep count).1.disk.down=s.disk.down):=by
 have h0:=h;have hfn:=h.sure;have hs0:WR f S l0 s (R.drop (f-f).toNat):=by rw[Int.sub_self];exact h0
 have hl0:l0=stF l0 f R f:=by unfold stF;rw[Int.sub_self];rfl
 obtain⟨M,g,l,h,rfl⟩:=h;unfold trimT;by_cases c0:pickF s.segs keep count=0
 ·rw[if_pos c0];exact⟨f,S,l0,Int.le_refl _,by omega,hl0,hs0,rfl,rfl,rfl,.inl rfl,fun _=>c0,fun _=>rfl⟩
 ·rw[if_neg c0];have hn:=pickF_lt s.segs keep count c0;have hpk:pickF (s.segs.drop (pickF s.segs keep count)) keep count=0:=by
   have hst:stayF s.segs keep count (pickF s.segs keep count)=true:=by
    unfold pickF at *;cases hf:(List.range s.segs.length).find? (stayF s.segs keep count) with
    | none=>rw[hf] at c0;exact absurd rfl c0
    | some j=>exact List.find?_some hf
   refine pickF_at _ keep count 0 (by simp;omega) ?_ (fun i hi=>absurd hi (by omega))
   unfold stayF at hst ⊢;rw[List.drop_zero];exact hst
  generalize pickF s.segs keep count=n at *;have hT:=h.trimR ho hv hn c0;have hb:=h.base_k hn;have hbo:=base_ok ho hn;have hf0:0<=f:=by have:=WR.floor h0;rw[<- this];exact(floor_ok ho).1
  have hnr:¬ rel f s (snapN (baseF s.segs n)):=W.not_rel ho (by omega) ⟨hT.1,hbo.2⟩
  have h110:s.disk.down=false->fm s.disk.files [110]=none:=fun hd=>by
   cases hx:fm s.disk.files [110] with
   | none=>rfl
   | some v=>exact absurd (h.only hd [110] (by rw[hx];simp)) (rel_110 f s)
  have hsn:s.disk.down=false->fm s.disk.files (snapN (baseF s.segs n))=none:=fun hd=>by
   cases hx:fm s.disk.files (snapN (baseF s.segs n)) with
   | none=>rfl
   | some v=>exact absurd (h.only hd _ (by rw[hx];simp)) hnr
  have hO:=lay_out ho.dsk.srt (n:=snapN (baseF s.segs n)) (x:=bytesF (stateT s (baseF s.segs n))) hT.2.2.2 (namedS _) (n110 _ (by rw[snapN_len];decide)) h110 hsn
  have hold0:∀ q,oldT s n q=goP (oldN s n) q:=fun q=>old_go s n q
  have hX:∀ m∈[snapN (baseF s.segs n),[110]],¬ rel f s m:=by
   intro m hm;rcases List.mem_cons.1 hm with rfl|hm
   ·exact hnr
   ·rw[List.mem_singleton.1 hm];exact rel_110 f s
  have etk:trimK s n=if(layT s.disk (snapN (baseF s.segs n)) (bytesF (stateT s (baseF s.segs n))) (trimX s n).man).2≠0 then({ s with disk:=(layT s.disk (snapN (baseF s.segs n)) (bytesF (stateT s (baseF s.segs n))) (trimX s n).man).1 },(layT s.disk (snapN (baseF s.segs n)) (bytesF (stateT s (baseF s.segs n))) (trimX s n).man).2) else({ trimX s n with disk:=(goP (oldN s n) (layT s.disk (snapN (baseF s.segs n)) (bytesF (stateT s (baseF s.segs n))) (trimX s n).man)).1 },(goP (oldN s n) (layT s.disk (snapN (baseF s.segs n)) (bytesF (stateT s (baseF s.segs n))) (trimX s n).man)).2):=by
   unfold trimK;simp only[hold0]
  rw[etk];clear etk;generalize layT s.disk (snapN (baseF s.segs n)) (bytesF (stateT s (baseF s.segs n))) (trimX s n).man=e at *;by_cases c1:e.2=0
  ·rw[if_neg (by simp[c1])]
   rcases hO.2.2 with⟨_,hd,hf⟩|⟨_,_,e9,_⟩|⟨e10,_⟩
   ·have hdn:=hO.1.up_of hd;have hg:=goP_out (oldN s n) e.1 hO.2.1 (oldN_nodup ho h n) hd (fun m hm=>by
     have hne:m≠[109]∧m≠snapN (baseF s.segs n)∧fm s.disk.files m≠none:=by
      unfold oldN at hm;rcases List.mem_append.1 hm with hm|hm
      ·obtain⟨a,ha,rfl⟩:=List.mem_map.1 hm;refine⟨n109 _ (by rw[fileN_len];decide),fun e=>snap_file _ _ e.symm,?_⟩
       have ha:=List.mem_of_mem_take ha;rw[h.inv.segs] at ha;rcases List.mem_append.1 ha with ha|ha
       ·obtain⟨p,hp,rfl⟩:=List.mem_map.1 ha;rw[h.full p hp];simp
       ·rw[List.mem_singleton.1 ha];obtain⟨q,h1,_⟩:=h.last;rw[h1];simp
      ·rw[WR.floor h0] at hm;split at hm
       ·rename_i c;rw[List.mem_singleton.1 hm];refine⟨n109 _ (by rw[snapN_len];decide),fun e=>?_,?_⟩
        ·have:=snapN_inj (by omega) hbo e;omega
        ·rcases h.snp with⟨h1,_⟩|⟨_,h1,_⟩
         ·omega
         ·rw[h1];simp
       ·cases hm
     rw[hf,up_ne _ _ hne.1,up_ne _ _ hne.2.1];exact hne.2.2)
    have hp0:e=(e.1,0):=pair_eq c1;rw[<- hp0] at hg;have hw:=h.cut ho hv hn c0 hO.2.1 hd hf hdn hg;have hr:=recs_drop h.inv hb.1;have hfd:(baseF s.segs n-f).toNat=(recsM (M.take n)).length:=by omega
    refine⟨baseF s.segs n,_,stateT s (baseF s.segs n),by omega,hT.2.1,hT.2.2.1,⟨M.drop n,g,l,hw,by rw[hr,hfd]⟩,rfl,rfl,hg.1.cap.trans hO.1.cap,?_,fun _=>hpk,fun hne=>?_⟩
    ·rcases hg.2.2 with⟨a,_⟩|⟨_,a,_⟩|⟨a,b,_⟩
     ·exact .inl a
     ·cases a
     ·exact .inr (.inr ⟨a,b⟩)
    ·rcases hg.2.2 with⟨_,a,_⟩|⟨_,a,_⟩|⟨a,b,_⟩
     ·exact a.trans hdn.symm
     ·cases a
     ·exact absurd a hne
   ·rw[e9] at c1;cases c1
   ·rw[e10] at c1;cases c1
  ·rw[if_pos c1];have:=h.fail ho.dsk.srt hO c1 hX;refine⟨f,S,l0,Int.le_refl _,by omega,hl0,by rw[Int.sub_self];exact⟨M,g,l,this.1,rfl⟩,rfl,rfl,hO.1.cap,?_,fun h=>absurd h c1,fun hne=>?_⟩
   ·rcases this.2 with⟨a,_⟩|⟨a,b⟩
    ·exact .inr (.inl a)
    ·exact .inr (.inr ⟨a,b⟩)
   ·rcases this.2 with⟨_,_,a⟩|⟨a,_⟩
    ·exact a.trans (hO.1.up_of a).symm
    ·exact absurd a hne
structure Ac where
 kind:Int
 n:Int
 m:Int
 data:List UInt8
 deriving DecidableEq
def Ac.enc (e:Ac):List D:=[.i .i64 e.kind,.i .i64 e.n,.i .i64 e.m,.s e.data]
theorem Ac.len (e:Ac):e.enc.length=4:=Eq.trans rfl rfl
theorem Ac.tk (e:Ac):e.enc.take 4=e.enc:=Eq.trans rfl rfl
theorem Ac.tkL (e:Ac):(e.enc.map L.d).take 4=e.enc.map L.d:=Eq.trans rfl rfl
theorem Ac.dat (e:Ac):dataLs (e.enc.map L.d)=some (e.enc.map L.d):=Eq.trans rfl rfl
theorem Ac.rfs (e:Ac):(e.enc.map L.d).flatMap L.refs=[]:=Eq.trans rfl rfl
theorem Ac.rn (e:Ac) (g:Nat->Option Nat):(e.enc.map L.d).map (L.ren g)=e.enc.map L.d:=Eq.trans rfl rfl
theorem Ac.lenL (e:Ac):(e.enc.map L.d).length=4:=Eq.trans rfl rfl
theorem Ac.at0 (e:Ac):e.enc[0]?=some (.i .i64 e.kind):=Eq.trans rfl rfl
theorem Ac.fd0 (e:Ac):(e.enc.map L.d)[0]?=some (.d (.i .i64 e.kind)):=Eq.trans rfl rfl
theorem Ac.at1 (e:Ac):(e.enc.drop 1)[0]?=some (.i .i64 e.n):=Eq.trans rfl rfl
theorem Ac.fd1 (e:Ac):(e.enc.map L.d)[1]?=some (.d (.i .i64 e.n)):=Eq.trans rfl rfl
theorem Ac.at2 (e:Ac):(e.enc.drop 2)[0]?=some (.i .i64 e.m):=Eq.trans rfl rfl
theorem Ac.fd2 (e:Ac):(e.enc.map L.d)[2]?=some (.d (.i .i64 e.m)):=Eq.trans rfl rfl
theorem Ac.up1 (e:Ac) (x:Int):e.enc.take 1++[.i .i64 x]++e.enc.drop 2=({ e with n:=x }:Ac).enc:=Eq.trans rfl rfl
theorem Ac.up2 (e:Ac) (x:Int):e.enc.take 2++[.i .i64 x]++e.enc.drop 3=({ e with m:=x }:Ac).enc:=Eq.trans rfl rfl
def Ac.ok (e:Ac):Prop:=(-9223372036854775808<=e.kind∧e.kind<9223372036854775808)∧(-9223372036854775808<=e.n∧e.n<9223372036854775808)∧(-9223372036854775808<=e.m∧e.m<9223372036854775808)∧e.data.length<=9223372036854775807
def Ac.ty:List Ty:=[.i .i64,.i .i64,.i .i64,.s]
theorem Ac.eqs (a b:Ac):scEqs [0,0,0,2] (a.enc.map L.d) (b.enc.map L.d)=some (decide (a=b)):=by
 cases a;cases b;simp only[Ac.enc,List.map_cons,List.map_nil,scEqs,scEq,if_true,Ac.mk.injEq];congr 1
 rw[Bool.eq_iff_iff];simp only[Bool.and_eq_true,beq_iff_eq,decide_eq_true_eq,and_true]
theorem Ac.of (r:List D) (h:wfRow Ac.ty r):∃ e:Ac,r=e.enc∧e.ok:=by
 simp only[Ac.ty,wfRow,wfT] at h;obtain⟨_,_,rfl,⟨x0,rfl,h0,g0⟩,⟨_,_,rfl,⟨x1,rfl,h1,g1⟩,⟨_,_,rfl,⟨x2,rfl,h2,g2⟩,⟨_,_,rfl,⟨x3,rfl,h3⟩,rfl⟩⟩⟩⟩:=h;refine⟨⟨x0,x1,x2,x3⟩,rfl,?_⟩;exact⟨⟨Int.le_trans (by decide) h0,Int.lt_of_le_of_lt g0 (by decide)⟩,⟨Int.le_trans (by decide) h1,Int.lt_of_le_of_lt g1 (by decide)⟩,⟨Int.le_trans (by decide) h2,Int.lt_of_le_of_lt g2 (by decide)⟩,h3⟩
def actT (seg i:Int) (s:Sto) (a:Ac):Sto :=
 if a.kind=1 then(syncT s).1 else if a.kind=2 then(trimT s a.n a.m).1 else if a.kind=3 then { s with disk:=armD s.disk a.n } else if a.kind=4 then { s with disk:=limD s.disk a.n } else(appT s seg ⟨s.next,i,a.data⟩).1
def runA (seg:Int):Int->List Ac->Sto->Sto × Bool
 | _,[],s=>(s,true)
 | i,a::l,s=>if 64<a.data.length then(s,false) else runA seg (i+1) l (actT seg i s a)
def playT (seg:Int) (l:List Ac):Sto × Bool:=if 40<l.length then((createT d0).1,false) else runA seg 0 l (createT d0).1
structure PI (i:Nat) (s:Sto):Prop where
 ok:okS (10+2*i) (2000+23000*i) s
 next:s.next<=i
 base:∀ g∈s.segs,g.base<=s.next
theorem floor_nn {k u:Nat} {s:Sto} (h:okS k u s):0<=s.floor:=(floor_ok h).1
theorem put_base (t:Sto) (x:Txt) (h:∀ g∈t.segs,g.base<=t.next) (h1:1<=t.segs.length):(∀ g∈(putT t x).1.segs,g.base<=(putT t x).1.next)∧(putT t x).1.next<=t.next+1:=by
 by_cases c:(chgF t.disk (appR t.disk.files t.disk.cap (fileN t.last.base) x)).2≠0
 ·have e:putT t x=({ t with disk:=(chgF t.disk (appR t.disk.files t.disk.cap (fileN t.last.base) x)).1 },(chgF t.disk (appR t.disk.files t.disk.cap (fileN t.last.base) x)).2):=by unfold putT;simp only[];rw[if_pos c]
  rw[e];exact⟨h,by show t.next<=t.next+1;omega⟩
 ·have e:putT t x=({ addSeg t x.length with disk:=(chgF t.disk (appR t.disk.files t.disk.cap (fileN t.last.base) x)).1 },0):=by unfold putT;simp only[];rw[if_neg c]
  rw[e];refine⟨fun g hg=>?_,Int.le_refl _⟩
  have hg':g∈t.segs.dropLast++[⟨t.last.base,t.last.n+1,t.last.size+x.length⟩]:=hg;show g.base<=t.next+1;rcases List.mem_append.1 hg' with hg|hg
  ·have:=h g (List.dropLast_subset _ hg);omega
  ·rw[List.mem_singleton.1 hg];have:=h t.last (last_mem h1);show t.last.base<=t.next+1;omega
theorem roll_base (s:Sto) (h:∀ g∈s.segs,g.base<=s.next):(∀ g∈(rollT s).1.segs,g.base<=(rollT s).1.next)∧(rollT s).1.next=s.next:=by
 have hs:(syncT s).1.segs=s.segs:=rfl;have hn:(syncT s).1.next=s.next:=rfl;unfold rollT;split
 ·exact⟨h,rfl⟩
 ·split
  ·exact⟨by rw[hs,hn];exact h,hn⟩
  ·split
   ·refine⟨fun g hg=>?_,rfl⟩
    have hg':g∈s.segs++[⟨s.next,0,0⟩]:=hg;show g.base<=s.next;rcases List.mem_append.1 hg' with hg|hg
    ·exact h g hg
    ·rw[List.mem_singleton.1 hg];exact Int.le_refl _
   ·exact⟨by rw[show({ (syncT s).1 with disk:=(rollD (syncT s).1).1 }:Sto).segs=s.segs from rfl];exact h,rfl⟩
theorem app_base {k u:Nat} {s:Sto} (ho:okS k u s) (h:∀ g∈s.segs,g.base<=s.next) (seg:Int) (r:Rec):(∀ g∈(appT s seg r).1.segs,g.base<=(appT s seg r).1.next)∧(appT s seg r).1.next<=s.next+1:=by
 have hr:=roll_base s h;have ho2:=rollT_ok ho;unfold appT;split
 ·exact⟨h,by show s.next<=s.next+1;omega⟩
 ·split
  ·exact⟨h,by show s.next<=s.next+1;omega⟩
  ·split
   ·split
    ·exact⟨hr.1,by rw[hr.2];omega⟩
    ·have:=put_base (rollT s).1 (putF r).1 hr.1 ho2.len.1;rw[hr.2] at this;exact this
   ·exact put_base s _ h ho.len.1
theorem trim_base {s:Sto} (h:∀ g∈s.segs,g.base<=s.next) (keep count:Int):(∀ g∈(trimT s keep count).1.segs,g.base<=(trimT s keep count).1.next)∧(trimT s keep count).1.next=s.next:=by
 unfold trimT;split
 ·exact⟨h,rfl⟩
 ·unfold trimK;simp only[];split
  ·exact⟨h,rfl⟩
  ·refine⟨fun g hg=>?_,rfl⟩
   exact h g (List.mem_of_mem_drop hg)
theorem act_PI {i:Nat} {s:Sto} (h:PI i s) (hi:i<40) (seg:Int) (a:Ac) (ha:a.ok):PI (i+1) (actT seg i s a):=by
 have h2:=h.ok.up (k':=10+2*(i+1)) (u':=2000+23000*(i+1)) (by omega) (by omega)
 have hn:=h.next;unfold actT;split
 ·exact⟨(syncT_ok h.ok).up (by omega) (by omega),by show s.next<=_;omega,h.base⟩
 ·split
  ·have hb:=trim_base h.base a.n a.m;refine⟨?_,by rw[hb.2];omega,hb.1⟩
   unfold trimT;split
   ·exact h2
   ·rename_i hne;have hlt:=pickF_lt s.segs a.n a.m hne;have hfl:=floor_nn h.ok;have:=trimK_ok h.ok hlt (by rw[(base_at hlt).2];have:=h.base _ (List.getElem_mem hlt);omega)
    exact this.up (by omega) (by omega)
  ·split
   ·refine⟨⟨⟨h2.dsk.len,h2.dsk.srt,?_,h2.dsk.cap,h2.dsk.used⟩,h2.len,h2.seg,h2.next,h2.ver,h2.sum⟩,by show s.next<=_;omega,h.base⟩
    have:=ha.2.1;show 0<=(if 0<a.n then a.n else 0)∧(if 0<a.n then a.n else 0)<9223372036854775808
    split <;> omega
   ·split
    ·refine⟨⟨⟨h2.dsk.len,h2.dsk.srt,h2.dsk.left,?_,h2.dsk.used⟩,h2.len,h2.seg,h2.next,h2.ver,h2.sum⟩,by show s.next<=_;omega,h.base⟩
     have:=ha.2.1;show 0<=(if 0<a.n then a.n else 0)∧(if 0<a.n then a.n else 0)<9223372036854775808
     split <;> omega
    ·have hb:=app_base h.ok h.base seg ⟨s.next,i,a.data⟩;exact⟨(appT_ok h.ok seg _).up (by omega) (by omega),by have:=hb.2;omega,hb.1⟩
theorem new_PI:PI 0 (createT d0).1:=by
 obtain⟨o1,hd1,n1,s1⟩:=createT_ok d0_ok d0_new;refine⟨o1.up (by omega) (by omega),by rw[n1];omega,fun g hg=>?_⟩
 have e:(createT d0).1.segs=[⟨0,0,0⟩]:=by decide +kernel
 rw[e,List.mem_singleton] at hg;rw[hg,n1];exact Int.le_refl _
theorem PI.up {i j:Nat} {s:Sto} (h:PI i s) (hj:i<=j):PI j s:=⟨h.ok.up (by omega) (by omega),by have:=h.next;omega,h.base⟩
theorem runA_PI (seg:Int):∀ (l:List Ac) (i:Nat) (s:Sto),(∀ a∈l,a.ok)->i+l.length<=40->PI i s->PI 40 (runA seg i l s).1
 | [],i,s,_,h,hp=>hp.up (by simp at h;omega)
 | a::l,i,s,ha,h,hp=>by
  simp only[runA];split
  ·exact hp.up (by simp at h;omega)
  ·have:=runA_PI seg l (i+1) (actT seg i s a) (fun b hb=>ha b (by simp[hb])) (by simp at h;omega) (act_PI hp (by simp at h;omega) seg a (ha a (by simp)))
   rw[Int.natCast_add,Int.natCast_one] at this;exact this
theorem play_PI (seg:Int) (l:List Ac) (ha:∀ a∈l,a.ok):PI 40 (playT seg l).1:=by
 unfold playT;split
 ·exact new_PI.up (by omega)
 ·exact runA_PI seg l 0 _ ha (by omega) new_PI
set_option maxRecDepth 20000 in
set_option maxHeartbeats 4000000 in
theorem rplay_spec (seg:Int) (l:List Ac) (hl:l.length<=9223372036854775807) (ha:∀ a∈l,a.ok):call 6 [vi seg,vl (l.map Ac.enc)] []=some (.tup [(true,(playT seg l).1.l),(false,[.d (.b (playT seg l).2)])],[]):=by
 have q0:=rnew_spec d0 d0_ok (by decide) (by decide)
 have hp0:=new_PI;have hd0:d0.l=[.d (.l []),.d (.i .i64 0),.d (.b false),.d (.i .i64 0),.d (.b false)]:=rfl;have hcell:∀ s:Sto,s.l=[.d (.l (s.disk.files.map Fil.enc)),.d (.i .i64 s.disk.cap),.d (.b s.disk.armed),.d (.i .i64 s.disk.left),.d (.b s.disk.down),.d (.i .i64 s.ver),.d (.l (s.segs.map Seg.enc)),.d (.i .i64 s.next),.d (.i .i64 s.sure),.d (.i .i64 s.size),.d (.i .u32 s.sum)]:=fun _=>rfl
 obtain⟨P,hP⟩:∃ P,P=playT seg l:=⟨_,rfl⟩;rw[<- hP];unfold playT at hP;generalize createT d0=r0 at *;obtain⟨st0,e0⟩:=r0;simp only[stoV,hcell,hd0] at q0 hP hp0 ⊢;apply enterS s6 rfl;by_cases c0:40<l.length
 ·rw[if_pos c0] at hP;subst hP;have hc0:(40:Int)<(l.length:Int):=by omega
  (simp(disch:=first|decide|omega|(intros;exact Eq.trans rfl rfl)|simp only[puri]) only[wkf,a6,q0,decide_eq_true hc0,go_sem,seval,dis])
  try simp[trim]
 ·rw[if_neg c0] at hP;have hc0:¬ (40:Int)<(l.length:Int):=by omega
  (simp(disch:=first|decide|omega|(intros;exact Eq.trans rfl rfl)|simp only[puri]) only[wkf,a6,q0,decide_eq_false hc0,go_sem,seval,dis])
  refine loop_boxM (m:=0) (σ:=Nat × Sto) (fun t=>l.length-t.1) (fun t=>t.1<=l.length∧PI t.1 t.2∧P=runA seg t.1 (l.drop t.1) t.2) (fun t=>[vi seg,vl (l.map Ac.enc),V.one (.p 0 0),V.one (.p 1 0),vi t.1])
   (fun t=>[.cells [.ns,.d (.i .i64 0),.d (.b false),.d (.i .i64 0),.d (.b false),.d (.i .i64 0),.ns,.d (.i .i64 0),.d (.i .i64 0),.d (.i .i64 0),.d (.i .u32 0)],.cells [.d (.l (t.2.disk.files.map Fil.enc)),.d (.i .i64 t.2.disk.cap),.d (.b t.2.disk.armed),.d (.i .i64 t.2.disk.left),.d (.b t.2.disk.down),.d (.i .i64 t.2.ver),.d (.l (t.2.segs.map Seg.enc)),.d (.i .i64 t.2.next),.d (.i .i64 t.2.sure),.d (.i .i64 t.2.size),.d (.i .u32 t.2.sum)]]) (fun _=>(V.tup [(true,[.d (.l (P.1.disk.files.map Fil.enc)),.d (.i .i64 P.1.disk.cap),.d (.b P.1.disk.armed),.d (.i .i64 P.1.disk.left),.d (.b P.1.disk.down),.d (.i .i64 P.1.ver),.d (.l (P.1.segs.map Seg.enc)),.d (.i .i64 P.1.next),.d (.i .i64 P.1.sure),.d (.i .i64 P.1.size),.d (.i .u32 P.1.sum)]),(false,[.d (.b P.2)])],[])) ?_ (0,st0) ⟨Nat.zero_le _,hp0,hP⟩ _ _ ?_
  rotate_left
  ·exact hdM
  rintro⟨i,s⟩ ⟨h1,h2,h3⟩ R hR;simp only at h1 h2 h3 ⊢;by_cases c1:i<l.length
  ·have hc1:(i:Int)<(l.length:Int):=by omega
   rw[List.drop_eq_getElem_cons c1,runA] at h3;have g1:(l.map Ac.enc)[i]?=some l[i].enc:=by rw[List.getElem?_map,List.getElem?_eq_getElem c1];rfl
   have haa:=ha _ (List.getElem_mem c1);have hnx:=act_PI h2 (by omega) seg l[i] haa
   obtain⟨a,hae⟩:∃ a,a=l[i]:=⟨_,rfl⟩;rw[<- hae] at g1 h3 haa hnx;have ho:=h2.ok;by_cases c2:64<a.data.length
   ·rw[if_pos c2] at h3;subst h3;obtain⟨ak,an,am,ad⟩:=a;simp only[Ac.enc] at g1 c2;have hc2:(64:Int)<(ad.length:Int):=by omega
    (simp(disch:=first|decide|omega|(intros;exact Eq.trans rfl rfl)|simp only[puri]) only[wkf,a6_0,decide_eq_true hc1,g1,decide_eq_true hc2,go_sem,seval,dis,vdr,A.kind,A.xs,optX,A.isN])
    try simp[trim]
   ·rw[if_neg c2] at h3;have hR':=hR (i+1,actT seg i s a) (by simp only[];omega) ⟨by simp only[];omega,hnx,by simp only[];rw[Int.natCast_add,Int.natCast_one];exact h3⟩
    have hnn:=ho.next;have q1:=rsync_sto s ho (by omega) (by omega)
    have hfl:=floor_nn ho;have q2:=rtrim_spec s ho (by omega) (by omega) a.n a.m (fun g hg=>by have:=h2.base g hg;have:=h2.next;omega)
    have q3:=arm_spec s.disk a.n haa.2.1;have q4:=lim_spec s.disk a.n haa.2.1;have q5:=rappend_sto s ho (by omega) (by omega) seg ⟨s.next,i,a.data⟩ ⟨by simp only[];omega,by simp only[];omega,haa.2.2.2⟩
    have hc2:¬ (64:Int)<(a.data.length:Int):=by omega
    unfold actT at hR';generalize syncT s=r1 at *;generalize trimT s a.n a.m=r2 at *;generalize armD s.disk a.n=r3 at *;generalize limD s.disk a.n=r4 at *;generalize appT s seg ⟨s.next,i,a.data⟩=r5 at *;obtain⟨ak,an,am,ad⟩:=a;obtain⟨⟨fl,cp,ar,lf,dn⟩,ver,segs,next,sure,size,sum⟩:=s;simp only[Ac.enc,Dsk.l,stoV,hcell,Rec.enc,List.map_cons,List.map_nil] at g1 hc2 q1 q2 q3 q4 q5 hR';by_cases k1:ak=1
    ·subst k1;rw[if_pos rfl] at hR';(simp(disch:=first|decide|omega|(intros;exact Eq.trans rfl rfl)|simp only[puri]) only[wkf,a6_0,decide_eq_true hc1,g1,decide_eq_false hc2,q1,go_sem,seval,dis,vdr,A.kind,A.xs,optX,A.isN])
     exact hR' _ _ hdM
    ·rw[if_neg k1] at hR';by_cases k2:ak=2
     ·subst k2;rw[if_pos rfl] at hR';(simp(disch:=first|decide|omega|(intros;exact Eq.trans rfl rfl)|simp only[puri]) only[wkf,a6_0,decide_eq_true hc1,g1,decide_eq_false hc2,q2,go_sem,seval,dis,vdr,A.kind,A.xs,optX,A.isN])
      exact hR' _ _ hdM
     ·rw[if_neg k2] at hR';by_cases k3:ak=3
      ·subst k3;rw[if_pos rfl] at hR';(simp(disch:=first|decide|omega|(intros;exact Eq.trans rfl rfl)|simp only[puri]) only[wkf,a6_0,decide_eq_true hc1,g1,decide_eq_false hc2,q3,go_sem,seval,dis,vdr,A.kind,A.xs,optX,A.isN])
       exact hR' _ _ hdM
      ·rw[if_neg k3] at hR';by_cases k4:ak=4
       ·subst k4;rw[if_pos rfl] at hR';(simp(disch:=first|decide|omega|(intros;exact Eq.trans rfl rfl)|simp only[puri]) only[wkf,a6_0,decide_eq_true hc1,g1,decide_eq_false hc2,q4,go_sem,seval,dis,vdr,A.kind,A.xs,optX,A.isN])
        exact hR' _ _ hdM
       ·rw[if_neg k4] at hR';(simp(disch:=first|decide|omega|(intros;exact Eq.trans rfl rfl)|simp only[puri]) only[wkf,a6_0,decide_eq_true hc1,g1,decide_eq_false hc2,k1,k2,k3,k4,q5,go_sem,seval,dis,vdr,A.kind,A.xs,optX,A.isN])
        exact hR' _ _ hdM
  ·have hc1:¬ (i:Int)<(l.length:Int):=by omega
   rw[List.drop_eq_nil_of_le (by omega),runA] at h3
   subst h3;(simp(disch:=first|decide|omega|(intros;exact Eq.trans rfl rfl)|simp only[puri]) only[wkf,a6_0,a6,decide_eq_false hc1,go_sem,seval,dis,vdr,A.kind,A.xs,optX,A.isN])
   try simp[trim]
variable {k u:Nat} {f:Int} {S:Txt} {l0:List Pr} {s:Sto} {M:List SR} {g:Seg} {l:List Rec}
theorem create_out {d:Dsk} (hs:srt d.files) (hF:d.down=false->∀ n,fm d.files n=none) :
  Out d ((createT d).1.disk,(createT d).2) [fileN 0,[110]] (up (up (fm d.files) (fileN 0) (some ([],0))) [109] (manV ⟨1,[0],0,0⟩)) (some (up (fm d.files) (fileN 0) (some ([],0)))) ∧
   ((createT d).2=0->(createT d).1=⟨(createT d).1.disk,1,[⟨0,0,0⟩],0,0,0,0⟩)∧((createT d).2≠0->(createT d).1=⟨(createT d).1.disk,0,[],0,0,0,0⟩):=by
 have e1:crtS (fileN 0) (d,0)=chgF d (crtR d.files (fileN 0)):=stp_ye _ _;have hO:Out d (if(chgF d (crtR d.files (fileN 0))).2=0 then swapS ⟨1,[0],0,0⟩ (chgF d (crtR d.files (fileN 0))) else chgF d (crtR d.files (fileN 0))) [fileN 0,[110]] (up (up (fm d.files) (fileN 0) (some ([],0))) [109] (manV ⟨1,[0],0,0⟩)) (some (up (fm d.files) (fileN 0) (some ([],0)))):=by
  by_cases hd:d.down=true
  ·rw[chg_down hd,if_neg (by simp)]
   exact .dn hs hd _ _ _
  ·have hF:=hF (by simpa using hd)
   refine Out.seq (crt_out hs (namedN 0) (hF _)) (g1:=none) (g2:=some (up (fm d.files) (fileN 0) (some ([],0)))) ?_ ?_ (by simp) (X2:=[[110]]) (by simp) (by simp) (by simp)
   ·intro h0 hd1 hf1 hs1;rw[pair_eq h0];have h3:=swap_out hs1 (m:=⟨1,[0],0,0⟩) (by decide) (fun _=>by rw[hf1,up_ne _ _ (n110 _ (by rw[fileN_len];decide)).symm];exact hF _)
    rw[hf1] at h3;exact h3
   ·intro n hn;exact up_ne _ _ (fun e=>hn (by simp[e]))
 unfold createT;simp only[e1];generalize (if(chgF d (crtR d.files (fileN 0))).2=0 then swapS ⟨1,[0],0,0⟩ (chgF d (crtR d.files (fileN 0))) else chgF d (crtR d.files (fileN 0)))=w at *
 by_cases c:w.2=0
 ·rw[if_pos c];refine⟨?_,fun _=>rfl,fun h=>absurd rfl h⟩
  rw[pair_eq c] at hO;exact hO
 ·rw[if_neg c];exact⟨hO,fun h=>absurd h c,fun _=>rfl⟩
theorem create_WR {d:Dsk} (hs:srt d.files) (hF:d.down=false->∀ n,fm d.files n=none) (h0:(createT d).2=0):WR 0 [] [] (createT d).1 []∧(createT d).1.disk.down=false:=by
 have hc:=create_out hs hF;obtain⟨hO,he,_⟩:=hc;have he:=he h0;rcases hO.2.2 with⟨_,hd,hf⟩|⟨_,_,e,_⟩|⟨e,_⟩
 ·have hdn:=hO.1.up_of hd;have hF:=hF hdn;have hd2:(createT d).1.disk.down=false:=hd;refine⟨⟨[],⟨0,0,0⟩,[],?_,rfl⟩,hd2⟩;rw[he];generalize (createT d).1.disk=w at *;refine⟨⟨rfl,fun p hp=>?_,rfl,rfl,by simp⟩,.inl ⟨rfl,rfl,rfl,rfl,rfl⟩,?_,(show manB ⟨1,[0],0,0⟩=true by decide),fun p hp=>(by cases hp),⟨0,?_,by simp[rowS],by simp⟩,Int.le_refl _,fun _ n hn=>?_⟩
  ·rw[List.nil_append,List.mem_singleton] at hp;subst hp;refine⟨(fm_hasD hO.2.1 _ _).2 ⟨0,?_⟩,fun r hr=>(by cases hr),fun i hi=>(by simp at hi),rfl,rfl⟩
   rw[hf,up_ne _ _ (n109 _ (by rw[fileN_len];decide)),up_at];rfl
  ·rw[hf,up_at];rfl
  ·rw[hf,up_ne _ _ (n109 _ (by rw[fileN_len];decide)),up_at];rfl
  ·rw[hf] at hn;by_cases a1:n=[109]
   ·exact .inl a1
   ·rw[up_ne _ _ a1] at hn;by_cases a2:n=fileN 0
    ·exact .inr (.inl ⟨⟨0,0,0⟩,by simp,a2⟩)
    ·rw[up_ne _ _ a2,hF] at hn;exact absurd rfl hn
 ·exact absurd h0 (by rw[show(createT d).2=9 from e];decide)
 ·exact absurd h0 (by rw[show(createT d).2=10 from e];decide)
theorem WR.sync {R:List Rec} (ho:okS k u s) (h:WR f S l0 s R):WR f S l0 (syncT s).1 R∧(((syncT s).2=0∧(syncT s).1.sure=s.next∧(syncT s).1.disk.down=false)∨((syncT s).2=10∧(syncT s).1.disk.down=true∧(syncT s).1.sure=s.sure))∧(syncT s).1.disk.cap=s.disk.cap:=by
 obtain⟨M,g,l,h,rfl⟩:=h;have:=h.sync ho;exact⟨⟨M,g,l,this.1,rfl⟩,this.2⟩
def LW (s:Sto):Prop:=∃ f S l0 R,WR f S l0 s R
theorem new_LW:LW (createT d0).1:=⟨_,_,_,_,(create_WR d0_ok.srt (fun _ _=>rfl) d0_new).1⟩
theorem act_LW {i:Nat} (hp:PI i s) (hi:i<40) (h:LW s) {seg:Int} (hseg:1<=seg) (a:Ac):LW (actT seg i s a):=by
 obtain⟨f,S,l0,R,h⟩:=h;unfold actT;split
 ·exact⟨_,_,_,_,(h.sync hp.ok).1⟩
 ·split
  ·obtain⟨f',S',l',_,_,_,h,_⟩:=h.trim hp.ok (by omega) a.n a.m
   exact⟨_,_,_,_,h⟩
  ·split
   ·obtain⟨M,g,l,h,e⟩:=h;exact⟨_,_,_,_,M,g,l,h.arm hp.ok.dsk.srt _,e⟩
   ·split
    ·obtain⟨M,g,l,h,e⟩:=h;exact⟨_,_,_,_,M,g,l,h.lim hp.ok.dsk.srt _,e⟩
    ·rcases(h.app hp.ok hseg (by omega) ⟨s.next,i,a.data⟩).2.2 with⟨_,_,_,_,_,h⟩|⟨h,_⟩
     ·exact⟨_,_,_,_,h⟩
     ·exact⟨_,_,_,_,h⟩
theorem runA_LW {seg:Int} (hseg:1<=seg):∀ (l:List Ac) (i:Nat) (s:Sto),(∀ a∈l,a.ok)->i+l.length<=40->PI i s->LW s->LW (runA seg i l s).1
 | [],i,s,_,_,_,h=>h
 | a::l,i,s,ha,hl,hp,h=>by
  simp only[runA];split
  ·exact h
  ·have:=runA_LW hseg l (i+1) (actT seg i s a) (fun b hb=>ha b (by simp[hb])) (by simp at hl;omega) (act_PI hp (by simp at hl;omega) seg a (ha a (by simp))) (act_LW hp (by simp at hl;omega) h hseg a)
   rw[Int.natCast_add,Int.natCast_one] at this;exact this
theorem play_LW {seg:Int} (hseg:1<=seg) (l:List Ac) (ha:∀ a∈l,a.ok):LW (playT seg l).1:=by
 unfold playT;split
 ·exact new_LW
 ·exact runA_LW hseg l 0 _ ha (by omega) new_PI new_LW
variable {k u:Nat} {f:Int} {S:Txt} {l0:List Pr} {s:Sto} {M:List SR} {g:Seg} {l:List Rec}
theorem WR.stT {R:List Rec} (ho:okS k u s) (h:WR f S l0 s R) (off:Int) (h1:f<=off∧off<=s.next):stateT s off=stF l0 f R off:=by
 obtain⟨M,g,l,h,rfl⟩:=h;exact h.stT ho off h1
theorem WR.st_ok {R:List Rec} (h:WR f S l0 s R) (off:Int):srtP (stF l0 f R off)∧okV (stF l0 f R off)∧(stF l0 f R off).length<=256:=by
 obtain⟨M,g,l,h,rfl⟩:=h;have:=h.st off;exact⟨this.1,this.2,st_len this.1 this.2.okP⟩
theorem WR.why {R:List Rec} (h:WR f S l0 s R):∀ r∈R,whyF r=0:=by
 obtain⟨M,g,l,h,rfl⟩:=h;exact h.why
theorem WR.num {R:List Rec} (h:WR f S l0 s R):numB f R:=by
 obtain⟨M,g,l,h,rfl⟩:=h;exact h.inv.num
def backT:List Txt->Dsk->Dsk × Int
 | [],d=>(d,9)
 | n::l,d=>if(chgF d (delR d.files n)).2≠0 then chgF d (delR d.files n) else backT l (chgF d (delR d.files n)).1
def eS (n:Txt):List D:=[.s n]
set_option maxHeartbeats 2000000 in
theorem back_spec {k u:Nat} (d:Dsk) (hd:okN k u d) (hk:k<=900000) (hu:u<=900000000000) (l:List Txt) (hl:l.length<=1000):call 74 [.agg d.l,vl (l.map eS)] []=some (dskV (backT l d),[]):=by
 obtain⟨Z,hZ⟩:∃ Z,Z=backT l d:=⟨_,rfl⟩;rw[<- hZ];obtain⟨⟨zfl,zcp,zar,zlf,zdn⟩,ze⟩:=Z;simp only[dskV,Dsk.l];apply enterS s74 rfl;obtain⟨dfl,dcp,dar,dlf,ddn⟩:=d;(simp(disch:=first|decide|omega|(intros;exact Eq.trans rfl rfl)|simp only[puri]) only[wkf,a74,go_sem,seval,dis])
 refine loop_boxM (m:=0) (σ:=Nat × Dsk) (fun t=>l.length-t.1) (fun t=>t.1<=l.length∧okN k u t.2∧backT (l.drop t.1) t.2=(⟨zfl,zcp,zar,zlf,zdn⟩,ze)) (fun t=>[V.one (.p 0 0),V.one (.p 1 0),vl (l.map eS),vi l.length,vi t.1])
  (fun t=>[.cells [.d (.l (t.2.files.map Fil.enc)),.d (.i .i64 t.2.cap),.d (.b t.2.armed),.d (.i .i64 t.2.left),.d (.b t.2.down)],.cells [.ns,.d (.i .i64 0),.d (.b false),.d (.i .i64 0),.d (.b false)]])
  (fun _=>(V.tup [(true,[.d (.l (zfl.map Fil.enc)),.d (.i .i64 zcp),.d (.b zar),.d (.i .i64 zlf),.d (.b zdn)]),(false,[.d (.i .i64 ze)])],[])) ?_ (0,⟨dfl,dcp,dar,dlf,ddn⟩) ⟨Nat.zero_le _,hd,hZ.symm⟩ _ _ ?_
 rotate_left
 ·exact hdM
 rintro⟨i,⟨fl,cp,ar,lf,dn⟩⟩ ⟨h1,h2,h3⟩ R hR;simp only at h1 h2 h3 ⊢;by_cases c:i<l.length
 ·have hc:(i:Int)<(l.length:Int):=by omega
  rw[List.drop_eq_getElem_cons c,backT] at h3;have g1:(l.map eS)[i]?=some [.s l[i]]:=by rw[List.getElem?_map,List.getElem?_eq_getElem c];rfl
  generalize l[i]=n at *;have g2:=delete_spec ⟨fl,cp,ar,lf,dn⟩ (h2.ok (by omega) (by omega)) n
  have kk:=del_okN (s:=(⟨fl,cp,ar,lf,dn⟩,0)) h2 n;rw[show delS n (⟨fl,cp,ar,lf,dn⟩,0)=chgF ⟨fl,cp,ar,lf,dn⟩ (delR fl n) from stp_ye _ _] at kk
  simp only at g2 h3;generalize chgF ⟨fl,cp,ar,lf,dn⟩ (delR fl n)=q at *;obtain⟨⟨qfl,qcp,qar,qlf,qdn⟩,qe⟩:=q;simp only[dskV,Dsk.l] at g2 h3;by_cases c2:qe=0
  ·subst c2;rw[if_neg (by simp)] at h3
   have hR':=hR (i+1,⟨qfl,qcp,qar,qlf,qdn⟩) (by simp only[];omega) ⟨by simp only[];omega,kk,h3⟩
   (simp(disch:=first|decide|omega|(intros;exact Eq.trans rfl rfl)|simp only[puri]) only[wkf,a74_0,decide_eq_true hc,g1,g2,go_sem,seval,dis,vdr,A.kind,A.xs,optX,A.isN])
   exact hR' _ _ hdM
  ·rw[if_pos c2] at h3;cases h3;(simp(disch:=first|decide|omega|(intros;exact Eq.trans rfl rfl)|simp only[puri]) only[wkf,a74_0,decide_eq_true hc,g1,g2,c2,go_sem,seval,dis,vdr,A.kind,A.xs,optX,A.isN])
   try simp[trim,c2]
 ·have hc:¬ (i:Int)<(l.length:Int):=by omega
  rw[List.drop_eq_nil_of_le (by omega),backT] at h3
  cases h3;(simp(disch:=first|decide|omega|(intros;exact Eq.trans rfl rfl)|simp only[puri]) only[wkf,a74_0,a74,decide_eq_false hc,go_sem,seval,dis,vdr,A.kind,A.xs,optX,A.isN])
  try simp[trim]
set_option maxRecDepth 8000 in
theorem pswap_spec (d:Dsk) {k u:Nat} (hd:okN k u d) (hk:k<=900000) (hu:u<=900000000000) (m:Man) (hm:m.ok):call 39 [.agg d.l,.agg m.l] []=some (dskV (swapS m (d,0)),[]):=by
 have q:=sswap_spec (d,0) hd hk hu m hm;apply enterS s39 rfl;generalize swapS m (d,0)=w at *;obtain⟨mv,ms,mz,mm⟩:=m;obtain⟨fl,cp,ar,lf,dn⟩:=d;obtain⟨⟨f2,cp2,ar2,lf2,dn2⟩,e2⟩:=w;simp only[stB,Dsk.l,Man.l,List.cons_append,List.nil_append] at q;have r:∀ P Q R:Box,callIso call 82 [.one (.p 3 0),.agg [.d (.i .i64 mv),.d (.l (ms.map eI)),.d (.i .i64 mz),.d (.i .u32 mm)]] [P,Q,R,.cells [.d (.l (fl.map Fil.enc)),.d (.i .i64 cp),.d (.b ar),.d (.i .i64 lf),.d (.b dn),.d (.i .i64 0)]]=some (.tup [],[P,Q,R,.cells [.d (.l (f2.map Fil.enc)),.d (.i .i64 cp2),.d (.b ar2),.d (.i .i64 lf2),.d (.b dn2),.d (.i .i64 e2)]]):=fun P Q R =>
  iso_at (ids:=[3]) rfl rfl rfl q rfl
 (simp(disch:=first|decide|omega|(intros;exact Eq.trans rfl rfl)|simp only[puri]) only[wkf,a39,Dsk.l,Man.l,↓r,go_sem,seval,dis,vdr,A.kind,A.xs,optX,A.isN])
 try simp[trim,dskV,Dsk.l]
def goT:List Txt->Dsk->Dsk × Int
 | [],d=>(d,0)
 | n::l,d=>if(chgF d (delR d.files n)).2=0 then goT l (chgF d (delR d.files n)).1 else chgF d (delR d.files n)
theorem remove1_spec (d:Dsk) (hd:d.ok) (n:Txt):call 83 [.agg d.l,.one (.ip [.s n])] []=some (dskV (chgF d (delR d.files n)),[]):=by
 have h:=delete_spec d hd n;generalize chgF d (delR d.files n)=q at *;obtain⟨⟨fl,cp,ar,lf,dn⟩,qe⟩:=q;obtain⟨fl0,cp0,ar0,lf0,dn0⟩:=d;simp only[dskV,Dsk.l] at h ⊢;apply enterS s83 rfl;(simp(disch:=first|decide|omega|(intros;exact Eq.trans rfl rfl)|simp only[puri]) only[wkf,a83,h,go_sem,seval,dis])
 try simp[trim]
def rmD (n:Txt):List D:=[.fn 83 [[.s n]],.l []]
set_option maxHeartbeats 2000000 in
theorem run_data {k u:Nat} (d:Dsk) (hd:okN k u d) (hk:k<=900000) (hu:u<=900000000000) (l:List Txt) (hl:l.length<=1000):call 30 [.agg d.l,vl (l.map rmD)] []=some (dskV (goT l d),[]):=by
 obtain⟨Z,hZ⟩:∃ Z,Z=goT l d:=⟨_,rfl⟩;rw[<- hZ];obtain⟨⟨zfl,zcp,zar,zlf,zdn⟩,ze⟩:=Z;simp only[dskV,Dsk.l];apply enterS s30 rfl;obtain⟨dfl,dcp,dar,dlf,ddn⟩:=d;(simp(disch:=first|decide|omega|(intros;exact Eq.trans rfl rfl)|simp only[puri]) only[wkf,a30,go_sem,seval,dis])
 refine loop_boxM (m:=0) (σ:=Nat × Dsk) (fun t=>l.length-t.1) (fun t=>t.1<=l.length∧okN k u t.2∧goT (l.drop t.1) t.2=(⟨zfl,zcp,zar,zlf,zdn⟩,ze)) (fun t=>[V.one (.p 0 0),V.one (.p 1 0),vl (l.map rmD),vi l.length,vi t.1])
  (fun t=>[.cells [.d (.l (t.2.files.map Fil.enc)),.d (.i .i64 t.2.cap),.d (.b t.2.armed),.d (.i .i64 t.2.left),.d (.b t.2.down)],.cells [.ns,.d (.i .i64 0),.d (.b false),.d (.i .i64 0),.d (.b false)]])
  (fun _=>(V.tup [(true,[.d (.l (zfl.map Fil.enc)),.d (.i .i64 zcp),.d (.b zar),.d (.i .i64 zlf),.d (.b zdn)]),(false,[.d (.i .i64 ze)])],[])) ?_ (0,⟨dfl,dcp,dar,dlf,ddn⟩) ⟨Nat.zero_le _,hd,hZ.symm⟩ _ _ ?_
 rotate_left
 ·exact hdM
 rintro⟨i,⟨fl,cp,ar,lf,dn⟩⟩ ⟨h1,h2,h3⟩ R hR;simp only at h1 h2 h3 ⊢;by_cases c:i<l.length
 ·have hc:(i:Int)<(l.length:Int):=by omega
  rw[List.drop_eq_getElem_cons c,goT] at h3;have g1:(l.map rmD)[i]?=some [.fn 83 [[.s l[i]]],.l []]:=by rw[List.getElem?_map,List.getElem?_eq_getElem c];rfl
  generalize l[i]=n at *;have g2:=remove1_spec ⟨fl,cp,ar,lf,dn⟩ (h2.ok (by omega) (by omega)) n
  have kk:=del_okN (s:=(⟨fl,cp,ar,lf,dn⟩,0)) h2 n;rw[show delS n (⟨fl,cp,ar,lf,dn⟩,0)=chgF ⟨fl,cp,ar,lf,dn⟩ (delR fl n) from stp_ye _ _] at kk
  simp only at g2 h3;generalize chgF ⟨fl,cp,ar,lf,dn⟩ (delR fl n)=q at *;have hb0:=back_spec q.1 kk hk hu [] (by decide)
  obtain⟨⟨qfl,qcp,qar,qlf,qdn⟩,qe⟩:=q;simp only[dskV,Dsk.l,List.map_nil,backT] at g2 h3 hb0;have g3:∀ H:Hp,callIso call 83 [.agg [.d (.l (fl.map Fil.enc)),.d (.i .i64 cp),.d (.b ar),.d (.i .i64 lf),.d (.b dn)],.one (.ip [.s n])] H=some (V.tup [(true,[.d (.l (qfl.map Fil.enc)),.d (.i .i64 qcp),.d (.b qar),.d (.i .i64 qlf),.d (.b qdn)]),(false,[.d (.i .i64 qe)])],H):=fun H=>callIso_pure rfl g2 rfl
  by_cases c2:qe=0
  ·subst c2;rw[if_pos rfl] at h3;have hR':=hR (i+1,⟨qfl,qcp,qar,qlf,qdn⟩) (by simp only[];omega) ⟨by simp only[];omega,kk,h3⟩
   (simp(disch:=first|decide|omega|(intros;exact Eq.trans rfl rfl)|simp only[puri]) only[wkf,a30_0,decide_eq_true hc,g1,g3,go_sem,seval,dis,vdr,A.kind,A.xs,optX,A.isN])
   exact hR' _ _ hdM
  ·rw[if_neg c2] at h3;cases h3;by_cases c9:ze=9
   ·subst c9;(simp(disch:=first|decide|omega|(intros;exact Eq.trans rfl rfl)|simp only[puri]) only[wkf,a30_0,decide_eq_true hc,g1,g3,hb0,go_sem,seval,dis,vdr,A.kind,A.xs,optX,A.isN])
    try simp[trim,c2]
   ·(simp(disch:=first|decide|omega|(intros;exact Eq.trans rfl rfl)|simp only[puri]) only[wkf,a30_0,decide_eq_true hc,g1,g3,c2,c9,go_sem,seval,dis,vdr,A.kind,A.xs,optX,A.isN])
    try simp[trim,c2]
 ·have hc:¬ (i:Int)<(l.length:Int):=by omega
  rw[List.drop_eq_nil_of_le (by omega),goT] at h3
  cases h3;(simp(disch:=first|decide|omega|(intros;exact Eq.trans rfl rfl)|simp only[puri]) only[wkf,a30_0,a30,decide_eq_false hc,go_sem,seval,dis,vdr,A.kind,A.xs,optX,A.isN])
  try simp[trim]
theorem remove_spec (n:Txt):call 41 [vs n] []=some (.agg [.f 83 [0],.ns],[.cells [.d (.s n)],.cells [.f 83 [0],.ns]]):=by
 apply enterS s41 rfl;have htr:∀ H:Hp,trim 0 (.agg [.f 83 [0],.ns]) H=(.agg [.f 83 [0],.ns],H):=fun H=>by simp[trim,V.refs,L.refs]
 (simp(disch:=first|decide|omega|(intros;exact Eq.trans rfl rfl)|simp only[puri]) only[wkf,a41,↓htr,go_sem,seval,dis])
theorem c1_spec (d:Dsk) (hd:d.ok) (n:Txt):call 31 [.agg d.l,.one (.p 0 0)] [.cells [.d (.s n)]]=some (dskV (chgF d (crtR d.files n)),[.cells [.d (.s n)]]):=by
 have h:=create_spec d hd n;generalize chgF d (crtR d.files n)=q at *;obtain⟨⟨fl,cp,ar,lf,dn⟩,qe⟩:=q;obtain⟨fl0,cp0,ar0,lf0,dn0⟩:=d;simp only[dskV,Dsk.l] at h ⊢;apply enterS s31 rfl;(simp(disch:=first|decide|omega|(intros;exact Eq.trans rfl rfl)|simp only[puri]) only[wkf,a31,h,go_sem,seval,dis])
 try simp[trim,V.refs,L.refs,Box.refs]
theorem c4_spec (d:Dsk) (hd:d.ok) (n:Txt):call 37 [.agg d.l,.one (.p 0 0)] [.cells [.d (.s n)]]=some (dskV (chgF d (crtR d.files n)),[.cells [.d (.s n)]]):=by
 have h:=create_spec d hd n;generalize chgF d (crtR d.files n)=q at *;obtain⟨⟨fl,cp,ar,lf,dn⟩,qe⟩:=q;obtain⟨fl0,cp0,ar0,lf0,dn0⟩:=d;simp only[dskV,Dsk.l] at h ⊢;apply enterS s37 rfl;(simp(disch:=first|decide|omega|(intros;exact Eq.trans rfl rfl)|simp only[puri]) only[wkf,a37,h,go_sem,seval,dis])
 try simp[trim,V.refs,L.refs,Box.refs]
theorem c3_spec (d:Dsk) (hd:d.ok) (n:Txt):call 35 [.agg d.l,.one (.p 0 0)] [.cells [.d (.s n)]]=some (dskV (chgF d (synR d.files n)),[.cells [.d (.s n)]]):=by
 have h:=sync_disk d hd n;generalize chgF d (synR d.files n)=q at *;obtain⟨⟨fl,cp,ar,lf,dn⟩,qe⟩:=q;obtain⟨fl0,cp0,ar0,lf0,dn0⟩:=d;simp only[dskV,Dsk.l] at h ⊢;apply enterS s35 rfl;(simp(disch:=first|decide|omega|(intros;exact Eq.trans rfl rfl)|simp only[puri]) only[wkf,a35,h,go_sem,seval,dis])
 try simp[trim,V.refs,L.refs,Box.refs]
theorem c2_spec (d:Dsk) (hd:d.ok) (n x:Txt) (hx:x.length<=1000000000000):call 33 [.agg d.l,.one (.p 0 0),.one (.p 1 0)] [.cells [.d (.s n)],.cells [.d (.s x)]]=some (dskV (chgF d (appR d.files d.cap n x)),[.cells [.d (.s n)],.cells [.d (.s x)]]):=by
 have h:=append_spec d hd n x hx;generalize chgF d (appR d.files d.cap n x)=q at *;obtain⟨⟨fl,cp,ar,lf,dn⟩,qe⟩:=q;obtain⟨fl0,cp0,ar0,lf0,dn0⟩:=d;simp only[dskV,Dsk.l] at h ⊢;apply enterS s33 rfl;(simp(disch:=first|decide|omega|(intros;exact Eq.trans rfl rfl)|simp only[puri]) only[wkf,a33,h,go_sem,seval,dis])
 try simp[trim,V.refs,L.refs,Box.refs]
def newX (ver at_:Int) (x:Txt):Sto:=⟨⟨[],0,false,0,false⟩,ver,[⟨at_,0,0⟩],at_,at_,x.length,sumT x⟩
def newL (ver at_:Int) (x:Txt) (b:Nat):List L:=[.ns,.d (.i .i64 0),.d (.b false),.d (.i .i64 0),.d (.b false),.d (.i .i64 ver),.sl b 3 0 1,.d (.i .i64 at_),.d (.i .i64 at_),.d (.i .i64 x.length),.d (.i .u32 (sumT x))]
theorem newX_ok (ver at_:Int) (x:Txt):(newX ver at_ x).man.ok:=⟨by show 1<=1000000;decide,sumT_lt x⟩
theorem c5_spec {k u:Nat} (d:Dsk) (hd:okN k u d) (hk:k<=900000) (hu:u<=900000000000) (ver at_:Int) (x:Txt) (fz:Nat) (hfz:fz<=1):call 38 [.agg d.l,.one (.p 0 0)] [.cells (newL ver at_ x 1),.arr 3 [[.i .i64 at_,.i .i64 0,.i .i64 0]] fz]=some (dskV (swapS (newX ver at_ x).man (d,0)),[.cells (newL ver at_ x 1),.arr 3 [[.i .i64 at_,.i .i64 0,.i .i64 0]] 1]):=by
 have q1:=man_spec (newX ver at_ x) (by show 1<=1000000;decide)
 have q2:=pswap_spec d hd hk hu (newX ver at_ x).man (newX_ok ver at_ x);generalize swapS (newX ver at_ x).man (d,0)=q at *;obtain⟨⟨fl,cp,ar,lf,dn⟩,qe⟩:=q;obtain⟨fl0,cp0,ar0,lf0,dn0⟩:=d;have hm:max fz 1=1:=by omega
 simp only[dskV,Dsk.l,newX,newL,Sto.l,Sto.man,Man.l,Seg.enc,List.map_cons,List.map_nil,List.cons_append,List.nil_append,eI] at q1 q2 ⊢;apply enterS s38 rfl;(simp(disch:=first|decide|omega|(intros;exact Eq.trans rfl rfl)|simp only[puri]) only[wkf,a38,↓iso_callzB_e,czKB_a,splitB,isDN,List.all_cons,List.all_nil,Bool.and_self,cond_true,czR_some,q1,q2,hm,go_sem,seval,dis,vdr,A.kind,A.xs,optX,A.isN])
 try simp[trim,V.refs,L.refs,Box.refs]
abbrev LR:=(Dsk × Int) × Nat × Nat × Nat
def u4 (n g:Txt) (m:Man) (d:Dsk):LR:=if(swapS m (d,0)).2=9 then(backT [g,n] (swapS m (d,0)).1,0,1,2) else(swapS m (d,0),0,1,0)
def u3 (n g:Txt) (m:Man) (d:Dsk):LR:=if(chgF d (crtR d.files g)).2≠0 then(chgF d (crtR d.files g),0,0,0) else u4 n g m (chgF d (crtR d.files g)).1
def u2 (n g:Txt) (m:Man) (d:Dsk):LR:=if(chgF d (synR d.files n)).2≠0 then(chgF d (synR d.files n),0,0,0) else u3 n g m (chgF d (synR d.files n)).1
def u1 (n g x:Txt) (m:Man) (d:Dsk):LR:=if(chgF d (appR d.files d.cap n x)).2=9 then(backT [n] (chgF d (appR d.files d.cap n x)).1,1,0,0) else if(chgF d (appR d.files d.cap n x)).2≠0 then(chgF d (appR d.files d.cap n x),0,0,0) else u2 n g m (chgF d (appR d.files d.cap n x)).1
def u0 (n g x:Txt) (m:Man) (d:Dsk):LR:=if(chgF d (crtR d.files n)).2≠0 then(chgF d (crtR d.files n),0,0,0) else u1 n g x m (chgF d (crtR d.files n)).1
def uT (n g x:Txt) (m:Man):Nat->Dsk->LR
 | 0,d=>u0 n g x m d
 | 1,d=>u1 n g x m d
 | 2,d=>u2 n g m d
 | 3,d=>u3 n g m d
 | 4,d=>u4 n g m d
 | _,d=>((d,0),0,1,0)
def HI (n g x:Txt) (ver at_:Int) (f1 f2 f3:Nat):Hp:=[.cells [.f 31 [1],.ns,.f 33 [1,2],.sl 3 1 0 1,.f 35 [1],.ns,.f 37 [4],.ns,.f 38 [5],.sl 7 1 0 2],.cells [.d (.s n)],.cells [.d (.s x)],.arr 1 [[.s n]] f1,.cells [.d (.s g)],.cells [.ns,.d (.i .i64 0),.d (.b false),.d (.i .i64 0),.d (.b false),.d (.i .i64 ver),.sl 6 3 0 1,.d (.i .i64 at_),.d (.i .i64 at_),.d (.i .i64 x.length),.d (.i .u32 (sumT x))],.arr 3 [[.i .i64 at_,.i .i64 0,.i .i64 0]] f2,.arr 1 [[.s g],[.s n]] f3]
set_option maxRecDepth 20000 in
set_option maxHeartbeats 4000000 in
theorem run_first {k u:Nat} (d:Dsk) (hd:okN k u d) (hk:k<=800000) (hu:u<=800000000000) (n g x:Txt) (hx:x.length<=1000) (ver at_:Int) :
  call 30 [.agg d.l,.one (.sp 0 5)] (HI n g x ver at_ 0 0 0)=some (dskV (u0 n g x (newX ver at_ x).man d).1,HI n g x ver at_ (u0 n g x (newX ver at_ x).man d).2.1 (u0 n g x (newX ver at_ x).man d).2.2.1 (u0 n g x (newX ver at_ x).man d).2.2.2):=by
 obtain⟨Z,hZ⟩:∃ Z,Z=uT n g x (newX ver at_ x).man 0 d:=⟨_,rfl⟩;have hZ0:u0 n g x (newX ver at_ x).man d=Z:=hZ.symm;rw[hZ0];clear hZ0;obtain⟨⟨⟨zfl,zcp,zar,zlf,zdn⟩,ze⟩,F1,F2,F3⟩:=Z;simp only[dskV,Dsk.l,HI];apply enterS s30 rfl;obtain⟨dfl,dcp,dar,dlf,ddn⟩:=d;(simp(disch:=first|decide|omega|(intros;exact Eq.trans rfl rfl)|simp only[puri]) only[wkf,a30,go_sem,seval,dis])
 refine loop_boxM (m:=8) (σ:=Nat × Dsk) (fun t=>5-t.1) (fun t=>t.1<=5∧okN (k+2*t.1) (u+2000*t.1) t.2∧uT n g x (newX ver at_ x).man t.1 t.2=((⟨zfl,zcp,zar,zlf,zdn⟩,ze),F1,F2,F3)) (fun t=>[V.one (.p 8 0),V.one (.p 9 0),V.one (.sp 0 5),vi 5,vi t.1])
  (fun t=>[.cells [.f 31 [1],.ns,.f 33 [1,2],.sl 3 1 0 1,.f 35 [1],.ns,.f 37 [4],.ns,.f 38 [5],.sl 7 1 0 2],.cells [.d (.s n)],.cells [.d (.s x)],.arr 1 [[.s n]] 0,.cells [.d (.s g)],.cells [.ns,.d (.i .i64 0),.d (.b false),.d (.i .i64 0),.d (.b false),.d (.i .i64 ver),.sl 6 3 0 1,.d (.i .i64 at_),.d (.i .i64 at_),.d (.i .i64 x.length),.d (.i .u32 (sumT x))],.arr 3 [[.i .i64 at_,.i .i64 0,.i .i64 0]] (if t.1=5 then 1 else 0),.arr 1 [[.s g],[.s n]] 0,.cells [.d (.l (t.2.files.map Fil.enc)),.d (.i .i64 t.2.cap),.d (.b t.2.armed),.d (.i .i64 t.2.left),.d (.b t.2.down)],.cells [.ns,.d (.i .i64 0),.d (.b false),.d (.i .i64 0),.d (.b false)]])
  (fun _=>(V.tup [(true,[.d (.l (zfl.map Fil.enc)),.d (.i .i64 zcp),.d (.b zar),.d (.i .i64 zlf),.d (.b zdn)]),(false,[.d (.i .i64 ze)])],([.cells [.f 31 [1],.ns,.f 33 [1,2],.sl 3 1 0 1,.f 35 [1],.ns,.f 37 [4],.ns,.f 38 [5],.sl 7 1 0 2],.cells [.d (.s n)],.cells [.d (.s x)],.arr 1 [[.s n]] F1,.cells [.d (.s g)],.cells [.ns,.d (.i .i64 0),.d (.b false),.d (.i .i64 0),.d (.b false),.d (.i .i64 ver),.sl 6 3 0 1,.d (.i .i64 at_),.d (.i .i64 at_),.d (.i .i64 x.length),.d (.i .u32 (sumT x))],.arr 3 [[.i .i64 at_,.i .i64 0,.i .i64 0]] F2,.arr 1 [[.s g],[.s n]] F3]:Hp))) ?_ (0,⟨dfl,dcp,dar,dlf,ddn⟩) ⟨Nat.zero_le _,hd,hZ.symm⟩ _ _ ?_
 rotate_left
 ·exact hdM
 rintro⟨i,⟨fl,cp,ar,lf,dn⟩⟩ ⟨h1,h2,h3⟩ R hR;simp only at h1 h2 h3 ⊢;have hok:=h2.ok (by omega) (by omega)
 rcases(by omega:i=0∨i=1∨i=2∨i=3∨i=4∨i=5) with rfl|rfl|rfl|rfl|rfl|rfl
 ·have q1:=c1_spec ⟨fl,cp,ar,lf,dn⟩ hok n;have kk:=crt_ok (s:=(⟨fl,cp,ar,lf,dn⟩,0)) h2 n;rw[show crtS n (⟨fl,cp,ar,lf,dn⟩,0)=chgF ⟨fl,cp,ar,lf,dn⟩ (crtR fl n) from stp_ye _ _] at kk
  simp only[uT,u0] at h3;simp only at q1;generalize chgF ⟨fl,cp,ar,lf,dn⟩ (crtR fl n)=q at *;have hb:=back_spec q.1 kk (by omega) (by omega) [] (by simp)
  have kq:=kk.up (k':=k+2*(0+1)) (u':=u+2000*(0+1)) (by omega) (by omega)
  generalize hbt:backT [] q.1=bt at *;obtain⟨⟨qfl,qcp,qar,qlf,qdn⟩,qe⟩:=q;obtain⟨⟨bfl,bcp,bar,blf,bdn⟩,be⟩:=bt;simp only[dskV,Dsk.l,List.map_cons,List.map_nil,eS] at q1 hb h3;have g1:callIso call 31 [.agg [.d (.l (fl.map Fil.enc)),.d (.i .i64 cp),.d (.b ar),.d (.i .i64 lf),.d (.b dn)],.one (.p 1 0)] [.cells [.f 31 [1],.ns,.f 33 [1,2],.sl 3 1 0 1,.f 35 [1],.ns,.f 37 [4],.ns,.f 38 [5],.sl 7 1 0 2],.cells [.d (.s n)],.cells [.d (.s x)],.arr 1 [[.s n]] 0,.cells [.d (.s g)],.cells [.ns,.d (.i .i64 0),.d (.b false),.d (.i .i64 0),.d (.b false),.d (.i .i64 ver),.sl 6 3 0 1,.d (.i .i64 at_),.d (.i .i64 at_),.d (.i .i64 x.length),.d (.i .u32 (sumT x))],.arr 3 [[.i .i64 at_,.i .i64 0,.i .i64 0]] 0,.arr 1 [[.s g],[.s n]] 0,.cells [.d (.l (fl.map Fil.enc)),.d (.i .i64 cp),.d (.b ar),.d (.i .i64 lf),.d (.b dn)],.cells [.ns,.d (.i .i64 0),.d (.b false),.d (.i .i64 0),.d (.b false)],.cells [.f 31 [1],.ns]]=some (V.tup [(true,[.d (.l (qfl.map Fil.enc)),.d (.i .i64 qcp),.d (.b qar),.d (.i .i64 qlf),.d (.b qdn)]),(false,[.d (.i .i64 qe)])],[.cells [.f 31 [1],.ns,.f 33 [1,2],.sl 3 1 0 1,.f 35 [1],.ns,.f 37 [4],.ns,.f 38 [5],.sl 7 1 0 2],.cells [.d (.s n)],.cells [.d (.s x)],.arr 1 [[.s n]] 0,.cells [.d (.s g)],.cells [.ns,.d (.i .i64 0),.d (.b false),.d (.i .i64 0),.d (.b false),.d (.i .i64 ver),.sl 6 3 0 1,.d (.i .i64 at_),.d (.i .i64 at_),.d (.i .i64 x.length),.d (.i .u32 (sumT x))],.arr 3 [[.i .i64 at_,.i .i64 0,.i .i64 0]] 0,.arr 1 [[.s g],[.s n]] 0,.cells [.d (.l (fl.map Fil.enc)),.d (.i .i64 cp),.d (.b ar),.d (.i .i64 lf),.d (.b dn)],.cells [.ns,.d (.i .i64 0),.d (.b false),.d (.i .i64 0),.d (.b false)],.cells [.f 31 [1],.ns]]):=iso_at (ids:=[1]) rfl rfl rfl q1 rfl;by_cases c2:qe=0
  ·subst c2;rw[if_neg (by simp)] at h3
   have hR':=hR (0+1,⟨qfl,qcp,qar,qlf,qdn⟩) (by simp only[];omega) ⟨by simp only[];omega,kq,h3⟩
   (simp(disch:=first|decide|omega|(intros;exact Eq.trans rfl rfl)|simp only[puri]) only[wkf,a30_0,g1,go_sem,seval,dis,vdr,A.kind,A.xs,optX,A.isN])
   exact hR' _ _ hdM
  ·rw[if_pos c2] at h3;cases h3;have hbt2:(⟨⟨bfl,bcp,bar,blf,bdn⟩,be⟩:Dsk × Int)=(⟨zfl,zcp,zar,zlf,zdn⟩,9):=hbt.symm;cases hbt2;by_cases c9:ze=9
   ·subst c9;(simp(disch:=first|decide|omega|(intros;exact Eq.trans rfl rfl)|simp only[puri]) only[wkf,a30_0,g1,hb,go_sem,seval,dis,vdr,A.kind,A.xs,optX,A.isN])
    try simp[trim,V.refs,L.refs,Box.refs]
   ·(simp(disch:=first|decide|omega|(intros;exact Eq.trans rfl rfl)|simp only[puri]) only[wkf,a30_0,g1,c2,c9,go_sem,seval,dis,vdr,A.kind,A.xs,optX,A.isN])
    try simp[trim,V.refs,L.refs,Box.refs]
 ·have q1:=c2_spec ⟨fl,cp,ar,lf,dn⟩ hok n x (by omega)
  have kk:=app_ok (s:=(⟨fl,cp,ar,lf,dn⟩,0)) h2 n x;rw[show appS n x (⟨fl,cp,ar,lf,dn⟩,0)=chgF ⟨fl,cp,ar,lf,dn⟩ (appR fl cp n x) from stp_ye _ _] at kk
  simp only[uT,u1] at h3;simp only at q1;generalize chgF ⟨fl,cp,ar,lf,dn⟩ (appR fl cp n x)=q at *;have hb:=back_spec q.1 kk (by omega) (by omega) [n] (by simp)
  have kq:=kk.up (k':=k+2*(1+1)) (u':=u+2000*(1+1)) (by omega) (by omega)
  generalize hbt:backT [n] q.1=bt at *;obtain⟨⟨qfl,qcp,qar,qlf,qdn⟩,qe⟩:=q;obtain⟨⟨bfl,bcp,bar,blf,bdn⟩,be⟩:=bt;simp only[dskV,Dsk.l,List.map_cons,List.map_nil,eS] at q1 hb h3;have g1:callIso call 33 [.agg [.d (.l (fl.map Fil.enc)),.d (.i .i64 cp),.d (.b ar),.d (.i .i64 lf),.d (.b dn)],.one (.p 1 0),.one (.p 2 0)] [.cells [.f 31 [1],.ns,.f 33 [1,2],.sl 3 1 0 1,.f 35 [1],.ns,.f 37 [4],.ns,.f 38 [5],.sl 7 1 0 2],.cells [.d (.s n)],.cells [.d (.s x)],.arr 1 [[.s n]] 0,.cells [.d (.s g)],.cells [.ns,.d (.i .i64 0),.d (.b false),.d (.i .i64 0),.d (.b false),.d (.i .i64 ver),.sl 6 3 0 1,.d (.i .i64 at_),.d (.i .i64 at_),.d (.i .i64 x.length),.d (.i .u32 (sumT x))],.arr 3 [[.i .i64 at_,.i .i64 0,.i .i64 0]] 0,.arr 1 [[.s g],[.s n]] 0,.cells [.d (.l (fl.map Fil.enc)),.d (.i .i64 cp),.d (.b ar),.d (.i .i64 lf),.d (.b dn)],.cells [.ns,.d (.i .i64 0),.d (.b false),.d (.i .i64 0),.d (.b false)],.cells [.f 33 [1,2],.sl 3 1 0 1]]=some (V.tup [(true,[.d (.l (qfl.map Fil.enc)),.d (.i .i64 qcp),.d (.b qar),.d (.i .i64 qlf),.d (.b qdn)]),(false,[.d (.i .i64 qe)])],[.cells [.f 31 [1],.ns,.f 33 [1,2],.sl 3 1 0 1,.f 35 [1],.ns,.f 37 [4],.ns,.f 38 [5],.sl 7 1 0 2],.cells [.d (.s n)],.cells [.d (.s x)],.arr 1 [[.s n]] 0,.cells [.d (.s g)],.cells [.ns,.d (.i .i64 0),.d (.b false),.d (.i .i64 0),.d (.b false),.d (.i .i64 ver),.sl 6 3 0 1,.d (.i .i64 at_),.d (.i .i64 at_),.d (.i .i64 x.length),.d (.i .u32 (sumT x))],.arr 3 [[.i .i64 at_,.i .i64 0,.i .i64 0]] 0,.arr 1 [[.s g],[.s n]] 0,.cells [.d (.l (fl.map Fil.enc)),.d (.i .i64 cp),.d (.b ar),.d (.i .i64 lf),.d (.b dn)],.cells [.ns,.d (.i .i64 0),.d (.b false),.d (.i .i64 0),.d (.b false)],.cells [.f 33 [1,2],.sl 3 1 0 1]]):=iso_at (ids:=[1,2]) rfl rfl rfl q1 rfl;by_cases c2:qe=0
  ·subst c2;rw[if_neg (by decide),if_neg (by simp)] at h3
   have hR':=hR (1+1,⟨qfl,qcp,qar,qlf,qdn⟩) (by simp only[];omega) ⟨by simp only[];omega,kq,h3⟩
   (simp(disch:=first|decide|omega|(intros;exact Eq.trans rfl rfl)|simp only[puri]) only[wkf,a30_0,g1,go_sem,seval,dis,vdr,A.kind,A.xs,optX,A.isN])
   exact hR' _ _ hdM
  ·by_cases c9:qe=9
   ·subst c9;rw[if_pos rfl] at h3;cases h3;(simp(disch:=first|decide|omega|(intros;exact Eq.trans rfl rfl)|simp only[puri]) only[wkf,a30_0,g1,hb,go_sem,seval,dis,vdr,A.kind,A.xs,optX,A.isN])
    try simp[trim,V.refs,L.refs,Box.refs]
   ·rw[if_neg c9,if_pos c2] at h3;cases h3;(simp(disch:=first|decide|omega|(intros;exact Eq.trans rfl rfl)|simp only[puri]) only[wkf,a30_0,g1,c2,c9,go_sem,seval,dis,vdr,A.kind,A.xs,optX,A.isN])
    try simp[trim,V.refs,L.refs,Box.refs]
 ·have q1:=c3_spec ⟨fl,cp,ar,lf,dn⟩ hok n;have kk:=syn_ok (s:=(⟨fl,cp,ar,lf,dn⟩,0)) h2 n;rw[show synS n (⟨fl,cp,ar,lf,dn⟩,0)=chgF ⟨fl,cp,ar,lf,dn⟩ (synR fl n) from stp_ye _ _] at kk
  simp only[uT,u2] at h3;simp only at q1;generalize chgF ⟨fl,cp,ar,lf,dn⟩ (synR fl n)=q at *;have hb:=back_spec q.1 kk (by omega) (by omega) [] (by simp)
  have kq:=kk.up (k':=k+2*(2+1)) (u':=u+2000*(2+1)) (by omega) (by omega)
  generalize hbt:backT [] q.1=bt at *;obtain⟨⟨qfl,qcp,qar,qlf,qdn⟩,qe⟩:=q;obtain⟨⟨bfl,bcp,bar,blf,bdn⟩,be⟩:=bt;simp only[dskV,Dsk.l,List.map_cons,List.map_nil,eS] at q1 hb h3;have g1:callIso call 35 [.agg [.d (.l (fl.map Fil.enc)),.d (.i .i64 cp),.d (.b ar),.d (.i .i64 lf),.d (.b dn)],.one (.p 1 0)] [.cells [.f 31 [1],.ns,.f 33 [1,2],.sl 3 1 0 1,.f 35 [1],.ns,.f 37 [4],.ns,.f 38 [5],.sl 7 1 0 2],.cells [.d (.s n)],.cells [.d (.s x)],.arr 1 [[.s n]] 0,.cells [.d (.s g)],.cells [.ns,.d (.i .i64 0),.d (.b false),.d (.i .i64 0),.d (.b false),.d (.i .i64 ver),.sl 6 3 0 1,.d (.i .i64 at_),.d (.i .i64 at_),.d (.i .i64 x.length),.d (.i .u32 (sumT x))],.arr 3 [[.i .i64 at_,.i .i64 0,.i .i64 0]] 0,.arr 1 [[.s g],[.s n]] 0,.cells [.d (.l (fl.map Fil.enc)),.d (.i .i64 cp),.d (.b ar),.d (.i .i64 lf),.d (.b dn)],.cells [.ns,.d (.i .i64 0),.d (.b false),.d (.i .i64 0),.d (.b false)],.cells [.f 35 [1],.ns]]=some (V.tup [(true,[.d (.l (qfl.map Fil.enc)),.d (.i .i64 qcp),.d (.b qar),.d (.i .i64 qlf),.d (.b qdn)]),(false,[.d (.i .i64 qe)])],[.cells [.f 31 [1],.ns,.f 33 [1,2],.sl 3 1 0 1,.f 35 [1],.ns,.f 37 [4],.ns,.f 38 [5],.sl 7 1 0 2],.cells [.d (.s n)],.cells [.d (.s x)],.arr 1 [[.s n]] 0,.cells [.d (.s g)],.cells [.ns,.d (.i .i64 0),.d (.b false),.d (.i .i64 0),.d (.b false),.d (.i .i64 ver),.sl 6 3 0 1,.d (.i .i64 at_),.d (.i .i64 at_),.d (.i .i64 x.length),.d (.i .u32 (sumT x))],.arr 3 [[.i .i64 at_,.i .i64 0,.i .i64 0]] 0,.arr 1 [[.s g],[.s n]] 0,.cells [.d (.l (fl.map Fil.enc)),.d (.i .i64 cp),.d (.b ar),.d (.i .i64 lf),.d (.b dn)],.cells [.ns,.d (.i .i64 0),.d (.b false),.d (.i .i64 0),.d (.b false)],.cells [.f 35 [1],.ns]]):=iso_at (ids:=[1]) rfl rfl rfl q1 rfl;by_cases c2:qe=0
  ·subst c2;rw[if_neg (by simp)] at h3
   have hR':=hR (2+1,⟨qfl,qcp,qar,qlf,qdn⟩) (by simp only[];omega) ⟨by simp only[];omega,kq,h3⟩
   (simp(disch:=first|decide|omega|(intros;exact Eq.trans rfl rfl)|simp only[puri]) only[wkf,a30_0,g1,go_sem,seval,dis,vdr,A.kind,A.xs,optX,A.isN])
   exact hR' _ _ hdM
  ·rw[if_pos c2] at h3;cases h3;have hbt2:(⟨⟨bfl,bcp,bar,blf,bdn⟩,be⟩:Dsk × Int)=(⟨zfl,zcp,zar,zlf,zdn⟩,9):=hbt.symm;cases hbt2;by_cases c9:ze=9
   ·subst c9;(simp(disch:=first|decide|omega|(intros;exact Eq.trans rfl rfl)|simp only[puri]) only[wkf,a30_0,g1,hb,go_sem,seval,dis,vdr,A.kind,A.xs,optX,A.isN])
    try simp[trim,V.refs,L.refs,Box.refs]
   ·(simp(disch:=first|decide|omega|(intros;exact Eq.trans rfl rfl)|simp only[puri]) only[wkf,a30_0,g1,c2,c9,go_sem,seval,dis,vdr,A.kind,A.xs,optX,A.isN])
    try simp[trim,V.refs,L.refs,Box.refs]
 ·have q1:=c4_spec ⟨fl,cp,ar,lf,dn⟩ hok g;have kk:=crt_ok (s:=(⟨fl,cp,ar,lf,dn⟩,0)) h2 g;rw[show crtS g (⟨fl,cp,ar,lf,dn⟩,0)=chgF ⟨fl,cp,ar,lf,dn⟩ (crtR fl g) from stp_ye _ _] at kk
  simp only[uT,u3] at h3;simp only at q1;generalize chgF ⟨fl,cp,ar,lf,dn⟩ (crtR fl g)=q at *;have hb:=back_spec q.1 kk (by omega) (by omega) [] (by simp)
  have kq:=kk.up (k':=k+2*(3+1)) (u':=u+2000*(3+1)) (by omega) (by omega)
  generalize hbt:backT [] q.1=bt at *;obtain⟨⟨qfl,qcp,qar,qlf,qdn⟩,qe⟩:=q;obtain⟨⟨bfl,bcp,bar,blf,bdn⟩,be⟩:=bt;simp only[dskV,Dsk.l,List.map_cons,List.map_nil,eS] at q1 hb h3;have g1:callIso call 37 [.agg [.d (.l (fl.map Fil.enc)),.d (.i .i64 cp),.d (.b ar),.d (.i .i64 lf),.d (.b dn)],.one (.p 4 0)] [.cells [.f 31 [1],.ns,.f 33 [1,2],.sl 3 1 0 1,.f 35 [1],.ns,.f 37 [4],.ns,.f 38 [5],.sl 7 1 0 2],.cells [.d (.s n)],.cells [.d (.s x)],.arr 1 [[.s n]] 0,.cells [.d (.s g)],.cells [.ns,.d (.i .i64 0),.d (.b false),.d (.i .i64 0),.d (.b false),.d (.i .i64 ver),.sl 6 3 0 1,.d (.i .i64 at_),.d (.i .i64 at_),.d (.i .i64 x.length),.d (.i .u32 (sumT x))],.arr 3 [[.i .i64 at_,.i .i64 0,.i .i64 0]] 0,.arr 1 [[.s g],[.s n]] 0,.cells [.d (.l (fl.map Fil.enc)),.d (.i .i64 cp),.d (.b ar),.d (.i .i64 lf),.d (.b dn)],.cells [.ns,.d (.i .i64 0),.d (.b false),.d (.i .i64 0),.d (.b false)],.cells [.f 37 [4],.ns]]=some (V.tup [(true,[.d (.l (qfl.map Fil.enc)),.d (.i .i64 qcp),.d (.b qar),.d (.i .i64 qlf),.d (.b qdn)]),(false,[.d (.i .i64 qe)])],[.cells [.f 31 [1],.ns,.f 33 [1,2],.sl 3 1 0 1,.f 35 [1],.ns,.f 37 [4],.ns,.f 38 [5],.sl 7 1 0 2],.cells [.d (.s n)],.cells [.d (.s x)],.arr 1 [[.s n]] 0,.cells [.d (.s g)],.cells [.ns,.d (.i .i64 0),.d (.b false),.d (.i .i64 0),.d (.b false),.d (.i .i64 ver),.sl 6 3 0 1,.d (.i .i64 at_),.d (.i .i64 at_),.d (.i .i64 x.length),.d (.i .u32 (sumT x))],.arr 3 [[.i .i64 at_,.i .i64 0,.i .i64 0]] 0,.arr 1 [[.s g],[.s n]] 0,.cells [.d (.l (fl.map Fil.enc)),.d (.i .i64 cp),.d (.b ar),.d (.i .i64 lf),.d (.b dn)],.cells [.ns,.d (.i .i64 0),.d (.b false),.d (.i .i64 0),.d (.b false)],.cells [.f 37 [4],.ns]]):=iso_at (ids:=[4]) rfl rfl rfl q1 rfl;by_cases c2:qe=0
  ·subst c2;rw[if_neg (by simp)] at h3
   have hR':=hR (3+1,⟨qfl,qcp,qar,qlf,qdn⟩) (by simp only[];omega) ⟨by simp only[];omega,kq,h3⟩
   (simp(disch:=first|decide|omega|(intros;exact Eq.trans rfl rfl)|simp only[puri]) only[wkf,a30_0,g1,go_sem,seval,dis,vdr,A.kind,A.xs,optX,A.isN])
   exact hR' _ _ hdM
  ·rw[if_pos c2] at h3;cases h3;have hbt2:(⟨⟨bfl,bcp,bar,blf,bdn⟩,be⟩:Dsk × Int)=(⟨zfl,zcp,zar,zlf,zdn⟩,9):=hbt.symm;cases hbt2;by_cases c9:ze=9
   ·subst c9;(simp(disch:=first|decide|omega|(intros;exact Eq.trans rfl rfl)|simp only[puri]) only[wkf,a30_0,g1,hb,go_sem,seval,dis,vdr,A.kind,A.xs,optX,A.isN])
    try simp[trim,V.refs,L.refs,Box.refs]
   ·(simp(disch:=first|decide|omega|(intros;exact Eq.trans rfl rfl)|simp only[puri]) only[wkf,a30_0,g1,c2,c9,go_sem,seval,dis,vdr,A.kind,A.xs,optX,A.isN])
    try simp[trim,V.refs,L.refs,Box.refs]
 ·have q1:=c5_spec ⟨fl,cp,ar,lf,dn⟩ h2 (by omega) (by omega) ver at_ x 0 (by decide)
  have kk:=swap_okN (s:=(⟨fl,cp,ar,lf,dn⟩,0)) h2 (newX ver at_ x).man;simp only[uT,u4] at h3;simp only[newL] at q1;generalize swapS (newX ver at_ x).man (⟨fl,cp,ar,lf,dn⟩,0)=q at *;have hb:=back_spec q.1 kk (by omega) (by omega) [g,n] (by simp)
  have kq:=kk.up (k':=k+2*(4+1)) (u':=u+2000*(4+1)) (by omega) (by omega)
  generalize hbt:backT [g,n] q.1=bt at *;obtain⟨⟨qfl,qcp,qar,qlf,qdn⟩,qe⟩:=q;obtain⟨⟨bfl,bcp,bar,blf,bdn⟩,be⟩:=bt;simp only[dskV,Dsk.l,List.map_cons,List.map_nil,eS] at q1 hb h3;have g1:callIso call 38 [.agg [.d (.l (fl.map Fil.enc)),.d (.i .i64 cp),.d (.b ar),.d (.i .i64 lf),.d (.b dn)],.one (.p 5 0)] [.cells [.f 31 [1],.ns,.f 33 [1,2],.sl 3 1 0 1,.f 35 [1],.ns,.f 37 [4],.ns,.f 38 [5],.sl 7 1 0 2],.cells [.d (.s n)],.cells [.d (.s x)],.arr 1 [[.s n]] 0,.cells [.d (.s g)],.cells [.ns,.d (.i .i64 0),.d (.b false),.d (.i .i64 0),.d (.b false),.d (.i .i64 ver),.sl 6 3 0 1,.d (.i .i64 at_),.d (.i .i64 at_),.d (.i .i64 x.length),.d (.i .u32 (sumT x))],.arr 3 [[.i .i64 at_,.i .i64 0,.i .i64 0]] 0,.arr 1 [[.s g],[.s n]] 0,.cells [.d (.l (fl.map Fil.enc)),.d (.i .i64 cp),.d (.b ar),.d (.i .i64 lf),.d (.b dn)],.cells [.ns,.d (.i .i64 0),.d (.b false),.d (.i .i64 0),.d (.b false)],.cells [.f 38 [5],.sl 7 1 0 2]]=some (V.tup [(true,[.d (.l (qfl.map Fil.enc)),.d (.i .i64 qcp),.d (.b qar),.d (.i .i64 qlf),.d (.b qdn)]),(false,[.d (.i .i64 qe)])],[.cells [.f 31 [1],.ns,.f 33 [1,2],.sl 3 1 0 1,.f 35 [1],.ns,.f 37 [4],.ns,.f 38 [5],.sl 7 1 0 2],.cells [.d (.s n)],.cells [.d (.s x)],.arr 1 [[.s n]] 0,.cells [.d (.s g)],.cells [.ns,.d (.i .i64 0),.d (.b false),.d (.i .i64 0),.d (.b false),.d (.i .i64 ver),.sl 6 3 0 1,.d (.i .i64 at_),.d (.i .i64 at_),.d (.i .i64 x.length),.d (.i .u32 (sumT x))],.arr 3 [[.i .i64 at_,.i .i64 0,.i .i64 0]] 1,.arr 1 [[.s g],[.s n]] 0,.cells [.d (.l (fl.map Fil.enc)),.d (.i .i64 cp),.d (.b ar),.d (.i .i64 lf),.d (.b dn)],.cells [.ns,.d (.i .i64 0),.d (.b false),.d (.i .i64 0),.d (.b false)],.cells [.f 38 [5],.sl 7 1 0 2]]):=iso_at (ids:=[5,6]) rfl rfl rfl q1 rfl;by_cases c9:qe=9
  ·subst c9;rw[if_pos rfl] at h3;cases h3;(simp(disch:=first|decide|omega|(intros;exact Eq.trans rfl rfl)|simp only[puri]) only[wkf,a30_0,g1,hb,go_sem,seval,dis,vdr,A.kind,A.xs,optX,A.isN])
   try simp[trim,V.refs,L.refs,Box.refs]
  ·rw[if_neg c9] at h3;by_cases c2:qe=0
   ·subst c2;have hR':=hR (4+1,⟨qfl,qcp,qar,qlf,qdn⟩) (by simp only[];omega) ⟨by simp only[];omega,kq,by simp only[uT];exact h3⟩
    (simp(disch:=first|decide|omega|(intros;exact Eq.trans rfl rfl)|simp only[puri]) only[wkf,a30_0,g1,go_sem,seval,dis,vdr,A.kind,A.xs,optX,A.isN])
    exact hR' _ _ hdM
   ·cases h3;(simp(disch:=first|decide|omega|(intros;exact Eq.trans rfl rfl)|simp only[puri]) only[wkf,a30_0,g1,c2,c9,go_sem,seval,dis,vdr,A.kind,A.xs,optX,A.isN])
    try simp[trim,V.refs,L.refs,Box.refs]
 ·simp only[uT] at h3;cases h3;(simp(disch:=first|decide|omega|(intros;exact Eq.trans rfl rfl)|simp only[puri]) only[wkf,a30_0,a30,go_sem,seval,dis,vdr,A.kind,A.xs,optX,A.isN])
  try simp[trim,V.refs,L.refs,Box.refs]
theorem sum1_spec (x:Txt) (hx:x.length<=1000000):call 27 [vl [[.s x]]] []=some (vk .u32 (sumT x),[]):=by
 have h:=sum_spec [x] (by simp) (fun s hs=>by rw[List.mem_singleton.1 hs];omega)
 have e:crcSum [x]=crcOn 0#32 x:=rfl;rw[e] at h;exact h
def namesT (s:Sto):List Txt:=s.segs.map (fun g=>fileN g.base)++(if 0<s.floor then[snapN s.floor] else[])
def instT (s:Sto) (at_:Int) (x:Txt):Sto × Int :=
 if parseF x=none∨at_<=s.next∨1099511627776<at_ then(s,1)
 else if(u0 (snapN at_) (fileN at_) x (newX (s.ver+1) at_ x).man s.disk).1.2≠0 then({ s with disk:=(u0 (snapN at_) (fileN at_) x (newX (s.ver+1) at_ x).man s.disk).1.1 },(u0 (snapN at_) (fileN at_) x (newX (s.ver+1) at_ x).man s.disk).1.2)
 else({ newX (s.ver+1) at_ x with disk:=(goT (namesT s) (u0 (snapN at_) (fileN at_) x (newX (s.ver+1) at_ x).man s.disk).1.1).1 },(goT (namesT s) (u0 (snapN at_) (fileN at_) x (newX (s.ver+1) at_ x).man s.disk).1.1).2)
theorem u0_ok {k u:Nat} {d:Dsk} (h:okN k u d) {n g x:Txt} (hx:x.length<=1000) (hk:True) (hu:True) (m:Man):okN (k+3) (u+2000) (u0 n g x m d).1.1:=by
 have back_ok:∀ {k u:Nat} (l:List Txt) (d:Dsk),okN k u d->okN k u (backT l d).1:=by
  intro k u l;induction l with
  | nil=>intro d h;exact h
  | cons a l ih =>
   intro d h;have:=del_okN (s:=(d,0)) h a;rw[show delS a (d,0)=chgF d (delR d.files a) from stp_ye _ _] at this
   simp only[backT];split
   ·exact this
   ·exact ih _ this
 have h1:=crt_ok (s:=(d,0)) h n;rw[show crtS n (d,0)=chgF d (crtR d.files n) from stp_ye _ _] at h1
 unfold u0;split
 ·exact h1.up (by omega) (by omega)
 generalize (chgF d (crtR d.files n)).1=d1 at *;have h2:=app_ok (s:=(d1,0)) h1 n x;rw[show appS n x (d1,0)=chgF d1 (appR d1.files d1.cap n x) from stp_ye _ _] at h2
 unfold u1;split
 ·exact(back_ok _ _ h2).up (by omega) (by omega)
 split
 ·exact h2.up (by omega) (by omega)
 generalize (chgF d1 (appR d1.files d1.cap n x)).1=d2 at *;have h3:=syn_ok (s:=(d2,0)) h2 n;rw[show synS n (d2,0)=chgF d2 (synR d2.files n) from stp_ye _ _] at h3
 unfold u2;split
 ·exact h3.up (by omega) (by omega)
 generalize (chgF d2 (synR d2.files n)).1=d3 at *;have h4:=crt_ok (s:=(d3,0)) h3 g;rw[show crtS g (d3,0)=chgF d3 (crtR d3.files g) from stp_ye _ _] at h4
 unfold u3;split
 ·exact h4.up (by omega) (by omega)
 generalize (chgF d3 (crtR d3.files g)).1=d4 at *;have h5:=swap_okN (s:=(d4,0)) h4 m;unfold u4;split
 ·exact(back_ok _ _ h5).up (by omega) (by omega)
 ·exact h5.up (by omega) (by omega)
set_option maxRecDepth 20000 in
set_option maxHeartbeats 8000000 in
theorem inst_spec {k u:Nat} (s:Sto) (h:okS k u s) (hk:k<=700000) (hu:u<=1000000) (at_:Int) (hat : -9223372036854775808<=at_∧at_<9223372036854775808) (x:Txt) (hx:x.length<=1000):call 8 [.agg s.l,vi at_,vs x] []=some (stoV (instT s at_ x),[]):=by
 have q1:=parse_fold x (by omega)
 unfold instT;have hver:=h.ver;by_cases c0:parseF x=none∨at_<=s.next∨1099511627776<at_
 ·rw[if_pos c0];obtain⟨⟨fl,cp,ar,lf,dn⟩,ver,segs,next,sure,size,sum⟩:=s;simp only[Sto.l,Dsk.l,stoV,List.cons_append,List.nil_append] at c0 ⊢;apply enterS s8 rfl;cases hp:parseF x with
  | none =>
   rw[hp] at q1;simp only[parseV] at q1;(simp(disch:=first|decide|omega|(intros;exact Eq.trans rfl rfl)|simp only[puri]) only[wkf,a8,q1,go_sem,seval,dis])
   try simp[trim]
  | some l =>
   rw[hp] at q1;simp only[parseV] at q1;rw[hp] at c0;by_cases c1:at_<=next
   ·(simp(disch:=first|decide|omega|(intros;exact Eq.trans rfl rfl)|simp only[puri]) only[wkf,a8,q1,decide_eq_true c1,go_sem,seval,dis])
    try simp[trim]
   ·have c2:1099511627776<at_:=by
     rcases c0 with h|h|h
     ·cases h
     ·exact absurd h c1
     ·exact h
    (simp(disch:=first|decide|omega|(intros;exact Eq.trans rfl rfl)|simp only[puri]) only[wkf,a8,q1,decide_eq_false c1,decide_eq_true c2,go_sem,seval,dis])
    try simp[trim]
 ·rw[if_neg c0];have hp:parseF x≠none:=fun h=>c0 (Or.inl h)
  have c1:¬ at_<=s.next:=fun h=>c0 (Or.inr (Or.inl h))
  have c2:¬ 1099511627776<at_:=fun h=>c0 (Or.inr (Or.inr h))
  obtain⟨l,hl⟩:=Option.ne_none_iff_exists'.1 hp;rw[hl] at q1;simp only[parseV] at q1;have hnx:=h.next;have q2:=snap_int (n:=at_) (by omega)
  have q3:=seg_int (n:=at_) (by omega)
  have q4:=sum1_spec x (by omega)
  have hs:=sumT_lt x;have qf:call 42 [.agg s.l] []=some (vi s.floor,[]):=floor_spec s;have hfo:=floor_ok h;have qn:=snap_int hfo;have hseg:=h.seg;have hsl:=h.len.2;have r1:=run_first s.disk h.dsk (by omega) (by omega) (snapN at_) (fileN at_) x hx (s.ver+1) at_
  have kr:okN (k+3) (u+2000) (u0 (snapN at_) (fileN at_) x (newX (s.ver+1) at_ x).man s.disk).1.1:=u0_ok h.dsk hx trivial trivial _;obtain⟨fl',hfl'⟩:∃ fl',fl'=s.floor:=⟨_,rfl⟩;have hnm:namesT s=s.segs.map (fun g=>fileN g.base)++(if 0<fl' then[snapN fl'] else[]):=by rw[hfl'];rfl
  rw[hnm];rw[<- hfl'] at qf hfo qn;clear hnm hfl';generalize u0 (snapN at_) (fileN at_) x (newX (s.ver+1) at_ x).man s.disk=r at *;obtain⟨⟨⟨efl,ecp,ear,elf,edn⟩,ee⟩,F1,F2,F3⟩:=r;obtain⟨⟨fl,cp,ar,lf,dn⟩,ver,segs,next,sure,size,sum⟩:=s;simp only[Sto.l,Dsk.l,stoV,dskV,List.cons_append,List.nil_append,HI] at c1 hver r1 qf kr hseg hsl ⊢;have g1:callIso call 30 [.agg [.d (.l (fl.map Fil.enc)),.d (.i .i64 cp),.d (.b ar),.d (.i .i64 lf),.d (.b dn)],.one (.sp 10 5)] [.cells [.d (.l (fl.map Fil.enc)),.d (.i .i64 cp),.d (.b ar),.d (.i .i64 lf),.d (.b dn),.d (.i .i64 ver),.d (.l (segs.map Seg.enc)),.d (.i .i64 next),.d (.i .i64 sure),.d (.i .i64 size),.d (.i .u32 sum)],.cells [.d (.s x)],.cells [.ns,.d (.i .i64 0),.d (.b false),.d (.i .i64 0),.d (.b false),.d (.i .i64 0),.ns,.d (.i .i64 0),.d (.i .i64 0),.d (.i .i64 0),.d (.i .u32 0)],.arr 3 [[.i .i64 at_,.i .i64 0,.i .i64 0]] 0,.arr 1 [[.s x]] (max 0 1),.cells [.ns,.d (.i .i64 0),.d (.b false),.d (.i .i64 0),.d (.b false),.d (.i .i64 (ver+1)),.sl 3 3 0 1,.d (.i .i64 at_),.d (.i .i64 at_),.d (.i .i64 x.length),.d (.i .u32 (sumT x))],.cells [.d (.s (snapN at_))],.cells [.d (.s (fileN at_))],.arr 1 [[.s (snapN at_)]] 0,.arr 1 [[.s (fileN at_)],[.s (snapN at_)]] 0,.cells [.f 31 [6],.ns,.f 33 [6,1],.sl 8 1 0 1,.f 35 [6],.ns,.f 37 [7],.ns,.f 38 [5],.sl 9 1 0 2]]=some (V.tup [(true,[.d (.l (efl.map Fil.enc)),.d (.i .i64 ecp),.d (.b ear),.d (.i .i64 elf),.d (.b edn)]),(false,[.d (.i .i64 ee)])],[.cells [.d (.l (fl.map Fil.enc)),.d (.i .i64 cp),.d (.b ar),.d (.i .i64 lf),.d (.b dn),.d (.i .i64 ver),.d (.l (segs.map Seg.enc)),.d (.i .i64 next),.d (.i .i64 sure),.d (.i .i64 size),.d (.i .u32 sum)],.cells [.d (.s x)],.cells [.ns,.d (.i .i64 0),.d (.b false),.d (.i .i64 0),.d (.b false),.d (.i .i64 0),.ns,.d (.i .i64 0),.d (.i .i64 0),.d (.i .i64 0),.d (.i .u32 0)],.arr 3 [[.i .i64 at_,.i .i64 0,.i .i64 0]] F2,.arr 1 [[.s x]] (max 0 1),.cells [.ns,.d (.i .i64 0),.d (.b false),.d (.i .i64 0),.d (.b false),.d (.i .i64 (ver+1)),.sl 3 3 0 1,.d (.i .i64 at_),.d (.i .i64 at_),.d (.i .i64 x.length),.d (.i .u32 (sumT x))],.cells [.d (.s (snapN at_))],.cells [.d (.s (fileN at_))],.arr 1 [[.s (snapN at_)]] F1,.arr 1 [[.s (fileN at_)],[.s (snapN at_)]] F3,.cells [.f 31 [6],.ns,.f 33 [6,1],.sl 8 1 0 1,.f 35 [6],.ns,.f 37 [7],.ns,.f 38 [5],.sl 9 1 0 2]]):=iso_at (ids:=[10,6,1,8,7,5,3,9]) rfl rfl rfl r1 rfl;clear r1;generalize snapN at_=SN at *;generalize fileN at_=SG at *;apply enterS s8 rfl;by_cases c3:ee=0
  ·subst c3;rw[if_neg (by simp)]
   obtain⟨FN,hFN⟩:∃ FN,FN=snapN fl':=⟨_,rfl⟩;rw[<- hFN] at qn ⊢;clear hFN;obtain⟨NS,hNS⟩:∃ NS,NS=segs.map (fun g=>fileN g.base)++(if 0<fl' then[FN] else[]):=⟨_,rfl⟩
   rw[<- hNS];have hnl:NS.length<=1000:=by
    rw[hNS,List.length_append,List.length_map];split <;> simp <;> omega
   have r2:=run_data ⟨efl,ecp,ear,elf,edn⟩ kr (by omega) (by omega) NS hnl
   generalize goT NS ⟨efl,ecp,ear,elf,edn⟩=z at *;obtain⟨⟨zfl,zcp,zar,zlf,zdn⟩,ze⟩:=z;simp only[Dsk.l,dskV,newX,Sto.l,Seg.enc,List.map_cons,List.map_nil,List.cons_append,List.nil_append] at r2 ⊢;(simp(disch:=first|decide|omega|(intros;exact Eq.trans rfl rfl)|simp only[puri]) only[wkf,a8,q1,decide_eq_false c1,decide_eq_false c2,↓iso_callz_e,czK_sl,czR_some,q4,q2,q3,g1,go_sem,seval,dis,vdr,A.kind,A.xs,optX,A.isN])
   refine loop_boxM (m:=0) (σ:=Nat) (fun i=>segs.length-i) (fun i=>i<=segs.length) (fun i=>[V.one (.p 0 0),V.one (.p 1 0),V.one (.p 2 0),V.one (.p 4 0),V.one (.sl 5 2 0 (segs.take i).length),vl (segs.map Seg.enc),vi segs.length,vi i])
    (fun i=>[.cells [.d (.l (fl.map Fil.enc)),.d (.i .i64 cp),.d (.b ar),.d (.i .i64 lf),.d (.b dn),.d (.i .i64 ver),.d (.l (segs.map Seg.enc)),.d (.i .i64 next),.d (.i .i64 sure),.d (.i .i64 size),.d (.i .u32 sum)],.cells [.ns,.d (.i .i64 0),.d (.b false),.d (.i .i64 0),.d (.b false),.d (.i .i64 0),.ns,.d (.i .i64 0),.d (.i .i64 0),.d (.i .i64 0),.d (.i .u32 0)],.cells [.ns,.d (.i .i64 0),.d (.b false),.d (.i .i64 0),.d (.b false),.d (.i .i64 (ver+1)),.sl 3 3 0 1,.d (.i .i64 at_),.d (.i .i64 at_),.d (.i .i64 x.length),.d (.i .u32 (sumT x))],.arr 3 [[.i .i64 at_,.i .i64 0,.i .i64 0]] F2,.cells [.d (.l (efl.map Fil.enc)),.d (.i .i64 ecp),.d (.b ear),.d (.i .i64 elf),.d (.b edn)],.arr 2 ((segs.take i).map (fun g=>rmD (fileN g.base))) 0])
    (fun _=>(V.tup [(true,[.d (.l (zfl.map Fil.enc)),.d (.i .i64 zcp),.d (.b zar),.d (.i .i64 zlf),.d (.b zdn),.d (.i .i64 (ver+1)),.d (.l [[.i .i64 at_,.i .i64 0,.i .i64 0]]),.d (.i .i64 at_),.d (.i .i64 at_),.d (.i .i64 x.length),.d (.i .u32 (sumT x))]),(false,[.d (.i .i64 ze)])],([]:Hp))) ?_ 0 (Nat.zero_le _) _ _ ?_
   rotate_left
   ·exact hdM
   clear g1 q1 q2 q3 q4;intro i hi R hR;by_cases c4:i<segs.length
   ·have hc4:(i:Int)<(segs.length:Int):=by omega
    have g1:(segs.map Seg.enc)[i]?=some [.i .i64 segs[i].base,.i .i64 segs[i].n,.i .i64 segs[i].size]:=by
     rw[List.getElem?_map,List.getElem?_eq_getElem c4];rfl
    have g2:=seg_int (hseg _ (List.getElem_mem c4)).1;have hR':=hR (i+1) (by omega) (by omega)
    rw[List.take_succ_eq_append_getElem c4,List.map_append,List.length_append,List.map_cons,List.map_nil,List.length_cons,List.length_nil] at hR';have hrl:((segs.take i).map (fun g=>rmD (fileN g.base))).length=(segs.take i).length:=by simp
    have hrl2:(segs.take i).length<=64:=by rw[List.length_take];omega
    generalize hRQ:(segs.take i).map (fun g=>rmD (fileN g.base))=RQ at *
    generalize (segs.take i).length=RL at *;have g3:=remove_spec (fileN segs[i].base);simp only[rmD] at hR';generalize fileN segs[i].base=FB at *;generalize segs[i]=sg at *;obtain⟨sb,sn,sz⟩:=sg;simp only at g1 g2;have g4:callIso call 41 [vs FB] [.cells [.d (.l (fl.map Fil.enc)),.d (.i .i64 cp),.d (.b ar),.d (.i .i64 lf),.d (.b dn),.d (.i .i64 ver),.d (.l (segs.map Seg.enc)),.d (.i .i64 next),.d (.i .i64 sure),.d (.i .i64 size),.d (.i .u32 sum)],.cells [.ns,.d (.i .i64 0),.d (.b false),.d (.i .i64 0),.d (.b false),.d (.i .i64 0),.ns,.d (.i .i64 0),.d (.i .i64 0),.d (.i .i64 0),.d (.i .u32 0)],.cells [.ns,.d (.i .i64 0),.d (.b false),.d (.i .i64 0),.d (.b false),.d (.i .i64 (ver+1)),.sl 3 3 0 1,.d (.i .i64 at_),.d (.i .i64 at_),.d (.i .i64 x.length),.d (.i .u32 (sumT x))],.arr 3 [[.i .i64 at_,.i .i64 0,.i .i64 0]] F2,.cells [.d (.l (efl.map Fil.enc)),.d (.i .i64 ecp),.d (.b ear),.d (.i .i64 elf),.d (.b edn)],.arr 2 RQ 0,.cells [.d (.i .i64 sb),.d (.i .i64 sn),.d (.i .i64 sz)]] =
     some (.agg [.f 83 [7],.ns],[.cells [.d (.l (fl.map Fil.enc)),.d (.i .i64 cp),.d (.b ar),.d (.i .i64 lf),.d (.b dn),.d (.i .i64 ver),.d (.l (segs.map Seg.enc)),.d (.i .i64 next),.d (.i .i64 sure),.d (.i .i64 size),.d (.i .u32 sum)],.cells [.ns,.d (.i .i64 0),.d (.b false),.d (.i .i64 0),.d (.b false),.d (.i .i64 0),.ns,.d (.i .i64 0),.d (.i .i64 0),.d (.i .i64 0),.d (.i .u32 0)],.cells [.ns,.d (.i .i64 0),.d (.b false),.d (.i .i64 0),.d (.b false),.d (.i .i64 (ver+1)),.sl 3 3 0 1,.d (.i .i64 at_),.d (.i .i64 at_),.d (.i .i64 x.length),.d (.i .u32 (sumT x))],.arr 3 [[.i .i64 at_,.i .i64 0,.i .i64 0]] F2,.cells [.d (.l (efl.map Fil.enc)),.d (.i .i64 ecp),.d (.b ear),.d (.i .i64 elf),.d (.b edn)],.arr 2 RQ 0,.cells [.d (.i .i64 sb),.d (.i .i64 sn),.d (.i .i64 sz)],.cells [.d (.s FB)],.cells [.f 83 [7],.ns]]):=iso_at (ids:=[]) rfl rfl rfl g3 rfl
    (simp(disch:=first|decide|omega|(intros;exact Eq.trans rfl rfl)|simp only[puri]) only[wkf,a8_0,decide_eq_true hc4,g1,g2,g4,fnLs,fzCaps,hrl,go_sem,seval,dis,vdr,A.kind,A.xs,optX,A.isN])
    exact hR' _ _ hdM
   ·have hc4:¬ (i:Int)<(segs.length:Int):=by omega
    have htk:segs.take i=segs:=List.take_of_length_le (by omega)
    rw[htk];have hnt:List.take NS.length (NS.map rmD)=NS.map rmD:=List.take_of_length_le (by simp)
    by_cases c5:0<fl'
    ·rw[if_pos c5] at hNS;have hrl:(segs.map (fun g=>rmD (fileN g.base))).length=segs.length:=by simp
     have hrw:segs.map (fun g=>rmD (fileN g.base))++[[.fn 83 [[.s FN]],.l []]]=NS.map rmD:=by rw[hNS];simp[rmD]
     have hnl2:segs.length+1=NS.length:=by rw[hNS];simp
     have g3:=remove_spec FN;generalize segs.map (fun g=>rmD (fileN g.base))=RQ at *
     have g4:callIso call 41 [vs FN] [.cells [.d (.l (fl.map Fil.enc)),.d (.i .i64 cp),.d (.b ar),.d (.i .i64 lf),.d (.b dn),.d (.i .i64 ver),.d (.l (segs.map Seg.enc)),.d (.i .i64 next),.d (.i .i64 sure),.d (.i .i64 size),.d (.i .u32 sum)],.cells [.ns,.d (.i .i64 0),.d (.b false),.d (.i .i64 0),.d (.b false),.d (.i .i64 0),.ns,.d (.i .i64 0),.d (.i .i64 0),.d (.i .i64 0),.d (.i .u32 0)],.cells [.ns,.d (.i .i64 0),.d (.b false),.d (.i .i64 0),.d (.b false),.d (.i .i64 (ver+1)),.sl 3 3 0 1,.d (.i .i64 at_),.d (.i .i64 at_),.d (.i .i64 x.length),.d (.i .u32 (sumT x))],.arr 3 [[.i .i64 at_,.i .i64 0,.i .i64 0]] F2,.cells [.d (.l (efl.map Fil.enc)),.d (.i .i64 ecp),.d (.b ear),.d (.i .i64 elf),.d (.b edn)],.arr 2 RQ 0] =
      some (.agg [.f 83 [6],.ns],[.cells [.d (.l (fl.map Fil.enc)),.d (.i .i64 cp),.d (.b ar),.d (.i .i64 lf),.d (.b dn),.d (.i .i64 ver),.d (.l (segs.map Seg.enc)),.d (.i .i64 next),.d (.i .i64 sure),.d (.i .i64 size),.d (.i .u32 sum)],.cells [.ns,.d (.i .i64 0),.d (.b false),.d (.i .i64 0),.d (.b false),.d (.i .i64 0),.ns,.d (.i .i64 0),.d (.i .i64 0),.d (.i .i64 0),.d (.i .u32 0)],.cells [.ns,.d (.i .i64 0),.d (.b false),.d (.i .i64 0),.d (.b false),.d (.i .i64 (ver+1)),.sl 3 3 0 1,.d (.i .i64 at_),.d (.i .i64 at_),.d (.i .i64 x.length),.d (.i .u32 (sumT x))],.arr 3 [[.i .i64 at_,.i .i64 0,.i .i64 0]] F2,.cells [.d (.l (efl.map Fil.enc)),.d (.i .i64 ecp),.d (.b ear),.d (.i .i64 elf),.d (.b edn)],.arr 2 RQ 0,.cells [.d (.s FN)],.cells [.f 83 [6],.ns]]):=iso_at (ids:=[]) rfl rfl rfl g3 rfl
     (simp(disch:=first|decide|omega|(intros;exact Eq.trans rfl rfl)|simp only[puri]) only[wkf,a8_0,a8,decide_eq_false hc4,qf,qn,decide_eq_true c5,g4,fnLs,fzCaps,hrl,hrw,hnl2,hnt,r2,go_sem,seval,dis,vdr,A.kind,A.xs,optX,A.isN])
     try simp[trim]
    ·rw[if_neg c5,List.append_nil] at hNS;have hrl:(segs.map (fun g=>rmD (fileN g.base))).length=segs.length:=by simp
     have hrw:segs.map (fun g=>rmD (fileN g.base))=NS.map rmD:=by rw[hNS];simp
     have hnl2:segs.length=NS.length:=by rw[hNS];simp
     rw[hrw] at hrl ⊢;rw[show(.sl 5 2 0 segs.length:L)=.sl 5 2 0 NS.length by rw[hnl2]]
     (simp(disch:=first|decide|omega|(intros;exact Eq.trans rfl rfl)|simp only[puri]) only[wkf,a8_0,a8,decide_eq_false hc4,qf,decide_eq_false c5,hnt,r2,go_sem,seval,dis,vdr,A.kind,A.xs,optX,A.isN])
     try simp[trim]
  ·rw[if_pos c3];(simp(disch:=first|decide|omega|(intros;exact Eq.trans rfl rfl)|simp only[puri]) only[wkf,a8,q1,decide_eq_false c1,decide_eq_false c2,↓iso_callz_e,czK_sl,czR_some,q4,q2,q3,g1,c3,go_sem,seval,dis,vdr,A.kind,A.xs,optX,A.isN])
   try simp[trim,c3]
theorem back_ok {k u:Nat}:∀ (l:List Txt) (d:Dsk),okN k u d->okN k u (backT l d).1
 | [],d,h=>h
 | a::l,d,h=>by
  have:=del_okN (s:=(d,0)) h a;rw[show delS a (d,0)=chgF d (delR d.files a) from stp_ye _ _] at this
  simp only[backT];split
  ·exact this
  ·exact back_ok l _ this
theorem back_ne:∀ (l:List Txt) (d:Dsk),(backT l d).2≠0
 | [],d=>by simp[backT]
 | a::l,d=>by
  simp only[backT];split
  ·assumption
  ·exact back_ne l _
theorem goT_ok {k u:Nat}:∀ (l:List Txt) (d:Dsk),okN k u d->okN k u (goT l d).1
 | [],d,h=>h
 | a::l,d,h=>by
  have:=del_okN (s:=(d,0)) h a;rw[show delS a (d,0)=chgF d (delR d.files a) from stp_ye _ _] at this
  by_cases c:(chgF d (delR d.files a)).2=0
  ·have e1:goT (a::l) d=goT l (chgF d (delR d.files a)).1:=if_pos c;rw[e1];exact goT_ok l _ this
  ·have e1:goT (a::l) d=chgF d (delR d.files a):=if_neg c;rw[e1];exact this
theorem inst_ok {k u:Nat} {s:Sto} (h:okS k u s) (at_:Int) {x:Txt} (hx:x.length<=1000):okS (k+3) (u+2000) (instT s at_ x).1:=by
 have h2:=h.up (k':=k+3) (u':=u+2000) (by omega) (by omega)
 have kr:okN (k+3) (u+2000) (u0 (snapN at_) (fileN at_) x (newX (s.ver+1) at_ x).man s.disk).1.1:=u0_ok h.dsk hx trivial trivial _;unfold instT;by_cases c0:parseF x=none∨at_<=s.next∨1099511627776<at_
 ·rw[if_pos c0];exact h2
 ·rw[if_neg c0];have c1:¬ at_<=s.next:=fun h=>c0 (Or.inr (Or.inl h))
  have c2:¬ 1099511627776<at_:=fun h=>c0 (Or.inr (Or.inr h))
  have hn:=h.next;have hv:=h.ver;split
  ·exact⟨kr,h2.len,h2.seg,h2.next,h2.ver,h2.sum⟩
  ·refine⟨goT_ok _ _ kr,by show 1<=1∧1<=64;omega,fun g hg=>?_,by show 0<=at_∧at_<=1099511627776;omega,by show 0<=s.ver+1∧s.ver+1<=((u+2000:Nat):Int);omega,sumT_lt x⟩
   have hg':g∈[(⟨at_,0,0⟩:Seg)]:=hg;rw[List.mem_singleton] at hg';subst hg';exact⟨by show 0<=at_∧at_<=1099511627776;omega,by show(0:Int)<=0∧(0:Int)<=((u+2000:Nat):Int);omega,by show(0:Int)<=0∧(0:Int)<=((u+2000:Nat):Int);omega⟩
def exW:Txt:=[1,97,1,49]
theorem ex_e:(instT (createT d0).1 7 exW).2=0:=by decide +kernel
theorem ex_s:(instT (createT d0).1 7 exW).1.segs=[⟨7,0,0⟩]:=by decide +kernel
theorem ex_n:(instT (createT d0).1 7 exW).1.next=7:=by decide +kernel
theorem ex_w:snapT (instT (createT d0).1 7 exW).1=exW:=by decide +kernel
set_option maxRecDepth 8000 in
set_option maxHeartbeats 2000000 in
theorem awake15_spec:call 7 [] []=some (vb true,[]):=by
 have q0:=rnew_spec d0 d0_ok (by decide) (by decide)
 have hp:=new_PI;have q1:=inst_spec (createT d0).1 hp.ok (by decide) (by decide) 7 (by decide) exW (by decide)
 have o1:=inst_ok hp.ok 7 (x:=exW) (by decide)
 have q2:=rsnap_sto (instT (createT d0).1 7 exW).1 o1 (by decide)
 rw[ex_w] at q2;have e1:=ex_e;have e2:=ex_s;have e3:=ex_n;have hd0:d0.l=[.d (.l []),.d (.i .i64 0),.d (.b false),.d (.i .i64 0),.d (.b false)]:=rfl;have hcell:∀ s:Sto,s.l=[.d (.l (s.disk.files.map Fil.enc)),.d (.i .i64 s.disk.cap),.d (.b s.disk.armed),.d (.i .i64 s.disk.left),.d (.b s.disk.down),.d (.i .i64 s.ver),.d (.l (s.segs.map Seg.enc)),.d (.i .i64 s.next),.d (.i .i64 s.sure),.d (.i .i64 s.size),.d (.i .u32 s.sum)]:=fun _=>rfl
 have hw:exW=[1,97,1,49]:=rfl;generalize createT d0=r0 at *;obtain⟨st0,e0⟩:=r0;simp only at q1 q2 e1 e2 e3 o1 hp;generalize instT st0 7 exW=r at *;obtain⟨⟨⟨fl,cp,ar,lf,dn⟩,ver,segs,next,sure,size,sum⟩,e⟩:=r;simp only at e1 e2 e3;subst e1 e2 e3;simp only[stoV,hcell,hd0,hw,Seg.enc,List.map_cons,List.map_nil] at q0 q1 q2;have eb:(([1,97,1,49]:Txt) == [1,97,1,49])=true:=rfl;apply enterS s7 rfl;(simp(disch:=first|decide|omega|(intros;exact Eq.trans rfl rfl)|simp only[puri]) only[wkf,a7,q0,q1,q2,eb,go_sem,seval,dis])
 try simp[trim]
end Go.Proofs.YthlnpioogbmogaaGreat
