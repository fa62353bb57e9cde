import Derived.Test.YtghfhomfppbooaaGreatT05
import Derived.Test.YtghfhomfppbooaaGreatT03
import Derived.Test.YtghfhomfppbooaaGreatT04
import Derived.Test.YtghfhomfppbooaaGreatVid
import Derived.Test.YtghfhomfppbooaaGreatT02
set_option linter.unusedSimpArgs false
set_option linter.unusedVariables false
namespace Go.Proofs.YtghfhomfppbooaaGreat
open Go.Vi
variable {k u:Nat} {f:Int} {S:Txt} {l0:List Pr} {s:Sto} {M:List SR} {g:Seg} {l:List Rec}
theorem W.man_inc (h:W f S l0 s M g l):(s.segs.map Seg.base).Pairwise (· < ·)∧(∀ n∈s.segs.map Seg.base,-1<n∧n<=1099511627776) :=
 (incB_iff _ _).1 (manB_t h.right).2.2.1
theorem W.head (h:W f S l0 s M g l):(s.segs.map Seg.base).head?=some f:=by
 rw[h.inv.segs];have hc:=h.inv.chain;cases M with
 | nil=>simp[chainM] at hc ⊢;omega
 | cons p r=>simp[chainM] at hc ⊢;omega
theorem rec_lt (h:Inv f s M g l) (hl:l≠[]):∀ a∈s.segs,a.base<s.next:=by
 intro a ha;have hn:=h.next;have hp:0<l.length:=List.length_pos_iff.2 hl;rw[h.segs] at ha;rcases List.mem_append.1 ha with ha|ha
 ·obtain⟨p,hp2,rfl⟩:=List.mem_map.1 ha;have:=bases_lt h.chain p hp2;omega
 ·rw[List.mem_singleton.1 ha];omega
theorem roll_right (h:W f S l0 s M g l) (hl:l≠[]) (hn:s.next<=1099511627776) (hv:s.ver+1<=1099511627776) (hlen:s.segs.length<64):manB (rollX s).man=true:=by
 have hm:=manB_t h.right;have hi:=h.man_inc;have hlt:=rec_lt h.inv hl;have hg0:=h.inv.next;have e:(rollX s).man.segs=s.segs.map Seg.base++[s.next]:=by show(s.segs++[_]).map Seg.base=_;simp
 have hv1:1<=s.ver:=hm.1.1;have h0:0<=s.next:=by have:=h.inv.sure;omega
 refine manB_mk ⟨by show 1<=s.ver+1;omega,hv⟩ ⟨by rw[e];simp,by rw[e];simp;omega⟩ ?_ ?_
 ·rw[e,incB_iff,List.pairwise_append];refine⟨⟨hi.1,by simp,fun a ha b hb=>?_⟩,fun n hx=>?_⟩
  ·obtain⟨c,hc,rfl⟩:=List.mem_map.1 ha;rw[List.mem_singleton.1 hb];exact hlt c hc
  ·rcases List.mem_append.1 hx with hx|hx
   ·exact hi.2 n hx
   ·rw[List.mem_singleton.1 hx];omega
 ·have hz:=manB_z h.right;have eh:(rollX s).man.segs.head?=s.man.segs.head?:=by
   rw[e];show _=(s.segs.map Seg.base).head?;rw[List.head?_append,h.head];rfl
  rw[eh];exact hz
theorem W.roll (ho:okS k u s) (h:W f S l0 s M g l) (hl:l≠[]) (hv:u<1000000000000) :
  (rollT s).1.disk.cap=s.disk.cap∧((W f S l0 (rollT s).1 M g l∧(rollT s).1.segs=s.segs∧(((rollT s).2=9∧(rollT s).1.disk.down=s.disk.down)∨((rollT s).2=10∧(rollT s).1.disk.down=true))) ∨
  ((rollT s).2=0∧(rollT s).1.disk.down=false∧(rollT s).1.sure=s.next∧W f S l0 (rollT s).1 (M++[(g,l)]) ⟨s.next,0,0⟩ [])):=by
 have hri:=roll_inv ho h.inv hl;have hsy:=h.sync ho;have hos:=syncT_ok ho;unfold rollT at hri ⊢;by_cases c1:64<=s.segs.length
 ·rw[if_pos c1];exact⟨rfl,.inl ⟨h,rfl,.inl ⟨rfl,rfl⟩⟩⟩
 ·rw[if_neg c1] at hri ⊢;by_cases c2:(syncT s).2=0
  ·rw[if_neg (by simp[c2])] at hri ⊢
   have hsg:(syncT s).1.segs=s.segs:=rfl;have hn:(syncT s).1.next=s.next:=rfl;obtain⟨hw,hst,hcap⟩:=hsy;have hst2:(syncT s).1.sure=s.next∧(syncT s).1.disk.down=false:=by
    rcases hst with h1|h1
    ·exact h1.2
    ·rw[h1.1] at c2;cases c2
   have hdn:s.disk.down=false:=by
    have hO:=syn_out ho.dsk.srt h.last.choose_spec.1;have hl2:=h.inv.last;have e2:(syncT s).1.disk=(chgF s.disk (synR s.disk.files (fileN g.base))).1:=by unfold syncT;rw[hl2]
    exact hO.1.up_of (by rw[<- e2];exact hst2.2)
   rw[<- hsg] at c1;rw[<- hn] at hst2 hri ⊢;generalize (syncT s).1=t at *;have hnx:=hos.next;have hvt:=hos.ver;have hlt:=rec_lt hw.inv hl;have hrt:=roll_right hw hl hnx.2 (by omega) (by omega)
   have hnone:t.disk.down=false->fm t.disk.files (fileN t.next)=none:=fun hd=>by
    cases hx:fm t.disk.files (fileN t.next) with
    | none=>rfl
    | some v =>
     rcases hw.only hd (fileN t.next) (by rw[hx];simp) with e|⟨a,ha,e⟩|⟨_,e⟩
     ·exact absurd e (n109 _ (by rw[fileN_len];decide))
     ·have:=fileN_inj (by omega) (hos.seg a ha).1 e
      have:=hlt a ha;omega
     ·exact absurd e.symm (snap_file _ _)
   have hnr:∀ n∈[fileN t.next,[110]],¬ rel f t n:=by
    intro n hx;rcases List.mem_cons.1 hx with rfl|hx
    ·rintro(e|⟨a,ha,e⟩|⟨_,e⟩)
     ·exact absurd e (n109 _ (by rw[fileN_len];decide))
     ·have:=fileN_inj (by omega) (hos.seg a ha).1 e
      have:=hlt a ha;omega
     ·exact absurd e.symm (snap_file _ _)
    ·rw[List.mem_singleton.1 hx];exact rel_110 f t
   have h110:t.disk.down=false->fm t.disk.files [110]=none:=fun hd=>by
    cases hx:fm t.disk.files [110] with
    | none=>rfl
    | some v=>exact absurd (hw.only hd [110] (by rw[hx];simp)) (rel_110 f t)
   have hO:Out t.disk (rollD t) [fileN t.next,[110]] _ _:=crt_swap_out hos.dsk.srt hrt (namedN _) (n110 _ (by rw[fileN_len];decide)) h110 hnone
   have hcap2:=hO.1.cap;by_cases c3:(rollD t).2=0
   ·rw[if_pos c3] at hri ⊢;rcases hri with⟨hx,_⟩|⟨_,hri⟩
    ·exact absurd rfl hx
    rcases hO.2.2 with⟨e,hd,hf⟩|⟨_,_,e,_⟩|⟨e,_⟩
    ·refine⟨hcap2.trans hcap,.inr ⟨rfl,hd,hst2.1,hri,?_,?_,hrt,fun p hp=>?_,⟨0,?_,by simp[rowS],by simp⟩,?_,fun _ n hx=>?_⟩⟩
     ·rcases hw.snp with h2|⟨h2,h3,h4⟩
      ·exact .inl h2
      ·exact .inr ⟨h2,by show fm (rollD t).1.files _=_;rw[hf,up_ne _ _ (n109 _ (by rw[snapN_len];decide)),up_ne _ _ (snap_file _ _)];exact h3,h4⟩
     ·show fm (rollD t).1.files _=_;rw[hf,up_at];rfl
     ·show fm (rollD t).1.files _=_;have hpm:p.1∈t.segs:=hw.mem p hp;have hne:fileN p.1.base≠fileN t.next:=fun e=>by
       have:p.1.base=t.next:=fileN_inj (hos.seg _ hpm).1 (by omega) e
       have:=hlt _ hpm;omega
      rw[hf,up_ne _ _ (n109 _ (by rw[fileN_len];decide)),up_ne _ _ hne]
      rcases List.mem_append.1 hp with hp|hp
      ·exact hw.full p hp
      ·rw[List.mem_singleton.1 hp];obtain⟨q,h1,h2,h3⟩:=hw.last;have hnn:=hw.inv.next;rw[List.take_of_length_le (by omega)] at h2
       rw[h1,show q=(rowS l).length by omega]
     ·show fm (rollD t).1.files _=_;rw[hf,up_ne _ _ (n109 _ (by rw[fileN_len];decide)),up_at];rfl
     ·show t.next<=t.sure;omega
     ·have hx2:fm (rollD t).1.files n≠none:=hx;rw[hf] at hx2;by_cases a1:n=[109]
      ·exact .inl a1
      ·rw[up_ne _ _ a1] at hx2;by_cases a2:n=fileN t.next
       ·exact .inr (.inl ⟨⟨t.next,0,0⟩,by show _∈t.segs++[_];simp,a2⟩)
       ·rw[up_ne _ _ a2] at hx2;rcases hw.only hst2.2 n hx2 with e|⟨a,ha,e⟩|e
        ·exact .inl e
        ·exact .inr (.inl ⟨a,by show a∈t.segs++[_];simp[ha],e⟩)
        ·exact .inr (.inr e)
    ·rw[e] at c3;cases c3
    ·rw[e] at c3;cases c3
   ·rw[if_neg c3];have:=hw.fail hos.dsk.srt hO c3 hnr;refine⟨hcap2.trans hcap,.inl ⟨this.1,hsg,?_⟩⟩;rcases this.2 with⟨a,_,b⟩|hh
    ·exact .inl ⟨a,b.trans hdn.symm⟩
    ·exact .inr hh
  ·rw[if_pos c2];refine⟨hsy.2.2,.inl ⟨hsy.1,rfl,?_⟩⟩;rcases hsy.2.1 with h1|h1
   ·exact absurd h1.1 c2
   ·exact .inr ⟨h1.1,h1.2.1⟩
def WR (f:Int) (S:Txt) (l0:List Pr) (s:Sto) (R:List Rec):Prop:=∃ M g l,W f S l0 s M g l∧recsM (M++[(g,l)])=R
theorem WR.next {R:List Rec} (h:WR f S l0 s R):s.next=f+R.length:=by
 obtain⟨M,g,l,h,rfl⟩:=h;have:=chain_len _ _ _ h.inv.chain;have hn:=h.inv.next;rw[recsM_app,recsM_one,List.length_append];simp only[];omega
theorem WR.sure {R:List Rec} (h:WR f S l0 s R):f<=s.sure∧s.sure<=s.next:=by
 obtain⟨M,g,l,h,rfl⟩:=h;have:=(chain_mem _ _ _ h.inv.chain).1;have:=h.lo;have:=h.inv.sure;omega
theorem WR.floor {R:List Rec} (h:WR f S l0 s R):s.floor=f:=by
 obtain⟨M,g,l,h,rfl⟩:=h;have h1:=h.head;unfold Sto.floor;cases hs:s.segs with
 | nil=>rw[hs] at h1;cases h1
 | cons a r=>rw[hs] at h1;simpa using h1
theorem WR.app {R:List Rec} (ho:okS k u s) (h:WR f S l0 s R) {seg:Int} (hseg:1<=seg) (hv:u<1000000000000) (r:Rec) :
  s.sure<=(appT s seg r).1.sure∧(appT s seg r).1.disk.cap=s.disk.cap∧(((appT s seg r).2=0∧r.at_=s.next∧whyF r=0∧s.next<1099511627776∧(appT s seg r).1.disk.down=false∧WR f S l0 (appT s seg r).1 (R++[r])) ∨
   (WR f S l0 (appT s seg r).1 R∧(((appT s seg r).2=1∧(appT s seg r).1=s∧(whyF r≠0∨r.at_≠s.next))∨((appT s seg r).2=13∧(appT s seg r).1=s∧1099511627776<=s.next)∨(appT s seg r).2=9∨((appT s seg r).2=10∧(appT s seg r).1.disk.down=true)))):=by
 have h0:=h;obtain⟨M,g,l,h,rfl⟩:=h;have hlast:=h.inv.last;unfold appT;by_cases c1:(putF r).2≠0∨r.at_≠s.next
 ·rw[if_pos c1];refine⟨Int.le_refl _,rfl,.inr ⟨h0,.inl ⟨rfl,rfl,?_⟩⟩⟩;rcases c1 with c1|c1
  ·refine .inl fun hw=>c1 ?_
   unfold putF;rw[if_pos hw]
  ·exact .inr c1
 ·rw[if_neg c1];simp only[not_or,Decidable.not_not] at c1;obtain⟨c1,ca⟩:=c1;have hr:whyF r=0:=by
   unfold putF at c1;split at c1
   ·assumption
   ·exact c1
  by_cases c2:1099511627776<=s.next
  ·rw[if_pos c2];exact⟨Int.le_refl _,rfl,.inr ⟨h0,.inr (.inl ⟨rfl,rfl,c2⟩)⟩⟩
  ·rw[if_neg c2];by_cases c3:seg<=s.last.size
   ·rw[if_pos c3];have hg:=(h.inv.file (g,l) (by simp)).size
    have hl:l≠[]:=by
     rintro rfl;rw[hlast] at c3;simp only[rowS,List.flatMap_nil,List.length_nil] at hg;omega
    have hro:=h.roll ho hl hv;have hmo:=roll_mono ho h.inv.sure.2;have hok:=rollT_ok ho;have hnx:=rollT_next s;by_cases c4:(rollT s).2=0
    ·rw[if_neg (by simp[c4])]
     rcases hro.2 with⟨_,_,⟨e,_⟩|⟨e,_⟩⟩|⟨_,hd,hs2,hw⟩
     ·rw[e] at c4;cases c4
     ·rw[e] at c4;cases c4
     ·have hcap:=hro.1;have hp:=hw.put hok r hr (by rw[hnx];exact ca)
      generalize (rollT s).1=t at *;have e0:recsM (M++[(g,l)]++[(⟨s.next,0,0⟩,[])])=recsM (M++[(g,l)]):=by rw[recsM_app,recsM_one,List.append_nil]
      refine⟨by rw[hp.1.2];exact hmo,hp.1.1.trans hcap,?_⟩
      rcases hp.2 with⟨h1,h2,_,_,h3⟩|⟨h1,h2,h3⟩
      ·refine .inr ⟨⟨_,_,_,h1,e0⟩,.inr (.inr ?_)⟩;rcases h3 with h3|h3
       ·exact .inl h3.1
       ·exact .inr h3
      ·refine .inl ⟨h1,ca,hr,by omega,h2,_,_,_,h3,?_⟩
       rw[recsM_app,recsM_one];rfl
    ·rw[if_pos c4];refine⟨hmo,hro.1,.inr ?_⟩;rcases hro.2 with⟨h1,_,h2⟩|⟨e,_⟩
     ·refine⟨⟨_,_,_,h1,rfl⟩,.inr (.inr ?_)⟩;rcases h2 with h2|h2
      ·exact .inl h2.1
      ·exact .inr h2
     ·exact absurd e c4
   ·rw[if_neg c3];have hp:=h.put ho r hr ca;refine⟨by rw[hp.1.2];exact Int.le_refl _,hp.1.1,?_⟩
    rcases hp.2 with⟨h1,h2,_,_,h3⟩|⟨h1,h2,h3⟩
    ·refine .inr ⟨⟨_,_,_,h1,rfl⟩,.inr (.inr ?_)⟩;rcases h3 with h3|h3
     ·exact .inl h3.1
     ·exact .inr h3
    ·refine .inl ⟨h1,ca,hr,by omega,h2,_,_,_,h3,?_⟩
     rw[recsM_app,recsM_one,recsM_app,recsM_one,List.append_assoc]
def srtP (l:List Pr):Prop:=l.Pairwise fun a b=>a.key<b.key
theorem stepF_c (l:List Pr) (c:UInt8) (r:List UInt8):stepF l (c::r)=l.takeWhile (fun p=>decide (p.key<(c.toNat:Int)))++(if r=[] then[] else[⟨(c.toNat:Int),r⟩])++l.filter (fun p=>decide ((c.toNat:Int)<p.key)):=by rw[stepF]
theorem step_srt {l:List Pr} (hs:srtP l) (d:List UInt8):srtP (stepF l d):=by
 cases d with
 | nil=>exact hs
 | cons c r =>
  have h1:∀ p∈l.takeWhile (fun p=>decide (p.key<(c.toNat:Int))),p.key<(c.toNat:Int):=fun p hp=>by simpa using List.all_eq_true.1 (List.all_takeWhile (p:=fun p:Pr=>decide (p.key<(c.toNat:Int))) (l:=l)) p hp
  have h2:∀ p∈l.filter (fun p=>decide ((c.toNat:Int)<p.key)),(c.toNat:Int)<p.key:=fun p hp=>by simpa using(List.mem_filter.1 hp).2
  unfold srtP;rw[stepF_c,List.append_assoc,List.pairwise_append];refine⟨hs.sublist (List.takeWhile_sublist _),?_,?_⟩
  ·split
   ·exact hs.sublist List.filter_sublist
   ·rw[List.singleton_append,List.pairwise_cons];exact⟨fun p hp=>h2 p hp,hs.sublist List.filter_sublist⟩
  ·intro a ha b hb;have:=h1 a ha;rw[List.mem_append] at hb;rcases hb with hb|hb
   ·split at hb
    ·cases hb
    ·rw[List.mem_singleton.1 hb];exact this
   ·have:=h2 b hb;omega
theorem Pr.dr (e:Pr):e.enc.drop 2=[]:=Eq.trans rfl rfl
def foldP (l:List Pr) (R:List Rec):List Pr:=R.foldl (fun l r=>stepF l r.da) l
theorem foldP_ok:∀ (R:List Rec) (l:List Pr),srtP l->okP l->(∀ r∈R,r.da.length<=64)->srtP (foldP l R)∧okP (foldP l R)∧(foldP l R).length<=l.length+R.length
 | [],l,hs,ho,_=>⟨hs,ho,Nat.le_refl _⟩
 | r::R,l,hs,ho,hr=>by
  have h:=foldP_ok R (stepF l r.da) (step_srt hs _) (step_ok ho (hr r (by simp))) (fun x hx=>hr x (by simp[hx]))
  have h2:=step_len l r.da;refine⟨h.1,h.2.1,?_⟩;have:(foldP l (r::R)).length<=(stepF l r.da).length+R.length:=h.2.2;simp only[List.length_cons];omega
theorem srt_len:∀ (l:List Pr) (a:Int),srtP l->(∀ p∈l,a<=p.key∧p.key<256)->(l.length:Int)<=max 0 (256-a)
 | [],a,_,_=>by simp;omega
 | p::r,a,hs,h=>by
  have hr:=List.pairwise_cons.1 hs;have h1:=h p (by simp)
  have:=srt_len r (p.key+1) hr.2 (fun q hq=>⟨by have:=hr.1 q hq;omega,(h q (by simp[hq])).2⟩)
  simp only[List.length_cons];omega
theorem st_len {l:List Pr} (hs:srtP l) (ho:okP l):l.length<=256:=by
 have:=srt_len l 0 hs (fun p hp=>(ho p hp).1)
 omega
theorem pickF_at (l:List Seg) (keep count:Int) (j:Nat) (hj:j<l.length) (h1:stayF l keep count j=true) (h2:∀ i,i<j->stayF l keep count i=false):pickF l keep count=j:=by
 have:(List.range l.length).find? (stayF l keep count)=some j:=by
  rw[List.find?_range_eq_some];exact⟨h1,by simpa using hj,fun i hi=>by rw[h2 i hi];rfl⟩
 unfold pickF;rw[this]
theorem parse_srt {s:List UInt8} {l:List Pr} (h:parseF s=some l):srtP l:=by
 have hr:rightF l=true:=by
  unfold parseF at h;split at h
  ·split at h
   ·cases h
   ·unfold endF at h;split at h
    ·split at h
     ·rename_i hc;cases h;exact hc.2
     ·cases h
    ·cases h
  ·cases h
 have key:∀ i,(hi:i+1<l.length)->l[i].key<l[i+1].key:=by
  intro i hi;have:=(List.all_eq_true.1 hr) (i+1) (by simpa using hi)
  simp only[atOk,List.getElem?_eq_getElem hi,Bool.and_eq_true,Bool.or_eq_true,decide_eq_true_eq] at this;have h2:=this.2.resolve_left (by omega)
  have e:keyAt l (i+1-1)=l[i].key:=by simp[keyAt,List.getElem?_eq_getElem (show i<l.length by omega)]
  rwa [e] at h2
 have mono:∀ d i,(hi:i+1+d<l.length)->l[i].key<l[i+1+d].key:=by
  intro d;induction d with
  | zero=>intro i hi;exact key i hi
  | succ d ih=>intro i hi;exact Int.lt_trans (ih i (by omega)) (key (i+1+d) hi)
 unfold srtP;rw[List.pairwise_iff_getElem];intro i j hi hj hij;have:=mono (j-i-1) i (by omega)
 simpa only[show i+1+(j-i-1)=j by omega] using this
def Sto.rcs (s:Sto) (g:Seg):List Rec:=(scanS (s.txt g) g.base).1.map (·.1)
variable {k u:Nat} {f:Int} {S:Txt} {l0:List Pr} {s:Sto} {M:List SR} {g:Seg} {l:List Rec}
theorem Inv.rcs (ho:okS k u s) (h:Inv f s M g l):∀ p∈M++[(g,l)],s.rcs p.1=p.2:=by
 intro p hp;have hf:=h.file p hp;have hpm:p.1∈s.segs:=by
  rw[h.segs];rcases List.mem_append.1 hp with hp|hp
  ·exact List.mem_append_left _ (List.mem_map_of_mem hp)
  ·rw[List.mem_singleton.1 hp];simp
 have hb:=(ho.seg _ hpm).1;have ht:s.txt p.1=rowS p.2:=by
  unfold Sto.txt;rw[read_hasD ho.dsk.srt hf.has]
 unfold Sto.rcs;rw[ht];exact(scan_row p.2 p.1.base (by simp[offN];omega) hf.why hf.num).1
theorem Inv.scans (ho:okS k u s) (h:Inv f s M g l):s.scans=M++[(g,l)]:=by
 have e:s.segs=(M++[(g,l)]).map (·.1):=by rw[h.segs];simp
 have e2:s.scans=s.segs.map fun a=>(a,s.rcs a):=rfl
 rw[e2,e,List.map_map];have:(M++[(g,l)]).map ((fun a=>(a,s.rcs a)) ∘ fun x=>x.1)=(M++[(g,l)]).map id:=by
  apply List.map_congr_left;intro p hp;show(p.1,s.rcs p.1)=p;rw[h.rcs ho p hp]
 rw[this,List.map_id]
theorem num_app {b:Int} {A B:List Rec} (h1:numB b A) (h2:numB (b+A.length) B):numB b (A++B):=by
 intro i hi;rw[List.length_append] at hi;rcases Nat.lt_or_ge i A.length with c|c
 ·rw[List.getElem_append_left c];exact h1 i c
 ·rw[List.getElem_append_right c,h2 (i-A.length) (by omega)];omega
theorem chain_num:∀ (M:List SR) (b e:Int),chainM b M e->(∀ p∈M,numB p.1.base p.2)->numB b (recsM M)
 | [],b,e,_,_=>fun i hi=>by simp[recsM] at hi
 | p::M,b,e,h,hn=>by
  simp only[chainM] at h;have e1:recsM (p::M)=p.2++recsM M:=by simp[recsM]
  rw[e1];have h1:=hn p (by simp)
  rw[h.1] at h1;exact num_app h1 (chain_num M _ e h.2.2 (fun q hq=>hn q (by simp[hq])))
theorem Inv.num (h:Inv f s M g l):numB f (recsM (M++[(g,l)])):=by
 have h1:=chain_num M f g.base h.chain (fun p hp=>(h.file p (List.mem_append_left _ hp)).num)
 rw[recsM_app,recsM_one];refine num_app h1 ?_;rw[chain_len _ _ _ h.chain];exact(h.file (g,l) (by simp)).num
theorem W.snT (ho:okS k u s) (h:W f S l0 s M g l):snapT s=S∧(parseF (snapT s)).getD []=l0:=by
 have hf:s.floor=f:=WR.floor ⟨M,g,l,h,rfl⟩;have e:snapT s=S:=by
  unfold snapT;rw[hf];rcases h.snp with⟨h1,h2,_⟩|⟨h1,h2,_⟩
  ·rw[if_pos h1,h2]
  ·rw[if_neg (by omega),fm_read ho.dsk.srt,h2]
 rw[e];refine⟨rfl,?_⟩;rcases h.snp with⟨_,h2,h3,_⟩|⟨_,_,h3,_⟩
 ·rw[h2,h3];rfl
 ·rw[h3];rfl
theorem run_fold {R:List Rec} (hd:∀ j,(hj:j<R.length)->dataT s (f+j)=R[j].da):∀ (n j:Nat) (q:List Pr),j+n<=R.length->runF s n (f+j) q=foldP q ((R.drop j).take n)
 | 0,j,q,_=>by simp[runF,foldP]
 | n+1,j,q,h=>by
  have hj:j<R.length:=by omega
  rw[runF,hd j hj,List.drop_eq_getElem_cons hj,List.take_succ_cons];have ih:=run_fold hd n (j+1) (stepF q R[j].da) (by omega)
  rw[Int.natCast_add,Int.natCast_one,<- Int.add_assoc] at ih;rw[ih];rfl
theorem W.data (ho:okS k u s) (h:W f S l0 s M g l) (j:Nat) (hj:j<(recsM (M++[(g,l)])).length):dataT s (f+j)=(recsM (M++[(g,l)]))[j].da:=by
 have hn:s.next=f+(recsM (M++[(g,l)])).length:=WR.next ⟨M,g,l,h,rfl⟩;have hf0:0<=f:=by have:=WR.floor ⟨M,g,l,h,rfl⟩;rw[<- this];exact(floor_ok ho).1
 unfold dataT;rw[if_neg (by omega),h.inv.scans ho,find_num h.inv.num j hj]
def stF (l0:List Pr) (f:Int) (R:List Rec) (off:Int):List Pr:=foldP l0 (R.take (off-f).toNat)
theorem W.stT (ho:okS k u s) (h:W f S l0 s M g l) (off:Int) (h1:f<=off∧off<=s.next):stateT s off=stF l0 f (recsM (M++[(g,l)])) off:=by
 have hn:s.next=f+(recsM (M++[(g,l)])).length:=WR.next ⟨M,g,l,h,rfl⟩;unfold stateT stF;rw[(h.snT ho).2,WR.floor ⟨M,g,l,h,rfl⟩];have:=run_fold (h.data ho) (off-f).toNat 0 l0 (by omega)
 simpa using this
def okV (l:List Pr):Prop:=∀ p∈l,(0<=p.key∧p.key<256)∧(1<=p.val.length∧p.val.length<=63)
theorem okV.okP {l:List Pr} (h:okV l):okP l:=fun p hp=>⟨(h p hp).1,by have:=(h p hp).2;omega⟩
theorem step_okV {l:List Pr} (h:okV l) {d:List UInt8} (hd:d.length<=64):okV (stepF l d):=by
 cases d with
 | nil=>exact h
 | cons c r =>
  intro p hp;simp only[stepF,List.mem_append] at hp;rcases hp with(hp|hp)|hp
  ·exact h p ((List.takeWhile_sublist _).subset hp)
  ·split at hp
   ·cases hp
   ·rename_i hr;rw[List.mem_singleton] at hp;subst hp;have:=UInt8.toNat_lt c;have:=List.length_pos_iff.2 hr;simp at hd;exact⟨⟨by simp only[];omega,by simp only[];omega⟩,by simp only[];omega⟩
  ·exact h p (List.mem_filter.1 hp).1
theorem foldP_okV:∀ (R:List Rec) (l:List Pr),okV l->(∀ r∈R,r.da.length<=64)->okV (foldP l R)
 | [],l,h,_=>h
 | r::R,l,h,hr=>foldP_okV R _ (step_okV h (hr r (by simp))) (fun x hx=>hr x (by simp[hx]))
theorem right_ok {l:List Pr} (hs:srtP l) (h:okV l):rightF l=true:=by
 unfold rightF;rw[List.all_eq_true];intro i hi;have hi:i<l.length:=by simpa using hi
 simp only[atOk,List.getElem?_eq_getElem hi,prOk,Bool.and_eq_true,Bool.or_eq_true,decide_eq_true_eq];refine⟨(h _ (List.getElem_mem hi)).2,?_⟩;by_cases c:i=0
 ·exact .inl c
 ·refine .inr ?_;have e:keyAt l (i-1)=l[i-1].key:=by simp[keyAt,List.getElem?_eq_getElem (show i-1<l.length by omega)]
  rw[e];exact(List.pairwise_iff_getElem.1 hs) (i-1) i (by omega) hi (by omega)
theorem right_okV {l:List Pr} (hr:rightF l=true) (ho:okP l):okV l:=by
 intro p hp;obtain⟨i,hi,rfl⟩:=List.getElem_of_mem hp;have:=(List.all_eq_true.1 hr) i (by simpa using hi)
 simp only[atOk,List.getElem?_eq_getElem hi,prOk,Bool.and_eq_true,decide_eq_true_eq] at this;exact⟨(ho _ hp).1,this.1⟩
theorem pair_bytes (pre rest:Txt) (p:Pr) (h:(0<=p.key∧p.key<256)∧(1<=p.val.length∧p.val.length<=63)):pairF (pre++(prB p++rest)) pre.length=some (p,(pre++prB p).length):=by
 obtain⟨key,v⟩:=p;simp only at h;have e0:pre++(prB ⟨key,v⟩++rest)=(pre++[UInt8.ofNat key.toNat])++(enc128 v.length++(v++rest)):=by simp[prB]
 have e1:(pre++(prB ⟨key,v⟩++rest)).drop (pre.length+1)=enc128 v.length++(v++rest):=by
  rw[e0];exact List.drop_left' (by simp)
 have hr:=rdF_of0 v.length (v++rest) (by omega)
 have hk:(enc128 v.length).length=nd v.length:=rfl;have hl:(pre++(prB ⟨key,v⟩++rest)).length=pre.length+1+nd v.length+v.length+rest.length:=by rw[e0];simp[hk];omega
 have ha:(pre++(prB ⟨key,v⟩++rest))[pre.length]?=some (UInt8.ofNat key.toNat):=by simp[prB]
 have hv:((pre++(prB ⟨key,v⟩++rest)).take (pre.length+1+nd v.length+v.length)).drop (pre.length+1+nd v.length)=v:=by
  have e2:pre++(prB ⟨key,v⟩++rest)=((pre++[UInt8.ofNat key.toNat])++enc128 v.length)++(v++rest):=by simp[prB]
  have hl2:((pre++[UInt8.ofNat key.toNat])++enc128 v.length).length=pre.length+1+nd v.length:=by simp[hk];omega
  rw[e2,<- hl2,List.take_length_add_append,List.drop_left,List.take_left]
 have hkey:((UInt8.ofNat key.toNat).toNat:Int)=key:=by simp;omega
 unfold pairF;rw[e1,hr];simp only[];rw[if_neg (by omega),hv,ha]
 simp only[Option.getD_some,hkey];congr 2
 simp[prB,hk];omega
theorem pars_bytes:∀ (l:List Pr) (pre:Txt) (out:List Pr),okV l->parsF (pre++l.flatMap prB) l.length pre.length out=some (out++l,(pre++l.flatMap prB).length)
 | [],pre,out,_=>by simp[parsF]
 | p::l,pre,out,h=>by
  have hp:=pair_bytes pre (l.flatMap prB) p (h p (by simp))
  rw[List.flatMap_cons,List.length_cons,parsF,hp];simp only[];have ih:=pars_bytes l (pre++prB p) (out++[p]) (fun q hq=>h q (by simp[hq]))
  rw[List.append_assoc] at ih;rw[ih];simp
theorem parse_bytes {l:List Pr} (hs:srtP l) (h:okV l):parseF (bytesF l)=some l:=by
 have hl:=st_len hs h.okP;have hr:=rdF_of0 l.length (l.flatMap prB) (by omega)
 have hp:=pars_bytes l (enc128 l.length) [] h;have hk:(enc128 l.length).length=nd l.length:=rfl;unfold parseF;have e:bytesF l=enc128 l.length++l.flatMap prB:=rfl;rw[e,hr];simp only[];rw[if_neg (by omega),<- hk,hp]
 unfold endF;simp[right_ok hs h]
theorem parse_okV {s:List UInt8} {l:List Pr} (h:parseF s=some l):okV l:=by
 have hr:rightF l=true:=by
  unfold parseF at h;split at h
  ·split at h
   ·cases h
   ·unfold endF at h;split at h
    ·split at h
     ·rename_i hc;cases h;exact hc.2
     ·cases h
    ·cases h
  ·cases h
 exact right_okV hr (parse_ok h).1
theorem createT_ok {k u:Nat} {d:Dsk} (h:okN k u d) (h0:(createT d).2=0):okS (k+2) (u+1000) (createT d).1∧(∀ seg:Int,0<=seg->Hold 0 seg (createT d).1 [])∧(createT d).1.next=0∧(createT d).1.sure=0:=by
 have k1:=crt_ok (s:=(d,0)) h (fileN 0);unfold createT at h0 ⊢;simp only[] at h0 ⊢;have k2:okN (k+2) (u+1000) (if(crtS (fileN 0) (d,0)).2=0 then swapS ⟨1,[0],0,0⟩ (crtS (fileN 0) (d,0)) else crtS (fileN 0) (d,0)).1:=by
  split
  ·exact(swap_okN k1 _).up (by omega) (by omega)
  ·exact k1.up (by omega) (by omega)
 have hd:(crtS (fileN 0) (d,0)).2=0->hasD (if(crtS (fileN 0) (d,0)).2=0 then swapS ⟨1,[0],0,0⟩ (crtS (fileN 0) (d,0)) else crtS (fileN 0) (d,0)).1.files (fileN 0) []:=fun hc=>by
  rw[if_pos hc];exact swap_keep k1 _ (fileN_n _ _) (fileN_n _ _) (crt_new hc)
 have hc:(if(crtS (fileN 0) (d,0)).2=0 then swapS ⟨1,[0],0,0⟩ (crtS (fileN 0) (d,0)) else crtS (fileN 0) (d,0)).2=0->(crtS (fileN 0) (d,0)).2=0:=fun hx=>by
  by_cases hc:(crtS (fileN 0) (d,0)).2=0
  ·exact hc
  ·rw[if_neg hc] at hx;exact hx
 generalize (if(crtS (fileN 0) (d,0)).2=0 then swapS ⟨1,[0],0,0⟩ (crtS (fileN 0) (d,0)) else crtS (fileN 0) (d,0))=s2 at *
 by_cases c:s2.2=0
 ·rw[if_pos c];have hd:=hd (hc c);refine⟨⟨k2,by simp,?_,by simp,⟨by simp,by simp only[];omega⟩,by simp⟩,fun seg hs=>⟨[],⟨0,0,0⟩,[],⟨rfl,?_,rfl,rfl,by simp⟩,⟨fun p hp=>(by cases hp),by simp only[];omega⟩,rfl⟩,rfl,rfl⟩
  ·intro g hg;simp only[List.mem_singleton] at hg;subst hg;simp;omega
  ·intro p hp;simp only[List.nil_append,List.mem_singleton] at hp;subst hp;exact⟨hd,fun r hr=>(by cases hr),fun k hk=>(by simp at hk),rfl,rfl⟩
 ·rw[if_neg c] at h0;exact absurd h0 c
def d0:Dsk:=⟨[],0,false,0,false⟩
theorem d0_ok:okN 0 0 d0:=⟨Nat.le_refl _,List.Pairwise.nil,by decide,by decide,Nat.le_refl _⟩
theorem d0_new:(createT d0).2=0:=by decide +kernel
variable {k u:Nat} {f:Int} {S:Txt} {l0:List Pr} {s:Sto} {M:List SR} {g:Seg} {l:List Rec}
theorem W.st0 (h:W f S l0 s M g l):srtP l0∧okV l0:=by
 rcases h.snp with⟨_,_,h3,_⟩|⟨_,_,h3,_⟩
 ·rw[h3];exact⟨List.Pairwise.nil,fun p hp=>by cases hp⟩
 ·exact⟨parse_srt h3,parse_okV h3⟩
theorem W.why (h:W f S l0 s M g l):∀ r∈recsM (M++[(g,l)]),whyF r=0:=by
 intro r hr;simp only[recsM,List.mem_flatMap] at hr;obtain⟨p,hp,hr⟩:=hr;exact(h.inv.file p hp).why r hr
theorem W.st (h:W f S l0 s M g l) (off:Int):srtP (stF l0 f (recsM (M++[(g,l)])) off)∧okV (stF l0 f (recsM (M++[(g,l)])) off):=by
 have h1:∀ r∈(recsM (M++[(g,l)])).take (off-f).toNat,r.da.length<=64:=fun r hr=>why_len (h.why r (List.mem_of_mem_take hr))
 exact⟨(foldP_ok _ _ h.st0.1 h.st0.2.okP h1).1,foldP_okV _ _ h.st0.2 h1⟩
theorem bytes_small {q:List Pr} (hs:srtP q) (ho:okV q):1<=(bytesF q).length∧(bytesF q).length<=18960:=by
 have h1:=st_len hs ho.okP;have h2:=bytes_len ho.okP (by omega)
 have h3:1<=(enc128 q.length).length:=nd_pos q.length;refine⟨?_,by omega⟩
 unfold bytesF;rw[List.length_append];omega
theorem chain_drop:∀ (k:Nat) (M:List SR) (b e:Int),k<=M.length->chainM b M e->chainM (b+(recsM (M.take k)).length) (M.drop k) e
 | 0,M,b,e,_,h=>by simpa[recsM] using h
 | k+1,[],b,e,hk,_=>by simp at hk
 | k+1,p::M,b,e,hk,h=>by
  simp only[chainM] at h;have ih:=chain_drop k M (b+p.2.length) e (by simpa using hk) h.2.2
  have e1:(recsM ((p::M).take (k+1))).length=p.2.length+(recsM (M.take k)).length:=by simp[recsM]
  rw[e1,List.drop_succ_cons,Int.natCast_add,<- Int.add_assoc];exact ih
theorem chain_first {M:List SR} {b e:Int} (h:chainM b M e):∀ x,(M.map (·.1.base)++[e])[0]?=some x->x=b:=by
 intro x hx;cases M with
 | nil=>simp[chainM] at h hx;omega
 | cons p M=>simp[chainM] at h hx;omega
theorem W.base_k (h:W f S l0 s M g l) {n:Nat} (hn:n<s.segs.length):n<=M.length∧baseF s.segs n=f+(recsM (M.take n)).length:=by
 have hl:s.segs.length=M.length+1:=by rw[h.inv.segs];simp
 have hk:n<=M.length:=by omega
 refine⟨hk,?_⟩;have hc:=chain_drop n M f g.base hk h.inv.chain;refine chain_first hc _ ?_;have e1:s.segs.map Seg.base=M.map (·.1.base)++[g.base]:=by rw[h.inv.segs];simp[List.map_map,Function.comp_def]
 have e2:(M.drop n).map (·.1.base)++[g.base]=(s.segs.map Seg.base).drop n:=by
  rw[e1,List.drop_append_of_le_length (by simpa using hk),List.map_drop]
 rw[e2,List.getElem?_drop,Nat.add_zero,List.getElem?_map,(base_at hn).1,(base_at hn).2];rfl
theorem W.trimR (ho:okS k u s) (h:W f S l0 s M g l) (hv:u<1000000000000) {n:Nat} (hn:n<s.segs.length) (h0:n≠0):f<baseF s.segs n∧baseF s.segs n<=s.next∧stateT s (baseF s.segs n)=stF l0 f (recsM (M++[(g,l)])) (baseF s.segs n)∧manB (trimX s n).man=true:=by
 have hb:=h.base_k hn;have hf0:0<=f:=by have:=WR.floor ⟨M,g,l,h,rfl⟩;rw[<- this];exact(floor_ok ho).1
 have hce:=chain_mem _ _ _ h.inv.chain;have hcl:=chain_len _ _ _ h.inv.chain;have hnx:=h.inv.next;have e1:recsM M=recsM (M.take n)++recsM (M.drop n):=by rw[<- recsM_app,List.take_append_drop]
 have h1:f<baseF s.segs n:=by
  rw[hb.2];have:0<(recsM (M.take n)).length:=by
   cases hM:M with
   | nil=>rw[hM] at hb;simp at hb;omega
   | cons p r =>
    obtain⟨m,rfl⟩:∃ m,n=m+1:=⟨n-1,by omega⟩
    have:=(hce.2 p (by rw[hM];simp)).2.2
    simp[recsM];omega
  omega
 have h2:baseF s.segs n<=s.next:=by
  rw[hb.2];rw[e1,List.length_append] at hcl;omega
 have h3:=h.stT ho (baseF s.segs n) ⟨by omega,h2⟩
 refine⟨h1,h2,h3,?_⟩;have hst:=h.st (baseF s.segs n);have hbs:=bytes_small hst.1 hst.2;have hm:=manB_t h.right;have hi:=h.man_inc;have hv2:=ho.ver;have hv1:1<=s.ver:=hm.1.1;have hl64:=ho.len;have ex:(trimX s n).man.segs=(s.segs.map Seg.base).drop n:=by show(s.segs.drop n).map Seg.base=_;rw[List.map_drop]
 have ez:(trimX s n).man.size=((bytesF (stateT s (baseF s.segs n))).length:Nat):=rfl;refine manB_mk ⟨by show 1<=s.ver+1;omega,by show s.ver+1<=_;omega⟩ ⟨by rw[ex];simp;omega,by rw[ex];simp;omega⟩ ?_ (.inr ⟨?_,?_⟩)
 ·rw[ex,incB_iff];exact⟨hi.1.sublist (List.drop_sublist _ _),fun a ha=>hi.2 a (List.mem_of_mem_drop ha)⟩
 ·rw[ex,List.head?_drop,List.getElem?_map,(base_at hn).1];simp only[Option.map_some,ne_eq,Option.some.injEq];rw[<- (base_at hn).2];omega
 ·rw[ez,h3];omega
theorem W.not_rel {a:Int} (ho:okS k u s) (hf:0<=f∧f<=1099511627776) (ha:f<a∧a<=1099511627776):¬ rel f s (snapN a):=by
 rintro(e|⟨b,_,e⟩|⟨_,e⟩)
 ·exact absurd e (n109 _ (by rw[snapN_len];decide))
 ·exact absurd e (snap_file _ _)
 ·have:=snapN_inj (by omega) hf e;omega
variable {k u:Nat} {f:Int} {S:Txt} {l0:List Pr} {s:Sto} {M:List SR} {g:Seg} {l:List Rec}
theorem oldN_nodup (ho:okS k u s) (h:W f S l0 s M g l) (n:Nat):(oldN s n).Nodup:=by
 have hp:s.segs.Pairwise (fun a b=>a.base<b.base):=List.pairwise_map.1 h.man_inc.1
 unfold oldN List.Nodup;rw[List.pairwise_append];refine⟨?_,by split <;> simp,?_⟩
 ·rw[List.pairwise_map];refine List.Pairwise.imp_of_mem (fun {a b} ha hb hab e=>?_) (hp.sublist (List.take_sublist n _))
  have:=fileN_inj (ho.seg a (List.mem_of_mem_take ha)).1 (ho.seg b (List.mem_of_mem_take hb)).1 e;omega
 ·intro a ha b hb e;obtain⟨c,_,rfl⟩:=List.mem_map.1 ha;split at hb
  ·rw[List.mem_singleton.1 hb] at e;exact snap_file _ _ e.symm
  ·cases hb
theorem W.cut (ho:okS k u s) (h:W f S l0 s M g l) (hv:u<1000000000000) {n:Nat} (hn:n<s.segs.length) (h0:n≠0) {d1:Dsk} {w:Dsk × Int}
  (hs1:srt d1.files) (hd1:d1.down=false) (hf1:fm d1.files=up (up (fm s.disk.files) (snapN (baseF s.segs n)) (some (bytesF (stateT s (baseF s.segs n)),(((bytesF (stateT s (baseF s.segs n))).length:Nat):Int)))) [109] (manV (trimX s n).man)) (hdn:s.disk.down=false)
  (hO:Out d1 w (oldN s n) (rmv (oldN s n) (fm d1.files)) none) :
  W (baseF s.segs n) (bytesF (stateT s (baseF s.segs n))) (stateT s (baseF s.segs n)) { trimX s n with disk:=w.1 } (M.drop n) g l:=by
 have hT:=h.trimR ho hv hn h0;have hb:=h.base_k hn;have hf0:0<=f:=by have:=WR.floor ⟨M,g,l,h,rfl⟩;rw[<- this];exact(floor_ok ho).1
 have hst:=h.st (baseF s.segs n);rw[<- hT.2.2.1] at hst;have hfl:s.floor=f:=WR.floor ⟨M,g,l,h,rfl⟩;have hbo:=base_ok ho hn;have hlt:∀ a∈s.segs.take n,a.base<baseF s.segs n:=by
  intro a ha;have hp:s.segs.Pairwise (fun a b=>a.base<b.base):=List.pairwise_map.1 h.man_inc.1
  obtain⟨i,hi,rfl⟩:=List.getElem_of_mem ha;rw[List.length_take] at hi;rw[List.getElem_take,(base_at hn).2];exact(List.pairwise_iff_getElem.1 hp) i n (by omega) hn (by omega)
 have hge:∀ a∈s.segs.drop n,baseF s.segs n<=a.base:=by
  intro a ha;have hp:s.segs.Pairwise (fun a b=>a.base<b.base):=List.pairwise_map.1 h.man_inc.1
  obtain⟨i,hi,rfl⟩:=List.getElem_of_mem ha;rw[List.length_drop] at hi;rw[List.getElem_drop,(base_at hn).2];by_cases c:i=0
  ·subst c;simp
  ·have:=(List.pairwise_iff_getElem.1 hp) n (n+i) hn (by omega) (by omega);omega
 have hold:∀ m,m∈oldN s n↔(∃ a∈s.segs.take n,m=fileN a.base)∨(0<f∧m=snapN f):=by
  intro m;unfold oldN;rw[List.mem_append,List.mem_map,hfl];constructor
  ·rintro(⟨a,ha,rfl⟩|hm)
   ·exact .inl ⟨a,ha,rfl⟩
   ·split at hm
    ·rename_i c;exact .inr ⟨c,List.mem_singleton.1 hm⟩
    ·cases hm
  ·rintro(⟨a,ha,rfl⟩|⟨hc,rfl⟩)
   ·exact .inl ⟨a,ha,rfl⟩
   ·rw[if_pos hc];exact .inr (by simp)
 have hsd:s.segs.drop n=(M.drop n).map (·.1)++[g]:=by rw[h.inv.segs,List.drop_append_of_le_length (by simpa using hb.1),List.map_drop]
 have k1:[109] ∉ oldN s n:=by
  rw[hold];rintro(⟨a,_,e⟩|⟨_,e⟩)
  ·exact absurd e.symm (n109 _ (by rw[fileN_len];decide))
  ·exact absurd e.symm (n109 _ (by rw[snapN_len];decide))
 have k2:snapN (baseF s.segs n) ∉ oldN s n:=by
  rw[hold];rintro(⟨a,_,e⟩|⟨_,e⟩)
  ·exact absurd e (snap_file _ _)
  ·have:=snapN_inj hbo (by omega) e;omega
 have k3:∀ a∈s.segs.drop n,fileN a.base ∉ oldN s n:=by
  intro a ha;rw[hold];rintro(⟨b,hb2,e⟩|⟨_,e⟩)
  ·have:=fileN_inj (ho.seg a (List.mem_of_mem_drop ha)).1 (ho.seg b (List.mem_of_mem_take hb2)).1 e;have:=hge a ha;have:=hlt b hb2;omega
  ·exact absurd e.symm (snap_file _ _)
 have hkeep:∀ m,m ∉ oldN s n->fm w.1.files m=fm d1.files m:=by
  intro m hm;rcases hO.2.2 with⟨_,_,hf⟩|⟨_,hc,_⟩|⟨_,_,hf⟩
  ·rw[hf];exact if_neg hm
  ·cases hc
  ·exact hf m hm
 have hfile:∀ a∈s.segs.drop n,fm w.1.files (fileN a.base)=fm s.disk.files (fileN a.base):=by
  intro a ha;rw[hkeep _ (k3 a ha),hf1,up_ne _ _ (n109 _ (by rw[fileN_len];decide)),up_ne _ _ (fun e=>snap_file _ _ e.symm)]
 have hpm:∀ p∈M.drop n++[(g,l)],p.1∈s.segs.drop n:=by
  intro p hp;rw[hsd];rcases List.mem_append.1 hp with hp|hp
  ·exact List.mem_append_left _ (List.mem_map_of_mem hp)
  ·rw[List.mem_singleton.1 hp];simp
 have hpM:∀ p∈M.drop n++[(g,l)],p∈M++[(g,l)]:=by
  intro p hp;rcases List.mem_append.1 hp with hp|hp
  ·exact List.mem_append_left _ (List.mem_of_mem_drop hp)
  ·exact List.mem_append_right _ hp
 refine⟨⟨hsd,fun p hp=>?_,?_,h.inv.next,h.inv.sure⟩,.inr ⟨by omega,?_,parse_bytes hst.1 hst.2,rfl,rfl⟩,?_,hT.2.2.2,fun p hp=>?_,?_,h.lo,fun hd m hm=>?_⟩
 ·have hfo:=h.inv.file p (hpM p hp);refine hfo.keep fun hh=>?_
  rw[fm_hasD ho.dsk.srt] at hh;rw[fm_hasD hO.2.1,hfile _ (hpm p hp)];exact hh
 ·have:=chain_drop n M f g.base hb.1 h.inv.chain;rw[<- hb.2] at this;exact this
 ·show fm w.1.files _=_;rw[hkeep _ k2,hf1,up_ne _ _ (n109 _ (by rw[snapN_len];decide)),up_at]
 ·show fm w.1.files _=_;rw[hkeep _ k1,hf1,up_at];rfl
 ·show fm w.1.files _=_;rw[hfile _ (hpm p (List.mem_append_left _ hp))];exact h.full p (List.mem_of_mem_drop hp)
 ·obtain⟨q,h1,h2⟩:=h.last;exact⟨q,by show fm w.1.files _=_;rw[hfile _ (hpm (g,l) (by simp))];exact h1,h2⟩
 ·have hm2:fm w.1.files m≠none:=hm;have hd2:w.1.down=false:=hd;rcases hO.2.2 with⟨_,_,hf⟩|⟨_,hc,_⟩|⟨_,hd3,_⟩
  ·rw[hf] at hm2;unfold rmv at hm2;by_cases c:m∈oldN s n
   ·rw[if_pos c] at hm2;exact absurd rfl hm2
   ·rw[if_neg c,hf1] at hm2;by_cases c1:m=[109]
    ·exact .inl c1
    ·rw[up_ne _ _ c1] at hm2;by_cases c2:m=snapN (baseF s.segs n)
     ·exact .inr (.inr ⟨by omega,c2⟩)
     ·rw[up_ne _ _ c2] at hm2;rcases h.only hdn m hm2 with e|⟨a,ha,e⟩|⟨e1,e2⟩
      ·exact .inl e
      ·rw[<- List.take_append_drop n s.segs] at ha;rcases List.mem_append.1 ha with ha|ha
       ·exact absurd ((hold m).2 (.inl ⟨a,ha,e⟩)) c
       ·exact .inr (.inl ⟨a,ha,e⟩)
      ·exact absurd ((hold m).2 (.inr ⟨e1,e2⟩)) c
  ·cases hc
  ·rw[hd2] at hd3;cases hd3
theorem recs_drop (h:Inv f s M g l) {n:Nat} (hn:n<=M.length):recsM (M.drop n++[(g,l)])=(recsM (M++[(g,l)])).drop (recsM (M.take n)).length:=by
 have e:recsM (M++[(g,l)])=recsM (M.take n)++recsM (M.drop n++[(g,l)]):=by
  rw[<- recsM_app,<- List.append_assoc,List.take_append_drop]
 rw[e,List.drop_left]
theorem WR.trim {R:List Rec} (ho:okS k u s) (h:WR f S l0 s R) (hv:u<1000000000000) (keep count:Int) :
  ∃ f' S' l0',f<=f'∧f'<=s.next∧l0'=stF l0 f R f'∧WR f' S' l0' (trimT s keep count).1 (R.drop (f'-f).toNat)∧(trimT s keep count).1.next=s.next∧(trimT s keep count).1.sure=s.sure∧(trimT s keep count).1.disk.cap=s.disk.cap ∧
   ((trimT s keep count).2=0∨(trimT s keep count).2=9∨((trimT s keep count).2=10∧(trimT s keep count).1.disk.down=true)) ∧
   ((trimT s keep count).2=0->pickF (trimT s keep count).1.segs keep count=0)∧((trimT s keep count).2≠10->(trimT s keep count).1.disk.down=s.disk.down):=by
 have h0:=h;have hfn:=h.sure;have hs0:WR f S l0 s (R.drop (f-f).toNat):=by rw[Int.sub_self];exact h0
 have hl0:l0=stF l0 f R f:=by unfold stF;rw[Int.sub_self];rfl
 obtain⟨M,g,l,h,rfl⟩:=h;unfold trimT;by_cases c0:pickF s.segs keep count=0
 ·rw[if_pos c0];exact⟨f,S,l0,Int.le_refl _,by omega,hl0,hs0,rfl,rfl,rfl,.inl rfl,fun _=>c0,fun _=>rfl⟩
 ·rw[if_neg c0];have hn:=pickF_lt s.segs keep count c0;have hpk:pickF (s.segs.drop (pickF s.segs keep count)) keep count=0:=by
   have hst:stayF s.segs keep count (pickF s.segs keep count)=true:=by
    unfold pickF at *;cases hf:(List.range s.segs.length).find? (stayF s.segs keep count) with
    | none=>rw[hf] at c0;exact absurd rfl c0
    | some j=>exact List.find?_some hf
   refine pickF_at _ keep count 0 (by simp;omega) ?_ (fun i hi=>absurd hi (by omega))
   unfold stayF at hst ⊢;rw[List.drop_zero];exact hst
  generalize pickF s.segs keep count=n at *;have hT:=h.trimR ho hv hn c0;have hb:=h.base_k hn;have hbo:=base_ok ho hn;have hf0:0<=f:=by have:=WR.floor h0;rw[<- this];exact(floor_ok ho).1
  have hnr:¬ rel f s (snapN (baseF s.segs n)):=W.not_rel ho (by omega) ⟨hT.1,hbo.2⟩
  have h110:s.disk.down=false->fm s.disk.files [110]=none:=fun hd=>by
   cases hx:fm s.disk.files [110] with
   | none=>rfl
   | some v=>exact absurd (h.only hd [110] (by rw[hx];simp)) (rel_110 f s)
  have hsn:s.disk.down=false->fm s.disk.files (snapN (baseF s.segs n))=none:=fun hd=>by
   cases hx:fm s.disk.files (snapN (baseF s.segs n)) with
   | none=>rfl
   | some v=>exact absurd (h.only hd _ (by rw[hx];simp)) hnr
  have hO:=lay_out ho.dsk.srt (n:=snapN (baseF s.segs n)) (x:=bytesF (stateT s (baseF s.segs n))) hT.2.2.2 (namedS _) (n110 _ (by rw[snapN_len];decide)) h110 hsn
  have hold0:∀ q,oldT s n q=goP (oldN s n) q:=fun q=>old_go s n q
  have hX:∀ m∈[snapN (baseF s.segs n),[110]],¬ rel f s m:=by
   intro m hm;rcases List.mem_cons.1 hm with rfl|hm
   ·exact hnr
   ·rw[List.mem_singleton.1 hm];exact rel_110 f s
  have etk:trimK s n=if(layT s.disk (snapN (baseF s.segs n)) (bytesF (stateT s (baseF s.segs n))) (trimX s n).man).2≠0 then({ s with disk:=(layT s.disk (snapN (baseF s.segs n)) (bytesF (stateT s (baseF s.segs n))) (trimX s n).man).1 },(layT s.disk (snapN (baseF s.segs n)) (bytesF (stateT s (baseF s.segs n))) (trimX s n).man).2) else({ trimX s n with disk:=(goP (oldN s n) (layT s.disk (snapN (baseF s.segs n)) (bytesF (stateT s (baseF s.segs n))) (trimX s n).man)).1 },(goP (oldN s n) (layT s.disk (snapN (baseF s.segs n)) (bytesF (stateT s (baseF s.segs n))) (trimX s n).man)).2):=by
   unfold trimK;simp only[hold0]
  rw[etk];clear etk;generalize layT s.disk (snapN (baseF s.segs n)) (bytesF (stateT s (baseF s.segs n))) (trimX s n).man=e at *;by_cases c1:e.2=0
  ·rw[if_neg (by simp[c1])]
   rcases hO.2.2 with⟨_,hd,hf⟩|⟨_,_,e9,_⟩|⟨e10,_⟩
   ·have hdn:=hO.1.up_of hd;have hg:=goP_out (oldN s n) e.1 hO.2.1 (oldN_nodup ho h n) hd (fun m hm=>by
     have hne:m≠[109]∧m≠snapN (baseF s.segs n)∧fm s.disk.files m≠none:=by
      unfold oldN at hm;rcases List.mem_append.1 hm with hm|hm
      ·obtain⟨a,ha,rfl⟩:=List.mem_map.1 hm;refine⟨n109 _ (by rw[fileN_len];decide),fun e=>snap_file _ _ e.symm,?_⟩
       have ha:=List.mem_of_mem_take ha;rw[h.inv.segs] at ha;rcases List.mem_append.1 ha with ha|ha
       ·obtain⟨p,hp,rfl⟩:=List.mem_map.1 ha;rw[h.full p hp];simp
       ·rw[List.mem_singleton.1 ha];obtain⟨q,h1,_⟩:=h.last;rw[h1];simp
      ·rw[WR.floor h0] at hm;split at hm
       ·rename_i c;rw[List.mem_singleton.1 hm];refine⟨n109 _ (by rw[snapN_len];decide),fun e=>?_,?_⟩
        ·have:=snapN_inj (by omega) hbo e;omega
        ·rcases h.snp with⟨h1,_⟩|⟨_,h1,_⟩
         ·omega
         ·rw[h1];simp
       ·cases hm
     rw[hf,up_ne _ _ hne.1,up_ne _ _ hne.2.1];exact hne.2.2)
    have hp0:e=(e.1,0):=pair_eq c1;rw[<- hp0] at hg;have hw:=h.cut ho hv hn c0 hO.2.1 hd hf hdn hg;have hr:=recs_drop h.inv hb.1;have hfd:(baseF s.segs n-f).toNat=(recsM (M.take n)).length:=by omega
    refine⟨baseF s.segs n,_,stateT s (baseF s.segs n),by omega,hT.2.1,hT.2.2.1,⟨M.drop n,g,l,hw,by rw[hr,hfd]⟩,rfl,rfl,hg.1.cap.trans hO.1.cap,?_,fun _=>hpk,fun hne=>?_⟩
    ·rcases hg.2.2 with⟨a,_⟩|⟨_,a,_⟩|⟨a,b,_⟩
     ·exact .inl a
     ·cases a
     ·exact .inr (.inr ⟨a,b⟩)
    ·rcases hg.2.2 with⟨_,a,_⟩|⟨_,a,_⟩|⟨a,b,_⟩
     ·exact a.trans hdn.symm
     ·cases a
     ·exact absurd a hne
   ·rw[e9] at c1;cases c1
   ·rw[e10] at c1;cases c1
  ·rw[if_pos c1];have:=h.fail ho.dsk.srt hO c1 hX;refine⟨f,S,l0,Int.le_refl _,by omega,hl0,by rw[Int.sub_self];exact⟨M,g,l,this.1,rfl⟩,rfl,rfl,hO.1.cap,?_,fun h=>absurd h c1,fun hne=>?_⟩
   ·rcases this.2 with⟨a,_⟩|⟨a,b⟩
    ·exact .inr (.inl a)
    ·exact .inr (.inr ⟨a,b⟩)
   ·rcases this.2 with⟨_,_,a⟩|⟨a,_⟩
    ·exact a.trans (hO.1.up_of a).symm
    ·exact absurd a hne
structure Ac where
 kind:Int
 n:Int
 m:Int
 data:List UInt8
 deriving DecidableEq
def Ac.enc (e:Ac):List D:=[.i .i64 e.kind,.i .i64 e.n,.i .i64 e.m,.s e.data]
theorem Ac.len (e:Ac):e.enc.length=4:=Eq.trans rfl rfl
theorem Ac.tk (e:Ac):e.enc.take 4=e.enc:=Eq.trans rfl rfl
theorem Ac.tkL (e:Ac):(e.enc.map L.d).take 4=e.enc.map L.d:=Eq.trans rfl rfl
theorem Ac.dat (e:Ac):dataLs (e.enc.map L.d)=some (e.enc.map L.d):=Eq.trans rfl rfl
theorem Ac.rfs (e:Ac):(e.enc.map L.d).flatMap L.refs=[]:=Eq.trans rfl rfl
theorem Ac.rn (e:Ac) (g:Nat->Option Nat):(e.enc.map L.d).map (L.ren g)=e.enc.map L.d:=Eq.trans rfl rfl
theorem Ac.lenL (e:Ac):(e.enc.map L.d).length=4:=Eq.trans rfl rfl
theorem Ac.at0 (e:Ac):e.enc[0]?=some (.i .i64 e.kind):=Eq.trans rfl rfl
theorem Ac.fd0 (e:Ac):(e.enc.map L.d)[0]?=some (.d (.i .i64 e.kind)):=Eq.trans rfl rfl
theorem Ac.at1 (e:Ac):(e.enc.drop 1)[0]?=some (.i .i64 e.n):=Eq.trans rfl rfl
theorem Ac.fd1 (e:Ac):(e.enc.map L.d)[1]?=some (.d (.i .i64 e.n)):=Eq.trans rfl rfl
theorem Ac.at2 (e:Ac):(e.enc.drop 2)[0]?=some (.i .i64 e.m):=Eq.trans rfl rfl
theorem Ac.fd2 (e:Ac):(e.enc.map L.d)[2]?=some (.d (.i .i64 e.m)):=Eq.trans rfl rfl
theorem Ac.up1 (e:Ac) (x:Int):e.enc.take 1++[.i .i64 x]++e.enc.drop 2=({ e with n:=x }:Ac).enc:=Eq.trans rfl rfl
theorem Ac.up2 (e:Ac) (x:Int):e.enc.take 2++[.i .i64 x]++e.enc.drop 3=({ e with m:=x }:Ac).enc:=Eq.trans rfl rfl
def Ac.ok (e:Ac):Prop:=(-9223372036854775808<=e.kind∧e.kind<9223372036854775808)∧(-9223372036854775808<=e.n∧e.n<9223372036854775808)∧(-9223372036854775808<=e.m∧e.m<9223372036854775808)∧e.data.length<=9223372036854775807
def Ac.ty:List Ty:=[.i .i64,.i .i64,.i .i64,.s]
theorem Ac.eqs (a b:Ac):scEqs [0,0,0,2] (a.enc.map L.d) (b.enc.map L.d)=some (decide (a=b)):=by
 cases a;cases b;simp only[Ac.enc,List.map_cons,List.map_nil,scEqs,scEq,if_true,Ac.mk.injEq];congr 1
 rw[Bool.eq_iff_iff];simp only[Bool.and_eq_true,beq_iff_eq,decide_eq_true_eq,and_true]
theorem Ac.of (r:List D) (h:wfRow Ac.ty r):∃ e:Ac,r=e.enc∧e.ok:=by
 simp only[Ac.ty,wfRow,wfT] at h;obtain⟨_,_,rfl,⟨x0,rfl,h0,g0⟩,⟨_,_,rfl,⟨x1,rfl,h1,g1⟩,⟨_,_,rfl,⟨x2,rfl,h2,g2⟩,⟨_,_,rfl,⟨x3,rfl,h3⟩,rfl⟩⟩⟩⟩:=h;refine⟨⟨x0,x1,x2,x3⟩,rfl,?_⟩;exact⟨⟨Int.le_trans (by decide) h0,Int.lt_of_le_of_lt g0 (by decide)⟩,⟨Int.le_trans (by decide) h1,Int.lt_of_le_of_lt g1 (by decide)⟩,⟨Int.le_trans (by decide) h2,Int.lt_of_le_of_lt g2 (by decide)⟩,h3⟩
structure PI (i:Nat) (s:Sto):Prop where
 ok:okS (10+2*i) (2000+23000*i) s
 next:s.next<=i
 base:∀ g∈s.segs,g.base<=s.next
theorem new_PI:PI 0 (createT d0).1:=by
 obtain⟨o1,hd1,n1,s1⟩:=createT_ok d0_ok d0_new;refine⟨o1.up (by omega) (by omega),by rw[n1];omega,fun g hg=>?_⟩
 have e:(createT d0).1.segs=[⟨0,0,0⟩]:=by decide +kernel
 rw[e,List.mem_singleton] at hg;rw[hg,n1];exact Int.le_refl _
theorem PI.up {i j:Nat} {s:Sto} (h:PI i s) (hj:i<=j):PI j s:=⟨h.ok.up (by omega) (by omega),by have:=h.next;omega,h.base⟩
variable {k u:Nat} {f:Int} {S:Txt} {l0:List Pr} {s:Sto} {M:List SR} {g:Seg} {l:List Rec}
theorem WR.sync {R:List Rec} (ho:okS k u s) (h:WR f S l0 s R):WR f S l0 (syncT s).1 R∧(((syncT s).2=0∧(syncT s).1.sure=s.next∧(syncT s).1.disk.down=false)∨((syncT s).2=10∧(syncT s).1.disk.down=true∧(syncT s).1.sure=s.sure))∧(syncT s).1.disk.cap=s.disk.cap:=by
 obtain⟨M,g,l,h,rfl⟩:=h;have:=h.sync ho;exact⟨⟨M,g,l,this.1,rfl⟩,this.2⟩
variable {k u:Nat} {f:Int} {S:Txt} {l0:List Pr} {s:Sto} {M:List SR} {g:Seg} {l:List Rec}
theorem WR.stT {R:List Rec} (ho:okS k u s) (h:WR f S l0 s R) (off:Int) (h1:f<=off∧off<=s.next):stateT s off=stF l0 f R off:=by
 obtain⟨M,g,l,h,rfl⟩:=h;exact h.stT ho off h1
theorem WR.why {R:List Rec} (h:WR f S l0 s R):∀ r∈R,whyF r=0:=by
 obtain⟨M,g,l,h,rfl⟩:=h;exact h.why
theorem WR.num {R:List Rec} (h:WR f S l0 s R):numB f R:=by
 obtain⟨M,g,l,h,rfl⟩:=h;exact h.inv.num
def backT:List Txt->Dsk->Dsk × Int
 | [],d=>(d,9)
 | n::l,d=>if(chgF d (delR d.files n)).2≠0 then chgF d (delR d.files n) else backT l (chgF d (delR d.files n)).1
def fewAt (f:Fil):Bool:=decide (f.data.length<=3000) && decide (f.name.length<=100)
def fewB (d:Dsk):Bool:=decide (d.files.length<=40) && d.files.all fewAt
theorem few_spec (d:Dsk) (hl:d.files.length<=9223372036854775807):call 7 [.agg d.l] []=some (vb (fewB d),[]):=by
 apply enterS s7 rfl;obtain⟨fl,cp,ar,lf,dn⟩:=d;unfold fewB;simp only at hl ⊢;by_cases c0:fl.length<=40
 ·rw[decide_eq_true c0,Bool.true_and];have c0':¬ (40:Int)<fl.length:=by omega
  (simp(disch:=first|decide|omega|(intros;exact Eq.trans rfl rfl)|simp only[puri]) only[a7,Dsk.l,c0',go_sem,seval,dis])
  obtain⟨Z,hZ⟩:∃ Z:V,Z=vb (fl.all fewAt):=⟨_,rfl⟩;rw[<- hZ];refine loop_boxM (m:=0) (σ:=Nat) (fun i=>fl.length-i) (fun i=>i<=fl.length∧fl.all fewAt=(fl.drop i).all fewAt) (fun i=>[V.one (.p 0 0),vi i])
   (fun _=>[.cells [.d (.l (fl.map Fil.enc)),.d (.i .i64 cp),.d (.b ar),.d (.i .i64 lf),.d (.b dn)]]) (fun _=>(Z,[])) ?_ 0 ⟨Nat.zero_le _,rfl⟩ _ _ ?_
  rotate_left
  ·exact hdM
  rintro i ⟨hi,hinv⟩ R hR;by_cases c:i<fl.length
  ·have ci:(i:Int)<(fl.length:Int):=by omega
   have g1:(fl.map Fil.enc)[i]?=some fl[i].enc:=by simp[c]
   rw[List.drop_eq_getElem_cons c,List.all_cons] at hinv;by_cases c1:fl[i].data.length<=3000
   ·have d1:¬ (3000:Int)<fl[i].data.length:=by omega
    by_cases c2:fl[i].name.length<=100
    ·have d2:¬ (100:Int)<fl[i].name.length:=by omega
     have e:fewAt fl[i]=true:=by simp[fewAt,c1,c2]
     rw[e,Bool.true_and] at hinv;(simp(disch:=first|decide|omega|(intros;exact Eq.trans rfl rfl)|simp only[puri]) only[a7_0,ci,g1,Fil.len,Fil.at0,Fil.at1,d1,d2,go_sem,seval,dis])
     exact hR (i+1) (by omega) ⟨by omega,hinv⟩ _ _ hdM
    ·have d2:(100:Int)<fl[i].name.length:=by omega
     have e:fewAt fl[i]=false:=by simp[fewAt,c2]
     rw[e,Bool.false_and] at hinv;rw[hinv] at hZ;(simp(disch:=first|decide|omega|(intros;exact Eq.trans rfl rfl)|simp only[puri]) only[a7_0,ci,g1,Fil.len,Fil.at0,Fil.at1,d1,d2,go_sem,seval,dis])
     rw[hZ];try simp[trim]
   ·have d1:(3000:Int)<fl[i].data.length:=by omega
    have e:fewAt fl[i]=false:=by simp[fewAt,c1]
    rw[e,Bool.false_and] at hinv;rw[hinv] at hZ;(simp(disch:=first|decide|omega|(intros;exact Eq.trans rfl rfl)|simp only[puri]) only[a7_0,ci,g1,Fil.len,Fil.at0,Fil.at1,d1,go_sem,seval,dis])
    rw[hZ];try simp[trim]
  ·have ci:¬ (i:Int)<(fl.length:Int):=by omega
   rw[List.drop_of_length_le (by omega)] at hinv
   rw[hinv] at hZ;(simp(disch:=first|decide|omega|(intros;exact Eq.trans rfl rfl)|simp only[puri]) only[a7_0,ci,go_sem,seval,dis])
   rw[hZ];try simp[trim]
 ·rw[decide_eq_false c0,Bool.false_and];have c0':(40:Int)<fl.length:=by omega
  (simp(disch:=first|decide|omega|(intros;exact Eq.trans rfl rfl)|simp only[puri]) only[a7,Dsk.l,c0',go_sem,seval,dis])
  try simp[trim]
def ordAt (l:List Fil) (i:Nat):Bool:=match i with|0=>true|j+1=>(match l[j]?,l[j+1]? with|some a,some b=>bl a.name b.name|_,_=>true)
def filAt (f:Fil):Bool:=namedF f.name && (decide (0<=f.sure) && decide (f.sure<=f.data.length))
def goodF (l:List Fil):Nat->Nat->Bool
 | 0,_=>true
 | k+1,i=>(match l[i]? with|some f=>filAt f && ordAt l i|none=>true) && goodF l k (i+1)
def rightB (d:Dsk):Bool:=goodF d.files d.files.length 0 && (decide (0<=d.cap) && decide (0<=d.left))
theorem goodF_at (l:List Fil):∀ (k i:Nat),goodF l k i=true->∀ j,i<=j->j<i+k->∀ (h:j<l.length),filAt l[j]=true∧ordAt l j=true
 | 0,i,_,j,h1,h2,h=>by omega
 | k+1,i,hg,j,h1,h2,h=>by
  simp only[goodF,Bool.and_eq_true] at hg;by_cases e:j=i
  ·subst e;have:=hg.1;rw[List.getElem?_eq_getElem h] at this;simpa using this
  ·exact goodF_at l k (i+1) hg.2 j (by omega) (by omega) h
theorem right_srt {d:Dsk} (h:rightB d=true):srt d.files∧0<=d.cap∧0<=d.left:=by
 unfold rightB at h;simp only[Bool.and_eq_true,decide_eq_true_eq] at h;refine⟨?_,h.2⟩;have hg:=goodF_at d.files _ 0 h.1;generalize d.files=l at *;have adj:∀ j (h:j+1<l.length),bl l[j].name l[j+1].name=true:=by
  intro j hj;have:=(hg (j+1) (by omega) (by omega) hj).2
  have e1:ordAt l (j+1)=(match l[j]?,l[j+1]? with|some a,some b=>bl a.name b.name|_,_=>true):=rfl
  rw[e1,List.getElem?_eq_getElem (by omega),List.getElem?_eq_getElem hj] at this
  exact this
 unfold srt;rw[List.pairwise_iff_getElem];intro i j hi hj hij;induction j with
 | zero=>omega
 | succ j ih =>
  by_cases e:i=j
  ·subst e;exact adj i hj
  ·exact bl_trans (ih (by omega) (by omega)) (adj j hj)
set_option maxRecDepth 8000 in
theorem right06_spec (d:Dsk) (hl:d.files.length<=9223372036854775807) (hz:∀ f∈d.files,f.data.length<=9223372036854775807):call 8 [.agg d.l] []=some (vb (rightB d),[]):=by
 have hn:=fun f:Fil=>rnamed_spec f.name
 apply enterS s8 rfl;obtain⟨fl,cp,ar,lf,dn⟩:=d;unfold rightB;simp only at hl hz ⊢;obtain⟨Z,hZ⟩:∃ Z:V,Z=vb (goodF fl fl.length 0 && (decide (0<=cp) && decide (0<=lf))):=⟨_,rfl⟩;rw[<- hZ];(simp(disch:=first|decide|omega|(intros;exact Eq.trans rfl rfl)|simp only[puri]) only[a8,Dsk.l,go_sem,seval,dis])
 refine loop_boxM (m:=0) (σ:=Nat) (fun i=>fl.length-i) (fun i=>i<=fl.length∧goodF fl fl.length 0=goodF fl (fl.length-i) i) (fun i=>[V.one (.p 0 0),vi i])
  (fun _=>[.cells [.d (.l (fl.map Fil.enc)),.d (.i .i64 cp),.d (.b ar),.d (.i .i64 lf),.d (.b dn)]]) (fun _=>(Z,[])) ?_ 0 ⟨Nat.zero_le _,rfl⟩ _ _ ?_
 rotate_left
 ·exact hdM
 rintro i ⟨hi,hinv⟩ R hR;by_cases c:i<fl.length
 ·have ci:(i:Int)<(fl.length:Int):=by omega
  have g1:(fl.map Fil.enc)[i]?=some fl[i].enc:=by simp[c]
  have hstep:goodF fl (fl.length-i) i=((filAt fl[i] && ordAt fl i) && goodF fl (fl.length-(i+1)) (i+1)):=by
   have e:fl.length-i=(fl.length-(i+1))+1:=by omega
   rw[e];simp only[goodF,List.getElem?_eq_getElem c]
  rw[hstep] at hinv;have hn1:=hn fl[i];have hfz:=hz _ (List.getElem_mem c);have bad:(filAt fl[i] && ordAt fl i)=false->Z=vb false:=fun hb=>by
   rw[hb,Bool.false_and] at hinv;rw[hZ,hinv,Bool.false_and]
  have good:(filAt fl[i] && ordAt fl i)=true->goodF fl fl.length 0=goodF fl (fl.length-(i+1)) (i+1):=fun hb=>by
   rw[hb,Bool.true_and] at hinv;exact hinv
  have ho1:∀ j,i=j+1->∀ (hj:j<fl.length),ordAt fl i=bl fl[j].name fl[i].name:=fun j hj hjl=>by
   subst hj;have e1:ordAt fl (j+1)=(match fl[j]?,fl[j+1]? with|some a,some b=>bl a.name b.name|_,_=>true):=rfl
   rw[e1,List.getElem?_eq_getElem hjl,List.getElem?_eq_getElem c]
  clear hinv hstep;cases hnm:namedF fl[i].name with
  | false =>
   rw[hnm] at hn1;have hb:=bad (by simp[filAt,hnm])
   generalize fl[i]=f at *;obtain⟨fn,fd,fs⟩:=f;simp only[Fil.enc] at g1 hn1;(simp(disch:=first|decide|omega|(intros;exact Eq.trans rfl rfl)|simp only[puri]) only[wkf,a8_0,ci,g1,hn1,go_sem,seval,dis])
   rw[hb];try simp[trim]
  | true =>
   rw[hnm] at hn1;by_cases c1:fl[i].sure<0
   ·have hb:=bad (by simp only[filAt,decide_eq_false (show ¬ 0<=fl[i].sure by omega)];simp)
    generalize fl[i]=f at *;obtain⟨fn,fd,fs⟩:=f;simp only[Fil.enc] at g1 hn1 c1;(simp(disch:=first|decide|omega|(intros;exact Eq.trans rfl rfl)|simp only[puri]) only[wkf,a8_0,ci,g1,hn1,c1,go_sem,seval,dis])
    rw[hb];try simp[trim]
   ·by_cases c2:(fl[i].data.length:Int)<fl[i].sure
    ·have hb:=bad (by simp only[filAt,decide_eq_false (show ¬ fl[i].sure<=fl[i].data.length by omega)];simp)
     generalize fl[i]=f at *;obtain⟨fn,fd,fs⟩:=f;simp only[Fil.enc] at g1 hn1 c1 c2;(simp(disch:=first|decide|omega|(intros;exact Eq.trans rfl rfl)|simp only[puri]) only[wkf,a8_0,ci,g1,hn1,c1,c2,go_sem,seval,dis])
     rw[hb];try simp[trim]
    ·have hfa:filAt fl[i]=true:=by simp only[filAt,hnm,decide_eq_true (show 0<=fl[i].sure by omega),decide_eq_true (show fl[i].sure<=fl[i].data.length by omega)];rfl
     rw[hfa,Bool.true_and] at bad good;cases i with
     | zero =>
      have hK:=hR (0+1) (by omega) ⟨by omega,good rfl⟩
      generalize fl[0]=f at *;obtain⟨fn,fd,fs⟩:=f;simp only[Fil.enc] at g1 hn1 c1 c2;(simp(disch:=first|decide|omega|(intros;exact Eq.trans rfl rfl)|simp only[puri]) only[wkf,a8_0,ci,g1,hn1,c1,c2,go_sem,seval,dis])
      exact hK _ _ hdM
     | succ j =>
      have hjl:j<fl.length:=by omega
      have g2:(fl.map Fil.enc)[j]?=some fl[j].enc:=by simp[hjl]
      have hsub:((j+1:Nat):Int)-1=(j:Int):=by omega
      have c3:(0:Int)<((j+1:Nat):Int):=by omega
      have ho:=ho1 j rfl hjl;cases hbl:bl fl[j].name fl[j+1].name with
      | false =>
       rw[hbl] at ho;have hb:=bad ho;generalize fl[j+1]=f at *;generalize fl[j]=h at *;obtain⟨fn,fd,fs⟩:=f;obtain⟨gn,gd,gs⟩:=h;simp only[Fil.enc] at g1 g2 hn1 c1 c2;have hbl':(Op.bytesLess fn gn || fn == gn)=true:=by
        rcases bl_tri gn fn with h1|h1|h1
        ·simp only at hbl;rw[h1] at hbl;cases hbl
        ·rw[h1];simp
        ·have:Op.bytesLess fn gn=true:=h1;rw[this];rfl
       (simp(disch:=first|decide|omega|(intros;exact Eq.trans rfl rfl)|simp only[puri]) only[wkf,a8_0,ci,g1,g2,hn1,c1,c2,c3,hsub,hbl',go_sem,seval,dis])
       rw[hb];try simp[trim]
      | true =>
       rw[hbl] at ho;have hK:=hR (j+1+1) (by omega) ⟨by omega,good ho⟩
       generalize fl[j+1]=f at *;generalize fl[j]=h at *;obtain⟨fn,fd,fs⟩:=f;obtain⟨gn,gd,gs⟩:=h;simp only[Fil.enc] at g1 g2 hn1 c1 c2;have hbl':(Op.bytesLess fn gn || fn == gn)=false:=by
        have h1:Op.bytesLess fn gn=false:=bl_asym hbl;have h2:(fn == gn)=false:=by rw[beq_eq_false_iff_ne];exact fun e=>bl_ne hbl e.symm
        rw[h1,h2];rfl
       (simp(disch:=first|decide|omega|(intros;exact Eq.trans rfl rfl)|simp only[puri]) only[wkf,a8_0,ci,g1,g2,hn1,c1,c2,c3,hsub,hbl',go_sem,seval,dis])
       exact hK _ _ hdM
 ·have ci:¬ (i:Int)<(fl.length:Int):=by omega
  have e:fl.length-i=0:=by omega
  have e2:goodF fl fl.length 0=true:=by rw[hinv,e];rfl
  rw[e2,Bool.true_and] at hZ;by_cases c1:0<=cp
  ·by_cases c2:0<=lf
   ·(simp(disch:=first|decide|omega|(intros;exact Eq.trans rfl rfl)|simp only[puri]) only[wkf,a8_0,ci,c1,c2,go_sem,seval,dis])
    rw[hZ];simp[c1,c2]
   ·(simp(disch:=first|decide|omega|(intros;exact Eq.trans rfl rfl)|simp only[puri]) only[wkf,a8_0,ci,c1,c2,go_sem,seval,dis])
    rw[hZ];simp[c1,c2]
  ·(simp(disch:=first|decide|omega|(intros;exact Eq.trans rfl rfl)|simp only[puri]) only[wkf,a8_0,ci,c1,go_sem,seval,dis])
   rw[hZ];simp[c1]
theorem used_le:∀ (l:List Fil) (n:Nat),(∀ f∈l,f.data.length<=n)->usedF l<=l.length*n
 | [],n,_=>by simp[usedF]
 | f::l,n,h=>by
  have ih:=used_le l n fun x hx=>h x (List.mem_cons_of_mem _ hx)
  have h1:=h f (by simp)
  have e:usedF (f::l)=f.data.length+usedF l:=by simp[usedF]
  rw[e,List.length_cons,Nat.add_mul];omega
abbrev LR:=(Dsk × Int) × Nat × Nat × Nat
def u4 (n g:Txt) (m:Man) (d:Dsk):LR:=if(swapS m (d,0)).2=9 then(backT [g,n] (swapS m (d,0)).1,0,1,2) else(swapS m (d,0),0,1,0)
def u3 (n g:Txt) (m:Man) (d:Dsk):LR:=if(chgF d (crtR d.files g)).2≠0 then(chgF d (crtR d.files g),0,0,0) else u4 n g m (chgF d (crtR d.files g)).1
def u2 (n g:Txt) (m:Man) (d:Dsk):LR:=if(chgF d (synR d.files n)).2≠0 then(chgF d (synR d.files n),0,0,0) else u3 n g m (chgF d (synR d.files n)).1
def u1 (n g x:Txt) (m:Man) (d:Dsk):LR:=if(chgF d (appR d.files d.cap n x)).2=9 then(backT [n] (chgF d (appR d.files d.cap n x)).1,1,0,0) else if(chgF d (appR d.files d.cap n x)).2≠0 then(chgF d (appR d.files d.cap n x),0,0,0) else u2 n g m (chgF d (appR d.files d.cap n x)).1
def u0 (n g x:Txt) (m:Man) (d:Dsk):LR:=if(chgF d (crtR d.files n)).2≠0 then(chgF d (crtR d.files n),0,0,0) else u1 n g x m (chgF d (crtR d.files n)).1
theorem sum1_spec (x:Txt) (hx:x.length<=1000000):call 106 [vl [[.s x]]] []=some (vk .u32 (sumT x),[]):=by
 have h:=sum_spec [x] (by simp) (fun s hs=>by rw[List.mem_singleton.1 hs];omega)
 have e:crcSum [x]=crcOn 0#32 x:=rfl;rw[e] at h;exact h
def exW:Txt:=[1,97,1,49]
variable {k u:Nat} {f:Int} {S:Txt} {l0:List Pr} {s:Sto} {M:List SR} {g:Seg} {l:List Rec}
variable {k u:Nat} {f:Int} {S:Txt} {l0:List Pr} {s:Sto} {M:List SR} {g:Seg} {l:List Rec}
def numsR (b:Txt):Nat->Nat->List Nat->Option (List Nat × Nat)
 | 0,a,l=>some (l,a)
 | n+1,a,l=>match rdF (b.drop a) 0 0 with
  | some (v,j)=>numsR b n (a+j) (l++[v])
  | none=>none
def sum4:Txt->Int
 | [a,b,c,d]=>(a.toNat+256*(b.toNat+256*(c.toNat+256*d.toNat)):Nat)
 | _=>0
def candM (b:Txt):Man:=match numsR b 2 0 [] with
 | some ([v,n],a)=>match numsR b (min n 64+1) a [] with
  | some (l,a2)=>⟨v,l.dropLast.map Int.ofNat,((l.getLastD 0:Nat):Int),sum4 (b.drop a2)⟩
  | none=>⟨0,[],0,0⟩
 | _=>⟨0,[],0,0⟩
def decM (s:Txt):Option Man:=if manB (candM (nextF s 0).1)=true∧manText (candM (nextF s 0).1)=s then some (candM (nextF s 0).1) else none
theorem nums_enc:∀ (vs:List Nat) (pre rest:Txt) (l:List Nat),(∀ v∈vs,v<9223372036854775808)->numsR (pre++(vs.flatMap enc128++rest)) vs.length pre.length l=some (l++vs,(pre++vs.flatMap enc128).length)
 | [],pre,rest,l,_=>by simp[numsR]
 | v::vs,pre,rest,l,h=>by
  have e:pre++((v::vs).flatMap enc128++rest)=(pre++enc128 v)++(vs.flatMap enc128++rest):=by simp
  have hd:(pre++((v::vs).flatMap enc128++rest)).drop pre.length=enc128 v++(vs.flatMap enc128++rest):=by
   rw[List.drop_left];simp
  have hr:=rdF_of0 v (vs.flatMap enc128++rest) (h v (by simp))
  have ih:=nums_enc vs (pre++enc128 v) rest (l++[v]) (fun x hx=>h x (by simp[hx]))
  have hl:(pre++enc128 v).length=pre.length+nd v:=by rw[List.length_append];rfl
  rw[List.length_cons,numsR,hd,hr];simp only[];rw[e,<- hl,ih];simp
theorem sum4_four (x:W32):sum4 (four x)=((x.toNat:Nat):Int):=by
 have h:=four_nat x;have e:four x=[UInt8.ofNat x.toNat,UInt8.ofNat (x >>> 8).toNat,UInt8.ofNat (x >>> 16).toNat,UInt8.ofNat (x >>> 24).toNat]:=rfl;rw[e] at h ⊢;simp only[sum4];have h2:x.toNat=(UInt8.ofNat x.toNat).toNat+256*(UInt8.ofNat (x >>> 8).toNat).toNat+65536*(UInt8.ofNat (x >>> 16).toNat).toNat+16777216*(UInt8.ofNat (x >>> 24).toNat).toNat:=h;omega
theorem man_sum {m:Man} (hm:m.ok):(((sumM m).toNat:Nat):Int)=m.sum:=by
 have:=hm.sum;unfold sumM;rw[BitVec.toNat_ofNat];omega
theorem next_man {m:Man} (h:manB m=true):nextF (manText m) 0=(manBody m,(manText m).length,0):=by
 have hb:=manBody_len h;have:=nextF_frame [] (manBody m) [] hb.1 (by omega)
 simp only[List.nil_append,List.append_nil,List.length_nil,Nat.zero_add] at this;exact this
theorem numsE_nat (l:List Int):numsE l=(l.map Int.toNat).flatMap enc128:=by
 unfold numsE;rw[List.flatMap_map]
theorem cand_man {m:Man} (h:manB m=true) (hm:m.ok):candM (manBody m)=m:=by
 obtain⟨h1,h2,h3,h4⟩:=manB_t h;have hin:=incB_mem _ _ h3;have hb:manBody m=[]++(([m.ver.toNat,m.segs.length]:List Nat).flatMap enc128++((m.segs.map Int.toNat++[m.size.toNat]).flatMap enc128++four (sumM m))):=by
  unfold manBody;rw[numsE_nat];simp
 have n1:=nums_enc [m.ver.toNat,m.segs.length] [] ((m.segs.map Int.toNat++[m.size.toNat]).flatMap enc128++four (sumM m)) [] (by
  intro v hv;simp only[List.mem_cons,List.mem_nil_iff,or_false] at hv;rcases hv with rfl|rfl <;> omega)
 have n2:=nums_enc (m.segs.map Int.toNat++[m.size.toNat]) (([m.ver.toNat,m.segs.length]:List Nat).flatMap enc128) (four (sumM m)) [] (by
  intro v hv;rw[List.mem_append,List.mem_map,List.mem_singleton] at hv;rcases hv with⟨a,ha,rfl⟩|rfl
  ·have:=hin a ha;omega
  ·omega)
 have hb2:manBody m=([m.ver.toNat,m.segs.length]:List Nat).flatMap enc128++((m.segs.map Int.toNat++[m.size.toNat]).flatMap enc128++four (sumM m)):=by rw[hb];simp
 rw[<- hb] at n1;rw[<- hb2] at n2;have hl2:([m.ver.toNat,m.segs.length]:List Nat).length=2:=rfl;rw[hl2] at n1;simp only[List.nil_append,List.length_nil] at n1 n2;have hmin:min m.segs.length 64+1=(m.segs.map Int.toNat++[m.size.toNat]).length:=by simp;omega
 unfold candM;rw[n1];simp only[hmin,n2];have hd:(manBody m).drop (([m.ver.toNat,m.segs.length]:List Nat).flatMap enc128++(m.segs.map Int.toNat++[m.size.toNat]).flatMap enc128).length=four (sumM m):=by
  rw[hb2,<- List.append_assoc,List.drop_left]
 rw[hd,sum4_four,man_sum hm];have hsg:(m.segs.map Int.toNat++[m.size.toNat]).dropLast.map Int.ofNat=m.segs:=by
  rw[List.dropLast_concat,List.map_map];conv=>rhs;rw[<- List.map_id m.segs]
  apply List.map_congr_left;intro a ha;have:=hin a ha;show((a.toNat:Nat):Int)=a;omega
 rw[hsg];have hsz:(((m.segs.map Int.toNat++[m.size.toNat]).getLastD 0:Nat):Int)=m.size:=by
  simp[List.getLastD_eq_getLast?];omega
 rw[hsz];have hvv:((m.ver.toNat:Nat):Int)=m.ver:=by omega
 rw[hvv]
theorem dec_text {m:Man} (h:manB m=true) (hm:m.ok):decM (manText m)=some m:=by
 unfold decM;rw[next_man h];simp only[cand_man h hm];rw[if_pos ⟨h,trivial⟩]
theorem dec_some {s:Txt} {m:Man} (h:decM s=some m):manB m=true∧manText m=s:=by
 unfold decM at h;split at h
 ·rename_i hc;cases h;exact hc
 ·cases h
end Go.Proofs.YtghfhomfppbooaaGreat
