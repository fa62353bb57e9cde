import Derived.Test.YtgoifbjgmgbihaaGreatT05
import Derived.Test.YtgoifbjgmgbihaaGreatT03
import Derived.Test.YtgoifbjgmgbihaaGreatVid
set_option linter.unusedSimpArgs false
set_option linter.unusedVariables false
set_option maxRecDepth 20000
set_option maxHeartbeats 16000000
namespace Go.Proofs.YtgoifbjgmgbihaaGreat
open Go.Vi
variable {k u:Nat} {f:Int} {S:Txt} {l0:List Pr} {s:Sto} {M:List SR} {g:Seg} {l:List Rec}
theorem W.man_inc (h:W f S l0 s M g l):(s.segs.map Seg.base).Pairwise (· < ·)∧(∀ n∈s.segs.map Seg.base,-1<n∧n<=1099511627776) :=
 (ox _ _).1 (ma h.right).2.2.1
theorem W.head (h:W f S l0 s M g l):(s.segs.map Seg.base).head?=some f:=by
 rw[h.inv.segs];have hc:=h.inv.chain;cases M with
 | nil=>simp[chainM] at hc ⊢;omega
 | cons p r=>simp[chainM] at hc ⊢;omega
theorem HL (h:Inv f s M g l) (hl:l≠[]):∀ a∈s.segs,a.base<s.next:=by
 intro a ha;have hn:=h.next;have hp:0<l.length:=List.length_pos_iff.2 hl;rw[h.segs] at ha;rcases zX.1 ha with ha|ha
 ·obtain⟨p,hp2,rfl⟩:=List.mem_map.1 ha;have:=uf h.chain p hp2;omega
 ·rw[zV.1 ha];omega
theorem Bm (h:W f S l0 s M g l) (hl:l≠[]) (hn:s.next<=1099511627776) (hv:s.ver+1<=1099511627776) (hlen:s.segs.length<64):manB (jz s).man=true:=by
 have hm:=ma h.right;have hi:=h.man_inc;have hlt:=HL h.inv hl;have hg0:=h.inv.next;have e:(jz s).man.segs=s.segs.map Seg.base++[s.next]:=by show(s.segs++[_]).map Seg.base=_;simp
 have hv1:1<=s.ver:=hm.1.1;have h0:0<=s.next:=by have:=h.inv.sure;omega
 refine v6 ⟨by show 1<=s.ver+1;omega,hv⟩ ⟨by rw[e];simp,by rw[e];simp;omega⟩ ?_ ?_
 ·rw[e,ox,List.pairwise_append];refine⟨⟨hi.1,by simp,fun a ha b hb=>?_⟩,fun n hx=>?_⟩
  ·obtain⟨c,hc,rfl⟩:=List.mem_map.1 ha;rw[zV.1 hb];exact hlt c hc
  ·rcases zX.1 hx with hx|hx
   ·exact hi.2 n hx
   ·rw[zV.1 hx];omega
 ·have hz:=Iu h.right;have eh:(jz s).man.segs.head?=s.man.segs.head?:=by
   rw[e];show _=(s.segs.map Seg.base).head?;rw[List.head?_append,h.head];rfl
  rw[eh];exact hz
theorem W.roll (ho:okS k u s) (h:W f S l0 s M g l) (hl:l≠[]) (hv:u<1000000000000) :
  (cq s).1.disk.cap=s.disk.cap∧((W f S l0 (cq s).1 M g l∧(cq s).1.segs=s.segs∧(((cq s).2=9∧(cq s).1.disk.down=s.disk.down)∨((cq s).2=10∧(cq s).1.disk.down=true))) ∨
  ((cq s).2=0∧(cq s).1.disk.down=false∧(cq s).1.sure=s.next∧W f S l0 (cq s).1 (M++[(g,l)]) ⟨s.next,0,0⟩ [])):=by
 have hri:=Iz ho h.inv hl;have hsy:=h.sync ho;have hos:=kM ho;unfold cq at hri ⊢;by_cases c1:64<=s.segs.length
 ·rw[if_pos c1];exact⟨rfl,.inl ⟨h,rfl,.inl ⟨rfl,rfl⟩⟩⟩
 ·rw[if_neg c1] at hri ⊢;by_cases c2:(aU s).2=0
  ·rw[if_neg (by simp[c2])] at hri ⊢
   have hsg:(aU s).1.segs=s.segs:=rfl;have hn:(aU s).1.next=s.next:=rfl;obtain⟨hw,hst,hcap⟩:=hsy;have hst2:(aU s).1.sure=s.next∧(aU s).1.disk.down=false:=by
    rcases hst with h1|h1
    ·exact h1.2
    ·rw[h1.1] at c2;cases c2
   have hdn:s.disk.down=false:=by
    have hO:=oq ho.dsk.srt h.last.choose_spec.1;have hl2:=h.inv.last;have e2:(aU s).1.disk=(aj s.disk (ct s.disk.files (fileN g.base))).1:=by unfold aU;rw[hl2]
    exact hO.1.up_of (by rw[<- e2];exact hst2.2)
   rw[<- hsg] at c1;rw[<- hn] at hst2 hri ⊢;generalize (aU s).1=t at *;have hnx:=hos.next;have hvt:=hos.ver;have hlt:=HL hw.inv hl;have hrt:=Bm hw hl hnx.2 (by omega) (by omega)
   have hnone:t.disk.down=false->fm t.disk.files (fileN t.next)=none:=fun hd=>by
    cases hx:fm t.disk.files (fileN t.next) with
    | none=>rfl
    | some v =>
     rcases hw.only hd (fileN t.next) (by rw[hx];simp) with e|⟨a,ha,e⟩|⟨_,e⟩
     ·exact absurd e (jZ _ (by rw[bV];decide))
     ·have:=dN (by omega) (hos.seg a ha).1 e
      have:=hlt a ha;omega
     ·exact absurd e.symm (cV _ _)
   have hnr:∀ n∈[fileN t.next,[110]],¬ rel f t n:=by
    intro n hx;rcases List.mem_cons.1 hx with rfl|hx
    ·rintro(e|⟨a,ha,e⟩|⟨_,e⟩)
     ·exact absurd e (jZ _ (by rw[bV];decide))
     ·have:=dN (by omega) (hos.seg a ha).1 e
      have:=hlt a ha;omega
     ·exact absurd e.symm (cV _ _)
    ·rw[zV.1 hx];exact mD f t
   have h110:t.disk.down=false->fm t.disk.files [110]=none:=fun hd=>by
    cases hx:fm t.disk.files [110] with
    | none=>rfl
    | some v=>exact absurd (hw.only hd [110] (by rw[hx];simp)) (mD f t)
   have hO:Out t.disk (ef t) [fileN t.next,[110]] _ _:=wO hos.dsk.srt hrt (Af _) (z8 _ (by rw[bV];decide)) h110 hnone
   have hcap2:=hO.1.cap;by_cases c3:(ef t).2=0
   ·rw[if_pos c3] at hri ⊢;rcases hri with⟨hx,_⟩|⟨_,hri⟩
    ·exact absurd rfl hx
    rcases hO.2.2 with⟨e,hd,hf⟩|⟨_,_,e,_⟩|⟨e,_⟩
    ·refine⟨hcap2.trans hcap,.inr ⟨rfl,hd,hst2.1,hri,?_,?_,hrt,fun p hp=>?_,⟨0,?_,by simp[rowS],by simp⟩,?_,fun _ n hx=>?_⟩⟩
     ·rcases hw.snp with h2|⟨h2,h3,h4⟩
      ·exact .inl h2
      ·exact .inr ⟨h2,by show fm (ef t).1.files _=_;rw[hf,bn _ _ (jZ _ (by rw[dC];decide)),bn _ _ (cV _ _)];exact h3,h4⟩
     ·show fm (ef t).1.files _=_;rw[hf,cU];rfl
     ·show fm (ef t).1.files _=_;have hpm:p.1∈t.segs:=hw.mem p hp;have hne:fileN p.1.base≠fileN t.next:=fun e=>by
       have:p.1.base=t.next:=dN (hos.seg _ hpm).1 (by omega) e
       have:=hlt _ hpm;omega
      rw[hf,bn _ _ (jZ _ (by rw[bV];decide)),bn _ _ hne]
      rcases zX.1 hp with hp|hp
      ·exact hw.full p hp
      ·rw[zV.1 hp];obtain⟨q,h1,h2,h3⟩:=hw.last;have hnn:=hw.inv.next;rw[zL (by omega)] at h2
       rw[h1,show q=(rowS l).length by omega]
     ·show fm (ef t).1.files _=_;rw[hf,bn _ _ (jZ _ (by rw[bV];decide)),cU];rfl
     ·show t.next<=t.sure;omega
     ·have hx2:fm (ef t).1.files n≠none:=hx;rw[hf] at hx2;by_cases a1:n=[109]
      ·exact .inl a1
      ·rw[bn _ _ a1] at hx2;by_cases a2:n=fileN t.next
       ·exact .inr (.inl ⟨⟨t.next,0,0⟩,by show _∈t.segs++[_];simp,a2⟩)
       ·rw[bn _ _ a2] at hx2;rcases hw.only hst2.2 n hx2 with e|⟨a,ha,e⟩|e
        ·exact .inl e
        ·exact .inr (.inl ⟨a,by show a∈t.segs++[_];simp[ha],e⟩)
        ·exact .inr (.inr e)
    ·rw[e] at c3;cases c3
    ·rw[e] at c3;cases c3
   ·rw[if_neg c3];have:=hw.fail hos.dsk.srt hO c3 hnr;refine⟨hcap2.trans hcap,.inl ⟨this.1,hsg,?_⟩⟩;rcases this.2 with⟨a,_,b⟩|hh
    ·exact .inl ⟨a,b.trans hdn.symm⟩
    ·exact .inr hh
  ·rw[if_pos c2];refine⟨hsy.2.2,.inl ⟨hsy.1,rfl,?_⟩⟩;rcases hsy.2.1 with h1|h1
   ·exact absurd h1.1 c2
   ·exact .inr ⟨h1.1,h1.2.1⟩
def WR (f:Int) (S:Txt) (l0:List Pr) (s:Sto) (R:List Rec):Prop:=∃ M g l,W f S l0 s M g l∧aM (M++[(g,l)])=R
theorem WR.next {R:List Rec} (h:WR f S l0 s R):s.next=f+R.length:=by
 obtain⟨M,g,l,h,rfl⟩:=h;have:=iO _ _ _ h.inv.chain;have hn:=h.inv.next;rw[cK,eZ,zA];simp only[];omega
theorem WR.sure {R:List Rec} (h:WR f S l0 s R):f<=s.sure∧s.sure<=s.next:=by
 obtain⟨M,g,l,h,rfl⟩:=h;have:=(dB _ _ _ h.inv.chain).1;have:=h.lo;have:=h.inv.sure;omega
theorem WR.floor {R:List Rec} (h:WR f S l0 s R):s.floor=f:=by
 obtain⟨M,g,l,h,rfl⟩:=h;have h1:=h.head;unfold Sto.floor;cases hs:s.segs with
 | nil=>rw[hs] at h1;cases h1
 | cons a r=>rw[hs] at h1;simpa using h1
theorem WR.app {R:List Rec} (ho:okS k u s) (h:WR f S l0 s R) {seg:Int} (hseg:1<=seg) (hv:u<1000000000000) (r:Rec) :
  s.sure<=(eu s seg r).1.sure∧(eu s seg r).1.disk.cap=s.disk.cap∧(((eu s seg r).2=0∧r.at_=s.next∧whyF r=0∧s.next<1099511627776∧(eu s seg r).1.disk.down=false∧WR f S l0 (eu s seg r).1 (R++[r])) ∨
   (WR f S l0 (eu s seg r).1 R∧(((eu s seg r).2=1∧(eu s seg r).1=s∧(whyF r≠0∨r.at_≠s.next))∨((eu s seg r).2=13∧(eu s seg r).1=s∧1099511627776<=s.next)∨(eu s seg r).2=9∨((eu s seg r).2=10∧(eu s seg r).1.disk.down=true)))):=by
 have h0:=h;obtain⟨M,g,l,h,rfl⟩:=h;have hlast:=h.inv.last;unfold eu;by_cases c1:(d9 r).2≠0∨r.at_≠s.next
 ·rw[if_pos c1];refine⟨Int.le_refl _,rfl,.inr ⟨h0,.inl ⟨rfl,rfl,?_⟩⟩⟩;rcases c1 with c1|c1
  ·refine .inl fun hw=>c1 ?_
   unfold d9;rw[if_pos hw]
  ·exact .inr c1
 ·rw[if_neg c1];simp only[not_or,Decidable.not_not] at c1;obtain⟨c1,ca⟩:=c1;have hr:whyF r=0:=by
   unfold d9 at c1;split at c1
   ·assumption
   ·exact c1
  by_cases c2:1099511627776<=s.next
  ·rw[if_pos c2];exact⟨Int.le_refl _,rfl,.inr ⟨h0,.inr (.inl ⟨rfl,rfl,c2⟩)⟩⟩
  ·rw[if_neg c2];by_cases c3:seg<=s.last.size
   ·rw[if_pos c3];have hg:=(h.inv.file (g,l) (by simp)).size
    have hl:l≠[]:=by
     rintro rfl;rw[hlast] at c3;simp only[rowS,List.flatMap_nil,List.length_nil] at hg;omega
    have hro:=h.roll ho hl hv;have hmo:=EM ho h.inv.sure.2;have hok:=tG ho;have hnx:=th s;by_cases c4:(cq s).2=0
    ·rw[if_neg (by simp[c4])]
     rcases hro.2 with⟨_,_,⟨e,_⟩|⟨e,_⟩⟩|⟨_,hd,hs2,hw⟩
     ·rw[e] at c4;cases c4
     ·rw[e] at c4;cases c4
     ·have hcap:=hro.1;have hp:=hw.put hok r hr (by rw[hnx];exact ca)
      generalize (cq s).1=t at *;have e0:aM (M++[(g,l)]++[(⟨s.next,0,0⟩,[])])=aM (M++[(g,l)]):=by rw[cK,eZ,List.append_nil]
      refine⟨by rw[hp.1.2];exact hmo,hp.1.1.trans hcap,?_⟩
      rcases hp.2 with⟨h1,h2,_,_,h3⟩|⟨h1,h2,h3⟩
      ·refine .inr ⟨⟨_,_,_,h1,e0⟩,.inr (.inr ?_)⟩;rcases h3 with h3|h3
       ·exact .inl h3.1
       ·exact .inr h3
      ·refine .inl ⟨h1,ca,hr,by omega,h2,_,_,_,h3,?_⟩
       rw[cK,eZ];rfl
    ·rw[if_pos c4];refine⟨hmo,hro.1,.inr ?_⟩;rcases hro.2 with⟨h1,_,h2⟩|⟨e,_⟩
     ·refine⟨⟨_,_,_,h1,rfl⟩,.inr (.inr ?_)⟩;rcases h2 with h2|h2
      ·exact .inl h2.1
      ·exact .inr h2
     ·exact absurd e c4
   ·rw[if_neg c3];have hp:=h.put ho r hr ca;refine⟨by rw[hp.1.2];exact Int.le_refl _,hp.1.1,?_⟩
    rcases hp.2 with⟨h1,h2,_,_,h3⟩|⟨h1,h2,h3⟩
    ·refine .inr ⟨⟨_,_,_,h1,rfl⟩,.inr (.inr ?_)⟩;rcases h3 with h3|h3
     ·exact .inl h3.1
     ·exact .inr h3
    ·refine .inl ⟨h1,ca,hr,by omega,h2,_,_,_,h3,?_⟩
     rw[cK,eZ,cK,eZ,List.append_assoc]
def gd (l:List Pr):Prop:=l.Pairwise fun a b=>a.key<b.key
def d8 (l:List Pr) (k:Int):Nat:=l.countP fun p=>decide (p.key<k)
def kB (l:List Pr) (k:Int):Bool:=match l[d8 l k]? with|some p=>decide (p.key=k)|none=>false
theorem HU {l:List Pr} (hs:gd l) (k:Int) (i:Nat) (h:i<l.length):l[i].key<k↔i<d8 l k:=by
 have:=px (fun p:Pr=>decide (p.key<k)) l (hs.imp (fun hab hb=>by simp at hb ⊢;omega)) i h
 simpa[d8] using this
theorem C5 (l:List Pr) (k:Int):d8 l k<=l.length:=List.countP_le_length
def j4 (l:List Pr) (k:Int):V:=.tup [(false,[zI (d8 l k:Nat)]),(false,[zB (kB l k)])]
theorem DW (p:Pr) (k:Int) (hp:0<=p.key∧p.key<256) (hk:0<=k∧k<256):call 197 [.agg (p.enc.map .d),vk .u8 k] []=some (vi (p.key-k),[]):=by
 apply ae Rf rfl;obtain⟨a,b⟩:=p;simp only at hp;simp only[Pr.enc,List.map_cons,List.map_nil];refine aX ?_ Pc.eq_1;try simp[trim]
theorem LA (p:Pr) (k:Int) (hp:0<=p.key∧p.key<256) (hk:0<=k∧k<256) (H:Hp):ak call 197 [.agg (p.enc.map .d),vk .u8 k] H=some (vi (p.key-k),H):=callIso_pure rfl (DW p k hp hk) rfl
theorem Gc (l:List Pr) (hl:l.length<=1000000) (hs:gd l) (ho:okP l) (k:Int) (hk:0<=k∧k<256):call 196 [.one (.sl 0 2 0 l.length),vk .u8 k,.one (.f 197 [])] [.arr 2 (l.map Pr.enc) 0]=some (j4 l k,[.arr 2 (l.map Pr.enc) 0]):=by
 apply ae R6 rfl;obtain⟨Z,hZ⟩:∃ Z:V × Hp,Z=(j4 l k,[.arr 2 (l.map Pr.enc) 0]):=⟨_,rfl⟩;rw[<- hZ];refine aX ?_ PP.eq_1;refine ax (m:=1) (σ:=Nat × Nat) (fun t=>t.2-t.1) (fun t=>t.1<=d8 l k∧d8 l k<=t.2∧t.2<=l.length) (fun t=>[V.one (.sl 0 2 0 l.length),vk .u8 k,.one (.f 197 []),vi l.length,vi t.1,vi t.2]) (fun t=>[.arr 2 (l.map Pr.enc) 0])
  (fun t=>Z) ?_ (0,l.length) ⟨zP _,C5 l k,Nat.le_refl _⟩ _ _ bO
 rintro⟨lo,hi⟩ ⟨h1,h2,h3⟩ R hR;simp only at h1 h2 h3 ⊢;by_cases c:lo<hi
 ·have hm:=Jr lo hi;have hmid:(lo+hi) / 2<l.length:=by omega
  have hp:=HU hs k _ hmid;have hmo:=(ho _ (zN hmid)).1;obtain⟨mid,hmd⟩:∃ mid,mid=(lo+hi) / 2:=⟨_,rfl⟩;simp only[<- hmd] at hm hmid hp hmo;have g1:(l.map Pr.enc)[mid]?=some l[mid].enc:=by simp[hmid]
  have hc:=LA l[mid] k hmo hk;by_cases c2:l[mid].key<k
  ·have:=hp.1 c2;have hcn:l[mid].key-k<0:=by omega
   (simp(disch:=first|decide|omega|(intros;exact aN rfl rfl)|simp only[am]) only[pR,↓yg,hm,g1,Pr.len,Pr.tkL,Pr.tk,↓hc,hcn,go_sem,seval,aO])
   exact hR (mid+1,hi) (by simp only[];omega) ⟨by simp only[];omega,h2,h3⟩ _ _ bO
  ·have:¬ mid<d8 l k:=fun h=>c2 (hp.2 h)
   have hcn:¬ l[mid].key-k<0:=by omega
   (simp(disch:=first|decide|omega|(intros;exact aN rfl rfl)|simp only[am]) only[pR,↓yg,hm,g1,Pr.len,Pr.tkL,Pr.tk,↓hc,hcn,go_sem,seval,aO])
   exact hR (lo,mid) (by simp only[];omega) ⟨h1,by simp only[];omega,by simp only[];omega⟩ _ _ bO
 ·have hlo:lo=d8 l k:=by omega
  subst hlo;by_cases c0:d8 l k<l.length
  ·have g1:(l.map Pr.enc)[d8 l k]?=some l[d8 l k].enc:=by simp[c0]
   have hhas:kB l k=decide (l[d8 l k].key=k):=by unfold kB;rw[zE c0]
   have hc:=LA l[d8 l k] k (ho _ (zN c0)).1 hk;by_cases c3:l[d8 l k].key=k
   ·have hcz:l[d8 l k].key-k=0:=by omega
    (simp(disch:=first|decide|omega|(intros;exact aN rfl rfl)|simp only[am]) only[pR,c,c0,g1,Pr.len,Pr.tkL,Pr.tk,↓hc,hcz,go_sem,seval,aO])
    rw[hZ];simp[j4,hhas,c3,trim,V.refs,L.refs,Box.refs]
   ·have hcz:¬ l[d8 l k].key-k=0:=by omega
    (simp(disch:=first|decide|omega|(intros;exact aN rfl rfl)|simp only[am]) only[pR,c,c0,g1,Pr.len,Pr.tkL,Pr.tk,↓hc,hcz,go_sem,seval,aO])
    rw[hZ];simp[j4,hhas,c3,trim,V.refs,L.refs,Box.refs]
  ·have hhas:kB l k=false:=by unfold kB;rw[List.getElem?_eq_none (by omega)]
   refine aX ?_ pR.eq_1 c c0;rw[hZ];simp[j4,hhas,trim,V.refs,L.refs,Box.refs]
theorem Dr (l:List Pr) (hl:l.length<=1000000) (hs:gd l) (ho:okP l) (k:Int) (hk:0<=k∧k<256):call 190 [.one (.sl 0 2 0 l.length),vk .u8 k] [.arr 2 (l.map Pr.enc) 0]=some (j4 l k,[.arr 2 (l.map Pr.enc) 0]):=by
 apply ae RI rfl;have h:ak call 196 [.one (.sl 0 2 0 l.length),vk .u8 k,.one (.f 197 [])] [.arr 2 (l.map Pr.enc) 0]=some (j4 l k,[.arr 2 (l.map Pr.enc) 0]) :=
  aD (ids:=[0]) rfl rfl rfl (Gc l hl hs ho k hk) rfl
 unfold j4 at h ⊢;(simp(disch:=first|decide|omega|(intros;exact aN rfl rfl)|simp only[am]) only[OK,↓h,go_sem,seval,aO])
 simp[zR]
theorem Pj {k:Int} {l:List Pr} (h:∀ p∈l,k<=p.key):d8 l k=0:=by
 unfold d8;rw[List.countP_eq_zero];intro p hp;have:=h p hp;simp;omega
theorem Hr (k:Int):∀ (l:List Pr),gd l->l.takeWhile (fun p=>decide (p.key<k))=l.take (d8 l k)
 | [],_=>rfl
 | x::r,hs=>by
  have hr:=List.pairwise_cons.1 hs;by_cases c:x.key<k
  ·have e:d8 (x::r) k=d8 r k+1:=by unfold d8;rw[List.countP_cons_of_pos (by simpa using c)]
   rw[e,List.takeWhile_cons,if_pos (by simpa using c),List.take_succ_cons,Hr k r hr.2]
  ·have e:d8 (x::r) k=0:=Pj fun p hp=>by
    rcases List.mem_cons.1 hp with rfl|hp
    ·omega
    ·have:=hr.1 p hp;omega
   rw[e,List.takeWhile_cons,if_neg (by simpa using c),List.take_zero]
theorem xx {Q:Pr->Bool} {l:List Pr} (h:∀ p∈l,Q p=true):l.filter Q=l:=List.filter_eq_self.2 h
theorem Fy (k:Int):∀ (l:List Pr),gd l->l.filter (fun p=>decide (k<p.key))=l.drop (d8 l k+(if kB l k=true then 1 else 0))
 | [],_=>by simp
 | x::r,hs=>by
  have hr:=List.pairwise_cons.1 hs;by_cases c:x.key<k
  ·have e:d8 (x::r) k=d8 r k+1:=by unfold d8;rw[List.countP_cons_of_pos (by simpa using c)]
   have e2:kB (x::r) k=kB r k:=by unfold kB;rw[e,List.getElem?_cons_succ]
   rw[e,e2,List.filter_cons,if_neg (by simp;omega),Fy k r hr.2,show d8 r k+1+(if kB r k=true then 1 else 0)=(d8 r k+(if kB r k=true then 1 else 0))+1 by omega,List.drop_succ_cons]
  ·have hge:∀ p∈x::r,k<=p.key:=fun p hp=>by
    rcases List.mem_cons.1 hp with rfl|hp
    ·omega
    ·have:=hr.1 p hp;omega
   have e:d8 (x::r) k=0:=Pj hge;by_cases c2:x.key=k
   ·have e2:kB (x::r) k=true:=by unfold kB;rw[e];simpa using c2
    rw[e,e2,List.filter_cons,if_neg (by simp;omega),if_pos rfl]
    rw[xx (fun p hp=>by have:=hr.1 p hp;simp;omega)]
    try rfl
   ·have e2:kB (x::r) k=false:=by unfold kB;rw[e];simpa using c2
    rw[e,e2,xx (fun p hp=>by
     rcases List.mem_cons.1 hp with rfl|hp
     ·simp;omega
     ·have:=hr.1 p hp;simp;omega)]
    try rfl
theorem CV (l:List Pr) (c:UInt8) (r:List UInt8):cH l (c::r)=l.takeWhile (fun p=>decide (p.key<(c.toNat:Int)))++(if r=[] then[] else[⟨(c.toNat:Int),r⟩])++l.filter (fun p=>decide ((c.toNat:Int)<p.key)):=by rw[cH]
theorem step_pos {l:List Pr} (hs:gd l) (c:UInt8) (r:List UInt8):cH l (c::r)=l.take (d8 l (c.toNat:Int))++(if r=[] then[] else[⟨(c.toNat:Int),r⟩])++l.drop (d8 l (c.toNat:Int)+(if kB l (c.toNat:Int)=true then 1 else 0)):=by
 rw[CV,Hr _ l hs,Fy _ l hs]
theorem step_srt {l:List Pr} (hs:gd l) (d:List UInt8):gd (cH l d):=by
 cases d with
 | nil=>exact hs
 | cons c r =>
  have h1:∀ p∈l.takeWhile (fun p=>decide (p.key<(c.toNat:Int))),p.key<(c.toNat:Int):=fun p hp=>by simpa using List.all_eq_true.1 (List.all_takeWhile (p:=fun p:Pr=>decide (p.key<(c.toNat:Int))) (l:=l)) p hp
  have h2:∀ p∈l.filter (fun p=>decide ((c.toNat:Int)<p.key)),(c.toNat:Int)<p.key:=fun p hp=>by simpa using(List.mem_filter.1 hp).2
  unfold gd;rw[CV,List.append_assoc,List.pairwise_append];refine⟨hs.sublist (List.takeWhile_sublist _),?_,?_⟩
  ·split
   ·exact hs.sublist List.filter_sublist
   ·rw[List.singleton_append,List.pairwise_cons];exact⟨fun p hp=>h2 p hp,hs.sublist List.filter_sublist⟩
  ·intro a ha b hb;have:=h1 a ha;rw[zX] at hb;rcases hb with hb|hb
   ·split at hb
    ·cases hb
    ·rw[zV.1 hb];exact this
   ·have:=h2 b hb;omega
theorem Ko {l:List Pr} {k:Int} (h:kB l k=true):∃ hp:d8 l k<l.length,l[d8 l k].key=k:=by
 unfold kB at h;split at h
 ·rename_i f hf;obtain⟨hp,rfl⟩:=List.getElem?_eq_some_iff.1 hf;exact⟨hp,by simpa using h⟩
 ·cases h
theorem Pr.dr (e:Pr):e.enc.drop 2=[]:=Eq.trans rfl rfl
def Oh (l:List Pr) (r:Option (V × Hp)):Prop :=
 r=some (.one (.sl 0 2 0 l.length),[.arr 2 (l.map Pr.enc) 0])∨(∃ p:Pr,r=some (.one (.sl 2 2 0 l.length),[.dead,.cells (p.enc.map .d),.arr 2 (l.map Pr.enc) 0])) ∨
 (∃ p:Pr,r=some (.one (.sl 3 2 0 l.length),[.dead,.cells (p.enc.map .d),.arr 2 [p.enc] 0,.arr 2 (l.map Pr.enc) 0]))
theorem Gx (l:List Pr) (hl:l.length<=100000) (hs:gd l) (ho:okP l) (d:List UInt8) (hd:d.length<=1000):Oh (cH l d) (call 176 [.one (.sl 0 2 0 l.length),vs d] [.arr 2 (l.map Pr.enc) 0]):=by
 cases d with
 | nil =>
  refine .inl ?_;have e0:(([]:List UInt8) == [])=true:=rfl;have e:cH l []=l:=rfl;rw[e];apply ae Ih rfl;refine aX ?_ DM.eq_1 e0;simp[zR]
 | cons c r =>
  have hc:0<=(c.toNat:Int)∧(c.toNat:Int)<256:=⟨by omega,by have:=UInt8.toNat_lt c;omega⟩
  have hst:=step_pos hs c r;have hf0:=Dr l (by omega) hs ho (c.toNat:Int) hc
  have hf:ak call 190 [.one (.sl 0 2 0 l.length),vk .u8 (c.toNat:Int)] [.arr 2 (l.map Pr.enc) 0]=some (j4 l (c.toNat:Int),[.arr 2 (l.map Pr.enc) 0]) :=
   aD (ids:=[0]) rfl rfl rfl hf0 rfl
  unfold j4 at hf;have hp:=C5 l (c.toNat:Int);have hat := @Ko l (c.toNat:Int);generalize d8 l (c.toNat:Int)=k at *;have e0:((c::r) == ([]:List UInt8))=false:=rfl;have hc0:(c::r)[0]?=some c:=rfl;have hdr:List.drop 1 (c::r)=r:=rfl;have hdl:(c::r).length=r.length+1:=rfl;obtain⟨dt,hD⟩:∃ dt,dt=c::r:=⟨_,rfl⟩;rw[<- hD] at e0 hc0 hdr hdl ⊢;have hdt:List.take dt.length dt=dt:=List.take_length;have hdi:dt.tail=r:=by rw[hD];rfl
  have hrl:r.length<=1000:=by have:(c::r).length<=1000:=hd;simp at this;omega
  by_cases hr:r=[]
  ·have er:r.isEmpty=true:=by rw[hr];rfl
   have er2:(r == [])=true:=by rw[hr];rfl
   rw[if_pos hr,List.append_nil] at hst;cases ht:kB l (c.toNat:Int) with
   | true =>
    obtain⟨hk,hkey⟩:=hat ht;rw[ht,if_pos rfl] at hst;rw[ht] at hf;have hd0:=A6 (l:=lib) (an:=rE Gw) (P:=Tryz.prog) (f:=191) (k:=2) rfl rfl rfl (l.map Pr.enc) k (by simpa using hk) (by simp;omega)
    rw[show(l.map Pr.enc).take k++(l.map Pr.enc).drop (k+1)=(l.take k++l.drop (k+1)).map Pr.enc by simp,zM] at hd0
    have hi:∀ C:Box,ak call 191 [.one (.sl 0 2 0 l.length),vi (k:Nat),.one (zI ((k:Int)+1))] [.arr 2 (l.map Pr.enc) 0,C]=some (.one (.sl 2 2 0 (l.length-1)),[.dead,C,.arr 2 ((l.take k++l.drop (k+1)).map Pr.enc) 0]):=fun C =>
     aD (ids:=[0]) rfl rfl rfl hd0 rfl
    have hll:l.length-1=(l.take k++l.drop (k+1)).length:=by simp;omega
    rw[hD,hst,<- hD];generalize l.take k++l.drop (k+1)=q at *;refine .inr (.inl ⟨⟨(c.toNat:Int),r⟩,?_⟩);apply ae Ih rfl;(simp(disch:=first|decide|omega|(intros;exact aN rfl rfl)|simp only[am]) only[DM,e0,hc0,↓hf,hdr,hdt,hdi,er,er2,↓hi,hll,go_sem,seval,aO])
    simp[zR,Pr.enc]
   | false =>
    rw[ht,if_neg (by simp),Nat.add_zero,zY] at hst
    rw[ht] at hf;refine .inl ?_;rw[hD,hst,<- hD];apply ae Ih rfl;(simp(disch:=first|decide|omega|(intros;exact aN rfl rfl)|simp only[am]) only[DM,e0,hc0,↓hf,hdr,hdt,hdi,er,er2,go_sem,seval,aO])
    simp[zR]
  ·have er:r.isEmpty=false:=by simpa using hr
   have er2:(r == [])=false:=by simpa using hr
   rw[if_neg hr] at hst;have henc:([zU (c.toNat:Int),zS r]:List L)=(⟨(c.toNat:Int),r⟩:Pr).enc.map .d:=rfl;cases ht:kB l (c.toNat:Int) with
   | true =>
    obtain⟨hk,hkey⟩:=hat ht;rw[ht,if_pos rfl] at hst;rw[ht] at hf;have e2:(l.map Pr.enc).set k [.i .u8 (c.toNat:Int),.s r]=(cH l (c::r)).map Pr.enc:=by
     rw[hst,List.set_eq_take_append_cons_drop,if_pos (by simpa using hk)]
     simp[Pr.enc]
    have e3:l.length=(cH l (c::r)).length:=by have:=congrArg List.length e2;simpa using this
    rw[<- hD] at e2 e3;have hkl:k<l.length:=hk;generalize cH l dt=q at *;refine .inl ?_;apply ae Ih rfl;(simp(disch:=first|decide|omega|(intros;exact aN rfl rfl)|simp only[am]) only[DM,e0,hc0,↓hf,hdr,hdt,hdi,er,er2,e2,zM,Pr.len,Pr.dr,go_sem,seval,aO])
    simp[zR,e3]
   | false =>
    rw[ht,if_neg (by simp),Nat.add_zero] at hst
    rw[ht] at hf;have hi0:=vZ (l:=lib) (an:=rE Gw) (P:=Tryz.prog) (f:=192) (k:=2) (bytes:=24) rfl rfl (l.map Pr.enc) (Pr.enc ⟨(c.toNat:Int),r⟩) k 0 rfl (by simpa using hp) (by simp;omega) (by simp;omega)
    rw[show(l.map Pr.enc).take k++Pr.enc ⟨(c.toNat:Int),r⟩::(l.map Pr.enc).drop k=(cH l (c::r)).map Pr.enc by rw[hst];simp,zM] at hi0
    have hi:∀ C:Box,ak call 192 [.one (.sl 0 2 0 l.length),vi (k:Nat),.one (.sl 2 2 0 1)] [.arr 2 (l.map Pr.enc) 0,C,.arr 2 [[.i .u8 (c.toNat:Int),.s r]] 0]=some (.one (.sl 3 2 0 (l.length+1)),[.dead,C,.arr 2 [[.i .u8 (c.toNat:Int),.s r]] 0,.arr 2 ((cH l (c::r)).map Pr.enc) 0]):=fun C =>
     aD (ids:=[0,2]) rfl rfl rfl hi0 rfl
    have hll:l.length+1=(cH l (c::r)).length:=by rw[hst];simp;omega
    rw[<- hD] at hi hll;generalize cH l dt=q at *;refine .inr (.inr ⟨⟨(c.toNat:Int),r⟩,?_⟩);apply ae Ih rfl;(simp(disch:=first|decide|omega|(intros;exact aN rfl rfl)|simp only[am]) only[DM,e0,hc0,↓hf,hdr,hdt,hdi,er,er2,↓hi,hll,go_sem,seval,aO])
    simp[zR,Pr.enc]
def cL (l:List Pr) (R:List Rec):List Pr:=R.foldl (fun l r=>cH l r.da) l
theorem vh (l:List Pr) (A B:List Rec):cL l (A++B)=cL (cL l A) B:=List.foldl_append
theorem lY:∀ (R:List Rec) (l:List Pr),gd l->okP l->(∀ r∈R,r.da.length<=64)->gd (cL l R)∧okP (cL l R)∧(cL l R).length<=l.length+R.length
 | [],l,hs,ho,_=>⟨hs,ho,Nat.le_refl _⟩
 | r::R,l,hs,ho,hr=>by
  have h:=lY R (cH l r.da) (step_srt hs _) (step_ok ho (hr r (by simp))) (fun x hx=>hr x (by simp[hx]))
  have h2:=step_len l r.da;refine⟨h.1,h.2.1,?_⟩;have:(cL l (r::R)).length<=(cH l r.da).length+R.length:=h.2.2;simp only[List.length_cons];omega
theorem CY:∀ (l:List Pr) (a:Int),gd l->(∀ p∈l,a<=p.key∧p.key<256)->(l.length:Int)<=max 0 (256-a)
 | [],a,_,_=>by simp;omega
 | p::r,a,hs,h=>by
  have hr:=List.pairwise_cons.1 hs;have h1:=h p (by simp)
  have:=CY r (p.key+1) hr.2 (fun q hq=>⟨by have:=hr.1 q hq;omega,(h q (by simp[hq])).2⟩)
  simp only[List.length_cons];omega
theorem pV {l:List Pr} (hs:gd l) (ho:okP l):l.length<=256:=by
 have:=CY l 0 hs (fun p hp=>(ho p hp).1)
 omega
theorem Du (l:List Pr) (hs:gd l) (ho:okP l) (R:List Rec) (hR:R.length<=1000000000) (hr:∀ r∈R,r.da.length<=64):call 148 [vl (l.map Pr.enc),vl (R.map Rec.enc)] []=some (vl ((cL l R).map Pr.enc),[]):=by
 have hl:=pV hs ho;have hcl:=QS (l.map Pr.enc) (aV Pr.len _) (by simp;omega) (by simp;omega)
 obtain⟨Z,hZ⟩:∃ Z:V,Z=vl ((cL l R).map Pr.enc):=⟨_,rfl⟩;rw[<- hZ];apply ae SJ rfl;(simp(disch:=first|decide|omega|(intros;exact aN rfl rfl)|simp only[am]) only[Mf,↓hcl,zM,go_sem,seval,aO])
 refine ax (m:=0) (σ:=Nat × List Pr) (fun t=>R.length-t.1) (fun t=>t.1<=R.length∧gd t.2∧okP t.2∧cL l R=cL t.2 (R.drop t.1)) (fun t=>[V.one (.sl 0 2 0 t.2.length),vl (R.map Rec.enc),vi R.length,vi t.1]) (fun t=>[.arr 2 (t.2.map Pr.enc) 0])
  (fun _=>(Z,[])) ?_ (0,l) ⟨zP _,hs,ho,rfl⟩ _ _ bO
 rintro⟨i,q⟩ ⟨h1,h2,h3,h5⟩ K hK;simp only at h1 h2 h3 h5 ⊢;have h4:=pV h2 h3;by_cases c:i<R.length
 ·have hc:(i:Int)<(R.length:Int):=by omega
  have g1:(R.map Rec.enc)[i]?=some R[i].enc:=by rw[zG,zE c];rfl
  rw[zD c] at h5;have hd:=hr _ (zN c);generalize R[i]=r at *;have ht:=Gx q (by omega) h2 h3 r.da (by omega)
  have hK':=hK (i+1,cH q r.da) (by simp only[];omega) ⟨by simp only[];omega,step_srt h2 _,step_ok h3 hd,h5⟩
  generalize cH q r.da=q2 at *;obtain⟨a,b,d⟩:=r;simp only[Rec.enc] at g1 ht;rcases ht with ht|⟨p,ht⟩|⟨p,ht⟩
  ·have hi:∀ C:Box,ak call 176 [.one (.sl 0 2 0 q.length),vs d] [.arr 2 (q.map Pr.enc) 0,C]=some (.one (.sl 0 2 0 q2.length),[.arr 2 (q2.map Pr.enc) 0,C]):=fun C =>
    aD (ids:=[0]) rfl rfl rfl ht rfl
   (simp(disch:=first|decide|omega|(intros;exact aN rfl rfl)|simp only[am]) only[sd,zT hc,g1,↓hi,go_sem,seval,aO])
   exact hK' _ _ bO
  ·have hi:∀ C:Box,ak call 176 [.one (.sl 0 2 0 q.length),vs d] [.arr 2 (q.map Pr.enc) 0,C]=some (.one (.sl 3 2 0 q2.length),[.dead,C,.cells (p.enc.map .d),.arr 2 (q2.map Pr.enc) 0]):=fun C =>
    aD (ids:=[0]) rfl rfl rfl ht rfl
   (simp(disch:=first|decide|omega|(intros;exact aN rfl rfl)|simp only[am]) only[sd,zT hc,g1,↓hi,go_sem,seval,aO])
   exact hK' _ _ bO
  ·have hi:∀ C:Box,ak call 176 [.one (.sl 0 2 0 q.length),vs d] [.arr 2 (q.map Pr.enc) 0,C]=some (.one (.sl 4 2 0 q2.length),[.dead,C,.cells (p.enc.map .d),.arr 2 [p.enc] 0,.arr 2 (q2.map Pr.enc) 0]):=fun C =>
    aD (ids:=[0]) rfl rfl rfl ht rfl
   (simp(disch:=first|decide|omega|(intros;exact aN rfl rfl)|simp only[am]) only[sd,zT hc,g1,↓hi,go_sem,seval,aO])
   exact hK' _ _ bO
 ·have hc:¬ (i:Int)<(R.length:Int):=by omega
  rw[zC (by omega)] at h5
  have e:Z=vl (q.map Pr.enc):=by rw[hZ,h5];rfl
  rw[e];have htk:List.take q.length (q.map Pr.enc)=q.map Pr.enc:=zL (by simp)
  refine aX ?_ sd.eq_1 Mf.eq_1 (zF hc) htk;try simp[trim]
theorem iq (a b:List UInt8):aw a++aw b=aw (a++b):=by simp[aw]
theorem rD (n:Int) (h:0<=n∧n<256):([[.i .u8 n]]:List (List D))=aw [UInt8.ofNat n.toNat]:=by
 have:((UInt8.ofNat n.toNat).toNat:Int)=n:=by simp;omega
 simp only[aw,List.map_cons,List.map_nil,this]
theorem Ds (l:List Pr) (i:Nat):(ai l.length++(l.take i).flatMap io).length<=(aZ l).length:=by
 have e:l.flatMap io=(l.take i).flatMap io++(l.drop i).flatMap io:=by rw[<- List.flatMap_append,zY]
 rw[aZ,e];simp
theorem A5 (l:List Pr) (hl:l.length<=1000000) (hb:(aZ l).length<=1000000000) (hk:∀ p∈l,0<=p.key∧p.key<256):call 106 [vl (l.map Pr.enc)] []=some (vs (aZ l),[]):=by
 apply ae SM rfl;have h0:=oJ l.length (by omega)
 have hel:(ai l.length).length<=1000:=by have:=dD (n:=l.length) (by omega);have:(ai l.length).length<=9:=this;omega
 refine aX ?_ Nc.eq_1 h0 hel;refine ax (m:=0) (σ:=Nat) (fun i=>l.length-i) (fun i=>i<=l.length) (fun i=>[V.one (.sl 0 1 0 (ai l.length++(l.take i).flatMap io).length),vl (l.map Pr.enc),vi l.length,vi i]) (fun i=>[.arr 0 (aw (ai l.length++(l.take i).flatMap io)) 0])
  (fun _=>(vs (aZ l),[])) ?_ 0 (zP _) _ _ (at_head2 (by decide) (by simp only[List.map_cons,List.map_nil,go_sem,seval];exact rfl) (by simp[aF,aB,au,aC,aq,V.ren,L.ren,Box.ren,V.refs,L.refs,Box.refs,List.append_nil]) (by simp[aF,aB,au,aC,aq,V.ren,L.ren,Box.ren,V.refs,L.refs,Box.refs,List.append_nil]))
 intro i h1 R hR;by_cases hi:i<l.length
 ·have g1:(l.map Pr.enc)[i]?=some l[i].enc:=by rw[zG,zE hi];rfl
  have hnx:ai l.length++(l.take (i+1)).flatMap io=(ai l.length++(l.take i).flatMap io)++io l[i]:=by
   rw[zO hi,List.flatMap_append];simp
  have hle:=Nat.le_trans (Ds l (i+1)) hb;have hR':=hR (i+1) (by omega) (by omega)
  rw[hnx] at hR' hle;have hpk:=hk _ (zN hi);obtain⟨p,hp⟩:∃ p,p=l[i]:=⟨_,rfl⟩;rw[<- hp] at g1 hle hR' hpk;obtain⟨S,hS⟩:∃ S,S=ai l.length++(l.take i).flatMap io:=⟨_,rfl⟩;rw[<- hS] at hle hR' ⊢;have hpb:(io p).length=1+(ai p.val.length).length+p.val.length:=by simp[io];omega
  rw[zA] at hle;have hput:=oJ p.val.length (by omega)
  rw[show S++io p=((S++[UInt8.ofNat p.key.toNat])++ai p.val.length)++p.val by simp[io]] at hR'
  rw[hpb] at hle;have hone:=rD p.key hpk;obtain⟨E,hE⟩:∃ E,E=ai p.val.length:=⟨_,rfl⟩;rw[<- hE] at hR' hput hle;have hok1:aQ 1 (aw [UInt8.ofNat p.key.toNat])=true:=oe _;have hln1:(aw [UInt8.ofNat p.key.toNat]).length=1:=rfl;have htk1:List.take 1 (aw [UInt8.ofNat p.key.toNat])=aw [UInt8.ofNat p.key.toNat]:=rfl;generalize [UInt8.ofNat p.key.toNat]=K at *;have hK1:K.length=1:=by rw[<- dp,hln1]
  have q1:(S++K).length=S.length+1:=by simp[hK1]
  have q2:((S++K)++E).length=S.length+1+E.length:=by simp[hK1];omega
  have q3:(((S++K)++E)++p.val).length=S.length+1+E.length+p.val.length:=by simp[hK1];omega
  have r1:=iq S K;have r2:=iq (S++K) E;have r3:=iq ((S++K)++E) p.val;obtain⟨S1,hS1⟩:∃ S1,S1=S++K:=⟨_,rfl⟩;rw[<- hS1] at q1 q2 q3 hR' r1 r2 r3;obtain⟨S2,hS2⟩:∃ S2,S2=S1++E:=⟨_,rfl⟩;rw[<- hS2] at q2 q3 hR' r2 r3;obtain⟨S3,hS3⟩:∃ S3,S3=S2++p.val:=⟨_,rfl⟩;rw[<- hS3] at q3 hR' r3;rw[q3] at hR';obtain⟨pk,pv⟩:=p;simp only[Pr.enc] at *;refine aX ?_ BC.eq_1 g1 hput hone hok1 hln1 htk1 r1 r2 r3 @dp (And.intro @oe (And.intro q1 q2));exact hR' _ _ bO
 ·have ht:l.take i=l:=zL (by omega)
  rw[ht];have e:ai l.length++l.flatMap io=aZ l:=rfl;rw[e];have htk:(aw (aZ l)).take (aZ l).length=aw (aZ l):=zL (by rw[dp];exact Nat.le_refl _)
  refine aX ?_ BC.eq_1 Nc.eq_1 htk @dp @lc;try simp[trim]
theorem sJ (f:Seg->Int) (l:List Seg) (i:Nat) (h:i<l.length):il f (l.drop i)=f l[i]+il f (l.drop (i+1)):=by
 rw[zD h];rfl
theorem sQ (l:List Seg) (i:Nat) (h:i+1<l.length):(l.drop i).take (l.length-i-1)=l[i]'(by omega)::(l.drop (i+1)).take (l.length-(i+1)-1):=by
 rw[zD (by omega:i<l.length)]
 obtain⟨k,hk⟩:∃ k,l.length-i-1=k+1:=⟨l.length-i-2,by omega⟩
 rw[hk,List.take_succ_cons];congr 2;omega
theorem tR (l:List Seg) (keep count:Int) (i:Nat) (h:i+1<l.length):dV l keep count i=false↔(keep<il Seg.size ((l.drop i).take (l.length-i-1))∨count<il Seg.n (l.drop i)):=by
 unfold dV HC;have e:(l.drop i).length=l.length-i:=by simp
 rw[e];have:1<l.length-i:=by omega
 simp[this];omega
theorem uN (l:List Seg) (keep count:Int) (i:Nat) (h:l.length<=i+1):dV l keep count i=true:=by
 unfold dV HC;have e:(l.drop i).length=l.length-i:=by simp
 have:¬ 1<l.length-i:=by omega
 simp[this]
theorem Da (l:List Seg) (keep count:Int) (h:H5 l) (i:Nat) (hs:dV l keep count i=true):dV l keep count (i+1)=true:=by
 by_cases c:i+2<l.length
 ·cases hq:dV l keep count (i+1) with
  | true=>rfl
  | false =>
   have h1:=(tR l keep count (i+1) (by omega)).1 hq
   have hm:=h.2 _ (zN (by omega:i<l.length))
   have e1:il Seg.size ((l.drop i).take (l.length-i-1))=l[i].size+il Seg.size ((l.drop (i+1)).take (l.length-(i+1)-1)):=by rw[sQ l i (by omega)];rfl
   have e2:=sJ Seg.n l i (by omega)
   have:dV l keep count i=false:=(tR l keep count i (by omega)).2 (by rw[e1,e2];omega)
   rw[this] at hs;cases hs
 ·exact uN l keep count (i+1) (by omega)
theorem oR (l:List Seg) (keep count:Int) (j:Nat) (hj:j<l.length) (h1:dV l keep count j=true) (h2:∀ i,i<j->dV l keep count i=false):eD l keep count=j:=by
 have:(List.range l.length).find? (dV l keep count)=some j:=by
  rw[List.find?_range_eq_some];exact⟨h1,by simpa using hj,fun i hi=>by rw[h2 i hi];rfl⟩
 unfold eD;rw[this]
theorem DE (l:List Seg) (keep count:Int) (h:H5 l) (j:Nat) (hj:dV l keep count j=false):∀ i,i<=j->dV l keep count i=false:=by
 intro i hi;cases hq:dV l keep count i with
 | false=>rfl
 | true =>
  have:∀ k,dV l keep count (i+k)=true:=by
   intro k;induction k with
   | zero=>exact hq
   | succ k ih=>exact Da l keep count h (i+k) ih
  have:=this (j-i);rw[show i+(j-i)=j by omega,hj] at this
  cases this
theorem Au (l:List Seg) (h:H5 l) (keep count:Int):call 105 [vl (l.map Seg.enc),vi keep,vi count] []=some (vi (eD l keep count:Nat),[]):=by
 apply ae RP rfl;have hlen:=h.1;by_cases c0:l.length=0
 ·have e:eD l keep count=0:=by unfold eD;rw[c0];rfl
  rw[e];refine aX ?_ IT.eq_1 c0;try simp[trim]
 ·have hL:l.length-1<l.length:=by omega
  have c1:¬ (l.length:Int)=0:=by omega
  have ek:((l.length:Int)-1).toNat=l.length-1:=by omega
  have ek0:(0:Int)<=(l.length:Int)-1:=by omega
  have g0:(l.map Seg.enc)[l.length-1]?=some l[l.length-1].enc:=by rw[zG,zE hL];rfl
  have hs1:il Seg.n (l.drop (l.length-1))=l[l.length-1].n:=by rw[sJ _ _ _ hL,show l.length-1+1=l.length by omega,List.drop_length];simp[il]
  have hs0:il Seg.size ((l.drop (l.length-1)).take (l.length-(l.length-1)-1))=0:=by rw[show l.length-(l.length-1)-1=0 by omega,List.take_zero];rfl
  obtain⟨W,hW⟩:∃ W,W=eD l keep count:=⟨_,rfl⟩;rw[<- hW];have hsq:dV l keep count (l.length-1)=true:=uN _ _ _ _ (by omega)
  have hinit:il Seg.size ((l.drop (l.length-1)).take (l.length-(l.length-1)-1))=0∧il Seg.n (l.drop (l.length-1))=l[l.length-1].n:=⟨hs0,hs1⟩;obtain⟨p,hp⟩:∃ p,p=l[l.length-1]:=⟨_,rfl⟩;rw[<- hp] at g0 hinit;refine aX ?_ IT.eq_1 c1 ek ek0 g0 @Seg.enc.eq_1;refine ax (m:=0) (σ:=Nat × Int × Int × Int) (fun t=>t.1) (fun t=>t.1<=l.length-1∧dV l keep count t.1=true∧t.2.1=il Seg.size ((l.drop t.1).take (l.length-t.1-1))∧t.2.2.1=il Seg.n (l.drop t.1)∧t.2.2.2=(t.1:Int)-1) (fun t=>[vl (l.map Seg.enc),vi keep,vi count,vi t.2.1,vi t.2.2.1,vi t.2.2.2]) (fun _=>[])
   (fun _=>(vi (W:Nat),[])) ?_ (l.length-1,0,p.n,(l.length:Int)-1-1) ⟨Nat.le_refl _,hsq,hinit.1.symm,hinit.2.symm,by simp only[];omega⟩ _ _ bO
  rintro⟨j,b,r,i⟩ ⟨h1,h2,h3,h4,h5⟩ R hR;simp only at h1 h2 h3 h4 h5;by_cases hj:j=0
  ·have e:W=0:=by rw[hW];exact oR l keep count 0 (by omega) (hj ▸ h2) (fun i hi=>absurd hi (by omega))
   have ci:¬ (0:Int)<=i:=by omega
   rw[e];refine aX ?_ tO.eq_1 IT.eq_1 (zF ci);try simp[trim]
  ·have hjl:j-1<l.length:=by omega
   have ci:(0:Int)<=i:=by omega
   have ei:i.toNat=j-1:=by omega
   have g1:(l.map Seg.enc)[j-1]?=some l[j-1].enc:=by rw[zG,zE hjl];rfl
   have s1:il Seg.size ((l.drop (j-1)).take (l.length-(j-1)-1))=l[j-1].size+il Seg.size ((l.drop j).take (l.length-j-1)):=by
    have:=sQ l (j-1) (by omega)
    simp only[show j-1+1=j by omega] at this
    rw[this];rfl
   have s2:il Seg.n (l.drop (j-1))=l[j-1].n+il Seg.n (l.drop j):=by rw[sJ _ _ _ hjl,show j-1+1=j by omega]
   have sb:=G6 Seg.size (l.drop j) (by simp;omega) (fun g hg=>(h.2 g (List.mem_of_mem_drop hg)).2) (l.length-j-1)
   have sn:=G6 Seg.n (l.drop j) (by simp;omega) (fun g hg=>(h.2 g (List.mem_of_mem_drop hg)).1) l.length
   rw[zL (by simp)] at sn
   have hm:=h.2 _ (zN hjl);have hst:=tR l keep count (j-1) (by omega)
   have hR':=hR (j-1,b+l[j-1].size,r+l[j-1].n,i-1) (by simp only[];omega)
   rw[s1,s2] at hst;simp only[s1,s2] at hR';rw[<- h3] at hst sb hR';rw[<- h4] at hst sn hR';have hdn:=DE l keep count h (j-1);obtain⟨q,hq⟩:∃ q,q=l[j-1]:=⟨_,rfl⟩;rw[<- hq] at g1 hst hm hR';have hjn:((j-1:Nat):Int)+1=j:=by omega
   have hij:i+1=(j:Int):=by omega
   by_cases k1:keep<b+q.size
   ·have hf:=hst.2 (.inl (by omega))
    have e:W=j:=by rw[hW];exact oR l keep count j (by omega) h2 (fun i hi=>hdn hf i (by omega))
    rw[e];refine aX ?_ tO.eq_1 ci ei g1 @Seg.enc.eq_1 (zT k1) hij;try simp[trim]
   ·by_cases k2:count<r+q.n
    ·have hf:=hst.2 (.inr (by omega))
     have e:W=j:=by rw[hW];exact oR l keep count j (by omega) h2 (fun i hi=>hdn hf i (by omega))
     rw[e];refine aX ?_ tO.eq_1 ci ei g1 @Seg.enc.eq_1 (zF k1) (zT k2) hij;try simp[trim]
    ·have hsy:dV l keep count (j-1)=true:=by
      cases hx:dV l keep count (j-1) with
      | true=>rfl
      | false=>have:=hst.1 hx;omega
     refine aX ?_ tO.eq_1 ci ei g1 @Seg.enc.eq_1 (zF k1) (zF k2);exact hR' ⟨by omega,hsy,by omega,by omega,by omega⟩ _ _ bO
theorem GY {k u:Nat} (s:Sto) (h:okS k u s) (hk:k<=800000):call 145 [.agg s.l] []=some (vs (cI s),[]):=by
 have hf:call 119 [.agg s.l] []=some (vi s.floor,[]):=nY s;have hn:=lV (eC h);have hr:=pD s.disk (Nat.le_trans h.dsk.len (by omega)) h.dsk.srt (aH s.floor)
 have e:cI s=if s.floor=0 then[] else(bS s.disk.files (aH s.floor)).1:=rfl
 rw[e];generalize s.floor=fl at *;generalize aH fl=N at *;generalize bS s.disk.files N=rf at *;have hcell:s.l=[.d (.l (s.disk.files.map Fil.enc)),zI s.disk.cap,zB s.disk.armed,zI s.disk.left,zB s.disk.down,zI s.ver,.d (.l (s.segs.map Seg.enc)),zI s.next,zI s.sure,zI s.size,zW s.sum]:=rfl;have hd:s.disk.l=[.d (.l (s.disk.files.map Fil.enc)),zI s.disk.cap,zB s.disk.armed,zI s.disk.left,zB s.disk.down]:=rfl;apply ae Se rfl;rw[hcell] at hf ⊢;rw[hd] at hr;by_cases c:fl=0
 ·subst c;rw[if_pos rfl];refine bC ?_ M8.eq_1 hf;try simp[trim]
 ·rw[if_neg c];refine bC ?_ M8.eq_1 hf hn hr c;try simp[trim]
theorem uG {s:List UInt8} {l:List Pr} (h:aR s=some l):gd l:=by
 have hr:dh l=true:=by
  unfold aR at h;split at h
  ·split at h
   ·cases h
   ·unfold hU at h;split at h
    ·split at h
     ·rename_i hc;cases h;exact hc.2
     ·cases h
    ·cases h
  ·cases h
 have key:∀ i,(hi:i+1<l.length)->l[i].key<l[i+1].key:=by
  intro i hi;have:=(List.all_eq_true.1 hr) (i+1) (by simpa using hi)
  simp only[nN,zE hi,Bool.and_eq_true,Bool.or_eq_true,decide_eq_true_eq] at this;have h2:=this.2.resolve_left (by omega)
  have e:gU l (i+1-1)=l[i].key:=by simp[gU,zE (show i<l.length by omega)]
  rwa [e] at h2
 have mono:∀ d i,(hi:i+1+d<l.length)->l[i].key<l[i+1+d].key:=by
  intro d;induction d with
  | zero=>intro i hi;exact key i hi
  | succ d ih=>intro i hi;exact Int.lt_trans (ih i (by omega)) (key (i+1+d) hi)
 unfold gd;rw[List.pairwise_iff_getElem];intro i j hi hj hij;have:=mono (j-i-1) i (by omega)
 simpa only[show i+1+(j-i-1)=j by omega] using this
def Sto.rcs (s:Sto) (g:Seg):List Rec:=(fb (s.txt g) g.base).1.map (·.1)
def Fj (s:Sto) (off:Int):List Seg->List Pr->List Pr
 | [],l=>l
 | g::r,l=>if off<=g.base then l else Fj s off r (cL l ((s.rcs g).take (off-g.base).toNat))
def mq (s:Sto) (off:Int):List Pr:=Fj s off s.segs ((aR (cI s)).getD [])
theorem Mt (s:Sto) (g:Seg):∀ r∈s.rcs g,r.da.length<=64:=by
 intro r hr;simp only[Sto.rcs,List.mem_map] at hr;obtain⟨x,hx,rfl⟩:=hr;exact v5 (zu _ _ x hx)
theorem Dj {k u:Nat} {s:Sto} (h:okS k u s):(cI s).length<=u:=by
 unfold cI;split
 ·simp
 ·exact Nat.le_trans (iR _ _) h.dsk.used
theorem Mw (s:Sto):gd ((aR (cI s)).getD [])∧okP ((aR (cI s)).getD []):=by
 cases h:aR (cI s) with
 | none=>exact⟨List.Pairwise.nil,fun p hp=>by cases hp⟩
 | some l=>exact⟨uG h,(pw h).1⟩
theorem Dc {k u:Nat} (s:Sto) (h:okS k u s) (hk:k<=800000) (hu:u<=1000000) (off:Int) (hoff:0<=off∧off<=1099511627776):call 107 [.agg s.l,vi off] []=some (vl ((mq s off).map Pr.enc),[]):=by
 have hs:=GY s h hk;have hsl:=Dj h;have hp:=tF (cI s) (by omega)
 have hpv:∃ ok:Bool,cQ (aR (cI s))=.tup [(false,[.d (.l (((aR (cI s)).getD []).map Pr.enc))]),(false,[zB ok])]:=by
  cases aR (cI s) with
  | none=>exact⟨false,rfl⟩
  | some l=>exact⟨true,rfl⟩
 have hl0:=Mw s;obtain⟨Z,hZ⟩:∃ Z:V,Z=vl ((mq s off).map Pr.enc):=⟨_,rfl⟩;rw[<- hZ];have hZ':Z=vl ((Fj s off s.segs ((aR (cI s)).getD [])).map Pr.enc):=hZ;clear hZ;obtain⟨ok,hpv⟩:=hpv;rw[hpv] at hp;generalize (aR (cI s)).getD []=l0 at *;generalize cI s=sn at *;have hlen:=h.len;have hseg:=h.seg;have hrd:=fun g=>pD s.disk (Nat.le_trans h.dsk.len (by omega)) h.dsk.srt (fileN g)
 have hd:s.disk.l=[.d (.l (s.disk.files.map Fil.enc)),zI s.disk.cap,zB s.disk.armed,zI s.disk.left,zB s.disk.down]:=rfl;rw[hd] at hrd;have hcell:s.l=[.d (.l (s.disk.files.map Fil.enc)),zI s.disk.cap,zB s.disk.armed,zI s.disk.left,zB s.disk.down,zI s.ver,.d (.l (s.segs.map Seg.enc)),zI s.next,zI s.sure,zI s.size,zW s.sum]:=rfl;apply ae Rg rfl;rw[hcell] at hs ⊢;refine bC ?_ Ju.eq_1 hs hp;refine ax (m:=0) (σ:=Nat × List Pr) (fun t=>s.segs.length-t.1) (fun t=>t.1<=s.segs.length∧(gd t.2∧okP t.2)∧Z=vl ((Fj s off (s.segs.drop t.1) t.2).map Pr.enc)) (fun t=>[vi off,V.one (.p 0 0),vl (t.2.map Pr.enc),vl (s.segs.map Seg.enc),vi s.segs.length,vi t.1])
  (fun _=>[.cells [.d (.l (s.disk.files.map Fil.enc)),zI s.disk.cap,zB s.disk.armed,zI s.disk.left,zB s.disk.down,zI s.ver,.d (.l (s.segs.map Seg.enc)),zI s.next,zI s.sure,zI s.size,zW s.sum]]) (fun _=>(Z,[])) ?_ (0,l0) ⟨zP _,hl0,hZ'⟩ _ _ bO
 rintro⟨i,l⟩ ⟨h1,h2,h3⟩ R hR;simp only at h1 h2 h3;by_cases c:i<s.segs.length
 ·have hc:(i:Int)<(s.segs.length:Int):=by omega
  rw[zD c,Fj] at h3;have g1:(s.segs.map Seg.enc)[i]?=some s.segs[i].enc:=by rw[zG,zE c];rfl
  have hg:=hseg _ (zN c);have g2:=lD hg.1;have g3:=hrd s.segs[i].base;have g4:=EP (s.txt s.segs[i]) (Nat.le_trans (iR _ _) (Nat.le_trans h.dsk.used hu)) s.segs[i].base (by omega)
  have hrc:s.rcs s.segs[i]=(fb (s.txt s.segs[i]) s.segs[i].base).1.map (·.1):=rfl;have hrd2:=Mt s s.segs[i];have hrl:(s.rcs s.segs[i]).length<=1000000:=by
   rw[hrc,zM];exact Nat.le_trans (uC _ _) (Nat.le_trans (iR _ _) (Nat.le_trans h.dsk.used hu))
  have e4:iw (fb (s.txt s.segs[i]) s.segs[i].base)=.tup [(false,[.d (.l ((s.rcs s.segs[i]).map Rec.enc))]),(false,[.d (.i .i64 (((fb (s.txt s.segs[i]) s.segs[i].base).2.1:Nat):Int))]),(false,[.d (.i .i64 (fb (s.txt s.segs[i]) s.segs[i].base).2.2)])]:=by
   unfold iw;rw[hrc,List.map_map];rfl
  rw[e4] at g4;have htx:s.txt s.segs[i]=(bS s.disk.files (fileN s.segs[i].base)).1:=rfl;rw[htx] at g4;generalize (fb (bS s.disk.files (fileN s.segs[i].base)).1 s.segs[i].base).2=z at *;generalize s.rcs s.segs[i]=RR at *;clear hrc htx e4;generalize s.segs[i]=g at *;generalize bS s.disk.files (fileN g.base)=rf at *;obtain⟨gb,gn,gz⟩:=g;simp only[Seg.enc] at *;by_cases c2:off<=gb
  ·rw[if_pos c2] at h3;rw[h3];refine bC ?_ wC.eq_1 Ju.eq_1 (zT hc) g1 (zT c2);try simp[trim]
  ·rw[if_neg c2] at h3;have ht:=lY (RR.take (off-gb).toNat) l h2.1 h2.2 (fun r hr=>hrd2 r (zZ hr))
   have g5:=Du l h2.1 h2.2 (RR.take (off-gb).toNat) (by simp;omega) (fun r hr=>hrd2 r (zZ hr))
   have hR':=hR (i+1,cL l (RR.take (off-gb).toNat)) (by simp only[];omega) ⟨by simp only[];omega,⟨ht.1,ht.2.1⟩,h3⟩
   have em:List.take (if off-gb<(RR.length:Int) then off-gb else(RR.length:Int)).toNat (RR.map Rec.enc)=(RR.take (off-gb).toNat).map Rec.enc:=by
    rw[<- List.map_take];congr 1
    split
    ·rfl
    ·rw[zL (by omega),zL (by omega)]
   have hok:aQ 3 (RR.map Rec.enc)=true:=aV Rec.len _;generalize cL l (RR.take (off-gb).toNat)=l2 at *;refine bC ?_ wC.eq_1 (zT hc) g1 (zF c2) g2 g3 g4 hok em g5;exact hR' _ _ bO
 ·have hc:¬ (i:Int)<(s.segs.length:Int):=by omega
  rw[zC (by omega),Fj] at h3
  rw[h3];refine bC ?_ wC.eq_1 Ju.eq_1 (zF hc);try simp[trim]
variable {k u:Nat} {f:Int} {S:Txt} {l0:List Pr} {s:Sto} {M:List SR} {g:Seg} {l:List Rec}
theorem Inv.rcs (ho:okS k u s) (h:Inv f s M g l):∀ p∈M++[(g,l)],s.rcs p.1=p.2:=by
 intro p hp;have hf:=h.file p hp;have hpm:p.1∈s.segs:=by
  rw[h.segs];rcases zX.1 hp with hp|hp
  ·exact List.mem_append_left _ (List.mem_map_of_mem hp)
  ·rw[zV.1 hp];simp
 have hb:=(ho.seg _ hpm).1;have ht:s.txt p.1=rowS p.2:=by
  unfold Sto.txt;rw[pG ho.dsk.srt hf.has]
 unfold Sto.rcs;rw[ht];exact(GJ p.2 p.1.base (by simp[ep];omega) hf.why hf.num).1
theorem Inv.scans (ho:okS k u s) (h:Inv f s M g l):s.scans=M++[(g,l)]:=by
 have e:s.segs=(M++[(g,l)]).map (·.1):=by rw[h.segs];simp
 have e2:s.scans=s.segs.map fun a=>(a,s.rcs a):=rfl
 rw[e2,e,List.map_map];have:(M++[(g,l)]).map ((fun a=>(a,s.rcs a)) ∘ fun x=>x.1)=(M++[(g,l)]).map id:=by
  apply List.map_congr_left;intro p hp;show(p.1,s.rcs p.1)=p;rw[h.rcs ho p hp]
 rw[this,List.map_id]
theorem CT {b:Int} {A B:List Rec} (h1:numB b A) (h2:numB (b+A.length) B):numB b (A++B):=by
 intro i hi;rw[zA] at hi;rcases Nat.lt_or_ge i A.length with c|c
 ·rw[List.getElem_append_left c];exact h1 i c
 ·rw[List.getElem_append_right c,h2 (i-A.length) (by omega)];omega
theorem uU:∀ (M:List SR) (b e:Int),chainM b M e->(∀ p∈M,numB p.1.base p.2)->numB b (aM M)
 | [],b,e,_,_=>fun i hi=>by simp[aM] at hi
 | p::M,b,e,h,hn=>by
  simp only[chainM] at h;have e1:aM (p::M)=p.2++aM M:=by simp[aM]
  rw[e1];have h1:=hn p (by simp)
  rw[h.1] at h1;exact CT h1 (uU M _ e h.2.2 (fun q hq=>hn q (by simp[hq])))
theorem Inv.num (h:Inv f s M g l):numB f (aM (M++[(g,l)])):=by
 have h1:=uU M f g.base h.chain (fun p hp=>(h.file p (List.mem_append_left _ hp)).num)
 rw[cK,eZ];refine CT h1 ?_;rw[iO _ _ _ h.chain];exact(h.file (g,l) (by simp)).num
theorem W.snT (ho:okS k u s) (h:W f S l0 s M g l):cI s=S∧(aR (cI s)).getD []=l0:=by
 have hf:s.floor=f:=WR.floor ⟨M,g,l,h,rfl⟩;have e:cI s=S:=by
  unfold cI;rw[hf];rcases h.snp with⟨h1,h2,_⟩|⟨h1,h2,_⟩
  ·rw[if_pos h1,h2]
  ·rw[if_neg (by omega),BZ ho.dsk.srt,h2]
 rw[e];refine⟨rfl,?_⟩;rcases h.snp with⟨_,h2,h3,_⟩|⟨_,_,h3,_⟩
 ·rw[h2,h3];rfl
 ·rw[h3];rfl
theorem xU {R:List Rec} (hd:∀ j,(hj:j<R.length)->jt s (f+j)=R[j].da):∀ (n j:Nat) (q:List Pr),j+n<=R.length->qg s n (f+j) q=cL q ((R.drop j).take n)
 | 0,j,q,_=>by simp[qg,cL]
 | n+1,j,q,h=>by
  have hj:j<R.length:=by omega
  rw[qg,hd j hj,zD hj,List.take_succ_cons];have ih:=xU hd n (j+1) (cH q R[j].da) (by omega)
  rw[Int.natCast_add,Int.natCast_one,<- Int.add_assoc] at ih;rw[ih];rfl
theorem W.data (ho:okS k u s) (h:W f S l0 s M g l) (j:Nat) (hj:j<(aM (M++[(g,l)])).length):jt s (f+j)=(aM (M++[(g,l)]))[j].da:=by
 have hn:s.next=f+(aM (M++[(g,l)])).length:=WR.next ⟨M,g,l,h,rfl⟩;have hf0:0<=f:=by have:=WR.floor ⟨M,g,l,h,rfl⟩;rw[<- this];exact(eC ho).1
 unfold jt;rw[if_neg (by omega),h.inv.scans ho,xN h.inv.num j hj]
def EX (l0:List Pr) (f:Int) (R:List Rec) (off:Int):List Pr:=cL l0 (R.take (off-f).toNat)
theorem W.stT (ho:okS k u s) (h:W f S l0 s M g l) (off:Int) (h1:f<=off∧off<=s.next):bB s off=EX l0 f (aM (M++[(g,l)])) off:=by
 have hn:s.next=f+(aM (M++[(g,l)])).length:=WR.next ⟨M,g,l,h,rfl⟩;unfold bB EX;rw[(h.snT ho).2,WR.floor ⟨M,g,l,h,rfl⟩];have:=xU (h.data ho) (off-f).toNat 0 l0 (by omega)
 simpa using this
theorem vv (s:Sto) (off:Int):∀ (M:List SR) (b e:Int) (q:List Pr),chainM b M e->(∀ p∈M,s.rcs p.1=p.2)->∀ rest:List Seg,Fj s off (M.map (·.1)++rest) q=if(∃ p∈M,off<=p.1.base) then cL q ((aM M).take (off-b).toNat) else Fj s off rest (cL q ((aM M).take (off-b).toNat))
 | [],b,e,q,_,_,rest=>by simp[aM,cL]
 | p::M,b,e,q,h,hr,rest=>by
  simp only[chainM] at h;have ih:=vv s off M (b+p.2.length) e (cL q (p.2.take (off-b).toNat)) h.2.2 (fun x hx=>hr x (by simp[hx])) rest
  have e1:aM (p::M)=p.2++aM M:=by simp[aM]
  have hce:=(dB _ _ _ h.2.2);have hb:=h.1;rw[List.map_cons,List.cons_append,Fj,hr p (by simp),hb]
  by_cases c:off<=b
  ·rw[if_pos c,if_pos ⟨p,by simp,by omega⟩]
   have:(off-b).toNat=0:=by omega
   rw[this,List.take_zero];rfl
  ·rw[if_neg c,ih,e1];have e2:cL (cL q (p.2.take (off-b).toNat)) ((aM M).take (off-(b+p.2.length)).toNat)=cL q ((p.2++aM M).take (off-b).toNat):=by
    rw[<- vh,List.take_append];congr 3;omega
   rw[e2];by_cases c2:∃ x∈M,off<=x.1.base
   ·obtain⟨x,hx,hx2⟩:=c2;have hx3:=hce.2 x hx;rw[if_pos ⟨x,hx,hx2⟩,if_pos ⟨x,by simp[hx],hx2⟩]
   ·rw[if_neg c2,if_neg];rintro⟨x,hx,hx2⟩;rcases List.mem_cons.1 hx with rfl|hx
    ·omega
    ·exact c2 ⟨x,hx,hx2⟩
theorem W.sPr (ho:okS k u s) (h:W f S l0 s M g l) (off:Int) (h1:f<=off∧off<=s.next):mq s off=EX l0 f (aM (M++[(g,l)])) off:=by
 unfold mq EX;rw[(h.snT ho).2,h.inv.segs,vv s off M f g.base l0 h.inv.chain (fun p hp=>h.inv.rcs ho p (List.mem_append_left _ hp))]
 have hcl:=iO _ _ _ h.inv.chain;split
 ·rename_i c;obtain⟨x,hx,hx2⟩:=c;have:=(dB _ _ _ h.inv.chain).2 x hx;rw[cK,List.take_append_of_le_length (by omega)]
 ·rename_i c;rw[Fj,h.inv.rcs ho (g,l) (by simp),Fj]
  split
  ·rename_i c2;rw[cK,List.take_append_of_le_length (by omega)]
  ·rename_i c2;rw[cK,eZ,List.take_append,vh];congr 2
   omega
theorem W.same_state (ho:okS k u s) (h:W f S l0 s M g l):∀ a∈s.segs,mq s a.base=bB s a.base:=by
 intro a ha;have hb:f<=a.base∧a.base<=s.next:=by
  have hn:=h.inv.next;rw[h.inv.segs] at ha;rcases zX.1 ha with ha|ha
  ·obtain⟨p,hp,rfl⟩:=List.mem_map.1 ha;have:=(dB _ _ _ h.inv.chain);have:=this.2 p hp;omega
  ·rw[zV.1 ha];have:=(dB _ _ _ h.inv.chain).1;omega
 rw[h.sPr ho _ hb,h.stT ho _ hb]
def okV (l:List Pr):Prop:=∀ p∈l,(0<=p.key∧p.key<256)∧(1<=p.val.length∧p.val.length<=63)
theorem okV.okP {l:List Pr} (h:okV l):okP l:=fun p hp=>⟨(h p hp).1,by have:=(h p hp).2;omega⟩
theorem step_okV {l:List Pr} (h:okV l) {d:List UInt8} (hd:d.length<=64):okV (cH l d):=by
 cases d with
 | nil=>exact h
 | cons c r =>
  intro p hp;simp only[cH,zX] at hp;rcases hp with(hp|hp)|hp
  ·exact h p ((List.takeWhile_sublist _).subset hp)
  ·split at hp
   ·cases hp
   ·rename_i hr;rw[zV] at hp;subst hp;have:=UInt8.toNat_lt c;have:=List.length_pos_iff.2 hr;simp at hd;exact⟨⟨by simp only[];omega,by simp only[];omega⟩,by simp only[];omega⟩
  ·exact h p (List.mem_filter.1 hp).1
theorem ql:∀ (R:List Rec) (l:List Pr),okV l->(∀ r∈R,r.da.length<=64)->okV (cL l R)
 | [],l,h,_=>h
 | r::R,l,h,hr=>ql R _ (step_okV h (hr r (by simp))) (fun x hx=>hr x (by simp[hx]))
theorem GE {l:List Pr} (hs:gd l) (h:okV l):dh l=true:=by
 unfold dh;rw[List.all_eq_true];intro i hi;have hi:i<l.length:=by simpa using hi
 simp only[nN,zE hi,oW,Bool.and_eq_true,Bool.or_eq_true,decide_eq_true_eq];refine⟨(h _ (zN hi)).2,?_⟩;by_cases c:i=0
 ·exact .inl c
 ·refine .inr ?_;have e:gU l (i-1)=l[i-1].key:=by simp[gU,zE (show i-1<l.length by omega)]
  rw[e];exact(List.pairwise_iff_getElem.1 hs) (i-1) i (by omega) hi (by omega)
theorem Dg {l:List Pr} (hr:dh l=true) (ho:okP l):okV l:=by
 intro p hp;obtain⟨i,hi,rfl⟩:=zJ hp;have:=(List.all_eq_true.1 hr) i (by simpa using hi)
 simp only[nN,zE hi,oW,Bool.and_eq_true,decide_eq_true_eq] at this;exact⟨(ho _ hp).1,this.1⟩
theorem Bb (pre rest:Txt) (p:Pr) (h:(0<=p.key∧p.key<256)∧(1<=p.val.length∧p.val.length<=63)):kJ (pre++(io p++rest)) pre.length=some (p,(pre++io p).length):=by
 obtain⟨key,v⟩:=p;simp only at h;have e0:pre++(io ⟨key,v⟩++rest)=(pre++[UInt8.ofNat key.toNat])++(ai v.length++(v++rest)):=by simp[io]
 have e1:(pre++(io ⟨key,v⟩++rest)).drop (pre.length+1)=ai v.length++(v++rest):=by
  rw[e0];exact List.drop_left' (by simp)
 have hr:=oK v.length (v++rest) (by omega)
 have hk:(ai v.length).length=nd v.length:=rfl;have hl:(pre++(io ⟨key,v⟩++rest)).length=pre.length+1+nd v.length+v.length+rest.length:=by rw[e0];simp[hk];omega
 have ha:(pre++(io ⟨key,v⟩++rest))[pre.length]?=some (UInt8.ofNat key.toNat):=by simp[io]
 have hv:((pre++(io ⟨key,v⟩++rest)).take (pre.length+1+nd v.length+v.length)).drop (pre.length+1+nd v.length)=v:=by
  have e2:pre++(io ⟨key,v⟩++rest)=((pre++[UInt8.ofNat key.toNat])++ai v.length)++(v++rest):=by simp[io]
  have hl2:((pre++[UInt8.ofNat key.toNat])++ai v.length).length=pre.length+1+nd v.length:=by simp[hk];omega
  rw[e2,<- hl2,List.take_length_add_append,List.drop_left,List.take_left]
 have hkey:((UInt8.ofNat key.toNat).toNat:Int)=key:=by simp;omega
 unfold kJ;rw[e1,hr];simp only[];rw[if_neg (by omega),hv,ha]
 simp only[Option.getD_some,hkey];congr 2
 simp[io,hk];omega
theorem sR:∀ (l:List Pr) (pre:Txt) (out:List Pr),okV l->dI (pre++l.flatMap io) l.length pre.length out=some (out++l,(pre++l.flatMap io).length)
 | [],pre,out,_=>by simp[dI]
 | p::l,pre,out,h=>by
  have hp:=Bb pre (l.flatMap io) p (h p (by simp))
  rw[List.flatMap_cons,List.length_cons,dI,hp];simp only[];have ih:=sR l (pre++io p) (out++[p]) (fun q hq=>h q (by simp[hq]))
  rw[List.append_assoc] at ih;rw[ih];simp
theorem qZ {l:List Pr} (hs:gd l) (h:okV l):aR (aZ l)=some l:=by
 have hl:=pV hs h.okP;have hr:=oK l.length (l.flatMap io) (by omega)
 have hp:=sR l (ai l.length) [] h;have hk:(ai l.length).length=nd l.length:=rfl;unfold aR;have e:aZ l=ai l.length++l.flatMap io:=rfl;rw[e,hr];simp only[];rw[if_neg (by omega),<- hk,hp]
 unfold hU;simp[GE hs h]
theorem Eu {s:List UInt8} {l:List Pr} (h:aR s=some l):okV l:=by
 have hr:dh l=true:=by
  unfold aR at h;split at h
  ·split at h
   ·cases h
   ·unfold hU at h;split at h
    ·split at h
     ·rename_i hc;cases h;exact hc.2
     ·cases h
    ·cases h
  ·cases h
 exact Dg hr (pw h).1
theorem Ae {k u:Nat} {d:Dsk} (h:okN k u d) (h0:(aG d).2=0):okS (k+2) (u+1000) (aG d).1∧(∀ seg:Int,0<=seg->QE 0 seg (aG d).1 [])∧(aG d).1.next=0∧(aG d).1.sure=0:=by
 have k1:=eA (s:=(d,0)) h (fileN 0);unfold aG at h0 ⊢;simp only[] at h0 ⊢;have k2:okN (k+2) (u+1000) (if(bL (fileN 0) (d,0)).2=0 then bT ⟨1,[0],0,0⟩ (bL (fileN 0) (d,0)) else bL (fileN 0) (d,0)).1:=by
  split
  ·exact(ii k1 _).up (by omega) (by omega)
  ·exact k1.up (by omega) (by omega)
 have hd:(bL (fileN 0) (d,0)).2=0->hasD (if(bL (fileN 0) (d,0)).2=0 then bT ⟨1,[0],0,0⟩ (bL (fileN 0) (d,0)) else bL (fileN 0) (d,0)).1.files (fileN 0) []:=fun hc=>by
  rw[if_pos hc];exact qi k1 _ (mZ _ _) (mZ _ _) (CH hc)
 have hc:(if(bL (fileN 0) (d,0)).2=0 then bT ⟨1,[0],0,0⟩ (bL (fileN 0) (d,0)) else bL (fileN 0) (d,0)).2=0->(bL (fileN 0) (d,0)).2=0:=fun hx=>by
  by_cases hc:(bL (fileN 0) (d,0)).2=0
  ·exact hc
  ·rw[if_neg hc] at hx;exact hx
 generalize (if(bL (fileN 0) (d,0)).2=0 then bT ⟨1,[0],0,0⟩ (bL (fileN 0) (d,0)) else bL (fileN 0) (d,0))=s2 at *
 by_cases c:s2.2=0
 ·rw[if_pos c];have hd:=hd (hc c);refine⟨⟨k2,by simp,?_,by simp,⟨by simp,by simp only[];omega⟩,by simp⟩,fun seg hs=>⟨[],⟨0,0,0⟩,[],⟨rfl,?_,rfl,rfl,by simp⟩,⟨fun p hp=>(by cases hp),by simp only[];omega⟩,rfl⟩,rfl,rfl⟩
  ·intro g hg;simp only[zV] at hg;subst hg;simp;omega
  ·intro p hp;simp only[List.nil_append,zV] at hp;subst hp;exact⟨hd,fun r hr=>(by cases hr),fun k hk=>(by simp at hk),rfl,rfl⟩
 ·rw[if_neg c] at h0;exact absurd h0 c
def d0:Dsk:=⟨[],0,false,0,false⟩
theorem d0_ok:okN 0 0 d0:=⟨Nat.le_refl _,List.Pairwise.nil,by decide,by decide,Nat.le_refl _⟩
theorem Br:(aG d0).2=0:=by decide +kernel
variable {k u:Nat} {f:Int} {S:Txt} {l0:List Pr} {s:Sto} {M:List SR} {g:Seg} {l:List Rec}
theorem W.st0 (h:W f S l0 s M g l):gd l0∧okV l0:=by
 rcases h.snp with⟨_,_,h3,_⟩|⟨_,_,h3,_⟩
 ·rw[h3];exact⟨List.Pairwise.nil,fun p hp=>by cases hp⟩
 ·exact⟨uG h3,Eu h3⟩
theorem W.why (h:W f S l0 s M g l):∀ r∈aM (M++[(g,l)]),whyF r=0:=by
 intro r hr;simp only[aM,List.mem_flatMap] at hr;obtain⟨p,hp,hr⟩:=hr;exact(h.inv.file p hp).why r hr
theorem W.st (h:W f S l0 s M g l) (off:Int):gd (EX l0 f (aM (M++[(g,l)])) off)∧okV (EX l0 f (aM (M++[(g,l)])) off):=by
 have h1:∀ r∈(aM (M++[(g,l)])).take (off-f).toNat,r.da.length<=64:=fun r hr=>v5 (h.why r (zZ hr))
 exact⟨(lY _ _ h.st0.1 h.st0.2.okP h1).1,ql _ _ h.st0.2 h1⟩
theorem rm {q:List Pr} (hs:gd q) (ho:okV q):1<=(aZ q).length∧(aZ q).length<=18960:=by
 have h1:=pV hs ho.okP;have h2:=pX ho.okP (by omega)
 have h3:1<=(ai q.length).length:=fL q.length;refine⟨?_,by omega⟩
 unfold aZ;rw[zA];omega
theorem n6:∀ (k:Nat) (M:List SR) (b e:Int),k<=M.length->chainM b M e->chainM (b+(aM (M.take k)).length) (M.drop k) e
 | 0,M,b,e,_,h=>by simpa[aM] using h
 | k+1,[],b,e,hk,_=>by simp at hk
 | k+1,p::M,b,e,hk,h=>by
  simp only[chainM] at h;have ih:=n6 k M (b+p.2.length) e (by simpa using hk) h.2.2
  have e1:(aM ((p::M).take (k+1))).length=p.2.length+(aM (M.take k)).length:=by simp[aM]
  rw[e1,List.drop_succ_cons,Int.natCast_add,<- Int.add_assoc];exact ih
theorem y6 {M:List SR} {b e:Int} (h:chainM b M e):∀ x,(M.map (·.1.base)++[e])[0]?=some x->x=b:=by
 intro x hx;cases M with
 | nil=>simp[chainM] at h hx;omega
 | cons p M=>simp[chainM] at h hx;omega
theorem W.base_k (h:W f S l0 s M g l) {n:Nat} (hn:n<s.segs.length):n<=M.length∧aW s.segs n=f+(aM (M.take n)).length:=by
 have hl:s.segs.length=M.length+1:=by rw[h.inv.segs];simp
 have hk:n<=M.length:=by omega
 refine⟨hk,?_⟩;have hc:=n6 n M f g.base hk h.inv.chain;refine y6 hc _ ?_;have e1:s.segs.map Seg.base=M.map (·.1.base)++[g.base]:=by rw[h.inv.segs];simp[List.map_map,Function.comp_def]
 have e2:(M.drop n).map (·.1.base)++[g.base]=(s.segs.map Seg.base).drop n:=by
  rw[e1,List.drop_append_of_le_length (by simpa using hk),List.map_drop]
 rw[e2,List.getElem?_drop,Nat.add_zero,zG,(iz hn).1,(iz hn).2];rfl
theorem W.trimR (ho:okS k u s) (h:W f S l0 s M g l) (hv:u<1000000000000) {n:Nat} (hn:n<s.segs.length) (h0:n≠0):f<aW s.segs n∧aW s.segs n<=s.next∧bB s (aW s.segs n)=EX l0 f (aM (M++[(g,l)])) (aW s.segs n)∧manB (eK s n).man=true:=by
 have hb:=h.base_k hn;have hf0:0<=f:=by have:=WR.floor ⟨M,g,l,h,rfl⟩;rw[<- this];exact(eC ho).1
 have hce:=dB _ _ _ h.inv.chain;have hcl:=iO _ _ _ h.inv.chain;have hnx:=h.inv.next;have e1:aM M=aM (M.take n)++aM (M.drop n):=by rw[<- cK,zY]
 have h1:f<aW s.segs n:=by
  rw[hb.2];have:0<(aM (M.take n)).length:=by
   cases hM:M with
   | nil=>rw[hM] at hb;simp at hb;omega
   | cons p r =>
    obtain⟨m,rfl⟩:∃ m,n=m+1:=⟨n-1,by omega⟩
    have:=(hce.2 p (by rw[hM];simp)).2.2
    simp[aM];omega
  omega
 have h2:aW s.segs n<=s.next:=by
  rw[hb.2];rw[e1,zA] at hcl;omega
 have h3:=h.stT ho (aW s.segs n) ⟨by omega,h2⟩
 refine⟨h1,h2,h3,?_⟩;have hst:=h.st (aW s.segs n);have hbs:=rm hst.1 hst.2;have hm:=ma h.right;have hi:=h.man_inc;have hv2:=ho.ver;have hv1:1<=s.ver:=hm.1.1;have hl64:=ho.len;have ex:(eK s n).man.segs=(s.segs.map Seg.base).drop n:=by show(s.segs.drop n).map Seg.base=_;rw[List.map_drop]
 have ez:(eK s n).man.size=((aZ (bB s (aW s.segs n))).length:Nat):=rfl;refine v6 ⟨by show 1<=s.ver+1;omega,by show s.ver+1<=_;omega⟩ ⟨by rw[ex];simp;omega,by rw[ex];simp;omega⟩ ?_ (.inr ⟨?_,?_⟩)
 ·rw[ex,ox];exact⟨hi.1.sublist (List.drop_sublist _ _),fun a ha=>hi.2 a (List.mem_of_mem_drop ha)⟩
 ·rw[ex,List.head?_drop,zG,(iz hn).1];simp only[Option.map_some,ne_eq,Option.some.injEq];rw[<- (iz hn).2];omega
 ·rw[ez,h3];omega
theorem W.not_rel {a:Int} (ho:okS k u s) (hf:0<=f∧f<=1099511627776) (ha:f<a∧a<=1099511627776):¬ rel f s (aH a):=by
 rintro(e|⟨b,_,e⟩|⟨_,e⟩)
 ·exact absurd e (jZ _ (by rw[dC];decide))
 ·exact absurd e (cV _ _)
 ·have:=qr (by omega) hf e;omega
variable {k u:Nat} {f:Int} {S:Txt} {l0:List Pr} {s:Sto} {M:List SR} {g:Seg} {l:List Rec}
theorem t7 (ho:okS k u s) (h:W f S l0 s M g l) (n:Nat):(jW s n).Nodup:=by
 have hp:s.segs.Pairwise (fun a b=>a.base<b.base):=List.pairwise_map.1 h.man_inc.1
 unfold jW List.Nodup;rw[List.pairwise_append];refine⟨?_,by split <;> simp,?_⟩
 ·rw[List.pairwise_map];refine List.Pairwise.imp_of_mem (fun {a b} ha hb hab e=>?_) (hp.sublist (List.take_sublist n _))
  have:=dN (ho.seg a (zZ ha)).1 (ho.seg b (zZ hb)).1 e;omega
 ·intro a ha b hb e;obtain⟨c,_,rfl⟩:=List.mem_map.1 ha;split at hb
  ·rw[zV.1 hb] at e;exact cV _ _ e.symm
  ·cases hb
theorem W.cut (ho:okS k u s) (h:W f S l0 s M g l) (hv:u<1000000000000) {n:Nat} (hn:n<s.segs.length) (h0:n≠0) {d1:Dsk} {w:Dsk × Int}
  (hs1:srt d1.files) (hd1:d1.down=false) (hf1:fm d1.files=up (up (fm s.disk.files) (aH (aW s.segs n)) (some (aZ (bB s (aW s.segs n)),(((aZ (bB s (aW s.segs n))).length:Nat):Int)))) [109] (manV (eK s n).man)) (hdn:s.disk.down=false)
  (hO:Out d1 w (jW s n) (Ap (jW s n) (fm d1.files)) none) :
  W (aW s.segs n) (aZ (bB s (aW s.segs n))) (bB s (aW s.segs n)) { eK s n with disk:=w.1 } (M.drop n) g l:=by
 have hT:=h.trimR ho hv hn h0;have hb:=h.base_k hn;have hf0:0<=f:=by have:=WR.floor ⟨M,g,l,h,rfl⟩;rw[<- this];exact(eC ho).1
 have hst:=h.st (aW s.segs n);rw[<- hT.2.2.1] at hst;have hfl:s.floor=f:=WR.floor ⟨M,g,l,h,rfl⟩;have hbo:=wl ho hn;have hlt:∀ a∈s.segs.take n,a.base<aW s.segs n:=by
  intro a ha;have hp:s.segs.Pairwise (fun a b=>a.base<b.base):=List.pairwise_map.1 h.man_inc.1
  obtain⟨i,hi,rfl⟩:=zJ ha;rw[zQ] at hi;rw[List.getElem_take,(iz hn).2];exact(List.pairwise_iff_getElem.1 hp) i n (by omega) hn (by omega)
 have hge:∀ a∈s.segs.drop n,aW s.segs n<=a.base:=by
  intro a ha;have hp:s.segs.Pairwise (fun a b=>a.base<b.base):=List.pairwise_map.1 h.man_inc.1
  obtain⟨i,hi,rfl⟩:=zJ ha;rw[zH] at hi;rw[List.getElem_drop,(iz hn).2];by_cases c:i=0
  ·subst c;simp
  ·have:=(List.pairwise_iff_getElem.1 hp) n (n+i) hn (by omega) (by omega);omega
 have hold:∀ m,m∈jW s n↔(∃ a∈s.segs.take n,m=fileN a.base)∨(0<f∧m=aH f):=by
  intro m;unfold jW;rw[zX,List.mem_map,hfl];constructor
  ·rintro(⟨a,ha,rfl⟩|hm)
   ·exact .inl ⟨a,ha,rfl⟩
   ·split at hm
    ·rename_i c;exact .inr ⟨c,zV.1 hm⟩
    ·cases hm
  ·rintro(⟨a,ha,rfl⟩|⟨hc,rfl⟩)
   ·exact .inl ⟨a,ha,rfl⟩
   ·rw[if_pos hc];exact .inr (by simp)
 have hsd:s.segs.drop n=(M.drop n).map (·.1)++[g]:=by rw[h.inv.segs,List.drop_append_of_le_length (by simpa using hb.1),List.map_drop]
 have k1:[109] ∉ jW s n:=by
  rw[hold];rintro(⟨a,_,e⟩|⟨_,e⟩)
  ·exact absurd e.symm (jZ _ (by rw[bV];decide))
  ·exact absurd e.symm (jZ _ (by rw[dC];decide))
 have k2:aH (aW s.segs n) ∉ jW s n:=by
  rw[hold];rintro(⟨a,_,e⟩|⟨_,e⟩)
  ·exact absurd e (cV _ _)
  ·have:=qr hbo (by omega) e;omega
 have k3:∀ a∈s.segs.drop n,fileN a.base ∉ jW s n:=by
  intro a ha;rw[hold];rintro(⟨b,hb2,e⟩|⟨_,e⟩)
  ·have:=dN (ho.seg a (List.mem_of_mem_drop ha)).1 (ho.seg b (zZ hb2)).1 e;have:=hge a ha;have:=hlt b hb2;omega
  ·exact absurd e.symm (cV _ _)
 have hkeep:∀ m,m ∉ jW s n->fm w.1.files m=fm d1.files m:=by
  intro m hm;rcases hO.2.2 with⟨_,_,hf⟩|⟨_,hc,_⟩|⟨_,_,hf⟩
  ·rw[hf];exact if_neg hm
  ·cases hc
  ·exact hf m hm
 have hfile:∀ a∈s.segs.drop n,fm w.1.files (fileN a.base)=fm s.disk.files (fileN a.base):=by
  intro a ha;rw[hkeep _ (k3 a ha),hf1,bn _ _ (jZ _ (by rw[bV];decide)),bn _ _ (fun e=>cV _ _ e.symm)]
 have hpm:∀ p∈M.drop n++[(g,l)],p.1∈s.segs.drop n:=by
  intro p hp;rw[hsd];rcases zX.1 hp with hp|hp
  ·exact List.mem_append_left _ (List.mem_map_of_mem hp)
  ·rw[zV.1 hp];simp
 have hpM:∀ p∈M.drop n++[(g,l)],p∈M++[(g,l)]:=by
  intro p hp;rcases zX.1 hp with hp|hp
  ·exact List.mem_append_left _ (List.mem_of_mem_drop hp)
  ·exact List.mem_append_right _ hp
 refine⟨⟨hsd,fun p hp=>?_,?_,h.inv.next,h.inv.sure⟩,.inr ⟨by omega,?_,qZ hst.1 hst.2,rfl,rfl⟩,?_,hT.2.2.2,fun p hp=>?_,?_,h.lo,fun hd m hm=>?_⟩
 ·have hfo:=h.inv.file p (hpM p hp);refine hfo.keep fun hh=>?_
  rw[lA ho.dsk.srt] at hh;rw[lA hO.2.1,hfile _ (hpm p hp)];exact hh
 ·have:=n6 n M f g.base hb.1 h.inv.chain;rw[<- hb.2] at this;exact this
 ·show fm w.1.files _=_;rw[hkeep _ k2,hf1,bn _ _ (jZ _ (by rw[dC];decide)),cU]
 ·show fm w.1.files _=_;rw[hkeep _ k1,hf1,cU];rfl
 ·show fm w.1.files _=_;rw[hfile _ (hpm p (List.mem_append_left _ hp))];exact h.full p (List.mem_of_mem_drop hp)
 ·obtain⟨q,h1,h2⟩:=h.last;exact⟨q,by show fm w.1.files _=_;rw[hfile _ (hpm (g,l) (by simp))];exact h1,h2⟩
 ·have hm2:fm w.1.files m≠none:=hm;have hd2:w.1.down=false:=hd;rcases hO.2.2 with⟨_,_,hf⟩|⟨_,hc,_⟩|⟨_,hd3,_⟩
  ·rw[hf] at hm2;unfold Ap at hm2;by_cases c:m∈jW s n
   ·rw[if_pos c] at hm2;exact absurd rfl hm2
   ·rw[if_neg c,hf1] at hm2;by_cases c1:m=[109]
    ·exact .inl c1
    ·rw[bn _ _ c1] at hm2;by_cases c2:m=aH (aW s.segs n)
     ·exact .inr (.inr ⟨by omega,c2⟩)
     ·rw[bn _ _ c2] at hm2;rcases h.only hdn m hm2 with e|⟨a,ha,e⟩|⟨e1,e2⟩
      ·exact .inl e
      ·rw[<- zY n s.segs] at ha;rcases zX.1 ha with ha|ha
       ·exact absurd ((hold m).2 (.inl ⟨a,ha,e⟩)) c
       ·exact .inr (.inl ⟨a,ha,e⟩)
      ·exact absurd ((hold m).2 (.inr ⟨e1,e2⟩)) c
  ·cases hc
  ·rw[hd2] at hd3;cases hd3
theorem DN (h:Inv f s M g l) {n:Nat} (hn:n<=M.length):aM (M.drop n++[(g,l)])=(aM (M++[(g,l)])).drop (aM (M.take n)).length:=by
 have e:aM (M++[(g,l)])=aM (M.take n)++aM (M.drop n++[(g,l)]):=by
  rw[<- cK,<- List.append_assoc,zY]
 rw[e,List.drop_left]
theorem WR.trim {R:List Rec} (ho:okS k u s) (h:WR f S l0 s R) (hv:u<1000000000000) (keep count:Int) :
  ∃ f' S' l0',f<=f'∧f'<=s.next∧l0'=EX l0 f R f'∧WR f' S' l0' (cM s keep count).1 (R.drop (f'-f).toNat)∧(cM s keep count).1.next=s.next∧(cM s keep count).1.sure=s.sure∧(cM s keep count).1.disk.cap=s.disk.cap ∧
   ((cM s keep count).2=0∨(cM s keep count).2=9∨((cM s keep count).2=10∧(cM s keep count).1.disk.down=true)) ∧
   ((cM s keep count).2=0->eD (cM s keep count).1.segs keep count=0)∧((cM s keep count).2≠10->(cM s keep count).1.disk.down=s.disk.down):=by
 have h0:=h;have hfn:=h.sure;have hs0:WR f S l0 s (R.drop (f-f).toNat):=by rw[Int.sub_self];exact h0
 have hl0:l0=EX l0 f R f:=by unfold EX;rw[Int.sub_self];rfl
 obtain⟨M,g,l,h,rfl⟩:=h;unfold cM;by_cases c0:eD s.segs keep count=0
 ·rw[if_pos c0];exact⟨f,S,l0,Int.le_refl _,by omega,hl0,hs0,rfl,rfl,rfl,.inl rfl,fun _=>c0,fun _=>rfl⟩
 ·rw[if_neg c0];have hn:=tZ s.segs keep count c0;have hpk:eD (s.segs.drop (eD s.segs keep count)) keep count=0:=by
   have hst:dV s.segs keep count (eD s.segs keep count)=true:=by
    unfold eD at *;cases hf:(List.range s.segs.length).find? (dV s.segs keep count) with
    | none=>rw[hf] at c0;exact absurd rfl c0
    | some j=>exact List.find?_some hf
   refine oR _ keep count 0 (by simp;omega) ?_ (fun i hi=>absurd hi (by omega))
   unfold dV at hst ⊢;rw[List.drop_zero];exact hst
  generalize eD s.segs keep count=n at *;have hT:=h.trimR ho hv hn c0;have hb:=h.base_k hn;have hbo:=wl ho hn;have hf0:0<=f:=by have:=WR.floor h0;rw[<- this];exact(eC ho).1
  have hnr:¬ rel f s (aH (aW s.segs n)):=W.not_rel ho (by omega) ⟨hT.1,hbo.2⟩
  have h110:s.disk.down=false->fm s.disk.files [110]=none:=fun hd=>by
   cases hx:fm s.disk.files [110] with
   | none=>rfl
   | some v=>exact absurd (h.only hd [110] (by rw[hx];simp)) (mD f s)
  have hsn:s.disk.down=false->fm s.disk.files (aH (aW s.segs n))=none:=fun hd=>by
   cases hx:fm s.disk.files (aH (aW s.segs n)) with
   | none=>rfl
   | some v=>exact absurd (h.only hd _ (by rw[hx];simp)) hnr
  have hO:=JN ho.dsk.srt (n:=aH (aW s.segs n)) (x:=aZ (bB s (aW s.segs n))) hT.2.2.2 (HR _) (z8 _ (by rw[dC];decide)) h110 hsn
  have hold0:∀ q,Bg s n q=uq (jW s n) q:=fun q=>AK s n q
  have hX:∀ m∈[aH (aW s.segs n),[110]],¬ rel f s m:=by
   intro m hm;rcases List.mem_cons.1 hm with rfl|hm
   ·exact hnr
   ·rw[zV.1 hm];exact mD f s
  have etk:tv s n=if(nQ s.disk (aH (aW s.segs n)) (aZ (bB s (aW s.segs n))) (eK s n).man).2≠0 then({ s with disk:=(nQ s.disk (aH (aW s.segs n)) (aZ (bB s (aW s.segs n))) (eK s n).man).1 },(nQ s.disk (aH (aW s.segs n)) (aZ (bB s (aW s.segs n))) (eK s n).man).2) else({ eK s n with disk:=(uq (jW s n) (nQ s.disk (aH (aW s.segs n)) (aZ (bB s (aW s.segs n))) (eK s n).man)).1 },(uq (jW s n) (nQ s.disk (aH (aW s.segs n)) (aZ (bB s (aW s.segs n))) (eK s n).man)).2):=by
   unfold tv;simp only[hold0]
  rw[etk];clear etk;generalize nQ s.disk (aH (aW s.segs n)) (aZ (bB s (aW s.segs n))) (eK s n).man=e at *;by_cases c1:e.2=0
  ·rw[if_neg (by simp[c1])]
   rcases hO.2.2 with⟨_,hd,hf⟩|⟨_,_,e9,_⟩|⟨e10,_⟩
   ·have hdn:=hO.1.up_of hd;have hg:=vS (jW s n) e.1 hO.2.1 (t7 ho h n) hd (fun m hm=>by
     have hne:m≠[109]∧m≠aH (aW s.segs n)∧fm s.disk.files m≠none:=by
      unfold jW at hm;rcases zX.1 hm with hm|hm
      ·obtain⟨a,ha,rfl⟩:=List.mem_map.1 hm;refine⟨jZ _ (by rw[bV];decide),fun e=>cV _ _ e.symm,?_⟩
       have ha:=zZ ha;rw[h.inv.segs] at ha;rcases zX.1 ha with ha|ha
       ·obtain⟨p,hp,rfl⟩:=List.mem_map.1 ha;rw[h.full p hp];simp
       ·rw[zV.1 ha];obtain⟨q,h1,_⟩:=h.last;rw[h1];simp
      ·rw[WR.floor h0] at hm;split at hm
       ·rename_i c;rw[zV.1 hm];refine⟨jZ _ (by rw[dC];decide),fun e=>?_,?_⟩
        ·have:=qr (by omega) hbo e;omega
        ·rcases h.snp with⟨h1,_⟩|⟨_,h1,_⟩
         ·omega
         ·rw[h1];simp
       ·cases hm
     rw[hf,bn _ _ hne.1,bn _ _ hne.2.1];exact hne.2.2)
    have hp0:e=(e.1,0):=gR c1;rw[<- hp0] at hg;have hw:=h.cut ho hv hn c0 hO.2.1 hd hf hdn hg;have hr:=DN h.inv hb.1;have hfd:(aW s.segs n-f).toNat=(aM (M.take n)).length:=by omega
    refine⟨aW s.segs n,_,bB s (aW s.segs n),by omega,hT.2.1,hT.2.2.1,⟨M.drop n,g,l,hw,by rw[hr,hfd]⟩,rfl,rfl,hg.1.cap.trans hO.1.cap,?_,fun _=>hpk,fun hne=>?_⟩
    ·rcases hg.2.2 with⟨a,_⟩|⟨_,a,_⟩|⟨a,b,_⟩
     ·exact .inl a
     ·cases a
     ·exact .inr (.inr ⟨a,b⟩)
    ·rcases hg.2.2 with⟨_,a,_⟩|⟨_,a,_⟩|⟨a,b,_⟩
     ·exact a.trans hdn.symm
     ·cases a
     ·exact absurd a hne
   ·rw[e9] at c1;cases c1
   ·rw[e10] at c1;cases c1
  ·rw[if_pos c1];have:=h.fail ho.dsk.srt hO c1 hX;refine⟨f,S,l0,Int.le_refl _,by omega,hl0,by rw[Int.sub_self];exact⟨M,g,l,this.1,rfl⟩,rfl,rfl,hO.1.cap,?_,fun h=>absurd h c1,fun hne=>?_⟩
   ·rcases this.2 with⟨a,_⟩|⟨a,b⟩
    ·exact .inr (.inl a)
    ·exact .inr (.inr ⟨a,b⟩)
   ·rcases this.2 with⟨_,_,a⟩|⟨a,_⟩
    ·exact a.trans (hO.1.up_of a).symm
    ·exact absurd a hne
structure Ac where
 kind:Int
 n:Int
 m:Int
 data:List UInt8
 deriving DecidableEq
def Ac.enc (e:Ac):List D:=[.i .i64 e.kind,.i .i64 e.n,.i .i64 e.m,.s e.data]
def Ac.ok (e:Ac):Prop:=(-9223372036854775808<=e.kind∧e.kind<9223372036854775808)∧(-9223372036854775808<=e.n∧e.n<9223372036854775808)∧(-9223372036854775808<=e.m∧e.m<9223372036854775808)∧e.data.length<=9223372036854775807
def Ac.ty:List Ty:=[.i .i64,.i .i64,.i .i64,.s]
def QH (seg i:Int) (s:Sto) (a:Ac):Sto :=
 if a.kind=1 then(aU s).1 else if a.kind=2 then(cM s a.n a.m).1 else if a.kind=3 then { s with disk:=RM s.disk a.n } else if a.kind=4 then { s with disk:=Sf s.disk a.n } else(eu s seg ⟨s.next,i,a.data⟩).1
def OY (seg:Int):Int->List Ac->Sto->Sto × Bool
 | _,[],s=>(s,true)
 | i,a::l,s=>if 64<a.data.length then(s,false) else OY seg (i+1) l (QH seg i s a)
def Pg (seg:Int) (l:List Ac):Sto × Bool:=if 40<l.length then((aG d0).1,false) else OY seg 0 l (aG d0).1
structure PI (i:Nat) (s:Sto):Prop where
 ok:okS (10+2*i) (2000+23000*i) s
 next:s.next<=i
 base:∀ g∈s.segs,g.base<=s.next
theorem No:PI 0 (aG d0).1:=by
 obtain⟨o1,hd1,n1,s1⟩:=Ae d0_ok Br;refine⟨o1.up (by omega) (by omega),by rw[n1];omega,fun g hg=>?_⟩
 have e:(aG d0).1.segs=[⟨0,0,0⟩]:=by decide +kernel
 rw[e,zV] at hg;rw[hg,n1];exact Int.le_refl _
variable {k u:Nat} {f:Int} {S:Txt} {l0:List Pr} {s:Sto} {M:List SR} {g:Seg} {l:List Rec}
theorem Aw {d:Dsk} (hs:srt d.files) (hF:d.down=false->∀ n,fm d.files n=none) :
  Out d ((aG d).1.disk,(aG d).2) [fileN 0,[110]] (up (up (fm d.files) (fileN 0) (some ([],0))) [109] (manV ⟨1,[0],0,0⟩)) (some (up (fm d.files) (fileN 0) (some ([],0)))) ∧
   ((aG d).2=0->(aG d).1=⟨(aG d).1.disk,1,[⟨0,0,0⟩],0,0,0,0⟩)∧((aG d).2≠0->(aG d).1=⟨(aG d).1.disk,0,[],0,0,0,0⟩):=by
 have e1:bL (fileN 0) (d,0)=aj d (bm d.files (fileN 0)):=bv _ _;have hO:Out d (if(aj d (bm d.files (fileN 0))).2=0 then bT ⟨1,[0],0,0⟩ (aj d (bm d.files (fileN 0))) else aj d (bm d.files (fileN 0))) [fileN 0,[110]] (up (up (fm d.files) (fileN 0) (some ([],0))) [109] (manV ⟨1,[0],0,0⟩)) (some (up (fm d.files) (fileN 0) (some ([],0)))):=by
  by_cases hd:d.down=true
  ·rw[ku hd,if_neg (by simp)]
   exact .dn hs hd _ _ _
  ·have hF:=hF (by simpa using hd)
   refine Out.seq (mO hs (Af 0) (hF _)) (g1:=none) (g2:=some (up (fm d.files) (fileN 0) (some ([],0)))) ?_ ?_ (by simp) (X2:=[[110]]) (by simp) (by simp) (by simp)
   ·intro h0 hd1 hf1 hs1;rw[gR h0];have h3:=o6 hs1 (m:=⟨1,[0],0,0⟩) (by decide) (fun _=>by rw[hf1,bn _ _ (z8 _ (by rw[bV];decide)).symm];exact hF _)
    rw[hf1] at h3;exact h3
   ·intro n hn;exact bn _ _ (fun e=>hn (by simp[e]))
 unfold aG;simp only[e1];generalize (if(aj d (bm d.files (fileN 0))).2=0 then bT ⟨1,[0],0,0⟩ (aj d (bm d.files (fileN 0))) else aj d (bm d.files (fileN 0)))=w at *
 by_cases c:w.2=0
 ·rw[if_pos c];refine⟨?_,fun _=>rfl,fun h=>absurd rfl h⟩
  rw[gR c] at hO;exact hO
 ·rw[if_neg c];exact⟨hO,fun h=>absurd h c,fun _=>rfl⟩
theorem E3 {d:Dsk} (hs:srt d.files) (hF:d.down=false->∀ n,fm d.files n=none) (h0:(aG d).2=0):WR 0 [] [] (aG d).1 []∧(aG d).1.disk.down=false:=by
 have hc:=Aw hs hF;obtain⟨hO,he,_⟩:=hc;have he:=he h0;rcases hO.2.2 with⟨_,hd,hf⟩|⟨_,_,e,_⟩|⟨e,_⟩
 ·have hdn:=hO.1.up_of hd;have hF:=hF hdn;have hd2:(aG d).1.disk.down=false:=hd;refine⟨⟨[],⟨0,0,0⟩,[],?_,rfl⟩,hd2⟩;rw[he];generalize (aG d).1.disk=w at *;refine⟨⟨rfl,fun p hp=>?_,rfl,rfl,by simp⟩,.inl ⟨rfl,rfl,rfl,rfl,rfl⟩,?_,(show manB ⟨1,[0],0,0⟩=true by decide),fun p hp=>(by cases hp),⟨0,?_,by simp[rowS],by simp⟩,Int.le_refl _,fun _ n hn=>?_⟩
  ·rw[List.nil_append,zV] at hp;subst hp;refine⟨(lA hO.2.1 _ _).2 ⟨0,?_⟩,fun r hr=>(by cases hr),fun i hi=>(by simp at hi),rfl,rfl⟩
   rw[hf,bn _ _ (jZ _ (by rw[bV];decide)),cU];rfl
  ·rw[hf,cU];rfl
  ·rw[hf,bn _ _ (jZ _ (by rw[bV];decide)),cU];rfl
  ·rw[hf] at hn;by_cases a1:n=[109]
   ·exact .inl a1
   ·rw[bn _ _ a1] at hn;by_cases a2:n=fileN 0
    ·exact .inr (.inl ⟨⟨0,0,0⟩,by simp,a2⟩)
    ·rw[bn _ _ a2,hF] at hn;exact absurd rfl hn
 ·exact absurd h0 (by rw[show(aG d).2=9 from e];decide)
 ·exact absurd h0 (by rw[show(aG d).2=10 from e];decide)
theorem WR.sync {R:List Rec} (ho:okS k u s) (h:WR f S l0 s R):WR f S l0 (aU s).1 R∧(((aU s).2=0∧(aU s).1.sure=s.next∧(aU s).1.disk.down=false)∨((aU s).2=10∧(aU s).1.disk.down=true∧(aU s).1.sure=s.sure))∧(aU s).1.disk.cap=s.disk.cap:=by
 obtain⟨M,g,l,h,rfl⟩:=h;have:=h.sync ho;exact⟨⟨M,g,l,this.1,rfl⟩,this.2⟩
variable {k u:Nat} {f:Int} {S:Txt} {l0:List Pr} {s:Sto} {M:List SR} {g:Seg} {l:List Rec}
theorem If (h:okS k u s) (hb:∀ g∈s.segs,g.base<=s.floor+40) (keep count:Int):okS (k+2) (u+23000) (cM s keep count).1:=by
 unfold cM;split
 ·exact h.up (by omega) (by omega)
 ·rename_i hne;have hlt:=tZ s.segs keep count hne;exact Ib h hlt (by rw[(iz hlt).2];exact hb _ (zN hlt))
theorem WR.stT {R:List Rec} (ho:okS k u s) (h:WR f S l0 s R) (off:Int) (h1:f<=off∧off<=s.next):bB s off=EX l0 f R off:=by
 obtain⟨M,g,l,h,rfl⟩:=h;exact h.stT ho off h1
theorem WR.same_state {R:List Rec} (ho:okS k u s) (h:WR f S l0 s R):∀ a∈s.segs,mq s a.base=bB s a.base:=by
 obtain⟨M,g,l,h,rfl⟩:=h;exact h.same_state ho
theorem WR.rget {R:List Rec} (ho:okS k u s) (h:WR f S l0 s R) (j:Nat) (hj:j<R.length):lG s (f+j)=.tup [(true,R[j].enc.map .d),(false,[zI 0])]:=by
 have hn:=h.next;have hf0:0<=f:=by have:=h.floor;rw[<- this];exact(eC ho).1
 obtain⟨M,g,l,h,rfl⟩:=h;unfold lG jr;rw[if_neg (by omega),h.inv.scans ho,xN h.inv.num j hj]
def cZ:List Txt->Dsk->Dsk × Int
 | [],d=>(d,9)
 | n::l,d=>if(aj d (bP d.files n)).2≠0 then aj d (bP d.files n) else cZ l (aj d (bP d.files n)).1
def eS (n:Txt):List D:=[.s n]
theorem iU {k u:Nat} (d:Dsk) (hd:okN k u d) (hk:k<=900000) (hu:u<=900000000000) (l:List Txt) (hl:l.length<=1000):call 157 [.agg d.l,vl (l.map eS)] []=some (aP (cZ l d),[]):=by
 obtain⟨Z,hZ⟩:∃ Z,Z=cZ l d:=⟨_,rfl⟩;rw[<- hZ];obtain⟨⟨zfl,zcp,zar,zlf,zdn⟩,ze⟩:=Z;simp only[aP,Dsk.l];apply ae QR rfl;obtain⟨dfl,dcp,dar,dlf,ddn⟩:=d;refine bC ?_ LI.eq_1;refine ax (m:=0) (σ:=Nat × Dsk) (fun t=>l.length-t.1) (fun t=>t.1<=l.length∧okN k u t.2∧cZ (l.drop t.1) t.2=(⟨zfl,zcp,zar,zlf,zdn⟩,ze)) (fun t=>[V.one (.p 0 0),V.one (.p 1 0),vl (l.map eS),vi l.length,vi t.1])
  (fun t=>[.cells [.d (.l (t.2.files.map Fil.enc)),zI t.2.cap,zB t.2.armed,zI t.2.left,zB t.2.down],.cells [.ns,zI 0,zB false,zI 0,zB false]])
  (fun _=>(V.tup [(true,[.d (.l (zfl.map Fil.enc)),zI zcp,zB zar,zI zlf,zB zdn]),(false,[zI ze])],[])) ?_ (0,⟨dfl,dcp,dar,dlf,ddn⟩) ⟨zP _,hd,hZ.symm⟩ _ _ ?_
 rotate_left
 ·exact bO
 rintro⟨i,⟨fl,cp,ar,lf,dn⟩⟩ ⟨h1,h2,h3⟩ R hR;simp only at h1 h2 h3 ⊢;by_cases c:i<l.length
 ·have hc:(i:Int)<(l.length:Int):=by omega
  rw[zD c,cZ] at h3;have g1:(l.map eS)[i]?=some [.s l[i]]:=by rw[zG,zE c];rfl
  generalize l[i]=n at *;have g2:=f7 ⟨fl,cp,ar,lf,dn⟩ (h2.ok (by omega) (by omega)) n
  have kk:=dZ (s:=(⟨fl,cp,ar,lf,dn⟩,0)) h2 n;rw[show dF n (⟨fl,cp,ar,lf,dn⟩,0)=aj ⟨fl,cp,ar,lf,dn⟩ (bP fl n) from bv _ _] at kk
  simp only at g2 h3;generalize aj ⟨fl,cp,ar,lf,dn⟩ (bP fl n)=q at *;obtain⟨⟨qfl,qcp,qar,qlf,qdn⟩,qe⟩:=q;simp only[aP,Dsk.l] at g2 h3;by_cases c2:qe=0
  ·subst c2;rw[if_neg (by simp)] at h3
   have hR':=hR (i+1,⟨qfl,qcp,qar,qlf,qdn⟩) (by simp only[];omega) ⟨by simp only[];omega,kk,h3⟩
   refine dm ?_ w6.eq_1 (zT hc) g1 g2;exact hR' _ _ bO
  ·rw[if_pos c2] at h3;cases h3;refine dm ?_ w6.eq_1 (zT hc) g1 g2 c2;try simp[trim,c2]
 ·have hc:¬ (i:Int)<(l.length:Int):=by omega
  rw[zC (by omega),cZ] at h3
  cases h3;refine dm ?_ w6.eq_1 LI.eq_1 (zF hc);try simp[trim]
theorem tT (d:Dsk) {k u:Nat} (hd:okN k u d) (hk:k<=900000) (hu:u<=900000000000) (m:Man) (hm:m.ok):call 116 [.agg d.l,.agg m.l] []=some (aP (bT m (d,0)),[]):=by
 have q:=t8 (d,0) hd hk hu m hm;apply ae Sj rfl;generalize bT m (d,0)=w at *;obtain⟨mv,ms,mz,mm⟩:=m;obtain⟨fl,cp,ar,lf,dn⟩:=d;obtain⟨⟨f2,cp2,ar2,lf2,dn2⟩,e2⟩:=w;simp only[eU,Dsk.l,Man.l,List.cons_append,List.nil_append] at q;have r:∀ P Q R:Box,ak call 138 [.one (.p 3 0),.agg [zI mv,.d (.l (ms.map eI)),zI mz,zW mm]] [P,Q,R,.cells [.d (.l (fl.map Fil.enc)),zI cp,zB ar,zI lf,zB dn,zI 0]]=some (.tup [],[P,Q,R,.cells [.d (.l (f2.map Fil.enc)),zI cp2,zB ar2,zI lf2,zB dn2,zI e2]]):=fun P Q R =>
  aD (ids:=[3]) rfl rfl rfl q rfl
 (simp(disch:=first|decide|omega|(intros;exact aN rfl rfl)|simp only[am]) only[gu,PJ,Dsk.l,Man.l,↓r,go_sem,seval,aO,gc,A.kind,A.xs,bX,A.isN])
 try simp[trim,aP,Dsk.l]
theorem B9:∀ (l:List Fil) (n:Nat),(∀ f∈l,f.data.length<=n)->usedF l<=l.length*n
 | [],n,_=>by simp[usedF]
 | f::l,n,h=>by
  have ih:=B9 l n fun x hx=>h x (List.mem_cons_of_mem _ hx)
  have h1:=h f (by simp)
  have e:usedF (f::l)=f.data.length+usedF l:=by simp[usedF]
  rw[e,List.length_cons,Nat.add_mul];omega
def zz:List Txt->Dsk->Dsk × Int
 | [],d=>(d,0)
 | n::l,d=>if(aj d (bP d.files n)).2=0 then zz l (aj d (bP d.files n)).1 else aj d (bP d.files n)
theorem vH (d:Dsk) (hd:d.ok) (n:Txt):call 158 [.agg d.l,.one (.ip [.s n])] []=some (aP (aj d (bP d.files n)),[]):=by
 have h:=f7 d hd n;generalize aj d (bP d.files n)=q at *;obtain⟨⟨fl,cp,ar,lf,dn⟩,qe⟩:=q;obtain⟨fl0,cp0,ar0,lf0,dn0⟩:=d;simp only[aP,Dsk.l] at h ⊢;apply ae Sm rfl;refine bC ?_ Om.eq_1 h;try simp[trim]
def zj (n:Txt):List D:=[.fn 158 [[.s n]],.l []]
theorem Ff {k u:Nat} (d:Dsk) (hd:okN k u d) (hk:k<=900000) (hu:u<=900000000000) (l:List Txt) (hl:l.length<=1000):call 122 [.agg d.l,vl (l.map zj)] []=some (aP (zz l d),[]):=by
 obtain⟨Z,hZ⟩:∃ Z,Z=zz l d:=⟨_,rfl⟩;rw[<- hZ];obtain⟨⟨zfl,zcp,zar,zlf,zdn⟩,ze⟩:=Z;simp only[aP,Dsk.l];apply ae PX rfl;obtain⟨dfl,dcp,dar,dlf,ddn⟩:=d;refine bC ?_ Gr.eq_1;refine ax (m:=0) (σ:=Nat × Dsk) (fun t=>l.length-t.1) (fun t=>t.1<=l.length∧okN k u t.2∧zz (l.drop t.1) t.2=(⟨zfl,zcp,zar,zlf,zdn⟩,ze)) (fun t=>[V.one (.p 0 0),V.one (.p 1 0),vl (l.map zj),vi l.length,vi t.1])
  (fun t=>[.cells [.d (.l (t.2.files.map Fil.enc)),zI t.2.cap,zB t.2.armed,zI t.2.left,zB t.2.down],.cells [.ns,zI 0,zB false,zI 0,zB false]])
  (fun _=>(V.tup [(true,[.d (.l (zfl.map Fil.enc)),zI zcp,zB zar,zI zlf,zB zdn]),(false,[zI ze])],[])) ?_ (0,⟨dfl,dcp,dar,dlf,ddn⟩) ⟨zP _,hd,hZ.symm⟩ _ _ ?_
 rotate_left
 ·exact bO
 rintro⟨i,⟨fl,cp,ar,lf,dn⟩⟩ ⟨h1,h2,h3⟩ R hR;simp only at h1 h2 h3 ⊢;by_cases c:i<l.length
 ·have hc:(i:Int)<(l.length:Int):=by omega
  rw[zD c,zz] at h3;have g1:(l.map zj)[i]?=some [.fn 158 [[.s l[i]]],.l []]:=by rw[zG,zE c];rfl
  generalize l[i]=n at *;have g2:=vH ⟨fl,cp,ar,lf,dn⟩ (h2.ok (by omega) (by omega)) n
  have kk:=dZ (s:=(⟨fl,cp,ar,lf,dn⟩,0)) h2 n;rw[show dF n (⟨fl,cp,ar,lf,dn⟩,0)=aj ⟨fl,cp,ar,lf,dn⟩ (bP fl n) from bv _ _] at kk
  simp only at g2 h3;generalize aj ⟨fl,cp,ar,lf,dn⟩ (bP fl n)=q at *;have hb0:=iU q.1 kk hk hu [] (by decide)
  obtain⟨⟨qfl,qcp,qar,qlf,qdn⟩,qe⟩:=q;simp only[aP,Dsk.l,List.map_nil,cZ] at g2 h3 hb0;have g3:∀ H:Hp,ak call 158 [.agg [.d (.l (fl.map Fil.enc)),zI cp,zB ar,zI lf,zB dn],.one (.ip [.s n])] H=some (V.tup [(true,[.d (.l (qfl.map Fil.enc)),zI qcp,zB qar,zI qlf,zB qdn]),(false,[zI qe])],H):=fun H=>callIso_pure rfl g2 rfl
  by_cases c2:qe=0
  ·subst c2;rw[if_pos rfl] at h3;have hR':=hR (i+1,⟨qfl,qcp,qar,qlf,qdn⟩) (by simp only[];omega) ⟨by simp only[];omega,kk,h3⟩
   refine dm ?_ dy.eq_1 (zT hc) g1 g3;exact hR' _ _ bO
  ·rw[if_neg c2] at h3;cases h3;by_cases c9:ze=9
   ·subst c9;refine dm ?_ dy.eq_1 (zT hc) g1 g3 hb0;try simp[trim,c2]
   ·refine dm ?_ dy.eq_1 (zT hc) g1 g3 c2 c9;try simp[trim,c2]
 ·have hc:¬ (i:Int)<(l.length:Int):=by omega
  rw[zC (by omega),zz] at h3
  cases h3;refine dm ?_ dy.eq_1 Gr.eq_1 (zF hc);try simp[trim]
theorem qK (n:Txt):call 128 [vs n] []=some (.agg [.f 158 [0],.ns],[.cells [zS n],.cells [.f 158 [0],.ns]]):=by
 apply ae RB rfl;have htr:∀ H:Hp,trim 0 (.agg [.f 158 [0],.ns]) H=(.agg [.f 158 [0],.ns],H):=fun H=>by simp[trim,V.refs,L.refs]
 (simp(disch:=first|decide|omega|(intros;exact aN rfl rfl)|simp only[am]) only[gu,PG,↓htr,go_sem,seval,aO])
theorem I1 (d:Dsk) (hd:d.ok) (n:Txt):call 123 [.agg d.l,.one (.p 0 0)] [.cells [zS n]]=some (aP (aj d (bm d.files n)),[.cells [zS n]]):=by
 have h:=jA d hd n;generalize aj d (bm d.files n)=q at *;obtain⟨⟨fl,cp,ar,lf,dn⟩,qe⟩:=q;obtain⟨fl0,cp0,ar0,lf0,dn0⟩:=d;simp only[aP,Dsk.l] at h ⊢;apply ae QP rfl;refine bC ?_ Pk.eq_1 h;try simp[zR]
theorem I2 (d:Dsk) (hd:d.ok) (n:Txt):call 126 [.agg d.l,.one (.p 0 0)] [.cells [zS n]]=some (aP (aj d (bm d.files n)),[.cells [zS n]]):=by
 have h:=jA d hd n;generalize aj d (bm d.files n)=q at *;obtain⟨⟨fl,cp,ar,lf,dn⟩,qe⟩:=q;obtain⟨fl0,cp0,ar0,lf0,dn0⟩:=d;simp only[aP,Dsk.l] at h ⊢;apply ae QL rfl;refine bC ?_ Qa.eq_1 h;try simp[zR]
theorem J0 (d:Dsk) (hd:d.ok) (n:Txt):call 125 [.agg d.l,.one (.p 0 0)] [.cells [zS n]]=some (aP (aj d (ct d.files n)),[.cells [zS n]]):=by
 have h:=ne d hd n;generalize aj d (ct d.files n)=q at *;obtain⟨⟨fl,cp,ar,lf,dn⟩,qe⟩:=q;obtain⟨fl0,cp0,ar0,lf0,dn0⟩:=d;simp only[aP,Dsk.l] at h ⊢;apply ae Sy rfl;refine bC ?_ P6.eq_1 h;try simp[zR]
theorem Ke (d:Dsk) (hd:d.ok) (n x:Txt) (hx:x.length<=1000000000000):call 124 [.agg d.l,.one (.p 0 0),.one (.p 1 0)] [.cells [zS n],.cells [zS x]]=some (aP (aj d (bK d.files d.cap n x)),[.cells [zS n],.cells [zS x]]):=by
 have h:=jP d hd n x hx;generalize aj d (bK d.files d.cap n x)=q at *;obtain⟨⟨fl,cp,ar,lf,dn⟩,qe⟩:=q;obtain⟨fl0,cp0,ar0,lf0,dn0⟩:=d;simp only[aP,Dsk.l] at h ⊢;apply ae Re rfl;refine bC ?_ OF.eq_1 h;try simp[zR]
def fp (ver at_:Int) (x:Txt):Sto:=⟨⟨[],0,false,0,false⟩,ver,[⟨at_,0,0⟩],at_,at_,x.length,cB x⟩
def IW (ver at_:Int) (x:Txt) (b:Nat):List L:=[.ns,zI 0,zB false,zI 0,zB false,zI ver,.sl b 3 0 1,zI at_,zI at_,zI x.length,zW (cB x)]
theorem J3 (ver at_:Int) (x:Txt):(fp ver at_ x).man.ok:=⟨by show 1<=1000000;decide,pd x⟩
theorem Ja {k u:Nat} (d:Dsk) (hd:okN k u d) (hk:k<=900000) (hu:u<=900000000000) (ver at_:Int) (x:Txt) (fz:Nat) (hfz:fz<=1):call 127 [.agg d.l,.one (.p 0 0)] [.cells (IW ver at_ x 1),.arr 3 [[.i .i64 at_,.i .i64 0,.i .i64 0]] fz]=some (aP (bT (fp ver at_ x).man (d,0)),[.cells (IW ver at_ x 1),.arr 3 [[.i .i64 at_,.i .i64 0,.i .i64 0]] 1]):=by
 have q1:=tU (fp ver at_ x) (by show 1<=1000000;decide)
 have q2:=tT d hd hk hu (fp ver at_ x).man (J3 ver at_ x);generalize bT (fp ver at_ x).man (d,0)=q at *;obtain⟨⟨fl,cp,ar,lf,dn⟩,qe⟩:=q;obtain⟨fl0,cp0,ar0,lf0,dn0⟩:=d;have hm:max fz 1=1:=by omega
 simp only[aP,Dsk.l,fp,IW,Sto.l,Sto.man,Man.l,Seg.enc,List.map_cons,List.map_nil,List.cons_append,List.nil_append,eI] at q1 q2 ⊢;apply ae Q5 rfl;(simp(disch:=first|decide|omega|(intros;exact aN rfl rfl)|simp only[am]) only[gu,Pu,↓xb,Nh,ir,jw,List.all_cons,List.all_nil,Bool.and_self,cond_true,cu,q1,q2,hm,go_sem,seval,aO,gc,A.kind,A.xs,bX,A.isN])
 try simp[zR]
end Go.Proofs.YtgoifbjgmgbihaaGreat
