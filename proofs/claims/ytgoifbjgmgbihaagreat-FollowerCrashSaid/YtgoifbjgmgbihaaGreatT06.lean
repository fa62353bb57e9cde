import Derived.Test.YtgoifbjgmgbihaaGreatT05
import Derived.Test.YtgoifbjgmgbihaaGreatT04
import Derived.Test.YtgoifbjgmgbihaaGreatT03
set_option linter.unusedSimpArgs false
set_option linter.unusedVariables false
set_option maxRecDepth 20000
set_option maxHeartbeats 16000000
namespace Go.Proofs.YtgoifbjgmgbihaaGreat
open Go.Vi
variable {k u:Nat} {f:Int} {S:Txt} {l0:List Pr} {s:Sto} {M:List SR} {g:Seg} {l:List Rec}
theorem W.file_ne (ho:okS k u s) (h:W f S l0 s M g l):∀ p∈M,fileN p.1.base≠fileN g.base:=fun p hp e=>by
 have h1:=(ho.seg _ (h.mem p (List.mem_append_left _ hp))).1;have h2:=(ho.seg _ (h.mem (g,l) (by simp))).1
 have:p.1.base=g.base:=dZ h1 h2 e;have:=pL h.inv.chain p hp;omega
theorem Dk.up_of {d d':Dsk} (h:Dk d d') (hd:d'.down=false):d.down=false:=by
 cases hx:d.down with
 | false=>rfl
 | true=>rw[h.down hx,hx] at hd;cases hd
theorem W.change (ho:okS k u s) (h:W f S l0 s M g l) {s':Sto} {g':Seg} {l':List Rec} {x:Txt} {q:Nat} (hi:Inv f s' M g' l') (hb:g'.base=g.base) (hf:fm s'.disk.files=up (fm s.disk.files) (fileN g.base) (some (x,((q:Nat):Int)))) (hd:s.disk.down=false)
  (hm:s'.man=s.man) (hz:s'.size=s.size∧s'.sum=s.sum) (hx:x=rowS l') (h1:(rowS (l'.take (s'.sure-g.base).toNat)).length<=q∧q<=(rowS l').length) (hl:g.base<=s'.sure):W f S l0 s' M g' l':=by
 have hne:=h.file_ne ho;have hsg:∀ n,rel f s n->rel f s' n:=by
  rintro n (hn|⟨a,ha,hn⟩|hn)
  ·exact .inl hn
  ·refine .inr (.inl ?_);rw[h.inv.segs] at ha;rcases zX.1 ha with ha|ha
   ·exact⟨a,by rw[hi.segs];exact List.mem_append_left _ ha,hn⟩
   ·rw[zV.1 ha] at hn;exact⟨g',by rw[hi.segs];simp,by rw[hb];exact hn⟩
  ·exact .inr (.inr hn)
 refine⟨hi,?_,?_,by rw[hm];exact h.right,fun p hp=>?_,⟨q,?_,by rw[hb];exact h1⟩,by rw[hb];exact hl,fun _ n hn=>?_⟩
 ·rcases h.snp with h2|⟨h2,h3,h4⟩
  ·exact .inl ⟨h2.1,h2.2.1,h2.2.2.1,by rw[hz.1];exact h2.2.2.2.1,by rw[hz.2];exact h2.2.2.2.2⟩
  ·exact .inr ⟨h2,by rw[hf,bv _ _ (cZ _ _)];exact h3,h4.1,by rw[hz.1];exact h4.2.1,by rw[hz.2];exact h4.2.2⟩
 ·rw[hf,hm,bv _ _ (kz _ (by rw[bV];decide)).symm];exact h.man
 ·rw[hf,bv _ _ (hne p hp)];exact h.full p hp
 ·rw[hf,hb,db,hx]
 ·by_cases c:n=fileN g.base
  ·exact hsg n (.inr (.inl ⟨g,h.mem (g,l) (by simp),c⟩))
  ·rw[hf,bv _ _ c] at hn;exact hsg n (h.only hd n hn)
theorem W.sync (ho:okS k u s) (h:W f S l0 s M g l):W f S l0 (aW s).1 M g l∧(((aW s).2=0∧(aW s).1.sure=s.next∧(aW s).1.disk.down=false)∨((aW s).2=10∧(aW s).1.disk.down=true∧(aW s).1.sure=s.sure))∧(aW s).1.disk.cap=s.disk.cap:=by
 have hi:=AM ho h.inv ho.next.1;obtain⟨q,h1,h2,h3⟩:=h.last;have hO:=my ho.dsk.srt h1;have hl:=h.inv.last;have es:aW s=({ s with disk:=(ai s.disk (ch s.disk.files (fileN g.base))).1,sure:=if(ai s.disk (ch s.disk.files (fileN g.base))).2=0 then s.next else s.sure },(ai s.disk (ch s.disk.files (fileN g.base))).2):=by unfold aW;rw[hl]
 rw[es] at hi ⊢;generalize ai s.disk (ch s.disk.files (fileN g.base))=r at *;have hnx:=h.inv.next;have hcap:=hO.1.cap;rcases hO.2.2 with⟨e,hd,hf⟩|⟨_,hc,_⟩|⟨e,hd,hf⟩
 ·have e1:(if r.2=0 then s.next else s.sure)=s.next:=if_pos e
  rw[e1] at hi ⊢;refine⟨h.change ho hi rfl hf (hO.1.up_of hd) rfl ⟨rfl,rfl⟩ rfl ⟨?_,Nat.le_refl _⟩ ?_,.inl ⟨e,rfl,hd⟩,hcap⟩
  ·simp only[];rw[zL (by omega)];exact Nat.le_refl _
  ·simp only[];omega
 ·cases hc
 ·have e1:(if r.2=0 then s.next else s.sure)=s.sure:=if_neg (by rw[e];decide)
  rw[e1];exact⟨h.keep ho.dsk.srt hO.2.1 (fun n _=>hf n (by simp)) (.inl hd),.inr ⟨e,hd,rfl⟩,hcap⟩
theorem IW (h:Inv f s M g l) (a b:Int):((s.segs.dropLast++[⟨s.last.base,a,b⟩]:List Seg)).map Seg.base=s.segs.map Seg.base:=by
 rw[h.last,h.segs];simp
theorem W.put (ho:okS k u s) (h:W f S l0 s M g l) (r:Rec) (hr:whyF r=0) (ha:r.at_=s.next) :
  ((gc s (fj r).1).1.disk.cap=s.disk.cap∧(gc s (fj r).1).1.sure=s.sure)∧((W f S l0 (gc s (fj r).1).1 M g l∧(gc s (fj r).1).1.next=s.next∧(gc s (fj r).1).1.segs=s.segs∧(gc s (fj r).1).1.ver=s.ver∧((((gc s (fj r).1).2=9∧(gc s (fj r).1).1.disk.down=false)∨((gc s (fj r).1).2=10∧(gc s (fj r).1).1.disk.down=true)))) ∨
  ((gc s (fj r).1).2=0∧(gc s (fj r).1).1.disk.down=false∧W f S l0 (gc s (fj r).1).1 M ⟨g.base,g.n+1,g.size+(aJ (bI r)).length⟩ (l++[r]))):=by
 have hp:=Lu ho h.inv r hr ha;have hl:=h.inv.last;have e1:(fj r).1=aJ (bI r):=by unfold fj;rw[if_pos hr]
 obtain⟨q,h1,h2,h3⟩:=h.last;have hO:=t7 ho.dsk.srt (aJ (bI r)) h1;have hsg:=IW h.inv (s.last.n+1) (s.last.size+((aJ (bI r)).length:Nat));have hnx:=h.inv.next;have hsu:=h.inv.sure;have es:gc s (fj r).1=if(ai s.disk (bM s.disk.files s.disk.cap (fileN g.base) (aJ (bI r)))).2≠0 then({ s with disk:=(ai s.disk (bM s.disk.files s.disk.cap (fileN g.base) (aJ (bI r)))).1 },(ai s.disk (bM s.disk.files s.disk.cap (fileN g.base) (aJ (bI r)))).2) else({ Ci s (aJ (bI r)).length with disk:=(ai s.disk (bM s.disk.files s.disk.cap (fileN g.base) (aJ (bI r)))).1 },0):=by
  unfold gc;rw[hl,e1]
 rw[es] at hp ⊢;have hcap:=hO.1.cap;by_cases c:(ai s.disk (bM s.disk.files s.disk.cap (fileN g.base) (aJ (bI r)))).2=0
 ·rw[if_neg (by simp[c])] at hp ⊢
  refine⟨⟨hcap,rfl⟩,.inr ?_⟩;rcases hp with⟨hp,_⟩|⟨_,hp⟩
  ·exact absurd rfl hp
  ·rcases hO.2.2 with⟨e,hd,hf⟩|⟨_,_,e,_⟩|⟨e,_⟩
   ·refine⟨rfl,hd,h.change ho hp rfl hf (hO.1.up_of hd) ?_ ⟨rfl,rfl⟩ (nO _ _).symm ⟨?_,?_⟩ h.lo⟩
    ·show(⟨s.ver,(s.segs.dropLast++[_]).map Seg.base,s.size,s.sum⟩:Man)=s.man;rw[hsg];rfl
    ·show(rowS ((l++[r]).take (s.sure-g.base).toNat)).length<=q;rw[List.take_append_of_le_length (by omega)];exact h2
    ·rw[nO,zA];omega
   ·rw[e] at c;cases c
   ·rw[e] at c;cases c
 ·rw[if_pos c] at hp ⊢;refine⟨⟨hcap,rfl⟩,.inl ?_⟩;have:=h.fail ho.dsk.srt hO c (by simp)
  refine⟨this.1,rfl,rfl,rfl,?_⟩;rcases this.2 with⟨a,_,b⟩|h
  ·exact .inl ⟨a,b⟩
  ·exact .inr h
variable {k u:Nat} {f:Int} {S:Txt} {l0:List Pr} {s:Sto} {M:List SR} {g:Seg} {l:List Rec}
theorem W.man_inc (h:W f S l0 s M g l):(s.segs.map Seg.base).Pairwise (· < ·)∧(∀ n∈s.segs.map Seg.base,-1<n∧n<=1099511627776) :=
 (qH _ _).1 (iE h.right).2.2.1
theorem W.head (h:W f S l0 s M g l):(s.segs.map Seg.base).head?=some f:=by
 rw[h.inv.segs];have hc:=h.inv.chain;cases M with
 | nil=>simp[chainM] at hc ⊢;omega
 | cons p r=>simp[chainM] at hc ⊢;omega
theorem Kp (h:Inv f s M g l) (hl:l≠[]):∀ a∈s.segs,a.base<s.next:=by
 intro a ha;have hn:=h.next;have hp:0<l.length:=List.length_pos_iff.2 hl;rw[h.segs] at ha;rcases zX.1 ha with ha|ha
 ·obtain⟨p,hp2,rfl⟩:=List.mem_map.1 ha;have:=pL h.chain p hp2;omega
 ·rw[zV.1 ha];omega
theorem C5 (h:W f S l0 s M g l) (hl:l≠[]) (hn:s.next<=1099511627776) (hv:s.ver+1<=1099511627776) (hlen:s.segs.length<64):manB (la s).man=true:=by
 have hm:=iE h.right;have hi:=h.man_inc;have hlt:=Kp h.inv hl;have hg0:=h.inv.next;have e:(la s).man.segs=s.segs.map Seg.base++[s.next]:=by show(s.segs++[_]).map Seg.base=_;simp
 have hv1:1<=s.ver:=hm.1.1;have h0:0<=s.next:=by have:=h.inv.sure;omega
 refine xZ ⟨by show 1<=s.ver+1;omega,hv⟩ ⟨by rw[e];simp,by rw[e];simp;omega⟩ ?_ ?_
 ·rw[e,qH,List.pairwise_append];refine⟨⟨hi.1,by simp,fun a ha b hb=>?_⟩,fun n hx=>?_⟩
  ·obtain⟨c,hc,rfl⟩:=List.mem_map.1 ha;rw[zV.1 hb];exact hlt c hc
  ·rcases zX.1 hx with hx|hx
   ·exact hi.2 n hx
   ·rw[zV.1 hx];omega
 ·have hz:=KE h.right;have eh:(la s).man.segs.head?=s.man.segs.head?:=by
   rw[e];show _=(s.segs.map Seg.base).head?;rw[List.head?_append,h.head];rfl
  rw[eh];exact hz
theorem W.roll (ho:okS k u s) (h:W f S l0 s M g l) (hl:l≠[]) (hv:u<1000000000000) :
  (cC s).1.disk.cap=s.disk.cap∧((W f S l0 (cC s).1 M g l∧(cC s).1.segs=s.segs∧(((cC s).2=9∧(cC s).1.disk.down=s.disk.down)∨((cC s).2=10∧(cC s).1.disk.down=true))) ∨
  ((cC s).2=0∧(cC s).1.disk.down=false∧(cC s).1.sure=s.next∧W f S l0 (cC s).1 (M++[(g,l)]) ⟨s.next,0,0⟩ [])):=by
 have hri:=KM ho h.inv hl;have hsy:=h.sync ho;have hos:=lE ho;unfold cC at hri ⊢;by_cases c1:64<=s.segs.length
 ·rw[if_pos c1];exact⟨rfl,.inl ⟨h,rfl,.inl ⟨rfl,rfl⟩⟩⟩
 ·rw[if_neg c1] at hri ⊢;by_cases c2:(aW s).2=0
  ·rw[if_neg (by simp[c2])] at hri ⊢
   have hsg:(aW s).1.segs=s.segs:=rfl;have hn:(aW s).1.next=s.next:=rfl;obtain⟨hw,hst,hcap⟩:=hsy;have hst2:(aW s).1.sure=s.next∧(aW s).1.disk.down=false:=by
    rcases hst with h1|h1
    ·exact h1.2
    ·rw[h1.1] at c2;cases c2
   have hdn:s.disk.down=false:=by
    have hO:=my ho.dsk.srt h.last.choose_spec.1;have hl2:=h.inv.last;have e2:(aW s).1.disk=(ai s.disk (ch s.disk.files (fileN g.base))).1:=by unfold aW;rw[hl2]
    exact hO.1.up_of (by rw[<- e2];exact hst2.2)
   rw[<- hsg] at c1;rw[<- hn] at hst2 hri ⊢;generalize (aW s).1=t at *;have hnx:=hos.next;have hvt:=hos.ver;have hlt:=Kp hw.inv hl;have hrt:=C5 hw hl hnx.2 (by omega) (by omega)
   have hnone:t.disk.down=false->fm t.disk.files (fileN t.next)=none:=fun hd=>by
    cases hx:fm t.disk.files (fileN t.next) with
    | none=>rfl
    | some v =>
     rcases hw.only hd (fileN t.next) (by rw[hx];simp) with e|⟨a,ha,e⟩|⟨_,e⟩
     ·exact absurd e (kz _ (by rw[bV];decide))
     ·have:=dZ (by omega) (hos.seg a ha).1 e
      have:=hlt a ha;omega
     ·exact absurd e.symm (cZ _ _)
   have hnr:∀ n∈[fileN t.next,[110]],¬ rel f t n:=by
    intro n hx;rcases List.mem_cons.1 hx with rfl|hx
    ·rintro(e|⟨a,ha,e⟩|⟨_,e⟩)
     ·exact absurd e (kz _ (by rw[bV];decide))
     ·have:=dZ (by omega) (hos.seg a ha).1 e
      have:=hlt a ha;omega
     ·exact absurd e.symm (cZ _ _)
    ·rw[zV.1 hx];exact n4 f t
   have h110:t.disk.down=false->fm t.disk.files [110]=none:=fun hd=>by
    cases hx:fm t.disk.files [110] with
    | none=>rfl
    | some v=>exact absurd (hw.only hd [110] (by rw[hx];simp)) (n4 f t)
   have hO:Out t.disk (eK t) [fileN t.next,[110]] _ _:=y9 hos.dsk.srt hrt (CG _) (Dy _ (by rw[bV];decide)) h110 hnone
   have hcap2:=hO.1.cap;by_cases c3:(eK t).2=0
   ·rw[if_pos c3] at hri ⊢;rcases hri with⟨hx,_⟩|⟨_,hri⟩
    ·exact absurd rfl hx
    rcases hO.2.2 with⟨e,hd,hf⟩|⟨_,_,e,_⟩|⟨e,_⟩
    ·refine⟨hcap2.trans hcap,.inr ⟨rfl,hd,hst2.1,hri,?_,?_,hrt,fun p hp=>?_,⟨0,?_,by simp[rowS],by simp⟩,?_,fun _ n hx=>?_⟩⟩
     ·rcases hw.snp with h2|⟨h2,h3,h4⟩
      ·exact .inl h2
      ·exact .inr ⟨h2,by show fm (eK t).1.files _=_;rw[hf,bv _ _ (kz _ (by rw[d8];decide)),bv _ _ (cZ _ _)];exact h3,h4⟩
     ·show fm (eK t).1.files _=_;rw[hf,db];rfl
     ·show fm (eK t).1.files _=_;have hpm:p.1∈t.segs:=hw.mem p hp;have hne:fileN p.1.base≠fileN t.next:=fun e=>by
       have:p.1.base=t.next:=dZ (hos.seg _ hpm).1 (by omega) e
       have:=hlt _ hpm;omega
      rw[hf,bv _ _ (kz _ (by rw[bV];decide)),bv _ _ hne]
      rcases zX.1 hp with hp|hp
      ·exact hw.full p hp
      ·rw[zV.1 hp];obtain⟨q,h1,h2,h3⟩:=hw.last;have hnn:=hw.inv.next;rw[zL (by omega)] at h2
       rw[h1,show q=(rowS l).length by omega]
     ·show fm (eK t).1.files _=_;rw[hf,bv _ _ (kz _ (by rw[bV];decide)),db];rfl
     ·show t.next<=t.sure;omega
     ·have hx2:fm (eK t).1.files n≠none:=hx;rw[hf] at hx2;by_cases a1:n=[109]
      ·exact .inl a1
      ·rw[bv _ _ a1] at hx2;by_cases a2:n=fileN t.next
       ·exact .inr (.inl ⟨⟨t.next,0,0⟩,by show _∈t.segs++[_];simp,a2⟩)
       ·rw[bv _ _ a2] at hx2;rcases hw.only hst2.2 n hx2 with e|⟨a,ha,e⟩|e
        ·exact .inl e
        ·exact .inr (.inl ⟨a,by show a∈t.segs++[_];simp[ha],e⟩)
        ·exact .inr (.inr e)
    ·rw[e] at c3;cases c3
    ·rw[e] at c3;cases c3
   ·rw[if_neg c3];have:=hw.fail hos.dsk.srt hO c3 hnr;refine⟨hcap2.trans hcap,.inl ⟨this.1,hsg,?_⟩⟩;rcases this.2 with⟨a,_,b⟩|hh
    ·exact .inl ⟨a,b.trans hdn.symm⟩
    ·exact .inr hh
  ·rw[if_pos c2];refine⟨hsy.2.2,.inl ⟨hsy.1,rfl,?_⟩⟩;rcases hsy.2.1 with h1|h1
   ·exact absurd h1.1 c2
   ·exact .inr ⟨h1.1,h1.2.1⟩
def WR (f:Int) (S:Txt) (l0:List Pr) (s:Sto) (R:List Rec):Prop:=∃ M g l,W f S l0 s M g l∧aQ (M++[(g,l)])=R
theorem WR.next {R:List Rec} (h:WR f S l0 s R):s.next=f+R.length:=by
 obtain⟨M,g,l,h,rfl⟩:=h;have:=im _ _ _ h.inv.chain;have hn:=h.inv.next;rw[cH,dO,zA];simp only[];omega
theorem WR.sure {R:List Rec} (h:WR f S l0 s R):f<=s.sure∧s.sure<=s.next:=by
 obtain⟨M,g,l,h,rfl⟩:=h;have:=(dY _ _ _ h.inv.chain).1;have:=h.lo;have:=h.inv.sure;omega
theorem WR.floor {R:List Rec} (h:WR f S l0 s R):s.floor=f:=by
 obtain⟨M,g,l,h,rfl⟩:=h;have h1:=h.head;unfold Sto.floor;cases hs:s.segs with
 | nil=>rw[hs] at h1;cases h1
 | cons a r=>rw[hs] at h1;simpa using h1
theorem WR.app {R:List Rec} (ho:okS k u s) (h:WR f S l0 s R) {seg:Int} (hseg:1<=seg) (hv:u<1000000000000) (r:Rec) :
  s.sure<=(eQ s seg r).1.sure∧(eQ s seg r).1.disk.cap=s.disk.cap∧(((eQ s seg r).2=0∧r.at_=s.next∧whyF r=0∧s.next<1099511627776∧(eQ s seg r).1.disk.down=false∧WR f S l0 (eQ s seg r).1 (R++[r])) ∨
   (WR f S l0 (eQ s seg r).1 R∧(((eQ s seg r).2=1∧(eQ s seg r).1=s∧(whyF r≠0∨r.at_≠s.next))∨((eQ s seg r).2=13∧(eQ s seg r).1=s∧1099511627776<=s.next)∨(eQ s seg r).2=9∨((eQ s seg r).2=10∧(eQ s seg r).1.disk.down=true)))):=by
 have h0:=h;obtain⟨M,g,l,h,rfl⟩:=h;have hlast:=h.inv.last;unfold eQ;by_cases c1:(fj r).2≠0∨r.at_≠s.next
 ·rw[if_pos c1];refine⟨Int.le_refl _,rfl,.inr ⟨h0,.inl ⟨rfl,rfl,?_⟩⟩⟩;rcases c1 with c1|c1
  ·refine .inl fun hw=>c1 ?_
   unfold fj;rw[if_pos hw]
  ·exact .inr c1
 ·rw[if_neg c1];simp only[not_or,Decidable.not_not] at c1;obtain⟨c1,ca⟩:=c1;have hr:whyF r=0:=by
   unfold fj at c1;split at c1
   ·assumption
   ·exact c1
  by_cases c2:1099511627776<=s.next
  ·rw[if_pos c2];exact⟨Int.le_refl _,rfl,.inr ⟨h0,.inr (.inl ⟨rfl,rfl,c2⟩)⟩⟩
  ·rw[if_neg c2];by_cases c3:seg<=s.last.size
   ·rw[if_pos c3];have hg:=(h.inv.file (g,l) (by simp)).size
    have hl:l≠[]:=by
     rintro rfl;rw[hlast] at c3;simp only[rowS,List.flatMap_nil,List.length_nil] at hg;omega
    have hro:=h.roll ho hl hv;have hmo:=Fq ho h.inv.sure.2;have hok:=vx ho;have hnx:=uD s;by_cases c4:(cC s).2=0
    ·rw[if_neg (by simp[c4])]
     rcases hro.2 with⟨_,_,⟨e,_⟩|⟨e,_⟩⟩|⟨_,hd,hs2,hw⟩
     ·rw[e] at c4;cases c4
     ·rw[e] at c4;cases c4
     ·have hcap:=hro.1;have hp:=hw.put hok r hr (by rw[hnx];exact ca)
      generalize (cC s).1=t at *;have e0:aQ (M++[(g,l)]++[(⟨s.next,0,0⟩,[])])=aQ (M++[(g,l)]):=by rw[cH,dO,List.append_nil]
      refine⟨by rw[hp.1.2];exact hmo,hp.1.1.trans hcap,?_⟩
      rcases hp.2 with⟨h1,h2,_,_,h3⟩|⟨h1,h2,h3⟩
      ·refine .inr ⟨⟨_,_,_,h1,e0⟩,.inr (.inr ?_)⟩;rcases h3 with h3|h3
       ·exact .inl h3.1
       ·exact .inr h3
      ·refine .inl ⟨h1,ca,hr,by omega,h2,_,_,_,h3,?_⟩
       rw[cH,dO];rfl
    ·rw[if_pos c4];refine⟨hmo,hro.1,.inr ?_⟩;rcases hro.2 with⟨h1,_,h2⟩|⟨e,_⟩
     ·refine⟨⟨_,_,_,h1,rfl⟩,.inr (.inr ?_)⟩;rcases h2 with h2|h2
      ·exact .inl h2.1
      ·exact .inr h2
     ·exact absurd e c4
   ·rw[if_neg c3];have hp:=h.put ho r hr ca;refine⟨by rw[hp.1.2];exact Int.le_refl _,hp.1.1,?_⟩
    rcases hp.2 with⟨h1,h2,_,_,h3⟩|⟨h1,h2,h3⟩
    ·refine .inr ⟨⟨_,_,_,h1,rfl⟩,.inr (.inr ?_)⟩;rcases h3 with h3|h3
     ·exact .inl h3.1
     ·exact .inr h3
    ·refine .inl ⟨h1,ca,hr,by omega,h2,_,_,_,h3,?_⟩
     rw[cH,dO,cH,dO,List.append_assoc]
def gZ (l:List Pr):Prop:=l.Pairwise fun a b=>a.key<b.key
def fh (l:List Pr) (k:Int):Nat:=l.countP fun p=>decide (p.key<k)
def lC (l:List Pr) (k:Int):Bool:=match l[fh l k]? with|some p=>decide (p.key=k)|none=>false
theorem J9 {l:List Pr} (hs:gZ l) (k:Int) (i:Nat) (h:i<l.length):l[i].key<k↔i<fh l k:=by
 have:=pC (fun p:Pr=>decide (p.key<k)) l (hs.imp (fun hab hb=>by simp at hb ⊢;omega)) i h
 simpa[fh] using this
theorem EN (l:List Pr) (k:Int):fh l k<=l.length:=List.countP_le_length
def ly (l:List Pr) (k:Int):V:=.tup [(false,[zI (fh l k:Nat)]),(false,[zB (lC l k)])]
theorem FA (p:Pr) (k:Int) (hp:0<=p.key∧p.key<256) (hk:0<=k∧k<256):call 197 [.agg (p.enc.map .d),vk .u8 k] []=some (vi (p.key-k),[]):=by
 apply ae Vh rfl;obtain⟨a,b⟩:=p;simp only at hp;simp only[Pr.enc,List.map_cons,List.map_nil];refine bd ?_ SS.eq_1;try simp[trim]
theorem Od (p:Pr) (k:Int) (hp:0<=p.key∧p.key<256) (hk:0<=k∧k<256) (H:Hp):ak call 197 [.agg (p.enc.map .d),vk .u8 k] H=some (vi (p.key-k),H):=callIso_pure rfl (FA p k hp hk) rfl
theorem JB (l:List Pr) (hl:l.length<=1000000) (hs:gZ l) (ho:okP l) (k:Int) (hk:0<=k∧k<256):call 196 [.one (.sl 0 2 0 l.length),vk .u8 k,.one (.f 197 [])] [.arr 2 (l.map Pr.enc) 0]=some (ly l k,[.arr 2 (l.map Pr.enc) 0]):=by
 apply ae TW rfl;obtain⟨Z,hZ⟩:∃ Z:V × Hp,Z=(ly l k,[.arr 2 (l.map Pr.enc) 0]):=⟨_,rfl⟩;rw[<- hZ];refine bd ?_ RS.eq_1;refine aq (m:=1) (σ:=Nat × Nat) (fun t=>t.2-t.1) (fun t=>t.1<=fh l k∧fh l k<=t.2∧t.2<=l.length) (fun t=>[V.one (.sl 0 2 0 l.length),vk .u8 k,.one (.f 197 []),vi l.length,vi t.1,vi t.2]) (fun t=>[.arr 2 (l.map Pr.enc) 0])
  (fun t=>Z) ?_ (0,l.length) ⟨zP _,EN l k,Nat.le_refl _⟩ _ _ bA
 rintro⟨lo,hi⟩ ⟨h1,h2,h3⟩ R hR;simp only at h1 h2 h3 ⊢;by_cases c:lo<hi
 ·have hm:=MP lo hi;have hmid:(lo+hi) / 2<l.length:=by omega
  have hp:=J9 hs k _ hmid;have hmo:=(ho _ (zN hmid)).1;obtain⟨mid,hmd⟩:∃ mid,mid=(lo+hi) / 2:=⟨_,rfl⟩;simp only[<- hmd] at hm hmid hp hmo;have g1:(l.map Pr.enc)[mid]?=some l[mid].enc:=by simp[hmid]
  have hc:=Od l[mid] k hmo hk;by_cases c2:l[mid].key<k
  ·have:=hp.1 c2;have hcn:l[mid].key-k<0:=by omega
   (simp(disch:=first|decide|omega|(intros;exact aP rfl rfl)|simp only[am]) only[rQ,↓zy,hm,g1,Pr.len,Pr.tkL,Pr.tk,↓hc,hcn,go_sem,seval,aO])
   exact hR (mid+1,hi) (by simp only[];omega) ⟨by simp only[];omega,h2,h3⟩ _ _ bA
  ·have:¬ mid<fh l k:=fun h=>c2 (hp.2 h)
   have hcn:¬ l[mid].key-k<0:=by omega
   (simp(disch:=first|decide|omega|(intros;exact aP rfl rfl)|simp only[am]) only[rQ,↓zy,hm,g1,Pr.len,Pr.tkL,Pr.tk,↓hc,hcn,go_sem,seval,aO])
   exact hR (lo,mid) (by simp only[];omega) ⟨h1,by simp only[];omega,by simp only[];omega⟩ _ _ bA
 ·have hlo:lo=fh l k:=by omega
  subst hlo;by_cases c0:fh l k<l.length
  ·have g1:(l.map Pr.enc)[fh l k]?=some l[fh l k].enc:=by simp[c0]
   have hhas:lC l k=decide (l[fh l k].key=k):=by unfold lC;rw[zE c0]
   have hc:=Od l[fh l k] k (ho _ (zN c0)).1 hk;by_cases c3:l[fh l k].key=k
   ·have hcz:l[fh l k].key-k=0:=by omega
    (simp(disch:=first|decide|omega|(intros;exact aP rfl rfl)|simp only[am]) only[rQ,c,c0,g1,Pr.len,Pr.tkL,Pr.tk,↓hc,hcz,go_sem,seval,aO])
    rw[hZ];simp[ly,hhas,c3,trim,V.refs,L.refs,Box.refs]
   ·have hcz:¬ l[fh l k].key-k=0:=by omega
    (simp(disch:=first|decide|omega|(intros;exact aP rfl rfl)|simp only[am]) only[rQ,c,c0,g1,Pr.len,Pr.tkL,Pr.tk,↓hc,hcz,go_sem,seval,aO])
    rw[hZ];simp[ly,hhas,c3,trim,V.refs,L.refs,Box.refs]
  ·have hhas:lC l k=false:=by unfold lC;rw[List.getElem?_eq_none (by omega)]
   refine bd ?_ rQ.eq_1 c c0;rw[hZ];simp[ly,hhas,trim,V.refs,L.refs,Box.refs]
theorem GL (l:List Pr) (hl:l.length<=1000000) (hs:gZ l) (ho:okP l) (k:Int) (hk:0<=k∧k<256):call 190 [.one (.sl 0 2 0 l.length),vk .u8 k] [.arr 2 (l.map Pr.enc) 0]=some (ly l k,[.arr 2 (l.map Pr.enc) 0]):=by
 apply ae Um rfl;have h:ak call 196 [.one (.sl 0 2 0 l.length),vk .u8 k,.one (.f 197 [])] [.arr 2 (l.map Pr.enc) 0]=some (ly l k,[.arr 2 (l.map Pr.enc) 0]) :=
  aF (ids:=[0]) rfl rfl rfl (JB l hl hs ho k hk) rfl
 unfold ly at h ⊢;(simp(disch:=first|decide|omega|(intros;exact aP rfl rfl)|simp only[am]) only[QX,↓h,go_sem,seval,aO])
 simp[zR]
theorem QN {k:Int} {l:List Pr} (h:∀ p∈l,k<=p.key):fh l k=0:=by
 unfold fh;rw[List.countP_eq_zero];intro p hp;have:=h p hp;simp;omega
theorem IJ (k:Int):∀ (l:List Pr),gZ l->l.takeWhile (fun p=>decide (p.key<k))=l.take (fh l k)
 | [],_=>rfl
 | x::r,hs=>by
  have hr:=List.pairwise_cons.1 hs;by_cases c:x.key<k
  ·have e:fh (x::r) k=fh r k+1:=by unfold fh;rw[List.countP_cons_of_pos (by simpa using c)]
   rw[e,List.takeWhile_cons,if_pos (by simpa using c),List.take_succ_cons,IJ k r hr.2]
  ·have e:fh (x::r) k=0:=QN fun p hp=>by
    rcases List.mem_cons.1 hp with rfl|hp
    ·omega
    ·have:=hr.1 p hp;omega
   rw[e,List.takeWhile_cons,if_neg (by simpa using c),List.take_zero]
theorem zz {Q:Pr->Bool} {l:List Pr} (h:∀ p∈l,Q p=true):l.filter Q=l:=List.filter_eq_self.2 h
theorem IL (k:Int):∀ (l:List Pr),gZ l->l.filter (fun p=>decide (k<p.key))=l.drop (fh l k+(if lC l k=true then 1 else 0))
 | [],_=>by simp
 | x::r,hs=>by
  have hr:=List.pairwise_cons.1 hs;by_cases c:x.key<k
  ·have e:fh (x::r) k=fh r k+1:=by unfold fh;rw[List.countP_cons_of_pos (by simpa using c)]
   have e2:lC (x::r) k=lC r k:=by unfold lC;rw[e,List.getElem?_cons_succ]
   rw[e,e2,List.filter_cons,if_neg (by simp;omega),IL k r hr.2,show fh r k+1+(if lC r k=true then 1 else 0)=(fh r k+(if lC r k=true then 1 else 0))+1 by omega,List.drop_succ_cons]
  ·have hge:∀ p∈x::r,k<=p.key:=fun p hp=>by
    rcases List.mem_cons.1 hp with rfl|hp
    ·omega
    ·have:=hr.1 p hp;omega
   have e:fh (x::r) k=0:=QN hge;by_cases c2:x.key=k
   ·have e2:lC (x::r) k=true:=by unfold lC;rw[e];simpa using c2
    rw[e,e2,List.filter_cons,if_neg (by simp;omega),if_pos rfl]
    rw[zz (fun p hp=>by have:=hr.1 p hp;simp;omega)]
    try rfl
   ·have e2:lC (x::r) k=false:=by unfold lC;rw[e];simpa using c2
    rw[e,e2,zz (fun p hp=>by
     rcases List.mem_cons.1 hp with rfl|hp
     ·simp;omega
     ·have:=hr.1 p hp;simp;omega)]
    try rfl
theorem Ei (l:List Pr) (c:UInt8) (r:List UInt8):cT l (c::r)=l.takeWhile (fun p=>decide (p.key<(c.toNat:Int)))++(if r=[] then[] else[⟨(c.toNat:Int),r⟩])++l.filter (fun p=>decide ((c.toNat:Int)<p.key)):=by rw[cT]
theorem step_pos {l:List Pr} (hs:gZ l) (c:UInt8) (r:List UInt8):cT l (c::r)=l.take (fh l (c.toNat:Int))++(if r=[] then[] else[⟨(c.toNat:Int),r⟩])++l.drop (fh l (c.toNat:Int)+(if lC l (c.toNat:Int)=true then 1 else 0)):=by
 rw[Ei,IJ _ l hs,IL _ l hs]
theorem step_srt {l:List Pr} (hs:gZ l) (d:List UInt8):gZ (cT l d):=by
 cases d with
 | nil=>exact hs
 | cons c r =>
  have h1:∀ p∈l.takeWhile (fun p=>decide (p.key<(c.toNat:Int))),p.key<(c.toNat:Int):=fun p hp=>by simpa using List.all_eq_true.1 (List.all_takeWhile (p:=fun p:Pr=>decide (p.key<(c.toNat:Int))) (l:=l)) p hp
  have h2:∀ p∈l.filter (fun p=>decide ((c.toNat:Int)<p.key)),(c.toNat:Int)<p.key:=fun p hp=>by simpa using(List.mem_filter.1 hp).2
  unfold gZ;rw[Ei,List.append_assoc,List.pairwise_append];refine⟨hs.sublist (List.takeWhile_sublist _),?_,?_⟩
  ·split
   ·exact hs.sublist List.filter_sublist
   ·rw[List.singleton_append,List.pairwise_cons];exact⟨fun p hp=>h2 p hp,hs.sublist List.filter_sublist⟩
  ·intro a ha b hb;have:=h1 a ha;rw[zX] at hb;rcases hb with hb|hb
   ·split at hb
    ·cases hb
    ·rw[zV.1 hb];exact this
   ·have:=h2 b hb;omega
theorem NO {l:List Pr} {k:Int} (h:lC l k=true):∃ hp:fh l k<l.length,l[fh l k].key=k:=by
 unfold lC at h;split at h
 ·rename_i f hf;obtain⟨hp,rfl⟩:=List.getElem?_eq_some_iff.1 hf;exact⟨hp,by simpa using h⟩
 ·cases h
theorem Pr.dr (e:Pr):e.enc.drop 2=[]:=Eq.trans rfl rfl
def Q4 (l:List Pr) (r:Option (V × Hp)):Prop :=
 r=some (.one (.sl 0 2 0 l.length),[.arr 2 (l.map Pr.enc) 0])∨(∃ p:Pr,r=some (.one (.sl 2 2 0 l.length),[.dead,.cells (p.enc.map .d),.arr 2 (l.map Pr.enc) 0])) ∨
 (∃ p:Pr,r=some (.one (.sl 3 2 0 l.length),[.dead,.cells (p.enc.map .d),.arr 2 [p.enc] 0,.arr 2 (l.map Pr.enc) 0]))
theorem IB (l:List Pr) (hl:l.length<=100000) (hs:gZ l) (ho:okP l) (d:List UInt8) (hd:d.length<=1000):Q4 (cT l d) (call 176 [.one (.sl 0 2 0 l.length),vs d] [.arr 2 (l.map Pr.enc) 0]):=by
 cases d with
 | nil =>
  refine .inl ?_;have e0:(([]:List UInt8) == [])=true:=rfl;have e:cT l []=l:=rfl;rw[e];apply ae Jg rfl;refine bd ?_ Hj.eq_1 e0;simp[zR]
 | cons c r =>
  have hc:0<=(c.toNat:Int)∧(c.toNat:Int)<256:=⟨by omega,by have:=UInt8.toNat_lt c;omega⟩
  have hst:=step_pos hs c r;have hf0:=GL l (by omega) hs ho (c.toNat:Int) hc
  have hf:ak call 190 [.one (.sl 0 2 0 l.length),vk .u8 (c.toNat:Int)] [.arr 2 (l.map Pr.enc) 0]=some (ly l (c.toNat:Int),[.arr 2 (l.map Pr.enc) 0]) :=
   aF (ids:=[0]) rfl rfl rfl hf0 rfl
  unfold ly at hf;have hp:=EN l (c.toNat:Int);have hat := @NO l (c.toNat:Int);generalize fh l (c.toNat:Int)=k at *;have e0:((c::r) == ([]:List UInt8))=false:=rfl;have hc0:(c::r)[0]?=some c:=rfl;have hdr:List.drop 1 (c::r)=r:=rfl;have hdl:(c::r).length=r.length+1:=rfl;obtain⟨dt,hD⟩:∃ dt,dt=c::r:=⟨_,rfl⟩;rw[<- hD] at e0 hc0 hdr hdl ⊢;have hdt:List.take dt.length dt=dt:=List.take_length;have hdi:dt.tail=r:=by rw[hD];rfl
  have hrl:r.length<=1000:=by have:(c::r).length<=1000:=hd;simp at this;omega
  by_cases hr:r=[]
  ·have er:r.isEmpty=true:=by rw[hr];rfl
   have er2:(r == [])=true:=by rw[hr];rfl
   rw[if_pos hr,List.append_nil] at hst;cases ht:lC l (c.toNat:Int) with
   | true =>
    obtain⟨hk,hkey⟩:=hat ht;rw[ht,if_pos rfl] at hst;rw[ht] at hf;have hd0:=D4 (l:=lib) (an:=tv JR) (P:=Tryz.prog) (f:=191) (k:=2) rfl rfl rfl (l.map Pr.enc) k (by simpa using hk) (by simp;omega)
    rw[show(l.map Pr.enc).take k++(l.map Pr.enc).drop (k+1)=(l.take k++l.drop (k+1)).map Pr.enc by simp,zM] at hd0
    have hi:∀ C:Box,ak call 191 [.one (.sl 0 2 0 l.length),vi (k:Nat),.one (zI ((k:Int)+1))] [.arr 2 (l.map Pr.enc) 0,C]=some (.one (.sl 2 2 0 (l.length-1)),[.dead,C,.arr 2 ((l.take k++l.drop (k+1)).map Pr.enc) 0]):=fun C =>
     aF (ids:=[0]) rfl rfl rfl hd0 rfl
    have hll:l.length-1=(l.take k++l.drop (k+1)).length:=by simp;omega
    rw[hD,hst,<- hD];generalize l.take k++l.drop (k+1)=q at *;refine .inr (.inl ⟨⟨(c.toNat:Int),r⟩,?_⟩);apply ae Jg rfl;(simp(disch:=first|decide|omega|(intros;exact aP rfl rfl)|simp only[am]) only[Hj,e0,hc0,↓hf,hdr,hdt,hdi,er,er2,↓hi,hll,go_sem,seval,aO])
    simp[zR,Pr.enc]
   | false =>
    rw[ht,if_neg (by simp),Nat.add_zero,zY] at hst
    rw[ht] at hf;refine .inl ?_;rw[hD,hst,<- hD];apply ae Jg rfl;(simp(disch:=first|decide|omega|(intros;exact aP rfl rfl)|simp only[am]) only[Hj,e0,hc0,↓hf,hdr,hdt,hdi,er,er2,go_sem,seval,aO])
    simp[zR]
  ·have er:r.isEmpty=false:=by simpa using hr
   have er2:(r == [])=false:=by simpa using hr
   rw[if_neg hr] at hst;have henc:([zU (c.toNat:Int),zS r]:List L)=(⟨(c.toNat:Int),r⟩:Pr).enc.map .d:=rfl;cases ht:lC l (c.toNat:Int) with
   | true =>
    obtain⟨hk,hkey⟩:=hat ht;rw[ht,if_pos rfl] at hst;rw[ht] at hf;have e2:(l.map Pr.enc).set k [.i .u8 (c.toNat:Int),.s r]=(cT l (c::r)).map Pr.enc:=by
     rw[hst,List.set_eq_take_append_cons_drop,if_pos (by simpa using hk)]
     simp[Pr.enc]
    have e3:l.length=(cT l (c::r)).length:=by have:=congrArg List.length e2;simpa using this
    rw[<- hD] at e2 e3;have hkl:k<l.length:=hk;generalize cT l dt=q at *;refine .inl ?_;apply ae Jg rfl;(simp(disch:=first|decide|omega|(intros;exact aP rfl rfl)|simp only[am]) only[Hj,e0,hc0,↓hf,hdr,hdt,hdi,er,er2,e2,zM,Pr.len,Pr.dr,go_sem,seval,aO])
    simp[zR,e3]
   | false =>
    rw[ht,if_neg (by simp),Nat.add_zero] at hst
    rw[ht] at hf;have hi0:=yA (l:=lib) (an:=tv JR) (P:=Tryz.prog) (f:=192) (k:=2) (bytes:=24) rfl rfl (l.map Pr.enc) (Pr.enc ⟨(c.toNat:Int),r⟩) k 0 rfl (by simpa using hp) (by simp;omega) (by simp;omega)
    rw[show(l.map Pr.enc).take k++Pr.enc ⟨(c.toNat:Int),r⟩::(l.map Pr.enc).drop k=(cT l (c::r)).map Pr.enc by rw[hst];simp,zM] at hi0
    have hi:∀ C:Box,ak call 192 [.one (.sl 0 2 0 l.length),vi (k:Nat),.one (.sl 2 2 0 1)] [.arr 2 (l.map Pr.enc) 0,C,.arr 2 [[.i .u8 (c.toNat:Int),.s r]] 0]=some (.one (.sl 3 2 0 (l.length+1)),[.dead,C,.arr 2 [[.i .u8 (c.toNat:Int),.s r]] 0,.arr 2 ((cT l (c::r)).map Pr.enc) 0]):=fun C =>
     aF (ids:=[0,2]) rfl rfl rfl hi0 rfl
    have hll:l.length+1=(cT l (c::r)).length:=by rw[hst];simp;omega
    rw[<- hD] at hi hll;generalize cT l dt=q at *;refine .inr (.inr ⟨⟨(c.toNat:Int),r⟩,?_⟩);apply ae Jg rfl;(simp(disch:=first|decide|omega|(intros;exact aP rfl rfl)|simp only[am]) only[Hj,e0,hc0,↓hf,hdr,hdt,hdi,er,er2,↓hi,hll,go_sem,seval,aO])
    simp[zR,Pr.enc]
def df (l:List Pr) (R:List Rec):List Pr:=R.foldl (fun l r=>cT l r.da) l
theorem w6 (l:List Pr) (A B:List Rec):df l (A++B)=df (df l A) B:=List.foldl_append
theorem nz:∀ (R:List Rec) (l:List Pr),gZ l->okP l->(∀ r∈R,r.da.length<=64)->gZ (df l R)∧okP (df l R)∧(df l R).length<=l.length+R.length
 | [],l,hs,ho,_=>⟨hs,ho,Nat.le_refl _⟩
 | r::R,l,hs,ho,hr=>by
  have h:=nz R (cT l r.da) (step_srt hs _) (step_ok ho (hr r (by simp))) (fun x hx=>hr x (by simp[hx]))
  have h2:=step_len l r.da;refine⟨h.1,h.2.1,?_⟩;have:(df l (r::R)).length<=(cT l r.da).length+R.length:=h.2.2;simp only[List.length_cons];omega
theorem E5:∀ (l:List Pr) (a:Int),gZ l->(∀ p∈l,a<=p.key∧p.key<256)->(l.length:Int)<=max 0 (256-a)
 | [],a,_,_=>by simp;omega
 | p::r,a,hs,h=>by
  have hr:=List.pairwise_cons.1 hs;have h1:=h p (by simp)
  have:=E5 r (p.key+1) hr.2 (fun q hq=>⟨by have:=hr.1 q hq;omega,(h q (by simp[hq])).2⟩)
  simp only[List.length_cons];omega
theorem qP {l:List Pr} (hs:gZ l) (ho:okP l):l.length<=256:=by
 have:=E5 l 0 hs (fun p hp=>(ho p hp).1)
 omega
theorem GD (l:List Pr) (hs:gZ l) (ho:okP l) (R:List Rec) (hR:R.length<=1000000000) (hr:∀ r∈R,r.da.length<=64):call 148 [vl (l.map Pr.enc),vl (R.map Rec.enc)] []=some (vl ((df l R).map Pr.enc),[]):=by
 have hl:=qP hs ho;have hcl:=UD (l.map Pr.enc) (aZ Pr.len _) (by simp;omega) (by simp;omega)
 obtain⟨Z,hZ⟩:∃ Z:V,Z=vl ((df l R).map Pr.enc):=⟨_,rfl⟩;rw[<- hZ];apply ae TL rfl;(simp(disch:=first|decide|omega|(intros;exact aP rfl rfl)|simp only[am]) only[Oj,↓hcl,zM,go_sem,seval,aO])
 refine aq (m:=0) (σ:=Nat × List Pr) (fun t=>R.length-t.1) (fun t=>t.1<=R.length∧gZ t.2∧okP t.2∧df l R=df t.2 (R.drop t.1)) (fun t=>[V.one (.sl 0 2 0 t.2.length),vl (R.map Rec.enc),vi R.length,vi t.1]) (fun t=>[.arr 2 (t.2.map Pr.enc) 0])
  (fun _=>(Z,[])) ?_ (0,l) ⟨zP _,hs,ho,rfl⟩ _ _ bA
 rintro⟨i,q⟩ ⟨h1,h2,h3,h5⟩ K hK;simp only at h1 h2 h3 h5 ⊢;have h4:=qP h2 h3;by_cases c:i<R.length
 ·have hc:(i:Int)<(R.length:Int):=by omega
  have g1:(R.map Rec.enc)[i]?=some R[i].enc:=by rw[zG,zE c];rfl
  rw[zD c] at h5;have hd:=hr _ (zN c);generalize R[i]=r at *;have ht:=IB q (by omega) h2 h3 r.da (by omega)
  have hK':=hK (i+1,cT q r.da) (by simp only[];omega) ⟨by simp only[];omega,step_srt h2 _,step_ok h3 hd,h5⟩
  generalize cT q r.da=q2 at *;obtain⟨a,b,d⟩:=r;simp only[Rec.enc] at g1 ht;rcases ht with ht|⟨p,ht⟩|⟨p,ht⟩
  ·have hi:∀ C:Box,ak call 176 [.one (.sl 0 2 0 q.length),vs d] [.arr 2 (q.map Pr.enc) 0,C]=some (.one (.sl 0 2 0 q2.length),[.arr 2 (q2.map Pr.enc) 0,C]):=fun C =>
    aF (ids:=[0]) rfl rfl rfl ht rfl
   (simp(disch:=first|decide|omega|(intros;exact aP rfl rfl)|simp only[am]) only[vR,zT hc,g1,↓hi,go_sem,seval,aO])
   exact hK' _ _ bA
  ·have hi:∀ C:Box,ak call 176 [.one (.sl 0 2 0 q.length),vs d] [.arr 2 (q.map Pr.enc) 0,C]=some (.one (.sl 3 2 0 q2.length),[.dead,C,.cells (p.enc.map .d),.arr 2 (q2.map Pr.enc) 0]):=fun C =>
    aF (ids:=[0]) rfl rfl rfl ht rfl
   (simp(disch:=first|decide|omega|(intros;exact aP rfl rfl)|simp only[am]) only[vR,zT hc,g1,↓hi,go_sem,seval,aO])
   exact hK' _ _ bA
  ·have hi:∀ C:Box,ak call 176 [.one (.sl 0 2 0 q.length),vs d] [.arr 2 (q.map Pr.enc) 0,C]=some (.one (.sl 4 2 0 q2.length),[.dead,C,.cells (p.enc.map .d),.arr 2 [p.enc] 0,.arr 2 (q2.map Pr.enc) 0]):=fun C =>
    aF (ids:=[0]) rfl rfl rfl ht rfl
   (simp(disch:=first|decide|omega|(intros;exact aP rfl rfl)|simp only[am]) only[vR,zT hc,g1,↓hi,go_sem,seval,aO])
   exact hK' _ _ bA
 ·have hc:¬ (i:Int)<(R.length:Int):=by omega
  rw[zC (by omega)] at h5
  have e:Z=vl (q.map Pr.enc):=by rw[hZ,h5];rfl
  rw[e];have htk:List.take q.length (q.map Pr.enc)=q.map Pr.enc:=zL (by simp)
  refine bd ?_ vR.eq_1 Oj.eq_1 (zF hc) htk;try simp[trim]
theorem jd (a b:List UInt8):ay a++ay b=ay (a++b):=by simp[ay]
theorem tz (n:Int) (h:0<=n∧n<256):([[.i .u8 n]]:List (List D))=ay [UInt8.ofNat n.toNat]:=by
 have:((UInt8.ofNat n.toNat).toNat:Int)=n:=by simp;omega
 simp only[ay,List.map_cons,List.map_nil,this]
theorem Gi (l:List Pr) (i:Nat):(ah l.length++(l.take i).flatMap jc).length<=(aX l).length:=by
 have e:l.flatMap jc=(l.take i).flatMap jc++(l.drop i).flatMap jc:=by rw[<- List.flatMap_append,zY]
 rw[aX,e];simp
theorem DE (l:List Pr) (hl:l.length<=1000000) (hb:(aX l).length<=1000000000) (hk:∀ p∈l,0<=p.key∧p.key<256):call 106 [vl (l.map Pr.enc)] []=some (vs (aX l),[]):=by
 apply ae UP rfl;have h0:=qa l.length (by omega)
 have hel:(ah l.length).length<=1000:=by have:=eC (n:=l.length) (by omega);have:(ah l.length).length<=9:=this;omega
 refine bd ?_ Pp.eq_1 h0 hel;refine aq (m:=0) (σ:=Nat) (fun i=>l.length-i) (fun i=>i<=l.length) (fun i=>[V.one (.sl 0 1 0 (ah l.length++(l.take i).flatMap jc).length),vl (l.map Pr.enc),vi l.length,vi i]) (fun i=>[.arr 0 (ay (ah l.length++(l.take i).flatMap jc)) 0])
  (fun _=>(vs (aX l),[])) ?_ 0 (zP _) _ _ (at_head2 (by decide) (by simp only[List.map_cons,List.map_nil,go_sem,seval];exact rfl) (by simp[aI,aD,ax,aE,aw,V.ren,L.ren,Box.ren,V.refs,L.refs,Box.refs,List.append_nil]) (by simp[aI,aD,ax,aE,aw,V.ren,L.ren,Box.ren,V.refs,L.refs,Box.refs,List.append_nil]))
 intro i h1 R hR;by_cases hi:i<l.length
 ·have g1:(l.map Pr.enc)[i]?=some l[i].enc:=by rw[zG,zE hi];rfl
  have hnx:ah l.length++(l.take (i+1)).flatMap jc=(ah l.length++(l.take i).flatMap jc)++jc l[i]:=by
   rw[zO hi,List.flatMap_append];simp
  have hle:=Nat.le_trans (Gi l (i+1)) hb;have hR':=hR (i+1) (by omega) (by omega)
  rw[hnx] at hR' hle;have hpk:=hk _ (zN hi);obtain⟨p,hp⟩:∃ p,p=l[i]:=⟨_,rfl⟩;rw[<- hp] at g1 hle hR' hpk;obtain⟨S,hS⟩:∃ S,S=ah l.length++(l.take i).flatMap jc:=⟨_,rfl⟩;rw[<- hS] at hle hR' ⊢;have hpb:(jc p).length=1+(ah p.val.length).length+p.val.length:=by simp[jc];omega
  rw[zA] at hle;have hput:=qa p.val.length (by omega)
  rw[show S++jc p=((S++[UInt8.ofNat p.key.toNat])++ah p.val.length)++p.val by simp[jc]] at hR'
  rw[hpb] at hle;have hone:=tz p.key hpk;obtain⟨E,hE⟩:∃ E,E=ah p.val.length:=⟨_,rfl⟩;rw[<- hE] at hR' hput hle;have hok1:aV 1 (ay [UInt8.ofNat p.key.toNat])=true:=qm _;have hln1:(ay [UInt8.ofNat p.key.toNat]).length=1:=rfl;have htk1:List.take 1 (ay [UInt8.ofNat p.key.toNat])=ay [UInt8.ofNat p.key.toNat]:=rfl;generalize [UInt8.ofNat p.key.toNat]=K at *;have hK1:K.length=1:=by rw[<- dP,hln1]
  have q1:(S++K).length=S.length+1:=by simp[hK1]
  have q2:((S++K)++E).length=S.length+1+E.length:=by simp[hK1];omega
  have q3:(((S++K)++E)++p.val).length=S.length+1+E.length+p.val.length:=by simp[hK1];omega
  have r1:=jd S K;have r2:=jd (S++K) E;have r3:=jd ((S++K)++E) p.val;obtain⟨S1,hS1⟩:∃ S1,S1=S++K:=⟨_,rfl⟩;rw[<- hS1] at q1 q2 q3 hR' r1 r2 r3;obtain⟨S2,hS2⟩:∃ S2,S2=S1++E:=⟨_,rfl⟩;rw[<- hS2] at q2 q3 hR' r2 r3;obtain⟨S3,hS3⟩:∃ S3,S3=S2++p.val:=⟨_,rfl⟩;rw[<- hS3] at q3 hR' r3;rw[q3] at hR';obtain⟨pk,pv⟩:=p;simp only[Pr.enc] at *;refine bd ?_ CH.eq_1 g1 hput hone hok1 hln1 htk1 r1 r2 r3 @dP (And.intro @qm (And.intro q1 q2));exact hR' _ _ bA
 ·have ht:l.take i=l:=zL (by omega)
  rw[ht];have e:ah l.length++l.flatMap jc=aX l:=rfl;rw[e];have htk:(ay (aX l)).take (aX l).length=ay (aX l):=zL (by rw[dP];exact Nat.le_refl _)
  refine bd ?_ CH.eq_1 Pp.eq_1 htk @dP @mn;try simp[trim]
theorem vO (f:Seg->Int) (l:List Seg) (i:Nat) (h:i<l.length):iY f (l.drop i)=f l[i]+iY f (l.drop (i+1)):=by
 rw[zD h];rfl
theorem uW (l:List Seg) (i:Nat) (h:i+1<l.length):(l.drop i).take (l.length-i-1)=l[i]'(by omega)::(l.drop (i+1)).take (l.length-(i+1)-1):=by
 rw[zD (by omega:i<l.length)]
 obtain⟨k,hk⟩:∃ k,l.length-i-1=k+1:=⟨l.length-i-2,by omega⟩
 rw[hk,List.take_succ_cons];congr 2;omega
theorem ut (l:List Seg) (keep count:Int) (i:Nat) (h:i+1<l.length):eZ l keep count i=false↔(keep<iY Seg.size ((l.drop i).take (l.length-i-1))∨count<iY Seg.n (l.drop i)):=by
 unfold eZ KJ;have e:(l.drop i).length=l.length-i:=by simp
 rw[e];have:1<l.length-i:=by omega
 simp[this];omega
theorem xi (l:List Seg) (keep count:Int) (i:Nat) (h:l.length<=i+1):eZ l keep count i=true:=by
 unfold eZ KJ;have e:(l.drop i).length=l.length-i:=by simp
 have:¬ 1<l.length-i:=by omega
 simp[this]
theorem Gq (l:List Seg) (keep count:Int) (h:KV l) (i:Nat) (hs:eZ l keep count i=true):eZ l keep count (i+1)=true:=by
 by_cases c:i+2<l.length
 ·cases hq:eZ l keep count (i+1) with
  | true=>rfl
  | false =>
   have h1:=(ut l keep count (i+1) (by omega)).1 hq
   have hm:=h.2 _ (zN (by omega:i<l.length))
   have e1:iY Seg.size ((l.drop i).take (l.length-i-1))=l[i].size+iY Seg.size ((l.drop (i+1)).take (l.length-(i+1)-1)):=by rw[uW l i (by omega)];rfl
   have e2:=vO Seg.n l i (by omega)
   have:eZ l keep count i=false:=(ut l keep count i (by omega)).2 (by rw[e1,e2];omega)
   rw[this] at hs;cases hs
 ·exact xi l keep count (i+1) (by omega)
theorem pT (l:List Seg) (keep count:Int) (j:Nat) (hj:j<l.length) (h1:eZ l keep count j=true) (h2:∀ i,i<j->eZ l keep count i=false):eR l keep count=j:=by
 have:(List.range l.length).find? (eZ l keep count)=some j:=by
  rw[List.find?_range_eq_some];exact⟨h1,by simpa using hj,fun i hi=>by rw[h2 i hi];rfl⟩
 unfold eR;rw[this]
theorem Fx (l:List Seg) (keep count:Int) (h:KV l) (j:Nat) (hj:eZ l keep count j=false):∀ i,i<=j->eZ l keep count i=false:=by
 intro i hi;cases hq:eZ l keep count i with
 | false=>rfl
 | true =>
  have:∀ k,eZ l keep count (i+k)=true:=by
   intro k;induction k with
   | zero=>exact hq
   | succ k ih=>exact Gq l keep count h (i+k) ih
  have:=this (j-i);rw[show i+(j-i)=j by omega,hj] at this
  cases this
theorem DG (l:List Seg) (h:KV l) (keep count:Int):call 105 [vl (l.map Seg.enc),vi keep,vi count] []=some (vi (eR l keep count:Nat),[]):=by
 apply ae UK rfl;have hlen:=h.1;by_cases c0:l.length=0
 ·have e:eR l keep count=0:=by unfold eR;rw[c0];rfl
  rw[e];refine bd ?_ NQ.eq_1 c0;try simp[trim]
 ·have hL:l.length-1<l.length:=by omega
  have c1:¬ (l.length:Int)=0:=by omega
  have ek:((l.length:Int)-1).toNat=l.length-1:=by omega
  have ek0:(0:Int)<=(l.length:Int)-1:=by omega
  have g0:(l.map Seg.enc)[l.length-1]?=some l[l.length-1].enc:=by rw[zG,zE hL];rfl
  have hs1:iY Seg.n (l.drop (l.length-1))=l[l.length-1].n:=by rw[vO _ _ _ hL,show l.length-1+1=l.length by omega,List.drop_length];simp[iY]
  have hs0:iY Seg.size ((l.drop (l.length-1)).take (l.length-(l.length-1)-1))=0:=by rw[show l.length-(l.length-1)-1=0 by omega,List.take_zero];rfl
  obtain⟨W,hW⟩:∃ W,W=eR l keep count:=⟨_,rfl⟩;rw[<- hW];have hsq:eZ l keep count (l.length-1)=true:=xi _ _ _ _ (by omega)
  have hinit:iY Seg.size ((l.drop (l.length-1)).take (l.length-(l.length-1)-1))=0∧iY Seg.n (l.drop (l.length-1))=l[l.length-1].n:=⟨hs0,hs1⟩;obtain⟨p,hp⟩:∃ p,p=l[l.length-1]:=⟨_,rfl⟩;rw[<- hp] at g0 hinit;refine bd ?_ NQ.eq_1 c1 ek ek0 g0 @Seg.enc.eq_1;refine aq (m:=0) (σ:=Nat × Int × Int × Int) (fun t=>t.1) (fun t=>t.1<=l.length-1∧eZ l keep count t.1=true∧t.2.1=iY Seg.size ((l.drop t.1).take (l.length-t.1-1))∧t.2.2.1=iY Seg.n (l.drop t.1)∧t.2.2.2=(t.1:Int)-1) (fun t=>[vl (l.map Seg.enc),vi keep,vi count,vi t.2.1,vi t.2.2.1,vi t.2.2.2]) (fun _=>[])
   (fun _=>(vi (W:Nat),[])) ?_ (l.length-1,0,p.n,(l.length:Int)-1-1) ⟨Nat.le_refl _,hsq,hinit.1.symm,hinit.2.symm,by simp only[];omega⟩ _ _ bA
  rintro⟨j,b,r,i⟩ ⟨h1,h2,h3,h4,h5⟩ R hR;simp only at h1 h2 h3 h4 h5;by_cases hj:j=0
  ·have e:W=0:=by rw[hW];exact pT l keep count 0 (by omega) (hj ▸ h2) (fun i hi=>absurd hi (by omega))
   have ci:¬ (0:Int)<=i:=by omega
   rw[e];refine bd ?_ uR.eq_1 NQ.eq_1 (zF ci);try simp[trim]
  ·have hjl:j-1<l.length:=by omega
   have ci:(0:Int)<=i:=by omega
   have ei:i.toNat=j-1:=by omega
   have g1:(l.map Seg.enc)[j-1]?=some l[j-1].enc:=by rw[zG,zE hjl];rfl
   have s1:iY Seg.size ((l.drop (j-1)).take (l.length-(j-1)-1))=l[j-1].size+iY Seg.size ((l.drop j).take (l.length-j-1)):=by
    have:=uW l (j-1) (by omega)
    simp only[show j-1+1=j by omega] at this
    rw[this];rfl
   have s2:iY Seg.n (l.drop (j-1))=l[j-1].n+iY Seg.n (l.drop j):=by rw[vO _ _ _ hjl,show j-1+1=j by omega]
   have sb:=IF Seg.size (l.drop j) (by simp;omega) (fun g hg=>(h.2 g (List.mem_of_mem_drop hg)).2) (l.length-j-1)
   have sn:=IF Seg.n (l.drop j) (by simp;omega) (fun g hg=>(h.2 g (List.mem_of_mem_drop hg)).1) l.length
   rw[zL (by simp)] at sn
   have hm:=h.2 _ (zN hjl);have hst:=ut l keep count (j-1) (by omega)
   have hR':=hR (j-1,b+l[j-1].size,r+l[j-1].n,i-1) (by simp only[];omega)
   rw[s1,s2] at hst;simp only[s1,s2] at hR';rw[<- h3] at hst sb hR';rw[<- h4] at hst sn hR';have hdn:=Fx l keep count h (j-1);obtain⟨q,hq⟩:∃ q,q=l[j-1]:=⟨_,rfl⟩;rw[<- hq] at g1 hst hm hR';have hjn:((j-1:Nat):Int)+1=j:=by omega
   have hij:i+1=(j:Int):=by omega
   by_cases k1:keep<b+q.size
   ·have hf:=hst.2 (.inl (by omega))
    have e:W=j:=by rw[hW];exact pT l keep count j (by omega) h2 (fun i hi=>hdn hf i (by omega))
    rw[e];refine bd ?_ uR.eq_1 ci ei g1 @Seg.enc.eq_1 (zT k1) hij;try simp[trim]
   ·by_cases k2:count<r+q.n
    ·have hf:=hst.2 (.inr (by omega))
     have e:W=j:=by rw[hW];exact pT l keep count j (by omega) h2 (fun i hi=>hdn hf i (by omega))
     rw[e];refine bd ?_ uR.eq_1 ci ei g1 @Seg.enc.eq_1 (zF k1) (zT k2) hij;try simp[trim]
    ·have hsy:eZ l keep count (j-1)=true:=by
      cases hx:eZ l keep count (j-1) with
      | true=>rfl
      | false=>have:=hst.1 hx;omega
     refine bd ?_ uR.eq_1 ci ei g1 @Seg.enc.eq_1 (zF k1) (zF k2);exact hR' ⟨by omega,hsy,by omega,by omega,by omega⟩ _ _ bA
theorem Kz {k u:Nat} (s:Sto) (h:okS k u s) (hk:k<=800000):call 145 [.agg s.l] []=some (vs (cU s),[]):=by
 have hf:call 119 [.agg s.l] []=some (vi s.floor,[]):=oY s;have hn:=nG (fD h);have hr:=sm s.disk (Nat.le_trans h.dsk.len (by omega)) h.dsk.srt (aC s.floor)
 have e:cU s=if s.floor=0 then[] else(az s.disk.files (aC s.floor)).1:=rfl
 rw[e];generalize s.floor=fl at *;generalize aC fl=N at *;generalize az s.disk.files N=rf at *;have hcell:s.l=[.d (.l (s.disk.files.map Fil.enc)),zI s.disk.cap,zB s.disk.armed,zI s.disk.left,zB s.disk.down,zI s.ver,.d (.l (s.segs.map Seg.enc)),zI s.next,zI s.sure,zI s.size,zW s.sum]:=rfl;have hd:s.disk.l=[.d (.l (s.disk.files.map Fil.enc)),zI s.disk.cap,zB s.disk.armed,zI s.disk.left,zB s.disk.down]:=rfl;apply ae Vw rfl;rw[hcell] at hf ⊢;rw[hd] at hr;by_cases c:fl=0
 ·subst c;rw[if_pos rfl];refine bh ?_ OT.eq_1 hf;try simp[trim]
 ·rw[if_neg c];refine bh ?_ OT.eq_1 hf hn hr c;try simp[trim]
theorem wX {s:List UInt8} {l:List Pr} (h:aU s=some l):gZ l:=by
 have hr:dB l=true:=by
  unfold aU at h;split at h
  ·split at h
   ·cases h
   ·unfold iR at h;split at h
    ·split at h
     ·rename_i hc;cases h;exact hc.2
     ·cases h
    ·cases h
  ·cases h
 have key:∀ i,(hi:i+1<l.length)->l[i].key<l[i+1].key:=by
  intro i hi;have:=(List.all_eq_true.1 hr) (i+1) (by simpa using hi)
  simp only[oR,zE hi,Bool.and_eq_true,Bool.or_eq_true,decide_eq_true_eq] at this;have h2:=this.2.resolve_left (by omega)
  have e:iO l (i+1-1)=l[i].key:=by simp[iO,zE (show i<l.length by omega)]
  rwa [e] at h2
 have mono:∀ d i,(hi:i+1+d<l.length)->l[i].key<l[i+1+d].key:=by
  intro d;induction d with
  | zero=>intro i hi;exact key i hi
  | succ d ih=>intro i hi;exact Int.lt_trans (ih i (by omega)) (key (i+1+d) hi)
 unfold gZ;rw[List.pairwise_iff_getElem];intro i j hi hj hij;have:=mono (j-i-1) i (by omega)
 simpa only[show i+1+(j-i-1)=j by omega] using this
def Sto.rcs (s:Sto) (g:Seg):List Rec:=(cD (s.txt g) g.base).1.map (·.1)
def KN (s:Sto) (off:Int):List Seg->List Pr->List Pr
 | [],l=>l
 | g::r,l=>if off<=g.base then l else KN s off r (df l ((s.rcs g).take (off-g.base).toNat))
def ne (s:Sto) (off:Int):List Pr:=KN s off s.segs ((aU (cU s)).getD [])
theorem P9 (s:Sto) (g:Seg):∀ r∈s.rcs g,r.da.length<=64:=by
 intro r hr;simp only[Sto.rcs,List.mem_map] at hr;obtain⟨x,hx,rfl⟩:=hr;exact zn (AO _ _ x hx)
theorem Gk {k u:Nat} {s:Sto} (h:okS k u s):(cU s).length<=u:=by
 unfold cU;split
 ·simp
 ·exact Nat.le_trans (de _ _) h.dsk.used
theorem Qp (s:Sto):gZ ((aU (cU s)).getD [])∧okP ((aU (cU s)).getD []):=by
 cases h:aU (cU s) with
 | none=>exact⟨List.Pairwise.nil,fun p hp=>by cases hp⟩
 | some l=>exact⟨wX h,(qw h).1⟩
theorem G8 {k u:Nat} (s:Sto) (h:okS k u s) (hk:k<=800000) (hu:u<=1000000) (off:Int) (hoff:0<=off∧off<=1099511627776):call 107 [.agg s.l,vi off] []=some (vl ((ne s off).map Pr.enc),[]):=by
 have hs:=Kz s h hk;have hsl:=Gk h;have hp:=vy (cU s) (by omega)
 have hpv:∃ ok:Bool,dp (aU (cU s))=.tup [(false,[.d (.l (((aU (cU s)).getD []).map Pr.enc))]),(false,[zB ok])]:=by
  cases aU (cU s) with
  | none=>exact⟨false,rfl⟩
  | some l=>exact⟨true,rfl⟩
 have hl0:=Qp s;obtain⟨Z,hZ⟩:∃ Z:V,Z=vl ((ne s off).map Pr.enc):=⟨_,rfl⟩;rw[<- hZ];have hZ':Z=vl ((KN s off s.segs ((aU (cU s)).getD [])).map Pr.enc):=hZ;clear hZ;obtain⟨ok,hpv⟩:=hpv;rw[hpv] at hp;generalize (aU (cU s)).getD []=l0 at *;generalize cU s=sn at *;have hlen:=h.len;have hseg:=h.seg;have hrd:=fun g=>sm s.disk (Nat.le_trans h.dsk.len (by omega)) h.dsk.srt (fileN g)
 have hd:s.disk.l=[.d (.l (s.disk.files.map Fil.enc)),zI s.disk.cap,zB s.disk.armed,zI s.disk.left,zB s.disk.down]:=rfl;rw[hd] at hrd;have hcell:s.l=[.d (.l (s.disk.files.map Fil.enc)),zI s.disk.cap,zB s.disk.armed,zI s.disk.left,zB s.disk.down,zI s.ver,.d (.l (s.segs.map Seg.enc)),zI s.next,zI s.sure,zI s.size,zW s.sum]:=rfl;apply ae Vo rfl;rw[hcell] at hs ⊢;refine bh ?_ L5.eq_1 hs hp;refine aq (m:=0) (σ:=Nat × List Pr) (fun t=>s.segs.length-t.1) (fun t=>t.1<=s.segs.length∧(gZ t.2∧okP t.2)∧Z=vl ((KN s off (s.segs.drop t.1) t.2).map Pr.enc)) (fun t=>[vi off,V.one (.p 0 0),vl (t.2.map Pr.enc),vl (s.segs.map Seg.enc),vi s.segs.length,vi t.1])
  (fun _=>[.cells [.d (.l (s.disk.files.map Fil.enc)),zI s.disk.cap,zB s.disk.armed,zI s.disk.left,zB s.disk.down,zI s.ver,.d (.l (s.segs.map Seg.enc)),zI s.next,zI s.sure,zI s.size,zW s.sum]]) (fun _=>(Z,[])) ?_ (0,l0) ⟨zP _,hl0,hZ'⟩ _ _ bA
 rintro⟨i,l⟩ ⟨h1,h2,h3⟩ R hR;simp only at h1 h2 h3;by_cases c:i<s.segs.length
 ·have hc:(i:Int)<(s.segs.length:Int):=by omega
  rw[zD c,KN] at h3;have g1:(s.segs.map Seg.enc)[i]?=some s.segs[i].enc:=by rw[zG,zE c];rfl
  have hg:=hseg _ (zN c);have g2:=mC hg.1;have g3:=hrd s.segs[i].base;have g4:=GX (s.txt s.segs[i]) (Nat.le_trans (de _ _) (Nat.le_trans h.dsk.used hu)) s.segs[i].base (by omega)
  have hrc:s.rcs s.segs[i]=(cD (s.txt s.segs[i]) s.segs[i].base).1.map (·.1):=rfl;have hrd2:=P9 s s.segs[i];have hrl:(s.rcs s.segs[i]).length<=1000000:=by
   rw[hrc,zM];exact Nat.le_trans (n8 _ _) (Nat.le_trans (de _ _) (Nat.le_trans h.dsk.used hu))
  have e4:i5 (cD (s.txt s.segs[i]) s.segs[i].base)=.tup [(false,[.d (.l ((s.rcs s.segs[i]).map Rec.enc))]),(false,[.d (.i .i64 (((cD (s.txt s.segs[i]) s.segs[i].base).2.1:Nat):Int))]),(false,[.d (.i .i64 (cD (s.txt s.segs[i]) s.segs[i].base).2.2)])]:=by
   unfold i5;rw[hrc,List.map_map];rfl
  rw[e4] at g4;have htx:s.txt s.segs[i]=(az s.disk.files (fileN s.segs[i].base)).1:=rfl;rw[htx] at g4;generalize (cD (az s.disk.files (fileN s.segs[i].base)).1 s.segs[i].base).2=z at *;generalize s.rcs s.segs[i]=RR at *;clear hrc htx e4;generalize s.segs[i]=g at *;generalize az s.disk.files (fileN g.base)=rf at *;obtain⟨gb,gn,gz⟩:=g;simp only[Seg.enc] at *;by_cases c2:off<=gb
  ·rw[if_pos c2] at h3;rw[h3];refine bh ?_ zp.eq_1 L5.eq_1 (zT hc) g1 (zT c2);try simp[trim]
  ·rw[if_neg c2] at h3;have ht:=nz (RR.take (off-gb).toNat) l h2.1 h2.2 (fun r hr=>hrd2 r (zZ hr))
   have g5:=GD l h2.1 h2.2 (RR.take (off-gb).toNat) (by simp;omega) (fun r hr=>hrd2 r (zZ hr))
   have hR':=hR (i+1,df l (RR.take (off-gb).toNat)) (by simp only[];omega) ⟨by simp only[];omega,⟨ht.1,ht.2.1⟩,h3⟩
   have em:List.take (if off-gb<(RR.length:Int) then off-gb else(RR.length:Int)).toNat (RR.map Rec.enc)=(RR.take (off-gb).toNat).map Rec.enc:=by
    rw[<- List.map_take];congr 1
    split
    ·rfl
    ·rw[zL (by omega),zL (by omega)]
   have hok:aV 3 (RR.map Rec.enc)=true:=aZ Rec.len _;generalize df l (RR.take (off-gb).toNat)=l2 at *;refine bh ?_ zp.eq_1 (zT hc) g1 (zF c2) g2 g3 g4 hok em g5;exact hR' _ _ bA
 ·have hc:¬ (i:Int)<(s.segs.length:Int):=by omega
  rw[zC (by omega),KN] at h3
  rw[h3];refine bh ?_ zp.eq_1 L5.eq_1 (zF hc);try simp[trim]
variable {k u:Nat} {f:Int} {S:Txt} {l0:List Pr} {s:Sto} {M:List SR} {g:Seg} {l:List Rec}
theorem Inv.rcs (ho:okS k u s) (h:Inv f s M g l):∀ p∈M++[(g,l)],s.rcs p.1=p.2:=by
 intro p hp;have hf:=h.file p hp;have hpm:p.1∈s.segs:=by
  rw[h.segs];rcases zX.1 hp with hp|hp
  ·exact List.mem_append_left _ (List.mem_map_of_mem hp)
  ·rw[zV.1 hp];simp
 have hb:=(ho.seg _ hpm).1;have ht:s.txt p.1=rowS p.2:=by
  unfold Sto.txt;rw[qR ho.dsk.srt hf.has]
 unfold Sto.rcs;rw[ht];exact(AE p.2 p.1.base (by simp[ef];omega) hf.why hf.num).1
theorem Inv.scans (ho:okS k u s) (h:Inv f s M g l):s.scans=M++[(g,l)]:=by
 have e:s.segs=(M++[(g,l)]).map (·.1):=by rw[h.segs];simp
 have e2:s.scans=s.segs.map fun a=>(a,s.rcs a):=rfl
 rw[e2,e,List.map_map];have:(M++[(g,l)]).map ((fun a=>(a,s.rcs a)) ∘ fun x=>x.1)=(M++[(g,l)]).map id:=by
  apply List.map_congr_left;intro p hp;show(p.1,s.rcs p.1)=p;rw[h.rcs ho p hp]
 rw[this,List.map_id]
theorem EV {b:Int} {A B:List Rec} (h1:numB b A) (h2:numB (b+A.length) B):numB b (A++B):=by
 intro i hi;rw[zA] at hi;rcases Nat.lt_or_ge i A.length with c|c
 ·rw[List.getElem_append_left c];exact h1 i c
 ·rw[List.getElem_append_right c,h2 (i-A.length) (by omega)];omega
theorem wE:∀ (M:List SR) (b e:Int),chainM b M e->(∀ p∈M,numB p.1.base p.2)->numB b (aQ M)
 | [],b,e,_,_=>fun i hi=>by simp[aQ] at hi
 | p::M,b,e,h,hn=>by
  simp only[chainM] at h;have e1:aQ (p::M)=p.2++aQ M:=by simp[aQ]
  rw[e1];have h1:=hn p (by simp)
  rw[h.1] at h1;exact EV h1 (wE M _ e h.2.2 (fun q hq=>hn q (by simp[hq])))
theorem Inv.num (h:Inv f s M g l):numB f (aQ (M++[(g,l)])):=by
 have h1:=wE M f g.base h.chain (fun p hp=>(h.file p (List.mem_append_left _ hp)).num)
 rw[cH,dO];refine EV h1 ?_;rw[im _ _ _ h.chain];exact(h.file (g,l) (by simp)).num
theorem W.snT (ho:okS k u s) (h:W f S l0 s M g l):cU s=S∧(aU (cU s)).getD []=l0:=by
 have hf:s.floor=f:=WR.floor ⟨M,g,l,h,rfl⟩;have e:cU s=S:=by
  unfold cU;rw[hf];rcases h.snp with⟨h1,h2,_⟩|⟨h1,h2,_⟩
  ·rw[if_pos h1,h2]
  ·rw[if_neg (by omega),kG ho.dsk.srt,h2]
 rw[e];refine⟨rfl,?_⟩;rcases h.snp with⟨_,h2,h3,_⟩|⟨_,_,h3,_⟩
 ·rw[h2,h3];rfl
 ·rw[h3];rfl
theorem Bg {R:List Rec} (hd:∀ j,(hj:j<R.length)->jU s (f+j)=R[j].da):∀ (n j:Nat) (q:List Pr),j+n<=R.length->rO s n (f+j) q=df q ((R.drop j).take n)
 | 0,j,q,_=>by simp[rO,df]
 | n+1,j,q,h=>by
  have hj:j<R.length:=by omega
  rw[rO,hd j hj,zD hj,List.take_succ_cons];have ih:=Bg hd n (j+1) (cT q R[j].da) (by omega)
  rw[Int.natCast_add,Int.natCast_one,<- Int.add_assoc] at ih;rw[ih];rfl
theorem W.data (ho:okS k u s) (h:W f S l0 s M g l) (j:Nat) (hj:j<(aQ (M++[(g,l)])).length):jU s (f+j)=(aQ (M++[(g,l)]))[j].da:=by
 have hn:s.next=f+(aQ (M++[(g,l)])).length:=WR.next ⟨M,g,l,h,rfl⟩;have hf0:0<=f:=by have:=WR.floor ⟨M,g,l,h,rfl⟩;rw[<- this];exact(fD ho).1
 unfold jU;rw[if_neg (by omega),h.inv.scans ho,Bo h.inv.num j hj]
def Gd (l0:List Pr) (f:Int) (R:List Rec) (off:Int):List Pr:=df l0 (R.take (off-f).toNat)
theorem W.stT (ho:okS k u s) (h:W f S l0 s M g l) (off:Int) (h1:f<=off∧off<=s.next):bC s off=Gd l0 f (aQ (M++[(g,l)])) off:=by
 have hn:s.next=f+(aQ (M++[(g,l)])).length:=WR.next ⟨M,g,l,h,rfl⟩;unfold bC Gd;rw[(h.snT ho).2,WR.floor ⟨M,g,l,h,rfl⟩];have:=Bg (h.data ho) (off-f).toNat 0 l0 (by omega)
 simpa using this
theorem xo (s:Sto) (off:Int):∀ (M:List SR) (b e:Int) (q:List Pr),chainM b M e->(∀ p∈M,s.rcs p.1=p.2)->∀ rest:List Seg,KN s off (M.map (·.1)++rest) q=if(∃ p∈M,off<=p.1.base) then df q ((aQ M).take (off-b).toNat) else KN s off rest (df q ((aQ M).take (off-b).toNat))
 | [],b,e,q,_,_,rest=>by simp[aQ,df]
 | p::M,b,e,q,h,hr,rest=>by
  simp only[chainM] at h;have ih:=xo s off M (b+p.2.length) e (df q (p.2.take (off-b).toNat)) h.2.2 (fun x hx=>hr x (by simp[hx])) rest
  have e1:aQ (p::M)=p.2++aQ M:=by simp[aQ]
  have hce:=(dY _ _ _ h.2.2);have hb:=h.1;rw[List.map_cons,List.cons_append,KN,hr p (by simp),hb]
  by_cases c:off<=b
  ·rw[if_pos c,if_pos ⟨p,by simp,by omega⟩]
   have:(off-b).toNat=0:=by omega
   rw[this,List.take_zero];rfl
  ·rw[if_neg c,ih,e1];have e2:df (df q (p.2.take (off-b).toNat)) ((aQ M).take (off-(b+p.2.length)).toNat)=df q ((p.2++aQ M).take (off-b).toNat):=by
    rw[<- w6,List.take_append];congr 3;omega
   rw[e2];by_cases c2:∃ x∈M,off<=x.1.base
   ·obtain⟨x,hx,hx2⟩:=c2;have hx3:=hce.2 x hx;rw[if_pos ⟨x,hx,hx2⟩,if_pos ⟨x,by simp[hx],hx2⟩]
   ·rw[if_neg c2,if_neg];rintro⟨x,hx,hx2⟩;rcases List.mem_cons.1 hx with rfl|hx
    ·omega
    ·exact c2 ⟨x,hx,hx2⟩
theorem W.sPr (ho:okS k u s) (h:W f S l0 s M g l) (off:Int) (h1:f<=off∧off<=s.next):ne s off=Gd l0 f (aQ (M++[(g,l)])) off:=by
 unfold ne Gd;rw[(h.snT ho).2,h.inv.segs,xo s off M f g.base l0 h.inv.chain (fun p hp=>h.inv.rcs ho p (List.mem_append_left _ hp))]
 have hcl:=im _ _ _ h.inv.chain;split
 ·rename_i c;obtain⟨x,hx,hx2⟩:=c;have:=(dY _ _ _ h.inv.chain).2 x hx;rw[cH,List.take_append_of_le_length (by omega)]
 ·rename_i c;rw[KN,h.inv.rcs ho (g,l) (by simp),KN]
  split
  ·rename_i c2;rw[cH,List.take_append_of_le_length (by omega)]
  ·rename_i c2;rw[cH,dO,List.take_append,w6];congr 2
   omega
theorem W.same_state (ho:okS k u s) (h:W f S l0 s M g l):∀ a∈s.segs,ne s a.base=bC s a.base:=by
 intro a ha;have hb:f<=a.base∧a.base<=s.next:=by
  have hn:=h.inv.next;rw[h.inv.segs] at ha;rcases zX.1 ha with ha|ha
  ·obtain⟨p,hp,rfl⟩:=List.mem_map.1 ha;have:=(dY _ _ _ h.inv.chain);have:=this.2 p hp;omega
  ·rw[zV.1 ha];have:=(dY _ _ _ h.inv.chain).1;omega
 rw[h.sPr ho _ hb,h.stT ho _ hb]
def okV (l:List Pr):Prop:=∀ p∈l,(0<=p.key∧p.key<256)∧(1<=p.val.length∧p.val.length<=63)
theorem okV.okP {l:List Pr} (h:okV l):okP l:=fun p hp=>⟨(h p hp).1,by have:=(h p hp).2;omega⟩
theorem step_okV {l:List Pr} (h:okV l) {d:List UInt8} (hd:d.length<=64):okV (cT l d):=by
 cases d with
 | nil=>exact h
 | cons c r =>
  intro p hp;simp only[cT,zX] at hp;rcases hp with(hp|hp)|hp
  ·exact h p ((List.takeWhile_sublist _).subset hp)
  ·split at hp
   ·cases hp
   ·rename_i hr;rw[zV] at hp;subst hp;have:=UInt8.toNat_lt c;have:=List.length_pos_iff.2 hr;simp at hd;exact⟨⟨by simp only[];omega,by simp only[];omega⟩,by simp only[];omega⟩
  ·exact h p (List.mem_filter.1 hp).1
theorem rE:∀ (R:List Rec) (l:List Pr),okV l->(∀ r∈R,r.da.length<=64)->okV (df l R)
 | [],l,h,_=>h
 | r::R,l,h,hr=>rE R _ (step_okV h (hr r (by simp))) (fun x hx=>hr x (by simp[hx]))
theorem Kt {l:List Pr} (hs:gZ l) (h:okV l):dB l=true:=by
 unfold dB;rw[List.all_eq_true];intro i hi;have hi:i<l.length:=by simpa using hi
 simp only[oR,zE hi,qD,Bool.and_eq_true,Bool.or_eq_true,decide_eq_true_eq];refine⟨(h _ (zN hi)).2,?_⟩;by_cases c:i=0
 ·exact .inl c
 ·refine .inr ?_;have e:iO l (i-1)=l[i-1].key:=by simp[iO,zE (show i-1<l.length by omega)]
  rw[e];exact(List.pairwise_iff_getElem.1 hs) (i-1) i (by omega) hi (by omega)
theorem Hx {l:List Pr} (hr:dB l=true) (ho:okP l):okV l:=by
 intro p hp;obtain⟨i,hi,rfl⟩:=zJ hp;have:=(List.all_eq_true.1 hr) i (by simpa using hi)
 simp only[oR,zE hi,qD,Bool.and_eq_true,decide_eq_true_eq] at this;exact⟨(ho _ hp).1,this.1⟩
theorem Dq (pre rest:Txt) (p:Pr) (h:(0<=p.key∧p.key<256)∧(1<=p.val.length∧p.val.length<=63)):lT (pre++(jc p++rest)) pre.length=some (p,(pre++jc p).length):=by
 obtain⟨key,v⟩:=p;simp only at h;have e0:pre++(jc ⟨key,v⟩++rest)=(pre++[UInt8.ofNat key.toNat])++(ah v.length++(v++rest)):=by simp[jc]
 have e1:(pre++(jc ⟨key,v⟩++rest)).drop (pre.length+1)=ah v.length++(v++rest):=by
  rw[e0];exact List.drop_left' (by simp)
 have hr:=kN v.length (v++rest) (by omega)
 have hk:(ah v.length).length=nd v.length:=rfl;have hl:(pre++(jc ⟨key,v⟩++rest)).length=pre.length+1+nd v.length+v.length+rest.length:=by rw[e0];simp[hk];omega
 have ha:(pre++(jc ⟨key,v⟩++rest))[pre.length]?=some (UInt8.ofNat key.toNat):=by simp[jc]
 have hv:((pre++(jc ⟨key,v⟩++rest)).take (pre.length+1+nd v.length+v.length)).drop (pre.length+1+nd v.length)=v:=by
  have e2:pre++(jc ⟨key,v⟩++rest)=((pre++[UInt8.ofNat key.toNat])++ah v.length)++(v++rest):=by simp[jc]
  have hl2:((pre++[UInt8.ofNat key.toNat])++ah v.length).length=pre.length+1+nd v.length:=by simp[hk];omega
  rw[e2,<- hl2,List.take_length_add_append,List.drop_left,List.take_left]
 have hkey:((UInt8.ofNat key.toNat).toNat:Int)=key:=by simp;omega
 unfold lT;rw[e1,hr];simp only[];rw[if_neg (by omega),hv,ha]
 simp only[Option.getD_some,hkey];congr 2
 simp[jc,hk];omega
theorem u5:∀ (l:List Pr) (pre:Txt) (out:List Pr),okV l->eg (pre++l.flatMap jc) l.length pre.length out=some (out++l,(pre++l.flatMap jc).length)
 | [],pre,out,_=>by simp[eg]
 | p::l,pre,out,h=>by
  have hp:=Dq pre (l.flatMap jc) p (h p (by simp))
  rw[List.flatMap_cons,List.length_cons,eg,hp];simp only[];have ih:=u5 l (pre++jc p) (out++[p]) (fun q hq=>h q (by simp[hq]))
  rw[List.append_assoc] at ih;rw[ih];simp
theorem sC {l:List Pr} (hs:gZ l) (h:okV l):aU (aX l)=some l:=by
 have hl:=qP hs h.okP;have hr:=kN l.length (l.flatMap jc) (by omega)
 have hp:=u5 l (ah l.length) [] h;have hk:(ah l.length).length=nd l.length:=rfl;unfold aU;have e:aX l=ah l.length++l.flatMap jc:=rfl;rw[e,hr];simp only[];rw[if_neg (by omega),<- hk,hp]
 unfold iR;simp[Kt hs h]
theorem F7 {s:List UInt8} {l:List Pr} (h:aU s=some l):okV l:=by
 have hr:dB l=true:=by
  unfold aU at h;split at h
  ·split at h
   ·cases h
   ·unfold iR at h;split at h
    ·split at h
     ·rename_i hc;cases h;exact hc.2
     ·cases h
    ·cases h
  ·cases h
 exact Hx hr (qw h).1
theorem CC {k u:Nat} {d:Dsk} (h:okN k u d) (h0:(aH d).2=0):okS (k+2) (u+1000) (aH d).1∧(∀ seg:Int,0<=seg->Up 0 seg (aH d).1 [])∧(aH d).1.next=0∧(aH d).1.sure=0:=by
 have k1:=fG (s:=(d,0)) h (fileN 0);unfold aH at h0 ⊢;simp only[] at h0 ⊢;have k2:okN (k+2) (u+1000) (if(bR (fileN 0) (d,0)).2=0 then bT ⟨1,[0],0,0⟩ (bR (fileN 0) (d,0)) else bR (fileN 0) (d,0)).1:=by
  split
  ·exact(iS k1 _).up (by omega) (by omega)
  ·exact k1.up (by omega) (by omega)
 have hd:(bR (fileN 0) (d,0)).2=0->hasD (if(bR (fileN 0) (d,0)).2=0 then bT ⟨1,[0],0,0⟩ (bR (fileN 0) (d,0)) else bR (fileN 0) (d,0)).1.files (fileN 0) []:=fun hc=>by
  rw[if_pos hc];exact rU k1 _ (nU _ _) (nU _ _) (ED hc)
 have hc:(if(bR (fileN 0) (d,0)).2=0 then bT ⟨1,[0],0,0⟩ (bR (fileN 0) (d,0)) else bR (fileN 0) (d,0)).2=0->(bR (fileN 0) (d,0)).2=0:=fun hx=>by
  by_cases hc:(bR (fileN 0) (d,0)).2=0
  ·exact hc
  ·rw[if_neg hc] at hx;exact hx
 generalize (if(bR (fileN 0) (d,0)).2=0 then bT ⟨1,[0],0,0⟩ (bR (fileN 0) (d,0)) else bR (fileN 0) (d,0))=s2 at *
 by_cases c:s2.2=0
 ·rw[if_pos c];have hd:=hd (hc c);refine⟨⟨k2,by simp,?_,by simp,⟨by simp,by simp only[];omega⟩,by simp⟩,fun seg hs=>⟨[],⟨0,0,0⟩,[],⟨rfl,?_,rfl,rfl,by simp⟩,⟨fun p hp=>(by cases hp),by simp only[];omega⟩,rfl⟩,rfl,rfl⟩
  ·intro g hg;simp only[zV] at hg;subst hg;simp;omega
  ·intro p hp;simp only[List.nil_append,zV] at hp;subst hp;exact⟨hd,fun r hr=>(by cases hr),fun k hk=>(by simp at hk),rfl,rfl⟩
 ·rw[if_neg c] at h0;exact absurd h0 c
def d0:Dsk:=⟨[],0,false,0,false⟩
theorem d0_ok:okN 0 0 d0:=⟨Nat.le_refl _,List.Pairwise.nil,by decide,by decide,Nat.le_refl _⟩
theorem Cx:(aH d0).2=0:=by decide +kernel
variable {k u:Nat} {f:Int} {S:Txt} {l0:List Pr} {s:Sto} {M:List SR} {g:Seg} {l:List Rec}
theorem W.st0 (h:W f S l0 s M g l):gZ l0∧okV l0:=by
 rcases h.snp with⟨_,_,h3,_⟩|⟨_,_,h3,_⟩
 ·rw[h3];exact⟨List.Pairwise.nil,fun p hp=>by cases hp⟩
 ·exact⟨wX h3,F7 h3⟩
theorem W.why (h:W f S l0 s M g l):∀ r∈aQ (M++[(g,l)]),whyF r=0:=by
 intro r hr;simp only[aQ,List.mem_flatMap] at hr;obtain⟨p,hp,hr⟩:=hr;exact(h.inv.file p hp).why r hr
theorem W.st (h:W f S l0 s M g l) (off:Int):gZ (Gd l0 f (aQ (M++[(g,l)])) off)∧okV (Gd l0 f (aQ (M++[(g,l)])) off):=by
 have h1:∀ r∈(aQ (M++[(g,l)])).take (off-f).toNat,r.da.length<=64:=fun r hr=>zn (h.why r (zZ hr))
 exact⟨(nz _ _ h.st0.1 h.st0.2.okP h1).1,rE _ _ h.st0.2 h1⟩
theorem sM {q:List Pr} (hs:gZ q) (ho:okV q):1<=(aX q).length∧(aX q).length<=18960:=by
 have h1:=qP hs ho.okP;have h2:=so ho.okP (by omega)
 have h3:1<=(ah q.length).length:=gt q.length;refine⟨?_,by omega⟩
 unfold aX;rw[zA];omega
theorem oM:∀ (k:Nat) (M:List SR) (b e:Int),k<=M.length->chainM b M e->chainM (b+(aQ (M.take k)).length) (M.drop k) e
 | 0,M,b,e,_,h=>by simpa[aQ] using h
 | k+1,[],b,e,hk,_=>by simp at hk
 | k+1,p::M,b,e,hk,h=>by
  simp only[chainM] at h;have ih:=oM k M (b+p.2.length) e (by simpa using hk) h.2.2
  have e1:(aQ ((p::M).take (k+1))).length=p.2.length+(aQ (M.take k)).length:=by simp[aQ]
  rw[e1,List.drop_succ_cons,Int.natCast_add,<- Int.add_assoc];exact ih
theorem BU {M:List SR} {b e:Int} (h:chainM b M e):∀ x,(M.map (·.1.base)++[e])[0]?=some x->x=b:=by
 intro x hx;cases M with
 | nil=>simp[chainM] at h hx;omega
 | cons p M=>simp[chainM] at h hx;omega
theorem W.base_k (h:W f S l0 s M g l) {n:Nat} (hn:n<s.segs.length):n<=M.length∧aL s.segs n=f+(aQ (M.take n)).length:=by
 have hl:s.segs.length=M.length+1:=by rw[h.inv.segs];simp
 have hk:n<=M.length:=by omega
 refine⟨hk,?_⟩;have hc:=oM n M f g.base hk h.inv.chain;refine BU hc _ ?_;have e1:s.segs.map Seg.base=M.map (·.1.base)++[g.base]:=by rw[h.inv.segs];simp[List.map_map,Function.comp_def]
 have e2:(M.drop n).map (·.1.base)++[g.base]=(s.segs.map Seg.base).drop n:=by
  rw[e1,List.drop_append_of_le_length (by simpa using hk),List.map_drop]
 rw[e2,List.getElem?_drop,Nat.add_zero,zG,(jz hn).1,(jz hn).2];rfl
theorem W.trimR (ho:okS k u s) (h:W f S l0 s M g l) (hv:u<1000000000000) {n:Nat} (hn:n<s.segs.length) (h0:n≠0):f<aL s.segs n∧aL s.segs n<=s.next∧bC s (aL s.segs n)=Gd l0 f (aQ (M++[(g,l)])) (aL s.segs n)∧manB (eJ s n).man=true:=by
 have hb:=h.base_k hn;have hf0:0<=f:=by have:=WR.floor ⟨M,g,l,h,rfl⟩;rw[<- this];exact(fD ho).1
 have hce:=dY _ _ _ h.inv.chain;have hcl:=im _ _ _ h.inv.chain;have hnx:=h.inv.next;have e1:aQ M=aQ (M.take n)++aQ (M.drop n):=by rw[<- cH,zY]
 have h1:f<aL s.segs n:=by
  rw[hb.2];have:0<(aQ (M.take n)).length:=by
   cases hM:M with
   | nil=>rw[hM] at hb;simp at hb;omega
   | cons p r =>
    obtain⟨m,rfl⟩:∃ m,n=m+1:=⟨n-1,by omega⟩
    have:=(hce.2 p (by rw[hM];simp)).2.2
    simp[aQ];omega
  omega
 have h2:aL s.segs n<=s.next:=by
  rw[hb.2];rw[e1,zA] at hcl;omega
 have h3:=h.stT ho (aL s.segs n) ⟨by omega,h2⟩
 refine⟨h1,h2,h3,?_⟩;have hst:=h.st (aL s.segs n);have hbs:=sM hst.1 hst.2;have hm:=iE h.right;have hi:=h.man_inc;have hv2:=ho.ver;have hv1:1<=s.ver:=hm.1.1;have hl64:=ho.len;have ex:(eJ s n).man.segs=(s.segs.map Seg.base).drop n:=by show(s.segs.drop n).map Seg.base=_;rw[List.map_drop]
 have ez:(eJ s n).man.size=((aX (bC s (aL s.segs n))).length:Nat):=rfl;refine xZ ⟨by show 1<=s.ver+1;omega,by show s.ver+1<=_;omega⟩ ⟨by rw[ex];simp;omega,by rw[ex];simp;omega⟩ ?_ (.inr ⟨?_,?_⟩)
 ·rw[ex,qH];exact⟨hi.1.sublist (List.drop_sublist _ _),fun a ha=>hi.2 a (List.mem_of_mem_drop ha)⟩
 ·rw[ex,List.head?_drop,zG,(jz hn).1];simp only[Option.map_some,ne_eq,Option.some.injEq];rw[<- (jz hn).2];omega
 ·rw[ez,h3];omega
theorem W.not_rel {a:Int} (ho:okS k u s) (hf:0<=f∧f<=1099511627776) (ha:f<a∧a<=1099511627776):¬ rel f s (aC a):=by
 rintro(e|⟨b,_,e⟩|⟨_,e⟩)
 ·exact absurd e (kz _ (by rw[d8];decide))
 ·exact absurd e (cZ _ _)
 ·have:=sh (by omega) hf e;omega
variable {k u:Nat} {f:Int} {S:Txt} {l0:List Pr} {s:Sto} {M:List SR} {g:Seg} {l:List Rec}
theorem vw (ho:okS k u s) (h:W f S l0 s M g l) (n:Nat):(ls s n).Nodup:=by
 have hp:s.segs.Pairwise (fun a b=>a.base<b.base):=List.pairwise_map.1 h.man_inc.1
 unfold ls List.Nodup;rw[List.pairwise_append];refine⟨?_,by split <;> simp,?_⟩
 ·rw[List.pairwise_map];refine List.Pairwise.imp_of_mem (fun {a b} ha hb hab e=>?_) (hp.sublist (List.take_sublist n _))
  have:=dZ (ho.seg a (zZ ha)).1 (ho.seg b (zZ hb)).1 e;omega
 ·intro a ha b hb e;obtain⟨c,_,rfl⟩:=List.mem_map.1 ha;split at hb
  ·rw[zV.1 hb] at e;exact cZ _ _ e.symm
  ·cases hb
theorem W.cut (ho:okS k u s) (h:W f S l0 s M g l) (hv:u<1000000000000) {n:Nat} (hn:n<s.segs.length) (h0:n≠0) {d1:Dsk} {w:Dsk × Int}
  (hs1:srt d1.files) (hd1:d1.down=false) (hf1:fm d1.files=up (up (fm s.disk.files) (aC (aL s.segs n)) (some (aX (bC s (aL s.segs n)),(((aX (bC s (aL s.segs n))).length:Nat):Int)))) [109] (manV (eJ s n).man)) (hdn:s.disk.down=false)
  (hO:Out d1 w (ls s n) (B9 (ls s n) (fm d1.files)) none) :
  W (aL s.segs n) (aX (bC s (aL s.segs n))) (bC s (aL s.segs n)) { eJ s n with disk:=w.1 } (M.drop n) g l:=by
 have hT:=h.trimR ho hv hn h0;have hb:=h.base_k hn;have hf0:0<=f:=by have:=WR.floor ⟨M,g,l,h,rfl⟩;rw[<- this];exact(fD ho).1
 have hst:=h.st (aL s.segs n);rw[<- hT.2.2.1] at hst;have hfl:s.floor=f:=WR.floor ⟨M,g,l,h,rfl⟩;have hbo:=yg ho hn;have hlt:∀ a∈s.segs.take n,a.base<aL s.segs n:=by
  intro a ha;have hp:s.segs.Pairwise (fun a b=>a.base<b.base):=List.pairwise_map.1 h.man_inc.1
  obtain⟨i,hi,rfl⟩:=zJ ha;rw[zQ] at hi;rw[List.getElem_take,(jz hn).2];exact(List.pairwise_iff_getElem.1 hp) i n (by omega) hn (by omega)
 have hge:∀ a∈s.segs.drop n,aL s.segs n<=a.base:=by
  intro a ha;have hp:s.segs.Pairwise (fun a b=>a.base<b.base):=List.pairwise_map.1 h.man_inc.1
  obtain⟨i,hi,rfl⟩:=zJ ha;rw[zH] at hi;rw[List.getElem_drop,(jz hn).2];by_cases c:i=0
  ·subst c;simp
  ·have:=(List.pairwise_iff_getElem.1 hp) n (n+i) hn (by omega) (by omega);omega
 have hold:∀ m,m∈ls s n↔(∃ a∈s.segs.take n,m=fileN a.base)∨(0<f∧m=aC f):=by
  intro m;unfold ls;rw[zX,List.mem_map,hfl];constructor
  ·rintro(⟨a,ha,rfl⟩|hm)
   ·exact .inl ⟨a,ha,rfl⟩
   ·split at hm
    ·rename_i c;exact .inr ⟨c,zV.1 hm⟩
    ·cases hm
  ·rintro(⟨a,ha,rfl⟩|⟨hc,rfl⟩)
   ·exact .inl ⟨a,ha,rfl⟩
   ·rw[if_pos hc];exact .inr (by simp)
 have hsd:s.segs.drop n=(M.drop n).map (·.1)++[g]:=by rw[h.inv.segs,List.drop_append_of_le_length (by simpa using hb.1),List.map_drop]
 have k1:[109] ∉ ls s n:=by
  rw[hold];rintro(⟨a,_,e⟩|⟨_,e⟩)
  ·exact absurd e.symm (kz _ (by rw[bV];decide))
  ·exact absurd e.symm (kz _ (by rw[d8];decide))
 have k2:aC (aL s.segs n) ∉ ls s n:=by
  rw[hold];rintro(⟨a,_,e⟩|⟨_,e⟩)
  ·exact absurd e (cZ _ _)
  ·have:=sh hbo (by omega) e;omega
 have k3:∀ a∈s.segs.drop n,fileN a.base ∉ ls s n:=by
  intro a ha;rw[hold];rintro(⟨b,hb2,e⟩|⟨_,e⟩)
  ·have:=dZ (ho.seg a (List.mem_of_mem_drop ha)).1 (ho.seg b (zZ hb2)).1 e;have:=hge a ha;have:=hlt b hb2;omega
  ·exact absurd e.symm (cZ _ _)
 have hkeep:∀ m,m ∉ ls s n->fm w.1.files m=fm d1.files m:=by
  intro m hm;rcases hO.2.2 with⟨_,_,hf⟩|⟨_,hc,_⟩|⟨_,_,hf⟩
  ·rw[hf];exact if_neg hm
  ·cases hc
  ·exact hf m hm
 have hfile:∀ a∈s.segs.drop n,fm w.1.files (fileN a.base)=fm s.disk.files (fileN a.base):=by
  intro a ha;rw[hkeep _ (k3 a ha),hf1,bv _ _ (kz _ (by rw[bV];decide)),bv _ _ (fun e=>cZ _ _ e.symm)]
 have hpm:∀ p∈M.drop n++[(g,l)],p.1∈s.segs.drop n:=by
  intro p hp;rw[hsd];rcases zX.1 hp with hp|hp
  ·exact List.mem_append_left _ (List.mem_map_of_mem hp)
  ·rw[zV.1 hp];simp
 have hpM:∀ p∈M.drop n++[(g,l)],p∈M++[(g,l)]:=by
  intro p hp;rcases zX.1 hp with hp|hp
  ·exact List.mem_append_left _ (List.mem_of_mem_drop hp)
  ·exact List.mem_append_right _ hp
 refine⟨⟨hsd,fun p hp=>?_,?_,h.inv.next,h.inv.sure⟩,.inr ⟨by omega,?_,sC hst.1 hst.2,rfl,rfl⟩,?_,hT.2.2.2,fun p hp=>?_,?_,h.lo,fun hd m hm=>?_⟩
 ·have hfo:=h.inv.file p (hpM p hp);refine hfo.keep fun hh=>?_
  rw[jx ho.dsk.srt] at hh;rw[jx hO.2.1,hfile _ (hpm p hp)];exact hh
 ·have:=oM n M f g.base hb.1 h.inv.chain;rw[<- hb.2] at this;exact this
 ·show fm w.1.files _=_;rw[hkeep _ k2,hf1,bv _ _ (kz _ (by rw[d8];decide)),db]
 ·show fm w.1.files _=_;rw[hkeep _ k1,hf1,db];rfl
 ·show fm w.1.files _=_;rw[hfile _ (hpm p (List.mem_append_left _ hp))];exact h.full p (List.mem_of_mem_drop hp)
 ·obtain⟨q,h1,h2⟩:=h.last;exact⟨q,by show fm w.1.files _=_;rw[hfile _ (hpm (g,l) (by simp))];exact h1,h2⟩
 ·have hm2:fm w.1.files m≠none:=hm;have hd2:w.1.down=false:=hd;rcases hO.2.2 with⟨_,_,hf⟩|⟨_,hc,_⟩|⟨_,hd3,_⟩
  ·rw[hf] at hm2;unfold B9 at hm2;by_cases c:m∈ls s n
   ·rw[if_pos c] at hm2;exact absurd rfl hm2
   ·rw[if_neg c,hf1] at hm2;by_cases c1:m=[109]
    ·exact .inl c1
    ·rw[bv _ _ c1] at hm2;by_cases c2:m=aC (aL s.segs n)
     ·exact .inr (.inr ⟨by omega,c2⟩)
     ·rw[bv _ _ c2] at hm2;rcases h.only hdn m hm2 with e|⟨a,ha,e⟩|⟨e1,e2⟩
      ·exact .inl e
      ·rw[<- zY n s.segs] at ha;rcases zX.1 ha with ha|ha
       ·exact absurd ((hold m).2 (.inl ⟨a,ha,e⟩)) c
       ·exact .inr (.inl ⟨a,ha,e⟩)
      ·exact absurd ((hold m).2 (.inr ⟨e1,e2⟩)) c
  ·cases hc
  ·rw[hd2] at hd3;cases hd3
theorem Hd (h:Inv f s M g l) {n:Nat} (hn:n<=M.length):aQ (M.drop n++[(g,l)])=(aQ (M++[(g,l)])).drop (aQ (M.take n)).length:=by
 have e:aQ (M++[(g,l)])=aQ (M.take n)++aQ (M.drop n++[(g,l)]):=by
  rw[<- cH,<- List.append_assoc,zY]
 rw[e,List.drop_left]
theorem WR.trim {R:List Rec} (ho:okS k u s) (h:WR f S l0 s R) (hv:u<1000000000000) (keep count:Int) :
  ∃ f' S' l0',f<=f'∧f'<=s.next∧l0'=Gd l0 f R f'∧WR f' S' l0' (cY s keep count).1 (R.drop (f'-f).toNat)∧(cY s keep count).1.next=s.next∧(cY s keep count).1.sure=s.sure∧(cY s keep count).1.disk.cap=s.disk.cap ∧
   ((cY s keep count).2=0∨(cY s keep count).2=9∨((cY s keep count).2=10∧(cY s keep count).1.disk.down=true)) ∧
   ((cY s keep count).2=0->eR (cY s keep count).1.segs keep count=0)∧((cY s keep count).2≠10->(cY s keep count).1.disk.down=s.disk.down):=by
 have h0:=h;have hfn:=h.sure;have hs0:WR f S l0 s (R.drop (f-f).toNat):=by rw[Int.sub_self];exact h0
 have hl0:l0=Gd l0 f R f:=by unfold Gd;rw[Int.sub_self];rfl
 obtain⟨M,g,l,h,rfl⟩:=h;unfold cY;by_cases c0:eR s.segs keep count=0
 ·rw[if_pos c0];exact⟨f,S,l0,Int.le_refl _,by omega,hl0,hs0,rfl,rfl,rfl,.inl rfl,fun _=>c0,fun _=>rfl⟩
 ·rw[if_neg c0];have hn:=ud s.segs keep count c0;have hpk:eR (s.segs.drop (eR s.segs keep count)) keep count=0:=by
   have hst:eZ s.segs keep count (eR s.segs keep count)=true:=by
    unfold eR at *;cases hf:(List.range s.segs.length).find? (eZ s.segs keep count) with
    | none=>rw[hf] at c0;exact absurd rfl c0
    | some j=>exact List.find?_some hf
   refine pT _ keep count 0 (by simp;omega) ?_ (fun i hi=>absurd hi (by omega))
   unfold eZ at hst ⊢;rw[List.drop_zero];exact hst
  generalize eR s.segs keep count=n at *;have hT:=h.trimR ho hv hn c0;have hb:=h.base_k hn;have hbo:=yg ho hn;have hf0:0<=f:=by have:=WR.floor h0;rw[<- this];exact(fD ho).1
  have hnr:¬ rel f s (aC (aL s.segs n)):=W.not_rel ho (by omega) ⟨hT.1,hbo.2⟩
  have h110:s.disk.down=false->fm s.disk.files [110]=none:=fun hd=>by
   cases hx:fm s.disk.files [110] with
   | none=>rfl
   | some v=>exact absurd (h.only hd [110] (by rw[hx];simp)) (n4 f s)
  have hsn:s.disk.down=false->fm s.disk.files (aC (aL s.segs n))=none:=fun hd=>by
   cases hx:fm s.disk.files (aC (aL s.segs n)) with
   | none=>rfl
   | some v=>exact absurd (h.only hd _ (by rw[hx];simp)) hnr
  have hO:=NN ho.dsk.srt (n:=aC (aL s.segs n)) (x:=aX (bC s (aL s.segs n))) hT.2.2.2 (Jk _) (Dy _ (by rw[d8];decide)) h110 hsn
  have hold0:∀ q,xY s n q=tZ (ls s n) q:=fun q=>CN s n q
  have hX:∀ m∈[aC (aL s.segs n),[110]],¬ rel f s m:=by
   intro m hm;rcases List.mem_cons.1 hm with rfl|hm
   ·exact hnr
   ·rw[zV.1 hm];exact n4 f s
  have etk:sI s n=if(mU s.disk (aC (aL s.segs n)) (aX (bC s (aL s.segs n))) (eJ s n).man).2≠0 then({ s with disk:=(mU s.disk (aC (aL s.segs n)) (aX (bC s (aL s.segs n))) (eJ s n).man).1 },(mU s.disk (aC (aL s.segs n)) (aX (bC s (aL s.segs n))) (eJ s n).man).2) else({ eJ s n with disk:=(tZ (ls s n) (mU s.disk (aC (aL s.segs n)) (aX (bC s (aL s.segs n))) (eJ s n).man)).1 },(tZ (ls s n) (mU s.disk (aC (aL s.segs n)) (aX (bC s (aL s.segs n))) (eJ s n).man)).2):=by
   unfold sI;simp only[hold0]
  rw[etk];clear etk;generalize mU s.disk (aC (aL s.segs n)) (aX (bC s (aL s.segs n))) (eJ s n).man=e at *;by_cases c1:e.2=0
  ·rw[if_neg (by simp[c1])]
   rcases hO.2.2 with⟨_,hd,hf⟩|⟨_,_,e9,_⟩|⟨e10,_⟩
   ·have hdn:=hO.1.up_of hd;have hg:=tQ (ls s n) e.1 hO.2.1 (vw ho h n) hd (fun m hm=>by
     have hne:m≠[109]∧m≠aC (aL s.segs n)∧fm s.disk.files m≠none:=by
      unfold ls at hm;rcases zX.1 hm with hm|hm
      ·obtain⟨a,ha,rfl⟩:=List.mem_map.1 hm;refine⟨kz _ (by rw[bV];decide),fun e=>cZ _ _ e.symm,?_⟩
       have ha:=zZ ha;rw[h.inv.segs] at ha;rcases zX.1 ha with ha|ha
       ·obtain⟨p,hp,rfl⟩:=List.mem_map.1 ha;rw[h.full p hp];simp
       ·rw[zV.1 ha];obtain⟨q,h1,_⟩:=h.last;rw[h1];simp
      ·rw[WR.floor h0] at hm;split at hm
       ·rename_i c;rw[zV.1 hm];refine⟨kz _ (by rw[d8];decide),fun e=>?_,?_⟩
        ·have:=sh (by omega) hbo e;omega
        ·rcases h.snp with⟨h1,_⟩|⟨_,h1,_⟩
         ·omega
         ·rw[h1];simp
       ·cases hm
     rw[hf,bv _ _ hne.1,bv _ _ hne.2.1];exact hne.2.2)
    have hp0:e=(e.1,0):=gO c1;rw[<- hp0] at hg;have hw:=h.cut ho hv hn c0 hO.2.1 hd hf hdn hg;have hr:=Hd h.inv hb.1;have hfd:(aL s.segs n-f).toNat=(aQ (M.take n)).length:=by omega
    refine⟨aL s.segs n,_,bC s (aL s.segs n),by omega,hT.2.1,hT.2.2.1,⟨M.drop n,g,l,hw,by rw[hr,hfd]⟩,rfl,rfl,hg.1.cap.trans hO.1.cap,?_,fun _=>hpk,fun hne=>?_⟩
    ·rcases hg.2.2 with⟨a,_⟩|⟨_,a,_⟩|⟨a,b,_⟩
     ·exact .inl a
     ·cases a
     ·exact .inr (.inr ⟨a,b⟩)
    ·rcases hg.2.2 with⟨_,a,_⟩|⟨_,a,_⟩|⟨a,b,_⟩
     ·exact a.trans hdn.symm
     ·cases a
     ·exact absurd a hne
   ·rw[e9] at c1;cases c1
   ·rw[e10] at c1;cases c1
  ·rw[if_pos c1];have:=h.fail ho.dsk.srt hO c1 hX;refine⟨f,S,l0,Int.le_refl _,by omega,hl0,by rw[Int.sub_self];exact⟨M,g,l,this.1,rfl⟩,rfl,rfl,hO.1.cap,?_,fun h=>absurd h c1,fun hne=>?_⟩
   ·rcases this.2 with⟨a,_⟩|⟨a,b⟩
    ·exact .inr (.inl a)
    ·exact .inr (.inr ⟨a,b⟩)
   ·rcases this.2 with⟨_,_,a⟩|⟨a,_⟩
    ·exact a.trans (hO.1.up_of a).symm
    ·exact absurd a hne
structure Ac where
 kind:Int
 n:Int
 m:Int
 data:List UInt8
 deriving DecidableEq
def Ac.enc (e:Ac):List D:=[.i .i64 e.kind,.i .i64 e.n,.i .i64 e.m,.s e.data]
def Ac.ok (e:Ac):Prop:=(-9223372036854775808<=e.kind∧e.kind<9223372036854775808)∧(-9223372036854775808<=e.n∧e.n<9223372036854775808)∧(-9223372036854775808<=e.m∧e.m<9223372036854775808)∧e.data.length<=9223372036854775807
def Ac.ty:List Ty:=[.i .i64,.i .i64,.i .i64,.s]
def U0 (seg i:Int) (s:Sto) (a:Ac):Sto :=
 if a.kind=1 then(aW s).1 else if a.kind=2 then(cY s a.n a.m).1 else if a.kind=3 then { s with disk:=sd s.disk a.n } else if a.kind=4 then { s with disk:=TS s.disk a.n } else(eQ s seg ⟨s.next,i,a.data⟩).1
def Rf (seg:Int):Int->List Ac->Sto->Sto × Bool
 | _,[],s=>(s,true)
 | i,a::l,s=>if 64<a.data.length then(s,false) else Rf seg (i+1) l (U0 seg i s a)
def QL (seg:Int) (l:List Ac):Sto × Bool:=if 40<l.length then((aH d0).1,false) else Rf seg 0 l (aH d0).1
structure PI (i:Nat) (s:Sto):Prop where
 ok:okS (10+2*i) (2000+23000*i) s
 next:s.next<=i
 base:∀ g∈s.segs,g.base<=s.next
theorem OV:PI 0 (aH d0).1:=by
 obtain⟨o1,hd1,n1,s1⟩:=CC d0_ok Cx;refine⟨o1.up (by omega) (by omega),by rw[n1];omega,fun g hg=>?_⟩
 have e:(aH d0).1.segs=[⟨0,0,0⟩]:=by decide +kernel
 rw[e,zV] at hg;rw[hg,n1];exact Int.le_refl _
variable {k u:Nat} {f:Int} {S:Txt} {l0:List Pr} {s:Sto} {M:List SR} {g:Seg} {l:List Rec}
theorem DK {d:Dsk} (hs:srt d.files) (hF:d.down=false->∀ n,fm d.files n=none) :
  Out d ((aH d).1.disk,(aH d).2) [fileN 0,[110]] (up (up (fm d.files) (fileN 0) (some ([],0))) [109] (manV ⟨1,[0],0,0⟩)) (some (up (fm d.files) (fileN 0) (some ([],0)))) ∧
   ((aH d).2=0->(aH d).1=⟨(aH d).1.disk,1,[⟨0,0,0⟩],0,0,0,0⟩)∧((aH d).2≠0->(aH d).1=⟨(aH d).1.disk,0,[],0,0,0,0⟩):=by
 have e1:bR (fileN 0) (d,0)=ai d (bB d.files (fileN 0)):=bD _ _;have hO:Out d (if(ai d (bB d.files (fileN 0))).2=0 then bT ⟨1,[0],0,0⟩ (ai d (bB d.files (fileN 0))) else ai d (bB d.files (fileN 0))) [fileN 0,[110]] (up (up (fm d.files) (fileN 0) (some ([],0))) [109] (manV ⟨1,[0],0,0⟩)) (some (up (fm d.files) (fileN 0) (some ([],0)))):=by
  by_cases hd:d.down=true
  ·rw[lX hd,if_neg (by simp)]
   exact .dn hs hd _ _ _
  ·have hF:=hF (by simpa using hd)
   refine Out.seq (nQ hs (CG 0) (hF _)) (g1:=none) (g2:=some (up (fm d.files) (fileN 0) (some ([],0)))) ?_ ?_ (by simp) (X2:=[[110]]) (by simp) (by simp) (by simp)
   ·intro h0 hd1 hf1 hs1;rw[gO h0];have h3:=qp hs1 (m:=⟨1,[0],0,0⟩) (by decide) (fun _=>by rw[hf1,bv _ _ (Dy _ (by rw[bV];decide)).symm];exact hF _)
    rw[hf1] at h3;exact h3
   ·intro n hn;exact bv _ _ (fun e=>hn (by simp[e]))
 unfold aH;simp only[e1];generalize (if(ai d (bB d.files (fileN 0))).2=0 then bT ⟨1,[0],0,0⟩ (ai d (bB d.files (fileN 0))) else ai d (bB d.files (fileN 0)))=w at *
 by_cases c:w.2=0
 ·rw[if_pos c];refine⟨?_,fun _=>rfl,fun h=>absurd rfl h⟩
  rw[gO c] at hO;exact hO
 ·rw[if_neg c];exact⟨hO,fun h=>absurd h c,fun _=>rfl⟩
theorem Ht {d:Dsk} (hs:srt d.files) (hF:d.down=false->∀ n,fm d.files n=none) (h0:(aH d).2=0):WR 0 [] [] (aH d).1 []∧(aH d).1.disk.down=false:=by
 have hc:=DK hs hF;obtain⟨hO,he,_⟩:=hc;have he:=he h0;rcases hO.2.2 with⟨_,hd,hf⟩|⟨_,_,e,_⟩|⟨e,_⟩
 ·have hdn:=hO.1.up_of hd;have hF:=hF hdn;have hd2:(aH d).1.disk.down=false:=hd;refine⟨⟨[],⟨0,0,0⟩,[],?_,rfl⟩,hd2⟩;rw[he];generalize (aH d).1.disk=w at *;refine⟨⟨rfl,fun p hp=>?_,rfl,rfl,by simp⟩,.inl ⟨rfl,rfl,rfl,rfl,rfl⟩,?_,(show manB ⟨1,[0],0,0⟩=true by decide),fun p hp=>(by cases hp),⟨0,?_,by simp[rowS],by simp⟩,Int.le_refl _,fun _ n hn=>?_⟩
  ·rw[List.nil_append,zV] at hp;subst hp;refine⟨(jx hO.2.1 _ _).2 ⟨0,?_⟩,fun r hr=>(by cases hr),fun i hi=>(by simp at hi),rfl,rfl⟩
   rw[hf,bv _ _ (kz _ (by rw[bV];decide)),db];rfl
  ·rw[hf,db];rfl
  ·rw[hf,bv _ _ (kz _ (by rw[bV];decide)),db];rfl
  ·rw[hf] at hn;by_cases a1:n=[109]
   ·exact .inl a1
   ·rw[bv _ _ a1] at hn;by_cases a2:n=fileN 0
    ·exact .inr (.inl ⟨⟨0,0,0⟩,by simp,a2⟩)
    ·rw[bv _ _ a2,hF] at hn;exact absurd rfl hn
 ·exact absurd h0 (by rw[show(aH d).2=9 from e];decide)
 ·exact absurd h0 (by rw[show(aH d).2=10 from e];decide)
theorem WR.sync {R:List Rec} (ho:okS k u s) (h:WR f S l0 s R):WR f S l0 (aW s).1 R∧(((aW s).2=0∧(aW s).1.sure=s.next∧(aW s).1.disk.down=false)∨((aW s).2=10∧(aW s).1.disk.down=true∧(aW s).1.sure=s.sure))∧(aW s).1.disk.cap=s.disk.cap:=by
 obtain⟨M,g,l,h,rfl⟩:=h;have:=h.sync ho;exact⟨⟨M,g,l,this.1,rfl⟩,this.2⟩
variable {k u:Nat} {f:Int} {S:Txt} {l0:List Pr} {s:Sto} {M:List SR} {g:Seg} {l:List Rec}
theorem Jm (h:okS k u s) (hb:∀ g∈s.segs,g.base<=s.floor+40) (keep count:Int):okS (k+2) (u+23000) (cY s keep count).1:=by
 unfold cY;split
 ·exact h.up (by omega) (by omega)
 ·rename_i hne;have hlt:=ud s.segs keep count hne;exact Ic h hlt (by rw[(jz hlt).2];exact hb _ (zN hlt))
theorem WR.stT {R:List Rec} (ho:okS k u s) (h:WR f S l0 s R) (off:Int) (h1:f<=off∧off<=s.next):bC s off=Gd l0 f R off:=by
 obtain⟨M,g,l,h,rfl⟩:=h;exact h.stT ho off h1
theorem WR.same_state {R:List Rec} (ho:okS k u s) (h:WR f S l0 s R):∀ a∈s.segs,ne s a.base=bC s a.base:=by
 obtain⟨M,g,l,h,rfl⟩:=h;exact h.same_state ho
theorem WR.rget {R:List Rec} (ho:okS k u s) (h:WR f S l0 s R) (j:Nat) (hj:j<R.length):mO s (f+j)=.tup [(true,R[j].enc.map .d),(false,[zI 0])]:=by
 have hn:=h.next;have hf0:0<=f:=by have:=h.floor;rw[<- this];exact(fD ho).1
 obtain⟨M,g,l,h,rfl⟩:=h;unfold mO j6;rw[if_neg (by omega),h.inv.scans ho,Bo h.inv.num j hj]
def di:List Txt->Dsk->Dsk × Int
 | [],d=>(d,9)
 | n::l,d=>if(ai d (bN d.files n)).2≠0 then ai d (bN d.files n) else di l (ai d (bN d.files n)).1
def eS (n:Txt):List D:=[.s n]
theorem jF {k u:Nat} (d:Dsk) (hd:okN k u d) (hk:k<=900000) (hu:u<=900000000000) (l:List Txt) (hl:l.length<=1000):call 157 [.agg d.l,vl (l.map eS)] []=some (aK (di l d),[]):=by
 obtain⟨Z,hZ⟩:∃ Z,Z=di l d:=⟨_,rfl⟩;rw[<- hZ];obtain⟨⟨zfl,zcp,zar,zlf,zdn⟩,ze⟩:=Z;simp only[aK,Dsk.l];apply ae UF rfl;obtain⟨dfl,dcp,dar,dlf,ddn⟩:=d;refine bh ?_ O4.eq_1;refine aq (m:=0) (σ:=Nat × Dsk) (fun t=>l.length-t.1) (fun t=>t.1<=l.length∧okN k u t.2∧di (l.drop t.1) t.2=(⟨zfl,zcp,zar,zlf,zdn⟩,ze)) (fun t=>[V.one (.p 0 0),V.one (.p 1 0),vl (l.map eS),vi l.length,vi t.1])
  (fun t=>[.cells [.d (.l (t.2.files.map Fil.enc)),zI t.2.cap,zB t.2.armed,zI t.2.left,zB t.2.down],.cells [.ns,zI 0,zB false,zI 0,zB false]])
  (fun _=>(V.tup [(true,[.d (.l (zfl.map Fil.enc)),zI zcp,zB zar,zI zlf,zB zdn]),(false,[zI ze])],[])) ?_ (0,⟨dfl,dcp,dar,dlf,ddn⟩) ⟨zP _,hd,hZ.symm⟩ _ _ ?_
 rotate_left
 ·exact bA
 rintro⟨i,⟨fl,cp,ar,lf,dn⟩⟩ ⟨h1,h2,h3⟩ R hR;simp only at h1 h2 h3 ⊢;by_cases c:i<l.length
 ·have hc:(i:Int)<(l.length:Int):=by omega
  rw[zD c,di] at h3;have g1:(l.map eS)[i]?=some [.s l[i]]:=by rw[zG,zE c];rfl
  generalize l[i]=n at *;have g2:=gB ⟨fl,cp,ar,lf,dn⟩ (h2.ok (by omega) (by omega)) n
  have kk:=dX (s:=(⟨fl,cp,ar,lf,dn⟩,0)) h2 n;rw[show dH n (⟨fl,cp,ar,lf,dn⟩,0)=ai ⟨fl,cp,ar,lf,dn⟩ (bN fl n) from bD _ _] at kk
  simp only at g2 h3;generalize ai ⟨fl,cp,ar,lf,dn⟩ (bN fl n)=q at *;obtain⟨⟨qfl,qcp,qar,qlf,qdn⟩,qe⟩:=q;simp only[aK,Dsk.l] at g2 h3;by_cases c2:qe=0
  ·subst c2;rw[if_neg (by simp)] at h3
   have hR':=hR (i+1,⟨qfl,qcp,qar,qlf,qdn⟩) (by simp only[];omega) ⟨by simp only[];omega,kk,h3⟩
   refine cm ?_ ym.eq_1 (zT hc) g1 g2;exact hR' _ _ bA
  ·rw[if_pos c2] at h3;cases h3;refine cm ?_ ym.eq_1 (zT hc) g1 g2 c2;try simp[trim,c2]
 ·have hc:¬ (i:Int)<(l.length:Int):=by omega
  rw[zC (by omega),di] at h3
  cases h3;refine cm ?_ ym.eq_1 O4.eq_1 (zF hc);try simp[trim]
theorem vC (d:Dsk) {k u:Nat} (hd:okN k u d) (hk:k<=900000) (hu:u<=900000000000) (m:Man) (hm:m.ok):call 116 [.agg d.l,.agg m.l] []=some (aK (bT m (d,0)),[]):=by
 have q:=uw (d,0) hd hk hu m hm;apply ae Vv rfl;generalize bT m (d,0)=w at *;obtain⟨mv,ms,mz,mm⟩:=m;obtain⟨fl,cp,ar,lf,dn⟩:=d;obtain⟨⟨f2,cp2,ar2,lf2,dn2⟩,e2⟩:=w;simp only[fK,Dsk.l,Man.l,List.cons_append,List.nil_append] at q;have r:∀ P Q R:Box,ak call 138 [.one (.p 3 0),.agg [zI mv,.d (.l (ms.map eI)),zI mz,zW mm]] [P,Q,R,.cells [.d (.l (fl.map Fil.enc)),zI cp,zB ar,zI lf,zB dn,zI 0]]=some (.tup [],[P,Q,R,.cells [.d (.l (f2.map Fil.enc)),zI cp2,zB ar2,zI lf2,zB dn2,zI e2]]):=fun P Q R =>
  aF (ids:=[3]) rfl rfl rfl q rfl
 (simp(disch:=first|decide|omega|(intros;exact aP rfl rfl)|simp only[am]) only[fU,QQ,Dsk.l,Man.l,↓r,go_sem,seval,aO,gL,A.kind,A.xs,co,A.isN])
 try simp[trim,aK,Dsk.l]
theorem Es:∀ (l:List Fil) (n:Nat),(∀ f∈l,f.data.length<=n)->usedF l<=l.length*n
 | [],n,_=>by simp[usedF]
 | f::l,n,h=>by
  have ih:=Es l n fun x hx=>h x (List.mem_cons_of_mem _ hx)
  have h1:=h f (by simp)
  have e:usedF (f::l)=f.data.length+usedF l:=by simp[usedF]
  rw[e,List.length_cons,Nat.add_mul];omega
end Go.Proofs.YtgoifbjgmgbihaaGreat
