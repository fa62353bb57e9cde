import Derived.Test.YthlnpioogbmogaaGreatT07
import Derived.Test.YthlnpioogbmogaaGreatT05
set_option linter.unusedSimpArgs false
set_option linter.unusedVariables false
namespace Go.Proofs.YthlnpioogbmogaaGreat
open Go.Vi
variable {k u:Nat} {f:Int} {S:Txt} {l0:List Pr} {s:Sto} {M:List SR} {g:Seg} {l:List Rec}
theorem back_out (G:FM):∀ (l:List Txt) (d:Dsk),srt d.files->l.Nodup->d.down=false->(∀ n∈l,fm d.files n≠none)->Out d (backT l d) l G (some (rmv l (fm d.files)))
 | [],d,hs,_,hd,_=>⟨Dk.refl d,hs,.inr (.inl ⟨_,rfl,rfl,hd,by funext k;simp[rmv,backT]⟩)⟩
 | n::l,d,hs,hn,hd,h=>by
  have hn:=List.nodup_cons.1 hn;obtain⟨v,hv⟩:=Option.ne_none_iff_exists'.1 (h n (by simp))
  have h1:=del_out hs hv;have e2:backT (n::l) d=if(chgF d (delR d.files n)).2=0 then backT l (chgF d (delR d.files n)).1 else chgF d (delR d.files n):=by
   rw[backT];by_cases c:(chgF d (delR d.files n)).2=0
   ·rw[if_neg (by simp[c]),if_pos c]
   ·rw[if_pos c,if_neg c]
  rw[e2];refine Out.seq h1 (X2:=l) (g2:=some (rmv (n::l) (fm d.files))) ?_ ?_ (by simp) (fun k hk=>by simp[hk]) (by simp) (by simp)
  ·intro h0 hd1 hf1 hs1;have h2:=back_out G l (chgF d (delR d.files n)).1 hs1 hn.2 hd1 (fun k hk=>by
    rw[hf1,up_ne _ _ (fun e=>hn.1 (by rw[<- e];exact hk))];exact h k (by simp[hk]))
   rw[hf1] at h2;refine h2.eq rfl ?_;congr 1
   funext k
   unfold rmv;by_cases c:k=n
   ·simp[c,hn.1,up_at]
   ·by_cases c2:k∈l
    ·rw[if_pos c2,if_pos (List.mem_cons_of_mem _ c2)]
    ·rw[if_neg c2,if_neg (by simp[c,c2]),up_ne _ _ c]
  ·intro k hk;exact up_ne _ _ (fun e=>hk (by simp[e]))
theorem Out.back {d:Dsk} {r:Dsk × Int} {X:List Txt} {G g:FM} (h:Out d r X G (some g)) (l:List Txt) (hl:l.Nodup) (hn:∀ n∈l,g n≠none) (hg:∀ k,k ∉ X->k ∉ l->g k=fm d.files k) (hX:∀ n∈l,n∈X):Out d (if r.2=9 then backT l r.1 else r) X G (some (rmv l g)):=by
 obtain⟨k1,s1,o1⟩:=h;rcases o1 with⟨e,hd,hf⟩|⟨q,hq,e,hd,hf⟩|⟨e,hd,hf⟩
 ·rw[if_neg (by rw[e];decide)]
  exact⟨k1,s1,.inl ⟨e,hd,hf⟩⟩
 ·cases hq;rw[if_pos e];have hb:=back_out G l r.1 s1 hl hd (by rw[hf];exact hn)
  rw[hf] at hb;refine⟨k1.trans hb.1,hb.2.1,?_⟩;rcases hb.2.2 with o|o|⟨e2,hd2,hf2⟩
  ·exact .inl o
  ·exact .inr (.inl o)
  ·refine .inr (.inr ⟨e2,hd2,fun k hk=>?_⟩)
   have hkl:k ∉ l:=fun hm=>hk (hX k hm)
   rw[hf2 k hkl,hf];exact hg k hk hkl
 ·rw[if_neg (by rw[e];decide)]
  exact⟨k1,s1,.inr (.inr ⟨e,hd,hf⟩)⟩
theorem rmv1 (F:FM) (n:Txt):rmv [n] F=up F n none:=by
 funext k;unfold rmv up;simp
theorem rmv_four {F:FM} {a b:Txt} (v w:Option (Txt × Int)) (ha:F a=none) (hb:F b=none):rmv [b,a] (up (up F a v) b w)=F:=by
 funext k;unfold rmv up
 by_cases c1:k=b
 ·simp[c1,hb]
 ·by_cases c2:k=a
  ·simp[c2,ha]
  ·simp[c1,c2]
theorem u0_out {d:Dsk} (hs:srt d.files) {n g x:Txt} {m:Man} (hm:manB m=true) (hn:namedF n=true) (hg:namedF g=true) (hng:n≠g) (hn2:n≠[110]) (hg2:g≠[110]) (h1:d.down=false->fm d.files [110]=none) (h2:d.down=false->fm d.files n=none) (h3:d.down=false->fm d.files g=none) :
  Out d (u0 n g x m d).1 [n,g,[110]] (up (up (up (fm d.files) n (some (x,((x.length:Nat):Int)))) g (some ([],0))) [109] (manV m)) (some (fm d.files)):=by
 by_cases hd:d.down=true
 ·unfold u0;rw[chg_down hd,if_pos (by simp)]
  exact .dn hs hd _ _ _
 ·have hd:d.down=false:=by simpa using hd
  have hF:=h2 hd;have hG:=h3 hd;have hN:=h1 hd;have k4:∀ d4:Dsk,srt d4.files->d4.down=false->fm d4.files=up (up (fm d.files) n (some (x,((x.length:Nat):Int)))) g (some ([],0))->Out d4 (u4 n g m d4).1 [n,g,[110]] (up (up (up (fm d.files) n (some (x,((x.length:Nat):Int)))) g (some ([],0))) [109] (manV m)) (some (fm d.files)):=by
   intro d4 hs4 hd4 hf4;have a1:=(swap_out hs4 hm (fun _=>by rw[hf4,up_ne _ _ hg2.symm,up_ne _ _ hn2.symm];exact hN)).upX (Y:=[n,g,[110]]) (by simp)
   have a2:=a1.back [g,n] (by simp[hng.symm]) (by
    intro y hy;simp only[List.mem_cons,List.mem_nil_iff,or_false] at hy;rcases hy with rfl|rfl
    ·rw[hf4,up_at];simp
    ·rw[hf4,up_ne _ _ hng,up_at];simp) (fun _ _ _=>rfl) (by simp)
   have e:(u4 n g m d4).1=if(swapS m (d4,0)).2=9 then backT [g,n] (swapS m (d4,0)).1 else swapS m (d4,0):=by unfold u4;split <;> rfl
   rw[e];rw[hf4] at a2;refine a2.eq rfl ?_;rw[rmv_four _ _ hF hG]
  have k3:∀ d3:Dsk,srt d3.files->d3.down=false->fm d3.files=up (fm d.files) n (some (x,((x.length:Nat):Int)))->Out d3 (u3 n g m d3).1 [n,g,[110]] (up (up (up (fm d.files) n (some (x,((x.length:Nat):Int)))) g (some ([],0))) [109] (manV m)) (some (fm d.files)):=by
   intro d3 hs3 hd3 hf3;have a1:=crt_out hs3 hg (by rw[hf3,up_ne _ _ hng.symm];exact hG)
   have e:(u3 n g m d3).1=if(chgF d3 (crtR d3.files g)).2=0 then(u4 n g m (chgF d3 (crtR d3.files g)).1).1 else chgF d3 (crtR d3.files g):=by
    unfold u3;by_cases c:(chgF d3 (crtR d3.files g)).2=0
    ·rw[if_neg (by simp[c]),if_pos c]
    ·rw[if_pos c,if_neg c]
   rw[e];refine Out.seq a1 (g2:=some (fm d.files)) (fun h0 hd4 hf4 hs4=>k4 _ hs4 hd4 (by rw[hf4,hf3])) (fun y hy=>?_) (by simp) (fun _ h=>h) (by simp) (by simp)
   exact up_ne _ _ (fun e=>hy (by simp[e]))
  have k2:∀ d2:Dsk,srt d2.files->d2.down=false->fm d2.files=up (fm d.files) n (some (x,0))->Out d2 (u2 n g m d2).1 [n,g,[110]] (up (up (up (fm d.files) n (some (x,((x.length:Nat):Int)))) g (some ([],0))) [109] (manV m)) (some (fm d.files)):=by
   intro d2 hs2 hd2 hf2;have a1:=syn_out hs2 (n:=n) (v:=(x,0)) (by rw[hf2,up_at])
   rw[hf2,up_up] at a1;have e:(u2 n g m d2).1=if(chgF d2 (synR d2.files n)).2=0 then(u3 n g m (chgF d2 (synR d2.files n)).1).1 else chgF d2 (synR d2.files n):=by
    unfold u2;by_cases c:(chgF d2 (synR d2.files n)).2=0
    ·rw[if_neg (by simp[c]),if_pos c]
    ·rw[if_pos c,if_neg c]
   rw[e];refine Out.seq a1 (g2:=some (fm d.files)) (fun h0 hd4 hf4 hs4=>k3 _ hs4 hd4 hf4) (fun y hy=>?_) (by simp) (fun _ h=>h) (by simp) (by simp)
   rw[hf2,up_ne _ _ (fun e=>hy (by simp[e])),up_ne _ _ (fun e=>hy (by simp[e]))]
  have k1:∀ d1:Dsk,srt d1.files->d1.down=false->fm d1.files=up (fm d.files) n (some ([],0))->Out d1 (u1 n g x m d1).1 [n,g,[110]] (up (up (up (fm d.files) n (some (x,((x.length:Nat):Int)))) g (some ([],0))) [109] (manV m)) (some (fm d.files)):=by
   intro d1 hs1 hd1 hf1;have a1:=(app_out hs1 x (n:=n) (v:=([],0)) (by rw[hf1,up_at])).upX (Y:=[n,g,[110]]) (by simp)
   have a2:=a1.back [n] (by simp) (by
    intro y hy;rw[List.mem_singleton.1 hy,hf1,up_at];simp) (fun _ _ _=>rfl) (by simp)
   rw[hf1,up_up,rmv1,up_up,up_self hF] at a2;have e:(u1 n g x m d1).1=if(if(chgF d1 (appR d1.files d1.cap n x)).2=9 then backT [n] (chgF d1 (appR d1.files d1.cap n x)).1 else chgF d1 (appR d1.files d1.cap n x)).2=0 then(u2 n g m (if(chgF d1 (appR d1.files d1.cap n x)).2=9 then backT [n] (chgF d1 (appR d1.files d1.cap n x)).1 else chgF d1 (appR d1.files d1.cap n x)).1).1 else(if(chgF d1 (appR d1.files d1.cap n x)).2=9 then backT [n] (chgF d1 (appR d1.files d1.cap n x)).1 else chgF d1 (appR d1.files d1.cap n x)):=by
    unfold u1;by_cases c:(chgF d1 (appR d1.files d1.cap n x)).2=9
    ·rw[if_pos c,if_pos c,if_neg (back_ne _ _)]
    ·rw[if_neg c,if_neg c];by_cases c0:(chgF d1 (appR d1.files d1.cap n x)).2=0
     ·rw[if_neg (by simp[c0]),if_pos c0]
     ·rw[if_pos c0,if_neg c0]
   rw[e];refine Out.seq a2 (X2:=[n,g,[110]]) (g2:=some (fm d.files)) (fun h0 hd4 hf4 hs4=>k2 _ hs4 hd4 hf4) (fun y hy=>?_) (fun _ h=>h) (fun _ h=>h) (by simp) (by simp)
   rw[hf1];exact(up_ne _ _ (fun e=>hy (by simp[e]))).trans (up_ne _ _ (fun e=>hy (by simp[e]))).symm
  have a1:=crt_out hs hn hF;have e:(u0 n g x m d).1=if(chgF d (crtR d.files n)).2=0 then(u1 n g x m (chgF d (crtR d.files n)).1).1 else chgF d (crtR d.files n):=by
   unfold u0;by_cases c:(chgF d (crtR d.files n)).2=0
   ·rw[if_neg (by simp[c]),if_pos c]
   ·rw[if_pos c,if_neg c]
  rw[e];refine Out.seq a1 (g2:=some (fm d.files)) (fun h0 hd4 hf4 hs4=>k1 _ hs4 hd4 hf4) (fun y hy=>?_) (by simp) (fun _ h=>h) (by simp) (by simp)
  exact up_ne _ _ (fun e=>hy (by simp[e]))
theorem goT_goP:∀ (l:List Txt) (d:Dsk),goT l d=goP l (d,0)
 | [],d=>rfl
 | n::l,d=>by
  have e1:delS n (d,0)=chgF d (delR d.files n):=stp_ye _ _;rw[goP_cons,e1,goT];split
  ·rename_i h0;rw[goT_goP l,<- pair_eq h0]
  ·rename_i h0;exact(goP_err l _ h0).symm
variable {k u:Nat} {f:Int} {S:Txt} {l0:List Pr} {s:Sto} {M:List SR} {g:Seg} {l:List Rec}
theorem srt_head {l:List Fil} {a b:Fil} (h:srt (a::l)) (hb:b∈l):bl a.name b.name=true:=(List.pairwise_cons.1 h).1 b hb
theorem fm_ext:∀ (l l':List Fil),srt l->srt l'->fm l=fm l'->l=l'
 | [],[],_,_,_=>rfl
 | [],b::l',_,hs',h=>by
  have:=congrFun h b.name;rw[show fm (b::l') b.name=some (b.data,b.sure) by simp[fm]] at this
  simp[fm] at this
 | a::l,[],hs,_,h=>by
  have:=congrFun h a.name;rw[show fm (a::l) a.name=some (a.data,a.sure) by simp[fm]] at this
  simp[fm] at this
 | a::l,b::l',hs,hs',h=>by
  have ha:fm (a::l) a.name=some (a.data,a.sure):=by simp[fm]
  have hb:fm (b::l') b.name=some (b.data,b.sure):=by simp[fm]
  have e:a.name=b.name:=by
   rcases bl_tri a.name b.name with c|c|c
   ·have h1:fm (b::l') a.name=none:=by
     rw[fm_none];intro x hx e;rcases List.mem_cons.1 hx with rfl|hx
     ·rw[e,bl_irr] at c;cases c
     ·have:=bl_trans c (srt_head hs' hx);rw[e,bl_irr] at this;cases this
    rw[<- h,ha] at h1;cases h1
   ·exact c
   ·have h1:fm (a::l) b.name=none:=by
     rw[fm_none];intro x hx e;rcases List.mem_cons.1 hx with rfl|hx
     ·rw[e,bl_irr] at c;cases c
     ·have:=bl_trans c (srt_head hs hx);rw[e,bl_irr] at this;cases this
    rw[h,hb] at h1;cases h1
  have hd:a=b:=by
   have:=congrFun h a.name;rw[ha,e,hb] at this;obtain⟨an,ad,as'⟩:=a;obtain⟨bn,bd,bs⟩:=b;simp only[Option.some.injEq,Prod.mk.injEq] at this e;rw[e,this.1,this.2]
  subst hd;have hn:fm l a.name=none:=fm_none.2 fun x hx e=>by
   have:=srt_head hs hx;rw[e,bl_irr] at this;cases this
  have hn':fm l' a.name=none:=fm_none.2 fun x hx e=>by
   have:=srt_head hs' hx;rw[e,bl_irr] at this;cases this
  have h1:fm (a::l)=up (fm l) a.name (some (a.data,a.sure)):=fm_mid [] a l (by simp)
  have h2:fm (a::l')=up (fm l') a.name (some (a.data,a.sure)):=fm_mid [] a l' (by simp)
  have h3:fm l=fm l':=by
   funext k
   by_cases c:k=a.name
   ·rw[c,hn,hn']
   ·have:=congrFun h k;rw[h1,h2,up_ne _ _ c,up_ne _ _ c] at this;exact this
  rw[fm_ext l l' (List.pairwise_cons.1 hs).2 (List.pairwise_cons.1 hs').2 h3]
theorem Dk.same {d d':Dsk} (h:Dk d d') (hs:srt d.files) (hs':srt d'.files) (hf:fm d'.files=fm d.files) (ha:d.armed=false) (hd:d.down=false):d'=d:=by
 have h1:=h.idle ha hd;have h2:=fm_ext _ _ hs' hs hf;obtain⟨a,b,c,e,q⟩:=d;obtain⟨a',b',c',e',q'⟩:=d';have h3:=h.cap;have h4:=h.armed;simp only at h1 h2 h3 h4 hd;rw[h2,h3,h4,h1.2,h1.1,hd]
theorem newX_right {ver at_:Int} {x:Txt} (hv:1<=ver∧ver<=1099511627776) (ha:0<at_∧at_<=1099511627776) (hx:1<=x.length∧x.length<=65536):manB (newX ver at_ x).man=true:=by
 refine manB_mk hv ⟨by simp[newX,Sto.man],by simp[newX,Sto.man]⟩ ?_ (.inr ⟨?_,?_⟩)
 ·show incB (-1) [at_]=true;simp[incB];omega
 ·show([at_]:List Int).head?≠some 0;simp;omega
 ·show 0<((x.length:Nat):Int)∧((x.length:Nat):Int)<=65536;omega
theorem names_nodup (ho:okS k u s) (h:W f S l0 s M g l):(namesT s).Nodup:=by
 have:=oldN_nodup ho h s.segs.length;unfold oldN at this;rw[List.take_length] at this;exact this
theorem parse_pos {x:Txt} {q:List Pr} (h:parseF x=some q):1<=x.length:=by
 cases x with
 | nil=>simp[parseF,rdF] at h
 | cons a r=>simp
theorem WR.inst {R:List Rec} (ho:okS k u s) (h:WR f S l0 s R) (hv:u<1000000000000) (at_:Int) {x:Txt} (hx:x.length<=1000) :
  ((instT s at_ x).2=1∧(instT s at_ x).1=s∧(parseF x=none∨at_<=s.next∨1099511627776<at_)) ∨
  ((∃ q,parseF x=some q∧s.next<at_∧at_<=1099511627776 ∧
   ((((instT s at_ x).2=9∧(instT s at_ x).1.disk.down=false∧fm (instT s at_ x).1.disk.files=fm s.disk.files)∨((instT s at_ x).2=10∧(instT s at_ x).1.disk.down=true))∧(instT s at_ x).1={ s with disk:=(instT s at_ x).1.disk }∧srt (instT s at_ x).1.disk.files∧Dk s.disk (instT s at_ x).1.disk∧WR f S l0 (instT s at_ x).1 R ∨
   ((instT s at_ x).2=0∧(instT s at_ x).1.disk.down=false∨(instT s at_ x).2=10∧(instT s at_ x).1.disk.down=true)∧WR at_ x q (instT s at_ x).1 []∧(instT s at_ x).1.next=at_∧(instT s at_ x).1.sure=at_∧(instT s at_ x).1.disk.cap=s.disk.cap))):=by
 have h0:=h;have hsn:=h.sure;have hfl:=WR.floor h0;have hf0:0<=f:=by rw[<- hfl];exact(floor_ok ho).1
 obtain⟨M,g,l,h,rfl⟩:=h;unfold instT;by_cases c0:parseF x=none∨at_<=s.next∨1099511627776<at_
 ·rw[if_pos c0];exact .inl ⟨rfl,rfl,c0⟩
 ·rw[if_neg c0];simp only[not_or] at c0;obtain⟨q,hq⟩:=Option.ne_none_iff_exists'.1 c0.1;have hna:s.next<at_:=by omega
  have hab:at_<=1099511627776:=by omega
  have hxp:=parse_pos hq;have hv1:=(manB_t h.right).1.1;have hv2:=ho.ver;have hvm:s.man.ver=s.ver:=rfl;rw[hvm] at hv1;refine .inr ⟨q,hq,hna,hab,?_⟩;have hmr:manB (newX (s.ver+1) at_ x).man=true:=newX_right (by omega) (by omega) (by omega)
  have hbase:∀ a∈s.segs,0<=a.base∧a.base<=s.next:=by
   intro a ha;have hn:=h.inv.next;have hcm:=chain_mem _ _ _ h.inv.chain;refine⟨(ho.seg a ha).1.1,?_⟩;rw[h.inv.segs] at ha;rcases List.mem_append.1 ha with ha|ha
   ·obtain⟨p,hp,rfl⟩:=List.mem_map.1 ha;have:=hcm.2 p hp;omega
   ·rw[List.mem_singleton.1 ha];omega
  have nr1:¬ rel f s (snapN at_):=W.not_rel ho (by omega) (by omega)
  have nr2:¬ rel f s (fileN at_):=by
   rintro(e|⟨b,hb,e⟩|⟨_,e⟩)
   ·exact absurd e (n109 _ (by rw[fileN_len];decide))
   ·have:=fileN_inj (by omega) (ho.seg b hb).1 e
    have:=hbase b hb;omega
   ·exact absurd e.symm (snap_file _ _)
  have none_of:∀ n,¬ rel f s n->s.disk.down=false->fm s.disk.files n=none:=fun n hn hd=>by
   cases hx:fm s.disk.files n with
   | none=>rfl
   | some v=>exact absurd (h.only hd n (by rw[hx];simp)) hn
  have hO:=u0_out ho.dsk.srt (n:=snapN at_) (g:=fileN at_) (x:=x) hmr (namedS _) (namedN _) (snap_file _ _) (n110 _ (by rw[snapN_len];decide)) (n110 _ (by rw[fileN_len];decide)) (none_of _ (rel_110 f s)) (none_of _ nr1) (none_of _ nr2)
  generalize (u0 (snapN at_) (fileN at_) x (newX (s.ver+1) at_ x).man s.disk).1=e at *;by_cases c1:e.2=0
  ·rw[if_neg (by simp[c1])]
   rcases hO.2.2 with⟨_,hd,hf⟩|⟨_,_,e9,_⟩|⟨e10,_⟩
   ·refine .inr ?_;have hdn:=hO.1.up_of hd;have hmem:∀ m,m∈namesT s↔(∃ a∈s.segs,m=fileN a.base)∨(0<f∧m=snapN f):=by
     intro m;unfold namesT;rw[List.mem_append,List.mem_map,hfl];constructor
     ·rintro(⟨a,ha,rfl⟩|hm)
      ·exact .inl ⟨a,ha,rfl⟩
      ·split at hm
       ·rename_i c;exact .inr ⟨c,List.mem_singleton.1 hm⟩
       ·cases hm
     ·rintro(⟨a,ha,rfl⟩|⟨hc,rfl⟩)
      ·exact .inl ⟨a,ha,rfl⟩
      ·rw[if_pos hc];exact .inr (by simp)
    have hne:∀ m∈namesT s,m≠[109]∧m≠snapN at_∧m≠fileN at_∧fm s.disk.files m≠none:=by
     intro m hm;have hr:rel f s m:=by
      rcases(hmem m).1 hm with hm|hm
      ·exact .inr (.inl hm)
      ·exact .inr (.inr hm)
     refine⟨?_,fun e=>nr1 (e ▸ hr),fun e=>nr2 (e ▸ hr),?_⟩
     ·rcases(hmem m).1 hm with⟨a,_,rfl⟩|⟨_,rfl⟩
      ·exact n109 _ (by rw[fileN_len];decide)
      ·exact n109 _ (by rw[snapN_len];decide)
     ·rcases(hmem m).1 hm with⟨a,ha,rfl⟩|⟨hc,rfl⟩
      ·rw[h.inv.segs] at ha;rcases List.mem_append.1 ha with ha|ha
       ·obtain⟨p,hp,rfl⟩:=List.mem_map.1 ha;rw[h.full p hp];simp
       ·rw[List.mem_singleton.1 ha];obtain⟨j,h1,_⟩:=h.last;rw[h1];simp
      ·rcases h.snp with⟨h1,_⟩|⟨_,h1,_⟩
       ·omega
       ·rw[h1];simp
    have hg:=goP_out (namesT s) e.1 hO.2.1 (names_nodup ho h) hd (fun m hm=>by
     have:=hne m hm;rw[hf,up_ne _ _ this.1,up_ne _ _ this.2.2.1,up_ne _ _ this.2.1];exact this.2.2.2)
    rw[goT_goP];generalize goP (namesT s) (e.1,0)=w at *;have n1:[109] ∉ namesT s:=fun hm=>(hne _ hm).1 rfl
    have n2:snapN at_ ∉ namesT s:=fun hm=>(hne _ hm).2.1 rfl
    have n3:fileN at_ ∉ namesT s:=fun hm=>(hne _ hm).2.2.1 rfl
    have hkeep:∀ m,m ∉ namesT s->fm w.1.files m=fm e.1.files m:=by
     intro m hm;rcases hg.2.2 with⟨_,_,hf⟩|⟨_,hc,_⟩|⟨_,_,hf⟩
     ·rw[hf];exact if_neg hm
     ·cases hc
     ·exact hf m hm
    refine⟨?_,⟨[],⟨at_,0,0⟩,[],⟨⟨rfl,fun p hp=>?_,rfl,by show at_=at_+_;simp,by show 0<=at_∧at_<=at_;omega⟩,.inr ⟨by omega,?_,hq,rfl,rfl⟩,?_,hmr,fun p hp=>(by cases hp),⟨0,?_,by simp[rowS],by simp⟩,Int.le_refl _,fun hd2 m hm=>?_⟩,rfl⟩,rfl,rfl,hg.1.cap.trans hO.1.cap⟩
    ·rcases hg.2.2 with⟨a,b,_⟩|⟨_,hc,_⟩|⟨a,b,_⟩
     ·exact .inl ⟨a,b⟩
     ·cases hc
     ·exact .inr ⟨a,b⟩
    ·rw[List.nil_append,List.mem_singleton] at hp;subst hp;refine⟨(fm_hasD hg.2.1 _ _).2 ⟨0,?_⟩,fun r hr=>(by cases hr),fun i hi=>(by simp at hi),rfl,rfl⟩
     rw[hkeep _ n3,hf,up_ne _ _ (n109 _ (by rw[fileN_len];decide)),up_at];rfl
    ·show fm w.1.files _=_;rw[hkeep _ n2,hf,up_ne _ _ (n109 _ (by rw[snapN_len];decide)),up_ne _ _ (snap_file _ _),up_at]
    ·show fm w.1.files _=_;rw[hkeep _ n1,hf,up_at];rfl
    ·show fm w.1.files _=_;rw[hkeep _ n3,hf,up_ne _ _ (n109 _ (by rw[fileN_len];decide)),up_at];rfl
    ·have hm2:fm w.1.files m≠none:=hm;have hd3:w.1.down=false:=hd2;rcases hg.2.2 with⟨_,_,hfw⟩|⟨_,hc,_⟩|⟨_,b,_⟩
     ·rw[hfw] at hm2;unfold rmv at hm2;by_cases c:m∈namesT s
      ·rw[if_pos c] at hm2;exact absurd rfl hm2
      ·rw[if_neg c,hf] at hm2;by_cases a1:m=[109]
       ·exact .inl a1
       ·rw[up_ne _ _ a1] at hm2;by_cases a2:m=fileN at_
        ·exact .inr (.inl ⟨⟨at_,0,0⟩,by show _∈[(⟨at_,0,0⟩:Seg)];simp,a2⟩)
        ·rw[up_ne _ _ a2] at hm2;by_cases a3:m=snapN at_
         ·exact .inr (.inr ⟨by omega,a3⟩)
         ·rw[up_ne _ _ a3] at hm2;rcases h.only hdn m hm2 with e|e|e
          ·exact absurd e a1
          ·exact absurd ((hmem m).2 (.inl e)) c
          ·exact absurd ((hmem m).2 (.inr e)) c
     ·cases hc
     ·rw[hd3] at b;cases b
   ·rw[e9] at c1;cases c1
   ·rw[e10] at c1;cases c1
  ·rw[if_pos c1];have hw:=h.fail ho.dsk.srt hO c1 (by
    intro m hm;simp only[List.mem_cons,List.mem_nil_iff,or_false] at hm;rcases hm with rfl|rfl|rfl
    ·exact nr1
    ·exact nr2
    ·exact rel_110 f s)
   refine .inl ⟨?_,rfl,hO.2.1,hO.1,M,g,l,hw.1,rfl⟩;rcases hw.2 with⟨a,b,c⟩|⟨a,b⟩
   ·exact .inl ⟨a,c,b⟩
   ·exact .inr ⟨a,b⟩
def numsR (b:Txt):Nat->Nat->List Nat->Option (List Nat × Nat)
 | 0,a,l=>some (l,a)
 | n+1,a,l=>match rdF (b.drop a) 0 0 with
  | some (v,j)=>numsR b n (a+j) (l++[v])
  | none=>none
def sum4:Txt->Int
 | [a,b,c,d]=>(a.toNat+256*(b.toNat+256*(c.toNat+256*d.toNat)):Nat)
 | _=>0
def candM (b:Txt):Man:=match numsR b 2 0 [] with
 | some ([v,n],a)=>match numsR b (min n 64+1) a [] with
  | some (l,a2)=>⟨v,l.dropLast.map Int.ofNat,((l.getLastD 0:Nat):Int),sum4 (b.drop a2)⟩
  | none=>⟨0,[],0,0⟩
 | _=>⟨0,[],0,0⟩
def decM (s:Txt):Option Man:=if manB (candM (nextF s 0).1)=true∧manText (candM (nextF s 0).1)=s then some (candM (nextF s 0).1) else none
theorem nums_enc:∀ (vs:List Nat) (pre rest:Txt) (l:List Nat),(∀ v∈vs,v<9223372036854775808)->numsR (pre++(vs.flatMap enc128++rest)) vs.length pre.length l=some (l++vs,(pre++vs.flatMap enc128).length)
 | [],pre,rest,l,_=>by simp[numsR]
 | v::vs,pre,rest,l,h=>by
  have e:pre++((v::vs).flatMap enc128++rest)=(pre++enc128 v)++(vs.flatMap enc128++rest):=by simp
  have hd:(pre++((v::vs).flatMap enc128++rest)).drop pre.length=enc128 v++(vs.flatMap enc128++rest):=by
   rw[List.drop_left];simp
  have hr:=rdF_of0 v (vs.flatMap enc128++rest) (h v (by simp))
  have ih:=nums_enc vs (pre++enc128 v) rest (l++[v]) (fun x hx=>h x (by simp[hx]))
  have hl:(pre++enc128 v).length=pre.length+nd v:=by rw[List.length_append];rfl
  rw[List.length_cons,numsR,hd,hr];simp only[];rw[e,<- hl,ih];simp
theorem sum4_four (x:W32):sum4 (four x)=((x.toNat:Nat):Int):=by
 have h:=four_nat x;have e:four x=[UInt8.ofNat x.toNat,UInt8.ofNat (x >>> 8).toNat,UInt8.ofNat (x >>> 16).toNat,UInt8.ofNat (x >>> 24).toNat]:=rfl;rw[e] at h ⊢;simp only[sum4];have h2:x.toNat=(UInt8.ofNat x.toNat).toNat+256*(UInt8.ofNat (x >>> 8).toNat).toNat+65536*(UInt8.ofNat (x >>> 16).toNat).toNat+16777216*(UInt8.ofNat (x >>> 24).toNat).toNat:=h;omega
theorem man_sum {m:Man} (hm:m.ok):(((sumM m).toNat:Nat):Int)=m.sum:=by
 have:=hm.sum;unfold sumM;rw[BitVec.toNat_ofNat];omega
theorem next_man {m:Man} (h:manB m=true):nextF (manText m) 0=(manBody m,(manText m).length,0):=by
 have hb:=manBody_len h;have:=nextF_frame [] (manBody m) [] hb.1 (by omega)
 simp only[List.nil_append,List.append_nil,List.length_nil,Nat.zero_add] at this;exact this
theorem numsE_nat (l:List Int):numsE l=(l.map Int.toNat).flatMap enc128:=by
 unfold numsE;rw[List.flatMap_map]
theorem cand_man {m:Man} (h:manB m=true) (hm:m.ok):candM (manBody m)=m:=by
 obtain⟨h1,h2,h3,h4⟩:=manB_t h;have hin:=incB_mem _ _ h3;have hb:manBody m=[]++(([m.ver.toNat,m.segs.length]:List Nat).flatMap enc128++((m.segs.map Int.toNat++[m.size.toNat]).flatMap enc128++four (sumM m))):=by
  unfold manBody;rw[numsE_nat];simp
 have n1:=nums_enc [m.ver.toNat,m.segs.length] [] ((m.segs.map Int.toNat++[m.size.toNat]).flatMap enc128++four (sumM m)) [] (by
  intro v hv;simp only[List.mem_cons,List.mem_nil_iff,or_false] at hv;rcases hv with rfl|rfl <;> omega)
 have n2:=nums_enc (m.segs.map Int.toNat++[m.size.toNat]) (([m.ver.toNat,m.segs.length]:List Nat).flatMap enc128) (four (sumM m)) [] (by
  intro v hv;rw[List.mem_append,List.mem_map,List.mem_singleton] at hv;rcases hv with⟨a,ha,rfl⟩|rfl
  ·have:=hin a ha;omega
  ·omega)
 have hb2:manBody m=([m.ver.toNat,m.segs.length]:List Nat).flatMap enc128++((m.segs.map Int.toNat++[m.size.toNat]).flatMap enc128++four (sumM m)):=by rw[hb];simp
 rw[<- hb] at n1;rw[<- hb2] at n2;have hl2:([m.ver.toNat,m.segs.length]:List Nat).length=2:=rfl;rw[hl2] at n1;simp only[List.nil_append,List.length_nil] at n1 n2;have hmin:min m.segs.length 64+1=(m.segs.map Int.toNat++[m.size.toNat]).length:=by simp;omega
 unfold candM;rw[n1];simp only[hmin,n2];have hd:(manBody m).drop (([m.ver.toNat,m.segs.length]:List Nat).flatMap enc128++(m.segs.map Int.toNat++[m.size.toNat]).flatMap enc128).length=four (sumM m):=by
  rw[hb2,<- List.append_assoc,List.drop_left]
 rw[hd,sum4_four,man_sum hm];have hsg:(m.segs.map Int.toNat++[m.size.toNat]).dropLast.map Int.ofNat=m.segs:=by
  rw[List.dropLast_concat,List.map_map];conv=>rhs;rw[<- List.map_id m.segs]
  apply List.map_congr_left;intro a ha;have:=hin a ha;show((a.toNat:Nat):Int)=a;omega
 rw[hsg];have hsz:(((m.segs.map Int.toNat++[m.size.toNat]).getLastD 0:Nat):Int)=m.size:=by
  simp[List.getLastD_eq_getLast?];omega
 rw[hsz];have hvv:((m.ver.toNat:Nat):Int)=m.ver:=by omega
 rw[hvv]
theorem dec_text {m:Man} (h:manB m=true) (hm:m.ok):decM (manText m)=some m:=by
 unfold decM;rw[next_man h];simp only[cand_man h hm];rw[if_pos ⟨h,trivial⟩]
theorem dec_some {s:Txt} {m:Man} (h:decM s=some m):manB m=true∧manText m=s:=by
 unfold decM at h;split at h
 ·rename_i hc;cases h;exact hc
 ·cases h
def manN (m:Man):List Int:=m.ver::(m.segs.length:Int)::m.segs++[m.size]
theorem manN_len (m:Man):(manN m).length=m.segs.length+3:=by simp[manN]
theorem manN_1 (m:Man):(manN m)[1]?=some (m.segs.length:Int):=rfl
theorem manBody_N (m:Man):manBody m=numsE (manN m)++four (sumM m):=rfl
theorem manN_in {m:Man} (h:manB m=true):∀ v∈manN m,0<=v∧v<9223372036854775808:=by
 obtain⟨h1,h2,h3,h4⟩:=manB_t h;have hin:=incB_mem _ _ h3;intro v hv;simp only[manN,List.cons_append,List.mem_cons,List.mem_append,List.mem_nil_iff,or_false] at hv;rcases hv with rfl|rfl|hv|rfl
 ·omega
 ·omega
 ·have:=hin v hv;omega
 ·omega
theorem numsE_cons (x:Int) (r:List Int):numsE (x::r)=enc128 x.toNat++numsE r:=by simp[numsE]
theorem man_read {m:Man} (h:manB m=true) (j:Nat) (hj:j<(manN m).length):rdF ((manBody m).drop (numsE ((manN m).take j)).length) 0 0=some ((manN m)[j].toNat,nd (manN m)[j].toNat)∧(numsE ((manN m).take (j+1))).length=(numsE ((manN m).take j)).length+nd (manN m)[j].toNat:=by
 have hv:=manN_in h _ (List.getElem_mem hj);have e:manBody m=numsE ((manN m).take j)++(enc128 (manN m)[j].toNat++(numsE ((manN m).drop (j+1))++four (sumM m))):=by
  have e2:manN m=(manN m).take j++(manN m)[j]::(manN m).drop (j+1):=by rw[<- List.drop_eq_getElem_cons hj,List.take_append_drop]
  have e3:numsE (manN m)=numsE ((manN m).take j)++(enc128 (manN m)[j].toNat++numsE ((manN m).drop (j+1))):=by
   conv=>lhs;rw[e2]
   rw[numsE_app,numsE_cons]
  rw[manBody_N,e3];simp
 constructor
 ·rw[e,List.drop_left];exact rdF_of0 _ _ (by omega)
 ·rw[List.take_succ_eq_append_getElem hj,numsE_app,List.length_append];simp[numsE];rfl
theorem man_lt {m:Man} (j:Nat) (hj:j<=(manN m).length):(numsE ((manN m).take j)).length+4<=(manBody m).length:=by
 have:numsE (manN m)=numsE ((manN m).take j)++numsE ((manN m).drop j):=by rw[<- numsE_app,List.take_append_drop]
 rw[manBody_N,this];simp[four_len]
def zeroM:List L:=[.d (.i .i64 0),.d (.l []),.d (.i .i64 0),.d (.i .u32 0)]
def manV4 (m:Man):V:=.tup [(true,m.l),(false,[.d (.i .i64 0)])]
def errM (e:Int):V:=.tup [(true,zeroM),(false,[.d (.i .i64 e)])]
def mkM (q:List Int) (x:Int):Man:=⟨q.headD 0,(q.drop 2).take (q.length-1-2),q.getLastD 0,x⟩
theorem mk_man {m:Man}:mkM (manN m) m.sum=m:=by
 obtain⟨v,sg,z,x⟩:=m;have e:(manN ⟨v,sg,z,x⟩).getLastD 0=z:=by
  show((v::(sg.length:Int)::sg)++[z]).getLastD 0=z;rw[List.getLastD_concat]
 unfold mkM;rw[e];simp[manN]
theorem eI_get (q:List Int) (j:Nat) (h:j<q.length):(q.map eI)[j]?=some [.i .i64 q[j]]:=by rw[List.getElem?_map,List.getElem?_eq_getElem h];rfl
def u8a (b:Txt) (i:Nat):Int:=((b[i]?.getD 0).toNat:Nat)
theorem u8a_lt (b:Txt) (i:Nat):0<=u8a b i∧u8a b i<256:=by
 have:=UInt8.toNat_lt (b[i]?.getD 0);unfold u8a;omega
def sumA (b:Txt) (a:Nat):Nat->Int
 | 0=>u8a b (a+3)*16777216+u8a b (a+2)*65536+u8a b (a+1)*256+u8a b a
 | 1=>u8a b (a+3)*65536+u8a b (a+2)*256+u8a b (a+1)
 | 2=>u8a b (a+3)*256+u8a b (a+2)
 | 3=>u8a b (a+3)
 | _=>0
theorem sumA_bd (b:Txt) (a j:Nat):0<=sumA b a j∧sumA b a j<4294967296:=by
 have h0:=u8a_lt b a;have h1:=u8a_lt b (a+1);have h2:=u8a_lt b (a+2);have h3:=u8a_lt b (a+3);unfold sumA;split <;> omega
theorem sumA_man {m:Man} (h:manB m=true) (hm:m.ok):sumA (manBody m) (numsE (manN m)).length 0=m.sum:=by
 have e:∀ i,i<4->(manBody m)[(numsE (manN m)).length+i]?=(four (sumM m))[i]?:=by
  intro i hi;rw[manBody_N,List.getElem?_append_right (by omega)]
  congr 1;omega
 have hs:=sum4_four (sumM m);rw[man_sum hm] at hs;have e0:=e 0 (by decide)
 have e1:=e 1 (by decide)
 have e2:=e 2 (by decide)
 have e3:=e 3 (by decide)
 rw[Nat.add_zero] at e0;obtain⟨b0,b1,b2,b3,hf⟩:∃ b0 b1 b2 b3,four (sumM m)=[b0,b1,b2,b3]:=⟨_,_,_,_,rfl⟩;rw[hf] at hs e0 e1 e2 e3;simp only[sum4] at hs;unfold sumA u8a;rw[e0,e1,e2,e3];simp only[List.getElem?_cons_zero,List.getElem?_cons_succ,Option.getD_some];omega
set_option maxRecDepth 8000 in
set_option maxHeartbeats 8000000 in
theorem rgetM_spec (s:Txt) (hs:s.length<=1000000) (hok:∀ m,decM s=some m->m.ok):∃ Z,call 61 [vs s] []=some (Z,[])∧(∀ m,decM s=some m->Z=manV4 m)∧(decM s=none->∃ e,e≠0∧Z=errM e):=by
 have q0:=refNext_spec s 0 (by decide) (by omega)
 have z0:((0:Nat):Int)=0:=rfl;rw[z0] at q0;have hdm:∀ m,decM s=some m->nextF s 0=(manBody m,s.length,0):=fun m h=>by
  have:=dec_some h;have h2:=next_man this.1;rw[this.2] at h2;exact h2
 have hbl:=nextF_tlen s 0;obtain⟨⟨b,nx,e⟩,hnx⟩:∃ r,r=nextF s 0:=⟨_,rfl⟩;rw[<- hnx] at q0 hdm hbl;simp only[nextV] at q0 hbl;by_cases he:e=0
 ·subst he;have hdb:∀ m,decM s=some m->b=manBody m:=fun m h=>by have:=hdm m h;cases this;rfl
  refine⟨match decM s with|some m=>manV4 m|none=>errM 3,?_,fun m h=>by rw[h],fun h=>⟨3,by decide,by rw[h]⟩⟩
  generalize hZ:(match decM s with|some m=>manV4 m|none=>errM 3)=Z
  have hZn:decM s=none->Z=errM 3:=fun h=>by rw[<- hZ,h]
  have hZs:∀ m,decM s=some m->Z=manV4 m:=fun m h=>by rw[<- hZ,h]
  clear hZ hdm;apply enterS s61 rfl;(simp(disch:=first|decide|omega|(intros;exact Eq.trans rfl rfl)|simp only[puri]) only[wkf,a61,q0,go_sem,seval,dis])
  refine loop_boxM (m:=0) (σ:=List Int × Nat) (fun t=>200-t.1.length) (fun t=>t.1.length<=100∧t.2<=b.length∧(∀ v∈t.1,0<=v∧v<9223372036854775808)∧∀ m,decM s=some m->t.1.length<(manN m).length∧t.1=(manN m).take t.1.length∧t.2=(numsE ((manN m).take t.1.length)).length)
   (fun t=>[vs s,V.one (.p 0 0),vs b,V.one (.sl 1 1 0 t.1.length),vi t.2]) (fun t=>[.cells [.d (.i .i64 0),.ns,.d (.i .i64 0),.d (.i .u32 0)],.arr 1 (t.1.map eI) 0])
   (fun _=>(Z,[])) ?_ ([],0) ⟨by decide,Nat.zero_le _,fun v hv=>(by cases hv),fun m hm=>⟨by rw[manN_len];simp,rfl,rfl⟩⟩ _ _ hdM
  rintro⟨L1,a1⟩ ⟨h1,h2,h3,h4⟩ R hR;simp only at h1 h2 h3 h4 ⊢;have q1:=refRead_spec b a1 (by omega) (by omega)
  have hml:(L1.map eI).length=L1.length:=by simp
  by_cases c1:a1<b.length
  ·by_cases c2:L1.length<100
   ·cases hrd:rdF (b.drop a1) 0 0 with
    | some r =>
     obtain⟨v,n⟩:=r;have hv9:=rd_lt hrd;have hrl:=(rdF_enc0 hrd).2.1;rw[List.length_drop] at hrl;rw[hrd] at q1;simp only[rdV] at q1;have hmap:L1.map eI++[[.i .i64 (v:Int)]]=(L1++[(v:Int)]).map eI:=by simp[eI]
     have hlen:L1.length+1=(L1++[(v:Int)]).length:=by simp
     have hbd:∀ w∈L1++[(v:Int)],0<=w∧w<9223372036854775808:=by
      intro w hw;rcases List.mem_append.1 hw with hw|hw
      ·exact h3 w hw
      ·rw[List.mem_singleton.1 hw];omega
     have hst:∀ m,decM s=some m->(L1++[(v:Int)]).length<=(manN m).length∧L1++[(v:Int)]=(manN m).take (L1++[(v:Int)]).length∧a1+n=(numsE ((manN m).take (L1++[(v:Int)]).length)).length:=by
      intro m hm;obtain⟨p1,p2,p3⟩:=h4 m hm;have hmr:=man_read (dec_some hm).1 L1.length p1;have hin:=manN_in (dec_some hm).1 _ (List.getElem_mem p1);rw[<- hdb m hm,<- p3,hrd] at hmr;have e1:=hmr.1;simp only[Option.some.injEq,Prod.mk.injEq] at e1;rw[<- hlen];refine⟨by omega,?_,?_⟩
      ·rw[List.take_succ_eq_append_getElem p1,<- p2];congr 2;omega
      ·rw[hmr.2];omega
     by_cases c3:3<=(L1++[(v:Int)]).length∧(((L1++[(v:Int)]).length:Nat):Int)=(L1++[(v:Int)]).getD 1 0+3
     ·have hT:∀ m,decM s=some m->L1++[(v:Int)]=manN m∧a1+n=(numsE (manN m)).length:=by
       intro m hm;obtain⟨p1,p2,p3⟩:=hst m hm;have e1:(L1++[(v:Int)]).getD 1 0=(m.segs.length:Int):=by
        rw[p2,List.getD_eq_getElem?_getD,List.getElem?_take_of_lt (by omega),manN_1];rfl
       rw[e1] at c3;have e2:(L1++[(v:Int)]).length=(manN m).length:=by rw[manN_len];omega
       rw[e2,List.take_length] at p2 p3;exact⟨p2,p3⟩
      obtain⟨Q,hQ⟩:∃ Q,Q=L1++[(v:Int)]:=⟨_,rfl⟩;obtain⟨a,ha⟩:∃ a,a=a1+n:=⟨_,rfl⟩;rw[<- hQ] at hmap hlen hbd c3 hT;rw[<- ha] at hT q1;have hQb:Q.length<=101:=by omega
      have hab:a<=b.length:=by omega
      clear hst hR h4 hQ hrd;have g1:(Q.map eI)[1]?=some [.i .i64 (Q.getD 1 0)]:=by rw[eI_get Q 1 (by omega),List.getD_eq_getElem?_getD,List.getElem?_eq_getElem (by omega)];rfl
      have c3a:(3:Int)<=(Q.length:Int):=by omega
      have hgd:=hbd _ (List.getElem_mem (show 1<Q.length by omega))
      have hgd2:0<=Q.getD 1 0∧Q.getD 1 0<=1000:=by omega
      obtain⟨W,hW⟩:∃ W,W=Q.getD 1 0:=⟨_,rfl⟩;rw[<- hW] at g1 c3 hgd2;have c6:¬ (Q.length:Int)<3:=by omega
      have c7:(Q.length:Int)=W+3:=by omega
      by_cases t3:(b.length:Int)-(a:Int)=4
      ·have g0:(Q.map eI)[0]?=some [.i .i64 (Q.headD 0)]:=by rw[eI_get Q 0 (by omega)];cases Q with|nil=>simp at c3|cons x r=>rfl
       have hQl:Q.length-1<Q.length:=by omega
       have gz:(Q.map eI)[Q.length-1]?=some [.i .i64 (Q.getLastD 0)]:=by
        rw[eI_get Q _ hQl];rw[List.getLastD_eq_getLast?,List.getLast?_eq_getElem?,List.getElem?_eq_getElem hQl];rfl
       have ek:((Q.length:Int)-1).toNat=Q.length-1:=by omega
       have htd:List.take (Q.length-1-2) (List.drop 2 (Q.map eI))=((Q.drop 2).take (Q.length-1-2)).map eI:=by rw[List.map_take,List.map_drop]
       obtain⟨qh,hqh⟩:∃ qh,qh=Q.headD 0:=⟨_,rfl⟩;obtain⟨ql,hql⟩:∃ ql,ql=Q.getLastD 0:=⟨_,rfl⟩;rw[<- hqh] at g0;rw[<- hql] at gz;have ek2:Q.length-1-2=Q.length-3:=by omega
       (simp(disch:=first|decide|omega|(intros;exact Eq.trans rfl rfl)|simp only[puri]) only[wkf,a61_0,a61,q1,hmap,hml,hlen,c1,c2,c3a,c6,eq_true c7,g1,decide_eq_true t3,g0,gz,ek,go_sem,seval,dis,vdr,A.kind,A.xs,optX,A.isN])
       refine loop_boxM (m:=0) (σ:=Nat) (fun j=>j) (fun j=>j<=4) (fun j=>[vs s,V.one (.p 0 0),vs b,vi a,V.one (.p 1 0),vi ((j:Int)-1)])
        (fun j=>[.cells [.d (.i .i64 0),.ns,.d (.i .i64 0),.d (.i .u32 0)],.cells [.d (.i .i64 qh),.sl 2 1 2 (Q.length-1-2),.d (.i .i64 ql),.d (.i .u32 (sumA b a j))],.arr 1 (Q.map eI) 0]) (fun _=>(Z,[])) ?_ 4 (Nat.le_refl _) _ _ hdM
       clear q1 g1 g0 gz hmap;intro j hj K hK;have hsb:=sumA_bd b a j;rcases(by omega:j=0∨j=1∨j=2∨j=3∨j=4) with rfl|rfl|rfl|rfl|rfl
       ·obtain⟨ac,hac⟩:∃ ac,ac=sumA b a 0:=⟨_,rfl⟩;rw[<- hac] at hsb ⊢;have hMe:(mkM Q ac).l=[.d (.i .i64 qh),.d (.l (((Q.drop 2).take (Q.length-1-2)).map eI)),.d (.i .i64 ql),.d (.i .u32 ac)]:=by rw[hqh,hql];rfl
        have hMo:(mkM Q ac).ok:=⟨by simp[mkM];omega,hsb⟩
        have g1:=rmanPut_spec (mkM Q ac) hMo;rw[hMe] at g1;have hdM:∀ m,decM s=some m->mkM Q ac=m:=fun m h=>by
         obtain⟨p1,p2⟩:=hT m h;rw[hac,p2,hdb m h,sumA_man (dec_some h).1 (hok m h),p1,mk_man]
        have hmx:max 0 (2+(Q.length-1-2))<=Q.length:=by omega
        have hle:2+(Q.length-1-2)<=Q.length:=by omega
        by_cases k1:manB (mkM Q ac)=true
        ·have hmp:manPut (mkM Q ac)=(manText (mkM Q ac),0):=by unfold manPut;rw[if_pos k1]
         rw[hmp] at g1;simp only at g1;by_cases k2:manText (mkM Q ac)=s
         ·have hd:decM s=some (mkM Q ac):=by
           have:=dec_text k1 hMo;rw[k2] at this;exact this
          rw[hZs _ hd];have k3:(manText (mkM Q ac) == s)=true:=by simpa using k2
          unfold manV4;rw[hMe];rw[k2] at g1;generalize mkM Q ac=MM at *;(simp(disch:=first|decide|omega|(intros;exact Eq.trans rfl rfl)|simp only[puri]) only[wkf,a61_1,a61,g1,htd,List.length_map,go_sem,seval,dis,vdr,A.kind,A.xs,optX,A.isN])
          try simp[trim]
         ·have hd:decM s=none:=by
           cases hd:decM s with
           | none=>rfl
           | some m=>exact absurd (by rw[hdM m hd];exact(dec_some hd).2) k2
          rw[hZn hd];have k3:(manText (mkM Q ac) == s)=false:=by simpa using k2
          generalize manText (mkM Q ac)=TT at *;generalize mkM Q ac=MM at *;(simp(disch:=first|decide|omega|(intros;exact Eq.trans rfl rfl)|simp only[puri]) only[wkf,a61_1,a61,g1,htd,k3,List.length_map,go_sem,seval,dis,vdr,A.kind,A.xs,optX,A.isN])
          try simp[trim,errM,zeroM]
        ·have hmp:manPut (mkM Q ac)=([],1):=by unfold manPut;rw[if_neg k1]
         rw[hmp] at g1;simp only at g1;have hd:decM s=none:=by
          cases hd:decM s with
          | none=>rfl
          | some m=>exact absurd (by rw[hdM m hd];exact(dec_some hd).1) k1
         rw[hZn hd];generalize mkM Q ac=MM at *;(simp(disch:=first|decide|omega|(intros;exact Eq.trans rfl rfl)|simp only[puri]) only[wkf,a61_1,a61,g1,htd,List.length_map,go_sem,seval,dis,vdr,A.kind,A.xs,optX,A.isN])
         try simp[trim,errM,zeroM]
       ·have hbi:a<b.length:=by omega
        have gb:b[a]?=some b[a]:=List.getElem?_eq_getElem hbi;have hu:u8a b (a)=((b[a].toNat:Nat):Int):=by unfold u8a;rw[gb];rfl
        have hul:=UInt8.toNat_lt b[a];have e1:sumA b a 0=sumA b a 1*256+u8a b (a):=by simp only[sumA];try omega
        have hsb2:=sumA_bd b a 0;have hei:((a:Int)+0).toNat=a:=by omega
        have hK':=hK 0 (by decide) (by omega)
        rw[e1] at hK' hsb2;rw[hu] at hK' hsb2;generalize b[a]=bx at *;generalize sumA b a 1=ac at *;clear e1 hu;(simp(disch:=first|decide|omega|(intros;exact Eq.trans rfl rfl)|simp only[puri]) only[wkf,a61_1,hei,gb,List.length_map,go_sem,seval,dis,vdr,A.kind,A.xs,optX,A.isN])
        exact hK' _ _ hdM
       ·have hbi:a+1<b.length:=by omega
        have gb:b[a+1]?=some b[a+1]:=List.getElem?_eq_getElem hbi;have hu:u8a b (a+1)=((b[a+1].toNat:Nat):Int):=by unfold u8a;rw[gb];rfl
        have hul:=UInt8.toNat_lt b[a+1];have e1:sumA b a 1=sumA b a 2*256+u8a b (a+1):=by simp only[sumA];try omega
        have hsb2:=sumA_bd b a 1;have hei:((a:Int)+1).toNat=a+1:=by omega
        have hK':=hK 1 (by decide) (by omega)
        rw[e1] at hK' hsb2;rw[hu] at hK' hsb2;generalize b[a+1]=bx at *;generalize sumA b a 2=ac at *;clear e1 hu;(simp(disch:=first|decide|omega|(intros;exact Eq.trans rfl rfl)|simp only[puri]) only[wkf,a61_1,hei,gb,List.length_map,go_sem,seval,dis,vdr,A.kind,A.xs,optX,A.isN])
        exact hK' _ _ hdM
       ·have hbi:a+2<b.length:=by omega
        have gb:b[a+2]?=some b[a+2]:=List.getElem?_eq_getElem hbi;have hu:u8a b (a+2)=((b[a+2].toNat:Nat):Int):=by unfold u8a;rw[gb];rfl
        have hul:=UInt8.toNat_lt b[a+2];have e1:sumA b a 2=sumA b a 3*256+u8a b (a+2):=by simp only[sumA];try omega
        have hsb2:=sumA_bd b a 2;have hei:((a:Int)+2).toNat=a+2:=by omega
        have hK':=hK 2 (by decide) (by omega)
        rw[e1] at hK' hsb2;rw[hu] at hK' hsb2;generalize b[a+2]=bx at *;generalize sumA b a 3=ac at *;clear e1 hu;(simp(disch:=first|decide|omega|(intros;exact Eq.trans rfl rfl)|simp only[puri]) only[wkf,a61_1,hei,gb,List.length_map,go_sem,seval,dis,vdr,A.kind,A.xs,optX,A.isN])
        exact hK' _ _ hdM
       ·have hbi:a+3<b.length:=by omega
        have gb:b[a+3]?=some b[a+3]:=List.getElem?_eq_getElem hbi;have hu:u8a b (a+3)=((b[a+3].toNat:Nat):Int):=by unfold u8a;rw[gb];rfl
        have hul:=UInt8.toNat_lt b[a+3];have e1:sumA b a 3=sumA b a 4*256+u8a b (a+3):=by simp only[sumA];try omega
        have hsb2:=sumA_bd b a 3;have hei:((a:Int)+3).toNat=a+3:=by omega
        have hK':=hK 3 (by decide) (by omega)
        rw[e1] at hK' hsb2;rw[hu] at hK' hsb2;generalize b[a+3]=bx at *;generalize sumA b a 4=ac at *;clear e1 hu;(simp(disch:=first|decide|omega|(intros;exact Eq.trans rfl rfl)|simp only[puri]) only[wkf,a61_1,hei,gb,List.length_map,go_sem,seval,dis,vdr,A.kind,A.xs,optX,A.isN])
        exact hK' _ _ hdM
      ·have hno:decM s=none:=by
        cases hd:decM s with
        | none=>rfl
        | some m =>
         exfalso;obtain⟨p1,p2⟩:=hT m hd;have:=hdb m hd;rw[this,manBody_N,List.length_append,four_len,p2] at t3;omega
       rw[hZn hno];(simp(disch:=first|decide|omega|(intros;exact Eq.trans rfl rfl)|simp only[puri]) only[wkf,a61_0,a61,q1,hmap,hml,hlen,c1,c2,c3a,c6,eq_true c7,g1,decide_eq_false t3,go_sem,seval,dis,vdr,A.kind,A.xs,optX,A.isN])
       try simp[trim,errM,zeroM]
     ·have hR':=hR (L1++[(v:Int)],a1+n) (by simp;omega) ⟨by simp;omega,by simp only[];omega,hbd,fun m hm=>by
       obtain⟨p1,p2,p3⟩:=hst m hm;refine⟨?_,p2,p3⟩;simp only[];rcases Nat.lt_or_ge (L1++[(v:Int)]).length (manN m).length with h|h
       ·exact h
       ·exfalso;have e2:(L1++[(v:Int)]).length=(manN m).length:=by omega
        apply c3;rw[manN_len] at e2;refine⟨by omega,?_⟩
        have e1:(L1++[(v:Int)]).getD 1 0=(m.segs.length:Int):=by
         rw[p2,List.getD_eq_getElem?_getD,List.getElem?_take_of_lt (by omega),manN_1];rfl
        rw[e1,e2];omega⟩
      obtain⟨Q,hQ⟩:∃ Q,Q=L1++[(v:Int)]:=⟨_,rfl⟩;rw[<- hQ] at hmap hlen hbd c3 hR';by_cases c4:3<=Q.length
      ·have c5:¬ ((Q.length:Int)=Q.getD 1 0+3):=fun h=>c3 ⟨c4,h⟩
       have g1:(Q.map eI)[1]?=some [.i .i64 (Q.getD 1 0)]:=by rw[eI_get Q 1 (by omega),List.getD_eq_getElem?_getD,List.getElem?_eq_getElem (by omega)];rfl
       have c3a:(3:Int)<=(Q.length:Int):=by omega
       have hgd:=hbd _ (List.getElem_mem (show 1<Q.length by omega))
       have hgd2:Q.getD 1 0=Q[1]:=by rw[List.getD_eq_getElem?_getD,List.getElem?_eq_getElem (by omega)];rfl
       obtain⟨W,hW⟩:∃ W,W=Q.getD 1 0:=⟨_,rfl⟩;rw[<- hW] at g1 c5 hgd2;by_cases hwr:W+3<9223372036854775808
       ·(simp(disch:=first|decide|omega|(intros;exact Eq.trans rfl rfl)|simp only[puri]) only[wkf,a61_0,q1,hmap,hml,hlen,c1,c2,c3a,c5,g1,go_sem,seval,dis,vdr,A.kind,A.xs,optX,A.isN])
        exact hR' _ _ hdM
       ·obtain⟨W3,hW3,hW4⟩:∃ W3:Int,IntKind.i64.wrap (W+3)=W3∧W3<0:=by
         refine⟨_,rfl,?_⟩;rw[IntWalk.i64_left];unfold RowKit.wrap64;omega
        have c5':¬ (Q.length:Int)=W3:=by omega
        (simp(disch:=first|decide|omega|(intros;exact Eq.trans rfl rfl)|simp only[puri]) only[wkf,a61_0,q1,hmap,hml,hlen,c1,c2,c3a,hW3,c5',g1,go_sem,seval,dis,vdr,A.kind,A.xs,optX,A.isN])
        exact hR' _ _ hdM
      ·have c4':¬ (3:Int)<=(Q.length:Int):=by omega
       (simp(disch:=first|decide|omega|(intros;exact Eq.trans rfl rfl)|simp only[puri]) only[wkf,a61_0,q1,hmap,hml,hlen,c1,c2,c4',go_sem,seval,dis,vdr,A.kind,A.xs,optX,A.isN])
       exact hR' _ _ hdM
    | none =>
     have hno:decM s=none:=by
      cases hd:decM s with
      | none=>rfl
      | some m =>
       exfalso;obtain⟨p1,p2,p3⟩:=h4 m hd;have hmr:=(man_read (dec_some hd).1 L1.length p1).1;rw[<- hdb m hd,<- p3,hrd] at hmr;cases hmr
     rw[hrd] at q1;simp only[rdV] at q1;obtain⟨Q,hQ⟩:∃ Q,Q=L1:=⟨_,rfl⟩;obtain⟨a,ha⟩:∃ a,a=a1:=⟨_,rfl⟩;rw[<- hQ] at h1 h3 hml ⊢;rw[<- ha] at h2 ⊢;rw[<- hQ] at c2;rw[<- ha] at c1 hrd q1;have hT:∀ m,decM s=some m->Q=manN m∧a=(numsE (manN m)).length:=fun m h=>by rw[hno] at h;cases h
     have hQb:Q.length<=101:=by omega
     have hab:a<=b.length:=h2;have hbd:=h3;clear hR h4;by_cases t1:Q.length<3
     ·have t1':(Q.length:Int)<3:=by omega
      rw[hZn hno];(simp(disch:=first|decide|omega|(intros;exact Eq.trans rfl rfl)|simp only[puri]) only[wkf,a61_0,a61,q1,c1,c2,t1',hml,go_sem,seval,dis,vdr,A.kind,A.xs,optX,A.isN])
      try simp[trim,errM,zeroM]
     ·have c6:¬ (Q.length:Int)<3:=by omega
      have g1:(Q.map eI)[1]?=some [.i .i64 (Q.getD 1 0)]:=by rw[eI_get Q 1 (by omega),List.getD_eq_getElem?_getD,List.getElem?_eq_getElem (by omega)];rfl
      have hgd:=hbd _ (List.getElem_mem (show 1<Q.length by omega))
      have hgd2:Q.getD 1 0=Q[1]:=by rw[List.getD_eq_getElem?_getD,List.getElem?_eq_getElem (by omega)];rfl
      obtain⟨W,hW⟩:∃ W,W=Q.getD 1 0:=⟨_,rfl⟩;rw[<- hW] at g1 hgd2;by_cases t2:(Q.length:Int)=W+3
      ·have c3:3<=Q.length∧(Q.length:Int)=W+3:=⟨by omega,t2⟩
       have hgd3:0<=W∧W<=1000:=by omega
       have c6:¬ (Q.length:Int)<3:=by omega
       have c7:(Q.length:Int)=W+3:=by omega
       by_cases t3:(b.length:Int)-(a:Int)=4
       ·have g0:(Q.map eI)[0]?=some [.i .i64 (Q.headD 0)]:=by rw[eI_get Q 0 (by omega)];cases Q with|nil=>simp at c3|cons x r=>rfl
        have hQl:Q.length-1<Q.length:=by omega
        have gz:(Q.map eI)[Q.length-1]?=some [.i .i64 (Q.getLastD 0)]:=by
         rw[eI_get Q _ hQl];rw[List.getLastD_eq_getLast?,List.getLast?_eq_getElem?,List.getElem?_eq_getElem hQl];rfl
        have ek:((Q.length:Int)-1).toNat=Q.length-1:=by omega
        have htd:List.take (Q.length-1-2) (List.drop 2 (Q.map eI))=((Q.drop 2).take (Q.length-1-2)).map eI:=by rw[List.map_take,List.map_drop]
        obtain⟨qh,hqh⟩:∃ qh,qh=Q.headD 0:=⟨_,rfl⟩;obtain⟨ql,hql⟩:∃ ql,ql=Q.getLastD 0:=⟨_,rfl⟩;rw[<- hqh] at g0;rw[<- hql] at gz;have ek2:Q.length-1-2=Q.length-3:=by omega
        (simp(disch:=first|decide|omega|(intros;exact Eq.trans rfl rfl)|simp only[puri]) only[wkf,a61_0,a61,q1,c1,c2,hml,c6,eq_true c7,g1,decide_eq_true t3,g0,gz,ek,go_sem,seval,dis,vdr,A.kind,A.xs,optX,A.isN])
        refine loop_boxM (m:=0) (σ:=Nat) (fun j=>j) (fun j=>j<=4) (fun j=>[vs s,V.one (.p 0 0),vs b,vi a,V.one (.p 1 0),vi ((j:Int)-1)])
         (fun j=>[.cells [.d (.i .i64 0),.ns,.d (.i .i64 0),.d (.i .u32 0)],.cells [.d (.i .i64 qh),.sl 2 1 2 (Q.length-1-2),.d (.i .i64 ql),.d (.i .u32 (sumA b a j))],.arr 1 (Q.map eI) 0]) (fun _=>(Z,[])) ?_ 4 (Nat.le_refl _) _ _ hdM
        clear g1 g0 gz;intro j hj K hK;have hsb:=sumA_bd b a j;rcases(by omega:j=0∨j=1∨j=2∨j=3∨j=4) with rfl|rfl|rfl|rfl|rfl
        ·obtain⟨ac,hac⟩:∃ ac,ac=sumA b a 0:=⟨_,rfl⟩;rw[<- hac] at hsb ⊢;have hMe:(mkM Q ac).l=[.d (.i .i64 qh),.d (.l (((Q.drop 2).take (Q.length-1-2)).map eI)),.d (.i .i64 ql),.d (.i .u32 ac)]:=by rw[hqh,hql];rfl
         have hMo:(mkM Q ac).ok:=⟨by simp[mkM];omega,hsb⟩
         have g1:=rmanPut_spec (mkM Q ac) hMo;rw[hMe] at g1;have hdM:∀ m,decM s=some m->mkM Q ac=m:=fun m h=>by
          obtain⟨p1,p2⟩:=hT m h;rw[hac,p2,hdb m h,sumA_man (dec_some h).1 (hok m h),p1,mk_man]
         have hmx:max 0 (2+(Q.length-1-2))<=Q.length:=by omega
         have hle:2+(Q.length-1-2)<=Q.length:=by omega
         by_cases k1:manB (mkM Q ac)=true
         ·have hmp:manPut (mkM Q ac)=(manText (mkM Q ac),0):=by unfold manPut;rw[if_pos k1]
          rw[hmp] at g1;simp only at g1;by_cases k2:manText (mkM Q ac)=s
          ·have hd:decM s=some (mkM Q ac):=by
            have:=dec_text k1 hMo;rw[k2] at this;exact this
           rw[hZs _ hd];have k3:(manText (mkM Q ac) == s)=true:=by simpa using k2
           unfold manV4;rw[hMe];rw[k2] at g1;generalize mkM Q ac=MM at *;(simp(disch:=first|decide|omega|(intros;exact Eq.trans rfl rfl)|simp only[puri]) only[wkf,a61_1,a61,g1,htd,List.length_map,go_sem,seval,dis,vdr,A.kind,A.xs,optX,A.isN])
           try simp[trim]
          ·have hd:decM s=none:=by
            cases hd:decM s with
            | none=>rfl
            | some m=>exact absurd (by rw[hdM m hd];exact(dec_some hd).2) k2
           rw[hZn hd];have k3:(manText (mkM Q ac) == s)=false:=by simpa using k2
           generalize manText (mkM Q ac)=TT at *;generalize mkM Q ac=MM at *;(simp(disch:=first|decide|omega|(intros;exact Eq.trans rfl rfl)|simp only[puri]) only[wkf,a61_1,a61,g1,htd,k3,List.length_map,go_sem,seval,dis,vdr,A.kind,A.xs,optX,A.isN])
           try simp[trim,errM,zeroM]
         ·have hmp:manPut (mkM Q ac)=([],1):=by unfold manPut;rw[if_neg k1]
          rw[hmp] at g1;simp only at g1;have hd:decM s=none:=by
           cases hd:decM s with
           | none=>rfl
           | some m=>exact absurd (by rw[hdM m hd];exact(dec_some hd).1) k1
          rw[hZn hd];generalize mkM Q ac=MM at *;(simp(disch:=first|decide|omega|(intros;exact Eq.trans rfl rfl)|simp only[puri]) only[wkf,a61_1,a61,g1,htd,List.length_map,go_sem,seval,dis,vdr,A.kind,A.xs,optX,A.isN])
          try simp[trim,errM,zeroM]
        ·have hbi:a<b.length:=by omega
         have gb:b[a]?=some b[a]:=List.getElem?_eq_getElem hbi;have hu:u8a b (a)=((b[a].toNat:Nat):Int):=by unfold u8a;rw[gb];rfl
         have hul:=UInt8.toNat_lt b[a];have e1:sumA b a 0=sumA b a 1*256+u8a b (a):=by simp only[sumA];try omega
         have hsb2:=sumA_bd b a 0;have hei:((a:Int)+0).toNat=a:=by omega
         have hK':=hK 0 (by decide) (by omega)
         rw[e1] at hK' hsb2;rw[hu] at hK' hsb2;generalize b[a]=bx at *;generalize sumA b a 1=ac at *;clear e1 hu;(simp(disch:=first|decide|omega|(intros;exact Eq.trans rfl rfl)|simp only[puri]) only[wkf,a61_1,hei,gb,List.length_map,go_sem,seval,dis,vdr,A.kind,A.xs,optX,A.isN])
         exact hK' _ _ hdM
        ·have hbi:a+1<b.length:=by omega
         have gb:b[a+1]?=some b[a+1]:=List.getElem?_eq_getElem hbi;have hu:u8a b (a+1)=((b[a+1].toNat:Nat):Int):=by unfold u8a;rw[gb];rfl
         have hul:=UInt8.toNat_lt b[a+1];have e1:sumA b a 1=sumA b a 2*256+u8a b (a+1):=by simp only[sumA];try omega
         have hsb2:=sumA_bd b a 1;have hei:((a:Int)+1).toNat=a+1:=by omega
         have hK':=hK 1 (by decide) (by omega)
         rw[e1] at hK' hsb2;rw[hu] at hK' hsb2;generalize b[a+1]=bx at *;generalize sumA b a 2=ac at *;clear e1 hu;(simp(disch:=first|decide|omega|(intros;exact Eq.trans rfl rfl)|simp only[puri]) only[wkf,a61_1,hei,gb,List.length_map,go_sem,seval,dis,vdr,A.kind,A.xs,optX,A.isN])
         exact hK' _ _ hdM
        ·have hbi:a+2<b.length:=by omega
         have gb:b[a+2]?=some b[a+2]:=List.getElem?_eq_getElem hbi;have hu:u8a b (a+2)=((b[a+2].toNat:Nat):Int):=by unfold u8a;rw[gb];rfl
         have hul:=UInt8.toNat_lt b[a+2];have e1:sumA b a 2=sumA b a 3*256+u8a b (a+2):=by simp only[sumA];try omega
         have hsb2:=sumA_bd b a 2;have hei:((a:Int)+2).toNat=a+2:=by omega
         have hK':=hK 2 (by decide) (by omega)
         rw[e1] at hK' hsb2;rw[hu] at hK' hsb2;generalize b[a+2]=bx at *;generalize sumA b a 3=ac at *;clear e1 hu;(simp(disch:=first|decide|omega|(intros;exact Eq.trans rfl rfl)|simp only[puri]) only[wkf,a61_1,hei,gb,List.length_map,go_sem,seval,dis,vdr,A.kind,A.xs,optX,A.isN])
         exact hK' _ _ hdM
        ·have hbi:a+3<b.length:=by omega
         have gb:b[a+3]?=some b[a+3]:=List.getElem?_eq_getElem hbi;have hu:u8a b (a+3)=((b[a+3].toNat:Nat):Int):=by unfold u8a;rw[gb];rfl
         have hul:=UInt8.toNat_lt b[a+3];have e1:sumA b a 3=sumA b a 4*256+u8a b (a+3):=by simp only[sumA];try omega
         have hsb2:=sumA_bd b a 3;have hei:((a:Int)+3).toNat=a+3:=by omega
         have hK':=hK 3 (by decide) (by omega)
         rw[e1] at hK' hsb2;rw[hu] at hK' hsb2;generalize b[a+3]=bx at *;generalize sumA b a 4=ac at *;clear e1 hu;(simp(disch:=first|decide|omega|(intros;exact Eq.trans rfl rfl)|simp only[puri]) only[wkf,a61_1,hei,gb,List.length_map,go_sem,seval,dis,vdr,A.kind,A.xs,optX,A.isN])
         exact hK' _ _ hdM
       ·have hno:decM s=none:=by
         cases hd:decM s with
         | none=>rfl
         | some m =>
          exfalso;obtain⟨p1,p2⟩:=hT m hd;have:=hdb m hd;rw[this,manBody_N,List.length_append,four_len,p2] at t3;omega
        rw[hZn hno];(simp(disch:=first|decide|omega|(intros;exact Eq.trans rfl rfl)|simp only[puri]) only[wkf,a61_0,a61,q1,c1,c2,hml,c6,eq_true c7,g1,decide_eq_false t3,go_sem,seval,dis,vdr,A.kind,A.xs,optX,A.isN])
        try simp[trim,errM,zeroM]
      ·rw[hZn hno];by_cases hwr:W+3<9223372036854775808
       ·(simp(disch:=first|decide|omega|(intros;exact Eq.trans rfl rfl)|simp only[puri]) only[wkf,a61_0,a61,q1,c1,c2,c6,t2,g1,hml,go_sem,seval,dis,vdr,A.kind,A.xs,optX,A.isN])
        try simp[trim,errM,zeroM]
       ·obtain⟨W3,hW3,hW4⟩:∃ W3:Int,IntKind.i64.wrap (W+3)=W3∧W3<0:=by
         refine⟨_,rfl,?_⟩;rw[IntWalk.i64_left];unfold RowKit.wrap64;omega
        have c5':¬ (Q.length:Int)=W3:=by omega
        (simp(disch:=first|decide|omega|(intros;exact Eq.trans rfl rfl)|simp only[puri]) only[wkf,a61_0,a61,q1,c1,c2,c6,hW3,c5',g1,hml,go_sem,seval,dis,vdr,A.kind,A.xs,optX,A.isN])
        try simp[trim,errM,zeroM]
   ·have hno:decM s=none:=by
     cases hd:decM s with
     | none=>rfl
     | some m =>
      exfalso;obtain⟨p1,p2,p3⟩:=h4 m hd;have:=manB_t (dec_some hd).1;rw[manN_len] at p1;omega
    obtain⟨Q,hQ⟩:∃ Q,Q=L1:=⟨_,rfl⟩;obtain⟨a,ha⟩:∃ a,a=a1:=⟨_,rfl⟩;rw[<- hQ] at h1 h3 hml ⊢;rw[<- ha] at h2 ⊢;rw[<- hQ] at c2;rw[<- ha] at c1;have hT:∀ m,decM s=some m->Q=manN m∧a=(numsE (manN m)).length:=fun m h=>by rw[hno] at h;cases h
    have hQb:Q.length<=101:=by omega
    have hab:a<=b.length:=h2;have hbd:=h3;clear hR h4;by_cases t1:Q.length<3
    ·exfalso;omega
    ·have c6:¬ (Q.length:Int)<3:=by omega
     have g1:(Q.map eI)[1]?=some [.i .i64 (Q.getD 1 0)]:=by rw[eI_get Q 1 (by omega),List.getD_eq_getElem?_getD,List.getElem?_eq_getElem (by omega)];rfl
     have hgd:=hbd _ (List.getElem_mem (show 1<Q.length by omega))
     have hgd2:Q.getD 1 0=Q[1]:=by rw[List.getD_eq_getElem?_getD,List.getElem?_eq_getElem (by omega)];rfl
     obtain⟨W,hW⟩:∃ W,W=Q.getD 1 0:=⟨_,rfl⟩;rw[<- hW] at g1 hgd2;by_cases t2:(Q.length:Int)=W+3
     ·have c3:3<=Q.length∧(Q.length:Int)=W+3:=⟨by omega,t2⟩
      have hgd3:0<=W∧W<=1000:=by omega
      have c6:¬ (Q.length:Int)<3:=by omega
      have c7:(Q.length:Int)=W+3:=by omega
      by_cases t3:(b.length:Int)-(a:Int)=4
      ·have g0:(Q.map eI)[0]?=some [.i .i64 (Q.headD 0)]:=by rw[eI_get Q 0 (by omega)];cases Q with|nil=>simp at c3|cons x r=>rfl
       have hQl:Q.length-1<Q.length:=by omega
       have gz:(Q.map eI)[Q.length-1]?=some [.i .i64 (Q.getLastD 0)]:=by
        rw[eI_get Q _ hQl];rw[List.getLastD_eq_getLast?,List.getLast?_eq_getElem?,List.getElem?_eq_getElem hQl];rfl
       have ek:((Q.length:Int)-1).toNat=Q.length-1:=by omega
       have htd:List.take (Q.length-1-2) (List.drop 2 (Q.map eI))=((Q.drop 2).take (Q.length-1-2)).map eI:=by rw[List.map_take,List.map_drop]
       obtain⟨qh,hqh⟩:∃ qh,qh=Q.headD 0:=⟨_,rfl⟩;obtain⟨ql,hql⟩:∃ ql,ql=Q.getLastD 0:=⟨_,rfl⟩;rw[<- hqh] at g0;rw[<- hql] at gz;have ek2:Q.length-1-2=Q.length-3:=by omega
       (simp(disch:=first|decide|omega|(intros;exact Eq.trans rfl rfl)|simp only[puri]) only[wkf,a61_0,a61,c1,c2,hml,c6,eq_true c7,g1,decide_eq_true t3,g0,gz,ek,go_sem,seval,dis,vdr,A.kind,A.xs,optX,A.isN])
       refine loop_boxM (m:=0) (σ:=Nat) (fun j=>j) (fun j=>j<=4) (fun j=>[vs s,V.one (.p 0 0),vs b,vi a,V.one (.p 1 0),vi ((j:Int)-1)])
        (fun j=>[.cells [.d (.i .i64 0),.ns,.d (.i .i64 0),.d (.i .u32 0)],.cells [.d (.i .i64 qh),.sl 2 1 2 (Q.length-1-2),.d (.i .i64 ql),.d (.i .u32 (sumA b a j))],.arr 1 (Q.map eI) 0]) (fun _=>(Z,[])) ?_ 4 (Nat.le_refl _) _ _ hdM
       clear g1 g0 gz;intro j hj K hK;have hsb:=sumA_bd b a j;rcases(by omega:j=0∨j=1∨j=2∨j=3∨j=4) with rfl|rfl|rfl|rfl|rfl
       ·obtain⟨ac,hac⟩:∃ ac,ac=sumA b a 0:=⟨_,rfl⟩;rw[<- hac] at hsb ⊢;have hMe:(mkM Q ac).l=[.d (.i .i64 qh),.d (.l (((Q.drop 2).take (Q.length-1-2)).map eI)),.d (.i .i64 ql),.d (.i .u32 ac)]:=by rw[hqh,hql];rfl
        have hMo:(mkM Q ac).ok:=⟨by simp[mkM];omega,hsb⟩
        have g1:=rmanPut_spec (mkM Q ac) hMo;rw[hMe] at g1;have hdM:∀ m,decM s=some m->mkM Q ac=m:=fun m h=>by
         obtain⟨p1,p2⟩:=hT m h;rw[hac,p2,hdb m h,sumA_man (dec_some h).1 (hok m h),p1,mk_man]
        have hmx:max 0 (2+(Q.length-1-2))<=Q.length:=by omega
        have hle:2+(Q.length-1-2)<=Q.length:=by omega
        by_cases k1:manB (mkM Q ac)=true
        ·have hmp:manPut (mkM Q ac)=(manText (mkM Q ac),0):=by unfold manPut;rw[if_pos k1]
         rw[hmp] at g1;simp only at g1;by_cases k2:manText (mkM Q ac)=s
         ·have hd:decM s=some (mkM Q ac):=by
           have:=dec_text k1 hMo;rw[k2] at this;exact this
          rw[hZs _ hd];have k3:(manText (mkM Q ac) == s)=true:=by simpa using k2
          unfold manV4;rw[hMe];rw[k2] at g1;generalize mkM Q ac=MM at *;(simp(disch:=first|decide|omega|(intros;exact Eq.trans rfl rfl)|simp only[puri]) only[wkf,a61_1,a61,g1,htd,List.length_map,go_sem,seval,dis,vdr,A.kind,A.xs,optX,A.isN])
          try simp[trim]
         ·have hd:decM s=none:=by
           cases hd:decM s with
           | none=>rfl
           | some m=>exact absurd (by rw[hdM m hd];exact(dec_some hd).2) k2
          rw[hZn hd];have k3:(manText (mkM Q ac) == s)=false:=by simpa using k2
          generalize manText (mkM Q ac)=TT at *;generalize mkM Q ac=MM at *;(simp(disch:=first|decide|omega|(intros;exact Eq.trans rfl rfl)|simp only[puri]) only[wkf,a61_1,a61,g1,htd,k3,List.length_map,go_sem,seval,dis,vdr,A.kind,A.xs,optX,A.isN])
          try simp[trim,errM,zeroM]
        ·have hmp:manPut (mkM Q ac)=([],1):=by unfold manPut;rw[if_neg k1]
         rw[hmp] at g1;simp only at g1;have hd:decM s=none:=by
          cases hd:decM s with
          | none=>rfl
          | some m=>exact absurd (by rw[hdM m hd];exact(dec_some hd).1) k1
         rw[hZn hd];generalize mkM Q ac=MM at *;(simp(disch:=first|decide|omega|(intros;exact Eq.trans rfl rfl)|simp only[puri]) only[wkf,a61_1,a61,g1,htd,List.length_map,go_sem,seval,dis,vdr,A.kind,A.xs,optX,A.isN])
         try simp[trim,errM,zeroM]
       ·have hbi:a<b.length:=by omega
        have gb:b[a]?=some b[a]:=List.getElem?_eq_getElem hbi;have hu:u8a b (a)=((b[a].toNat:Nat):Int):=by unfold u8a;rw[gb];rfl
        have hul:=UInt8.toNat_lt b[a];have e1:sumA b a 0=sumA b a 1*256+u8a b (a):=by simp only[sumA];try omega
        have hsb2:=sumA_bd b a 0;have hei:((a:Int)+0).toNat=a:=by omega
        have hK':=hK 0 (by decide) (by omega)
        rw[e1] at hK' hsb2;rw[hu] at hK' hsb2;generalize b[a]=bx at *;generalize sumA b a 1=ac at *;clear e1 hu;(simp(disch:=first|decide|omega|(intros;exact Eq.trans rfl rfl)|simp only[puri]) only[wkf,a61_1,hei,gb,List.length_map,go_sem,seval,dis,vdr,A.kind,A.xs,optX,A.isN])
        exact hK' _ _ hdM
       ·have hbi:a+1<b.length:=by omega
        have gb:b[a+1]?=some b[a+1]:=List.getElem?_eq_getElem hbi;have hu:u8a b (a+1)=((b[a+1].toNat:Nat):Int):=by unfold u8a;rw[gb];rfl
        have hul:=UInt8.toNat_lt b[a+1];have e1:sumA b a 1=sumA b a 2*256+u8a b (a+1):=by simp only[sumA];try omega
        have hsb2:=sumA_bd b a 1;have hei:((a:Int)+1).toNat=a+1:=by omega
        have hK':=hK 1 (by decide) (by omega)
        rw[e1] at hK' hsb2;rw[hu] at hK' hsb2;generalize b[a+1]=bx at *;generalize sumA b a 2=ac at *;clear e1 hu;(simp(disch:=first|decide|omega|(intros;exact Eq.trans rfl rfl)|simp only[puri]) only[wkf,a61_1,hei,gb,List.length_map,go_sem,seval,dis,vdr,A.kind,A.xs,optX,A.isN])
        exact hK' _ _ hdM
       ·have hbi:a+2<b.length:=by omega
        have gb:b[a+2]?=some b[a+2]:=List.getElem?_eq_getElem hbi;have hu:u8a b (a+2)=((b[a+2].toNat:Nat):Int):=by unfold u8a;rw[gb];rfl
        have hul:=UInt8.toNat_lt b[a+2];have e1:sumA b a 2=sumA b a 3*256+u8a b (a+2):=by simp only[sumA];try omega
        have hsb2:=sumA_bd b a 2;have hei:((a:Int)+2).toNat=a+2:=by omega
        have hK':=hK 2 (by decide) (by omega)
        rw[e1] at hK' hsb2;rw[hu] at hK' hsb2;generalize b[a+2]=bx at *;generalize sumA b a 3=ac at *;clear e1 hu;(simp(disch:=first|decide|omega|(intros;exact Eq.trans rfl rfl)|simp only[puri]) only[wkf,a61_1,hei,gb,List.length_map,go_sem,seval,dis,vdr,A.kind,A.xs,optX,A.isN])
        exact hK' _ _ hdM
       ·have hbi:a+3<b.length:=by omega
        have gb:b[a+3]?=some b[a+3]:=List.getElem?_eq_getElem hbi;have hu:u8a b (a+3)=((b[a+3].toNat:Nat):Int):=by unfold u8a;rw[gb];rfl
        have hul:=UInt8.toNat_lt b[a+3];have e1:sumA b a 3=sumA b a 4*256+u8a b (a+3):=by simp only[sumA];try omega
        have hsb2:=sumA_bd b a 3;have hei:((a:Int)+3).toNat=a+3:=by omega
        have hK':=hK 3 (by decide) (by omega)
        rw[e1] at hK' hsb2;rw[hu] at hK' hsb2;generalize b[a+3]=bx at *;generalize sumA b a 4=ac at *;clear e1 hu;(simp(disch:=first|decide|omega|(intros;exact Eq.trans rfl rfl)|simp only[puri]) only[wkf,a61_1,hei,gb,List.length_map,go_sem,seval,dis,vdr,A.kind,A.xs,optX,A.isN])
        exact hK' _ _ hdM
      ·have hno:decM s=none:=by
        cases hd:decM s with
        | none=>rfl
        | some m =>
         exfalso;obtain⟨p1,p2⟩:=hT m hd;have:=hdb m hd;rw[this,manBody_N,List.length_append,four_len,p2] at t3;omega
       rw[hZn hno];(simp(disch:=first|decide|omega|(intros;exact Eq.trans rfl rfl)|simp only[puri]) only[wkf,a61_0,a61,c1,c2,hml,c6,eq_true c7,g1,decide_eq_false t3,go_sem,seval,dis,vdr,A.kind,A.xs,optX,A.isN])
       try simp[trim,errM,zeroM]
     ·rw[hZn hno];by_cases hwr:W+3<9223372036854775808
      ·(simp(disch:=first|decide|omega|(intros;exact Eq.trans rfl rfl)|simp only[puri]) only[wkf,a61_0,a61,c1,c2,c6,t2,g1,hml,go_sem,seval,dis,vdr,A.kind,A.xs,optX,A.isN])
       try simp[trim,errM,zeroM]
      ·obtain⟨W3,hW3,hW4⟩:∃ W3:Int,IntKind.i64.wrap (W+3)=W3∧W3<0:=by
        refine⟨_,rfl,?_⟩;rw[IntWalk.i64_left];unfold RowKit.wrap64;omega
       have c5':¬ (Q.length:Int)=W3:=by omega
       (simp(disch:=first|decide|omega|(intros;exact Eq.trans rfl rfl)|simp only[puri]) only[wkf,a61_0,a61,c1,c2,c6,hW3,c5',g1,hml,go_sem,seval,dis,vdr,A.kind,A.xs,optX,A.isN])
       try simp[trim,errM,zeroM]
  ·have hno:decM s=none:=by
    cases hd:decM s with
    | none=>rfl
    | some m =>
     exfalso;obtain⟨p1,p2,p3⟩:=h4 m hd;have:=man_lt (m:=m) L1.length (by omega)
     rw[<- p3,<- hdb m hd] at this;omega
   obtain⟨Q,hQ⟩:∃ Q,Q=L1:=⟨_,rfl⟩;obtain⟨a,ha⟩:∃ a,a=a1:=⟨_,rfl⟩;rw[<- hQ] at h1 h3 hml ⊢;rw[<- ha] at h2 ⊢;rw[<- ha] at c1;have hT:∀ m,decM s=some m->Q=manN m∧a=(numsE (manN m)).length:=fun m h=>by rw[hno] at h;cases h
   have hQb:Q.length<=101:=by omega
   have hab:a<=b.length:=h2;have hbd:=h3;clear hR h4;by_cases t1:Q.length<3
   ·have t1':(Q.length:Int)<3:=by omega
    rw[hZn hno];(simp(disch:=first|decide|omega|(intros;exact Eq.trans rfl rfl)|simp only[puri]) only[wkf,a61_0,a61,c1,t1',hml,go_sem,seval,dis,vdr,A.kind,A.xs,optX,A.isN])
    try simp[trim,errM,zeroM]
   ·have c6:¬ (Q.length:Int)<3:=by omega
    have g1:(Q.map eI)[1]?=some [.i .i64 (Q.getD 1 0)]:=by rw[eI_get Q 1 (by omega),List.getD_eq_getElem?_getD,List.getElem?_eq_getElem (by omega)];rfl
    have hgd:=hbd _ (List.getElem_mem (show 1<Q.length by omega))
    have hgd2:Q.getD 1 0=Q[1]:=by rw[List.getD_eq_getElem?_getD,List.getElem?_eq_getElem (by omega)];rfl
    obtain⟨W,hW⟩:∃ W,W=Q.getD 1 0:=⟨_,rfl⟩;rw[<- hW] at g1 hgd2;by_cases t2:(Q.length:Int)=W+3
    ·have c3:3<=Q.length∧(Q.length:Int)=W+3:=⟨by omega,t2⟩
     have hgd3:0<=W∧W<=1000:=by omega
     have c6:¬ (Q.length:Int)<3:=by omega
     have c7:(Q.length:Int)=W+3:=by omega
     by_cases t3:(b.length:Int)-(a:Int)=4
     ·exfalso;omega
     ·have hno:decM s=none:=by
       cases hd:decM s with
       | none=>rfl
       | some m =>
        exfalso;obtain⟨p1,p2⟩:=hT m hd;have:=hdb m hd;rw[this,manBody_N,List.length_append,four_len,p2] at t3;omega
      rw[hZn hno];(simp(disch:=first|decide|omega|(intros;exact Eq.trans rfl rfl)|simp only[puri]) only[wkf,a61_0,a61,c1,hml,c6,eq_true c7,g1,decide_eq_false t3,go_sem,seval,dis,vdr,A.kind,A.xs,optX,A.isN])
      try simp[trim,errM,zeroM]
    ·rw[hZn hno];by_cases hwr:W+3<9223372036854775808
     ·(simp(disch:=first|decide|omega|(intros;exact Eq.trans rfl rfl)|simp only[puri]) only[wkf,a61_0,a61,c1,c6,t2,g1,hml,go_sem,seval,dis,vdr,A.kind,A.xs,optX,A.isN])
      try simp[trim,errM,zeroM]
     ·obtain⟨W3,hW3,hW4⟩:∃ W3:Int,IntKind.i64.wrap (W+3)=W3∧W3<0:=by
       refine⟨_,rfl,?_⟩;rw[IntWalk.i64_left];unfold RowKit.wrap64;omega
      have c5':¬ (Q.length:Int)=W3:=by omega
      (simp(disch:=first|decide|omega|(intros;exact Eq.trans rfl rfl)|simp only[puri]) only[wkf,a61_0,a61,c1,c6,hW3,c5',g1,hml,go_sem,seval,dis,vdr,A.kind,A.xs,optX,A.isN])
      try simp[trim,errM,zeroM]
 ·refine⟨errM e,?_,fun m h=>absurd (by have:=hdm m h;cases this;rfl) he,fun _=>⟨e,he,rfl⟩⟩
  apply enterS s61 rfl;(simp(disch:=first|decide|omega|(intros;exact Eq.trans rfl rfl)|simp only[puri]) only[wkf,a61,q0,he,go_sem,seval,dis])
  try simp[trim,errM,zeroM]
theorem same05_rfl (l:List Pr) (hl:l.length<=1000000):call 14 [vl (l.map Pr.enc),vl (l.map Pr.enc)] []=some (vb true,[]):=by
 apply enterS s14 rfl;(simp(disch:=first|decide|omega|(intros;exact Eq.trans rfl rfl)|simp only[puri]) only[a14,go_sem,seval,dis])
 refine loop_boxM (m:=0) (σ:=Nat) (fun i=>l.length-i) (fun i=>i<=l.length) (fun i=>[vl (l.map Pr.enc),vl (l.map Pr.enc),vi i]) (fun _=>[])
  (fun _=>(vb true,[])) ?_ 0 (Nat.zero_le _) _ _ hdM
 intro i h1 R hR;by_cases hi:i<l.length
 ·have g1:(l.map Pr.enc)[i]?=some l[i].enc:=by rw[List.getElem?_map,List.getElem?_eq_getElem hi];rfl
  have hR':=hR (i+1) (by omega) (by omega)
  generalize l[i]=p at *;have he:=Pr.eqs p p;(simp(disch:=first|decide|omega|(intros;exact Eq.trans rfl rfl)|simp only[puri]) only[a14_0,g1,Pr.len,Pr.tkL,Pr.tk,he,go_sem,seval,dis])
  exact hR' _ _ hdM
 ·(simp(disch:=first|decide|omega|(intros;exact Eq.trans rfl rfl)|simp only[puri]) only[a14_0,a14,go_sem,seval,dis])
  try simp[trim]
def eT (n:Txt):List D:=[.s n]
def namesF (l:List Fil):List Txt:=l.map Fil.name
theorem names_spec (d:Dsk) (hl:d.files.length<=1000000):call 101 [.agg d.l] []=some (vl ((namesF d.files).map eT),[]):=by
 have hZ:∃ Z,Z=vl ((namesF d.files).map eT):=⟨_,rfl⟩;obtain⟨Z,hZ⟩:=hZ;rw[<- hZ];obtain⟨fl,cp,ar,lf,dn⟩:=d;simp only[Dsk.l] at hl hZ ⊢;apply enterS s101 rfl;(simp(disch:=first|decide|omega|(intros;exact Eq.trans rfl rfl)|simp only[puri]) only[wkf,a101,go_sem,seval,dis])
 refine loop_boxM (m:=0) (σ:=Nat) (fun i=>fl.length-i) (fun i=>i<=fl.length) (fun i=>[V.one (.p 0 0),V.one (.sl 1 1 0 (fl.take i).length),vi i])
  (fun i=>[.cells [.d (.l (fl.map Fil.enc)),.d (.i .i64 cp),.d (.b ar),.d (.i .i64 lf),.d (.b dn)],.arr 1 ((namesF (fl.take i)).map eT) 0]) (fun _=>(Z,[])) ?_ 0 (Nat.zero_le _) _ _ hdM
 intro i h1 R hR;by_cases hi:i<fl.length
 ·have hc:(i:Int)<(fl.length:Int):=by omega
  have g1:(fl.map Fil.enc)[i]?=some fl[i].enc:=by rw[List.getElem?_map,List.getElem?_eq_getElem hi];rfl
  have hR':=hR (i+1) (by omega) (by omega)
  rw[List.take_succ_eq_append_getElem hi] at hR';have hlen:((namesF (fl.take i)).map eT).length=(fl.take i).length:=by simp[namesF]
  have hl2:(fl.take i).length<=1000000:=by simp;omega
  have e2:(namesF (fl.take i++[fl[i]])).map eT=(namesF (fl.take i)).map eT++[[.s fl[i].name]]:=by unfold namesF;rw[List.map_append,List.map_append];rfl
  have e3:(fl.take i++[fl[i]]).length=(fl.take i).length+1:=by rw[List.length_append];rfl
  rw[e2,e3] at hR';generalize (fl.take i).length=n at *;generalize (namesF (fl.take i)).map eT=Q at *;generalize fl[i]=f at *;obtain⟨a,b,c⟩:=f;simp only[Fil.enc] at g1;(simp(disch:=first|decide|omega|(intros;exact Eq.trans rfl rfl)|simp only[puri]) only[wkf,a101_0,decide_eq_true hc,g1,hlen,go_sem,seval,dis])
  exact hR' _ _ hdM
 ·have hc:¬ (i:Int)<(fl.length:Int):=by omega
  have ht:fl.take i=fl:=List.take_of_length_le (by omega)
  rw[ht];have htk:List.take fl.length ((namesF fl).map eT)=(namesF fl).map eT:=List.take_of_length_le (by simp[namesF])
  have hln:((namesF fl).map eT).length=fl.length:=by simp[namesF]
  rw[hZ];(simp(disch:=first|decide|omega|(intros;exact Eq.trans rfl rfl)|simp only[puri]) only[wkf,a101_0,a101,decide_eq_false hc,htk,hln,go_sem,seval,dis])
  try simp[trim]
def keepF (use:List Txt) (n:Txt):Bool:=use.any fun u=>decide (u=n)
def sweepG (use l:List Txt) (s:Dsk × Int):Dsk × Int:=goP (l.filter fun n => !keepF use n) s
theorem sweepG_cons (use l:List Txt) (n:Txt) (s:Dsk × Int):sweepG use (n::l) s=if keepF use n=true then sweepG use l s else sweepG use l (delS n s):=by
 unfold sweepG;by_cases c:keepF use n=true
 ·rw[if_pos c,List.filter_cons_of_neg (by simp[c])]
 ·rw[if_neg c,List.filter_cons_of_pos (by simpa using c),goP_cons]
def sweepT (use:List Txt) (d:Dsk):Dsk × Int:=sweepG use (namesF d.files) (d,0)
set_option maxRecDepth 8000 in
set_option maxHeartbeats 4000000 in
theorem rsweep_spec {k u:Nat} (d:Dsk) (hd:okN k u d) (hk:k<=900000) (hu:u<=900000000000) (use:List Txt) (hul:use.length<=1000000):call 63 [.agg d.l,vl (use.map eT)] []=some (dskV (sweepT use d),[]):=by
 have q1:=names_spec d (Nat.le_trans hd.len (by omega))
 have hnl:(namesF d.files).length<=1000000:=by have:=hd.len;simp[namesF];omega
 obtain⟨Z,hZ⟩:∃ Z,Z=sweepT use d:=⟨_,rfl⟩;rw[<- hZ];unfold sweepT at hZ;obtain⟨⟨zfl,zcp,zar,zlf,zdn⟩,ze⟩:=Z;generalize namesF d.files=NL at *;simp only[dskV,Dsk.l] at q1 ⊢;apply enterS s63 rfl;obtain⟨dfl,dcp,dar,dlf,ddn⟩:=d;(simp(disch:=first|decide|omega|(intros;exact Eq.trans rfl rfl)|simp only[puri]) only[wkf,a63,q1,go_sem,seval,dis])
 refine loop_boxM (m:=0) (σ:=Nat × Dsk) (fun t=>NL.length-t.1) (fun t=>t.1<=NL.length∧okN k u t.2∧sweepG use (NL.drop t.1) (t.2,0)=(⟨zfl,zcp,zar,zlf,zdn⟩,ze)) (fun t=>[vl (use.map eT),V.one (.p 0 0),V.one (.p 1 0),vl (NL.map eT),vi t.1])
  (fun t=>[.cells [.d (.l (t.2.files.map Fil.enc)),.d (.i .i64 t.2.cap),.d (.b t.2.armed),.d (.i .i64 t.2.left),.d (.b t.2.down)],.cells [.ns,.d (.i .i64 0),.d (.b false),.d (.i .i64 0),.d (.b false)]])
  (fun _=>(V.tup [(true,[.d (.l (zfl.map Fil.enc)),.d (.i .i64 zcp),.d (.b zar),.d (.i .i64 zlf),.d (.b zdn)]),(false,[.d (.i .i64 ze)])],[])) ?_ (0,⟨dfl,dcp,dar,dlf,ddn⟩) ⟨Nat.zero_le _,hd,hZ.symm⟩ _ _ hdM
 rintro⟨i,⟨fl,cp,ar,lf,dn⟩⟩ ⟨h1,h2,h3⟩ R hR;simp only at h1 h2 h3 ⊢;by_cases c:i<NL.length
 ·have hc:(i:Int)<(NL.length:Int):=by omega
  have hml:(NL.map eT).length=NL.length:=by simp
  have hul2:(use.map eT).length=use.length:=by simp
  rw[List.drop_eq_getElem_cons c,sweepG_cons] at h3;have g1:(NL.map eT)[i]?=some [.s NL[i]]:=by rw[List.getElem?_map,List.getElem?_eq_getElem c];rfl
  generalize NL[i]=n at *;have g2:=rdelete_spec ⟨fl,cp,ar,lf,dn⟩ (h2.ok (by omega) (by omega)) n
  have kk:=del_okN (s:=(⟨fl,cp,ar,lf,dn⟩,0)) h2 n;rw[show delS n (⟨fl,cp,ar,lf,dn⟩,0)=chgF ⟨fl,cp,ar,lf,dn⟩ (delR fl n) from stp_ye _ _] at kk h3
  simp only at g2;have hRy:=fun h=>hR (i+1,⟨fl,cp,ar,lf,dn⟩) (by simp only[];omega) ⟨by simp only[];omega,h2,h⟩
  have hRn:=fun h=>hR (i+1,(chgF ⟨fl,cp,ar,lf,dn⟩ (delR fl n)).1) (by simp only[];omega) ⟨by simp only[];omega,kk,h⟩
  generalize chgF ⟨fl,cp,ar,lf,dn⟩ (delR fl n)=q at *;obtain⟨⟨qfl,qcp,qar,qlf,qdn⟩,qe⟩:=q;simp only[dskV,Dsk.l] at g2 h3 hRy hRn;have hkf:keepF use n=(keepF (use.take 0) n || (use.drop 0).any fun u=>decide (u=n)):=by simp[keepF]
  (simp(disch:=first|decide|omega|(intros;exact Eq.trans rfl rfl)|simp only[puri]) only[wkf,a63_0,decide_eq_true hc,hml,go_sem,seval,dis])
  refine loop_boxM (m:=0) (σ:=Nat × Bool) (fun t=>use.length-t.1) (fun t=>t.1<=use.length∧keepF use n=(t.2 || (use.drop t.1).any fun u=>decide (u=n))) (fun t=>[vl (use.map eT),V.one (.p 0 0),V.one (.p 1 0),vl (NL.map eT),vi i,vb t.2,vi t.1])
   (fun _=>[.cells [.d (.l (fl.map Fil.enc)),.d (.i .i64 cp),.d (.b ar),.d (.i .i64 lf),.d (.b dn)],.cells [.ns,.d (.i .i64 0),.d (.b false),.d (.i .i64 0),.d (.b false)]])
   (fun _=>(V.tup [(true,[.d (.l (zfl.map Fil.enc)),.d (.i .i64 zcp),.d (.b zar),.d (.i .i64 zlf),.d (.b zdn)]),(false,[.d (.i .i64 ze)])],[])) ?_ (0,false) ⟨Nat.zero_le _,by simp[keepF]⟩ _ _ hdM
  clear hR hkf;rintro⟨j,kp⟩ ⟨j1,j2⟩ K hK;simp only at j1 j2 ⊢;by_cases cj:j<use.length
  ·have hcj:(j:Int)<(use.length:Int):=by omega
   have g3:(use.map eT)[j]?=some [.s use[j]]:=by rw[List.getElem?_map,List.getElem?_eq_getElem cj];rfl
   rw[List.drop_eq_getElem_cons cj,List.any_cons] at j2;generalize use[j]=w at *;cases kp with
   | true =>
    have hK':=hK (j+1,true) (by simp only[];omega) ⟨by simp only[];omega,by simpa using j2⟩
    (simp(disch:=first|decide|omega|(intros;exact Eq.trans rfl rfl)|simp only[puri]) only[wkf,a63_1,decide_eq_true hcj,hul2,go_sem,seval,dis,vdr,A.kind,A.xs,optX,A.isN])
    exact hK' _ _ hdM
   | false =>
    by_cases cw:w=n
    ·have hK':=hK (j+1,true) (by simp only[];omega) ⟨by simp only[];omega,by simpa[cw] using j2⟩
     have cwb:(w == n)=true:=by simpa using cw
     (simp(disch:=first|decide|omega|(intros;exact Eq.trans rfl rfl)|simp only[puri]) only[wkf,a63_1,decide_eq_true hcj,hul2,g3,g1,cwb,go_sem,seval,dis,vdr,A.kind,A.xs,optX,A.isN])
     exact hK' _ _ hdM
    ·have hK':=hK (j+1,false) (by simp only[];omega) ⟨by simp only[];omega,by simpa[cw] using j2⟩
     have cwb:(w == n)=false:=by simpa using cw
     (simp(disch:=first|decide|omega|(intros;exact Eq.trans rfl rfl)|simp only[puri]) only[wkf,a63_1,decide_eq_true hcj,hul2,g3,g1,cwb,go_sem,seval,dis,vdr,A.kind,A.xs,optX,A.isN])
     exact hK' _ _ hdM
  ·have hcj:¬ (j:Int)<(use.length:Int):=by omega
   rw[List.drop_eq_nil_of_le (by omega),List.any_nil,Bool.or_false] at j2
   cases kp with
   | true =>
    rw[if_pos j2] at h3;(simp(disch:=first|decide|omega|(intros;exact Eq.trans rfl rfl)|simp only[puri]) only[wkf,a63_1,a63_0,decide_eq_false hcj,hul2,go_sem,seval,dis,vdr,A.kind,A.xs,optX,A.isN])
    exact hRy h3 _ _ hdM
   | false =>
    rw[if_neg (by rw[j2];simp)] at h3
    by_cases c2:qe=0
    ·subst c2;(simp(disch:=first|decide|omega|(intros;exact Eq.trans rfl rfl)|simp only[puri]) only[wkf,a63_1,a63_0,decide_eq_false hcj,hul2,g1,g2,go_sem,seval,dis,vdr,A.kind,A.xs,optX,A.isN])
     exact hRn h3 _ _ hdM
    ·have e:sweepG use (NL.drop (i+1)) (⟨qfl,qcp,qar,qlf,qdn⟩,qe)=(⟨qfl,qcp,qar,qlf,qdn⟩,qe):=goP_err _ _ c2;rw[e] at h3;cases h3;(simp(disch:=first|decide|omega|(intros;exact Eq.trans rfl rfl)|simp only[puri]) only[wkf,a63_1,a63_0,decide_eq_false hcj,hul2,g1,g2,c2,go_sem,seval,dis,vdr,A.kind,A.xs,optX,A.isN])
     try simp[trim,c2]
 ·have hc:¬ (i:Int)<(NL.length:Int):=by omega
  have hml:(NL.map eT).length=NL.length:=by simp
  rw[List.drop_eq_nil_of_le (by omega)] at h3
  cases h3;(simp(disch:=first|decide|omega|(intros;exact Eq.trans rfl rfl)|simp only[puri]) only[wkf,a63_0,a63,decide_eq_false hc,hml,go_sem,seval,dis])
  try simp[trim]
def cutR (l:List Fil) (n:Txt) (k:Int):List Fil × Int:=if hasF l n=true then(if k<0∨((readF l n).1.length:Nat)<k then([],6) else(updF l (posF l n) (fun f=>{ f with data:=f.data.take k.toNat,sure:=if k<f.sure then k else f.sure }),0)) else([],7)
theorem rcut_spec (d:Dsk) (hd:d.ok) (n:Txt) (k:Int):call 64 [.agg d.l,vs n,vi k] []=some (dskV (chgF d (cutR d.files n k)),[]):=by
 apply enterS s64 rfl;have h2:=rfind_spec d hd.len hd.srt n;have h4:=rchange_spec d hd.left [] 7;have h6:=rchange_spec d hd.left [] 6;unfold cutR;cases c2:hasF d.files n with
 | false =>
  rw[if_neg (by simp)]
  rw[findI_no c2] at h2;generalize chgF d ([],7)=r at *;obtain⟨⟨f2,cp2,ar2,lf2,dn2⟩,e2⟩:=r;obtain⟨fl,cp,ar,lf,dn⟩:=d;simp only[dskV,Dsk.l,List.map_nil] at h2 h4 ⊢;(simp(disch:=first|decide|omega|(intros;exact Eq.trans rfl rfl)|simp only[puri]) only[wkf,a64,h2,h4,go_sem,seval,dis])
  try simp[trim]
 | true =>
  rw[if_pos rfl];rw[findI_yes c2] at h2;obtain⟨hp,he⟩:=has_at c2;have g1:(d.files.map Fil.enc)[posF d.files n]?=some d.files[posF d.files n].enc:=by simp[hp]
  have hdl:=data_le d.files _ hp;have hus:=hd.used;have hrd:(readF d.files n).1=d.files[posF d.files n].data:=by
   unfold readF;rw[List.getElem?_eq_getElem hp];simp only[if_pos he]
  rw[hrd];have h3:=with_spec d.files hd.len hd.srt { d.files[posF d.files n] with data:=d.files[posF d.files n].data.take k.toNat,sure:=if k<d.files[posF d.files n].sure then k else d.files[posF d.files n].sure }
  have h5:=wiF_yes hd.srt { d.files[posF d.files n] with data:=d.files[posF d.files n].data.take k.toNat,sure:=if k<d.files[posF d.files n].sure then k else d.files[posF d.files n].sure } (by simp only[he];exact c2)
  rw[h5] at h3;simp only[he] at h3;have hK:=rchange_spec d hd.left (d.files.set (posF d.files n) { d.files[posF d.files n] with data:=d.files[posF d.files n].data.take k.toNat,sure:=if k<d.files[posF d.files n].sure then k else d.files[posF d.files n].sure }) 0
  have hpl:=hd.len;rw[upd_at hp];generalize posF d.files n=p at *;simp only[he] at hK ⊢;generalize d.files[p]=f at *;obtain⟨fn,fd,fs⟩:=f;simp only at he h3 hK hdl ⊢;subst he;by_cases c:k<0∨((fd.length:Nat):Int)<k
  ·rw[if_pos c];generalize chgF d ([],6)=r at *;obtain⟨⟨f2,cp2,ar2,lf2,dn2⟩,e2⟩:=r;obtain⟨fl,cp,ar,lf,dn⟩:=d;simp only[dskV,Dsk.l,List.map_nil,Fil.enc] at h2 h6 g1 hp hpl ⊢;rcases c with c|c
   ·(simp(disch:=first|decide|omega|(intros;exact Eq.trans rfl rfl)|simp only[puri]) only[wkf,a64,h2,g1,decide_eq_true c,h6,go_sem,seval,dis])
    try simp[trim]
   ·have c0:¬ k<0:=by omega
    (simp(disch:=first|decide|omega|(intros;exact Eq.trans rfl rfl)|simp only[puri]) only[wkf,a64,h2,g1,decide_eq_false c0,decide_eq_true c,h6,go_sem,seval,dis])
    try simp[trim]
  ·rw[if_neg c];simp only[not_or] at c;have c0:0<=k:=by omega
   have c1:k<=(fd.length:Int):=by omega
   have hkt:k.toNat<=fd.length:=by omega
   obtain⟨fx,hfx⟩:∃ fx,fd.take k.toNat=fx:=⟨_,rfl⟩;obtain⟨fm_,hfm⟩:∃ fm_:Int,(if k<fs then k else fs)=fm_:=⟨_,rfl⟩
   rw[hfx,hfm] at h3 hK ⊢;generalize d.files.set p ⟨fn,fx,fm_⟩=q at *;generalize chgF d (q,0)=r at *;obtain⟨⟨f2,cp2,ar2,lf2,dn2⟩,e2⟩:=r;obtain⟨fl,cp,ar,lf,dn⟩:=d;have c1':¬ (fd.length:Int)<k:=by omega
   have c0':¬ k<0:=by omega
   simp only[dskV,Dsk.l,Fil.enc,List.map_cons,List.map_nil] at h2 h3 hK g1 hp hpl ⊢;(simp(disch:=first|decide|omega|(intros;exact Eq.trans rfl rfl)|simp only[puri]) only[wkf,a64,h2,g1,decide_eq_false c0',decide_eq_false c1',hfx,hfm,h3,hK,go_sem,seval,dis])
   try simp[trim]
end Go.Proofs.YthlnpioogbmogaaGreat
