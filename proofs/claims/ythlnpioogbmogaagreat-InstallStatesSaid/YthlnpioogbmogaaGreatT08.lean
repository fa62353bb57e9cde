import Derived.Test.YthlnpioogbmogaaGreatT07
set_option linter.unusedSimpArgs false
set_option linter.unusedVariables false
namespace Go.Proofs.YthlnpioogbmogaaGreat
open Go.Vi
variable {k u:Nat} {f:Int} {S:Txt} {l0:List Pr} {s:Sto} {M:List SR} {g:Seg} {l:List Rec}
theorem back_out (G:FM):∀ (l:List Txt) (d:Dsk),srt d.files→l.Nodup→d.down=false→(∀ n∈l,fm d.files n≠none)→Out d (backT l d) l G (some (rmv l (fm d.files)))
 | [],d,hs,_,hd,_=>⟨Dk.refl d,hs,.inr (.inl ⟨_,rfl,rfl,hd,by funext k; simp [rmv,backT]⟩)⟩
 | n::l,d,hs,hn,hd,h=>by
  have hn:=List.nodup_cons.1 hn
  obtain ⟨v,hv⟩:=Option.ne_none_iff_exists'.1 (h n (by simp))
  have h1:=del_out hs hv
  have e2:backT (n::l) d=if (chgF d (delR d.files n)).2=0 then backT l (chgF d (delR d.files n)).1 else chgF d (delR d.files n):=by
   rw [backT]
   by_cases c:(chgF d (delR d.files n)).2=0
   ·rw [if_neg (by simp [c]),if_pos c]
   ·rw [if_pos c,if_neg c]
  rw [e2]
  refine Out.seq h1 (X2:=l) (g2:=some (rmv (n::l) (fm d.files))) ?_ ?_ (by simp) (fun k hk=>by simp [hk]) (by simp) (by simp)
  ·intro h0 hd1 hf1 hs1
   have h2:=back_out G l (chgF d (delR d.files n)).1 hs1 hn.2 hd1 (fun k hk=>by
    rw [hf1,up_ne _ _ (fun e=>hn.1 (by rw [← e]; exact hk))]; exact h k (by simp [hk]))
   rw [hf1] at h2
   refine h2.eq rfl ?_
   congr 1
   funext k
   unfold rmv
   by_cases c:k=n
   ·simp [c,hn.1,up_at]
   ·by_cases c2:k∈l
    ·rw [if_pos c2,if_pos (List.mem_cons_of_mem _ c2)]
    ·rw [if_neg c2,if_neg (by simp [c,c2]),up_ne _ _ c]
  ·intro k hk
   exact up_ne _ _ (fun e=>hk (by simp [e]))
theorem Out.back {d:Dsk} {r:Dsk × Int} {X:List Txt} {G g:FM} (h:Out d r X G (some g)) (l:List Txt) (hl:l.Nodup) (hn:∀ n∈l,g n≠none) (hg:∀ k,k ∉ X→k ∉ l→g k=fm d.files k) (hX:∀ n∈l,n∈X):Out d (if r.2=9 then backT l r.1 else r) X G (some (rmv l g)):=by
 obtain ⟨k1,s1,o1⟩:=h
 rcases o1 with ⟨e,hd,hf⟩ | ⟨q,hq,e,hd,hf⟩ | ⟨e,hd,hf⟩
 ·rw [if_neg (by rw [e]; decide)]
  exact ⟨k1,s1,.inl ⟨e,hd,hf⟩⟩
 ·cases hq
  rw [if_pos e]
  have hb:=back_out G l r.1 s1 hl hd (by rw [hf]; exact hn)
  rw [hf] at hb
  refine ⟨k1.trans hb.1,hb.2.1,?_⟩
  rcases hb.2.2 with o | o | ⟨e2,hd2,hf2⟩
  ·exact .inl o
  ·exact .inr (.inl o)
  ·refine .inr (.inr ⟨e2,hd2,fun k hk=>?_⟩)
   have hkl:k ∉ l:=fun hm=>hk (hX k hm)
   rw [hf2 k hkl,hf]
   exact hg k hk hkl
 ·rw [if_neg (by rw [e]; decide)]
  exact ⟨k1,s1,.inr (.inr ⟨e,hd,hf⟩)⟩
theorem rmv1 (F:FM) (n:Txt):rmv [n] F=up F n none:=by
 funext k; unfold rmv up; simp
theorem rmv_four {F:FM} {a b:Txt} (v w:Option (Txt × Int)) (ha:F a=none) (hb:F b=none):rmv [b,a] (up (up F a v) b w)=F:=by
 funext k; unfold rmv up
 by_cases c1:k=b
 ·simp [c1,hb]
 ·by_cases c2:k=a
  ·simp [c2,ha]
  ·simp [c1,c2]
theorem u0_out {d:Dsk} (hs:srt d.files) {n g x:Txt} {m:Man} (hm:manB m=true) (hn:namedF n=true) (hg:namedF g=true) (hng:n≠g) (hn2:n≠[110]) (hg2:g≠[110]) (h1:d.down=false→fm d.files [110]=none) (h2:d.down=false→fm d.files n=none) (h3:d.down=false→fm d.files g=none) :
  Out d (u0 n g x m d).1 [n,g,[110]] (up (up (up (fm d.files) n (some (x,((x.length:Nat):Int)))) g (some ([],0))) [109] (manV m)) (some (fm d.files)):=by
 by_cases hd:d.down=true
 ·unfold u0
  rw [chg_down hd,if_pos (by simp)]
  exact .dn hs hd _ _ _
 ·have hd:d.down=false:=by simpa using hd
  have hF:=h2 hd
  have hG:=h3 hd
  have hN:=h1 hd
  have k4:∀ d4:Dsk,srt d4.files→d4.down=false→fm d4.files=up (up (fm d.files) n (some (x,((x.length:Nat):Int)))) g (some ([],0))→Out d4 (u4 n g m d4).1 [n,g,[110]] (up (up (up (fm d.files) n (some (x,((x.length:Nat):Int)))) g (some ([],0))) [109] (manV m)) (some (fm d.files)):=by
   intro d4 hs4 hd4 hf4
   have a1:=(swap_out hs4 hm (fun _=>by rw [hf4,up_ne _ _ hg2.symm,up_ne _ _ hn2.symm]; exact hN)).upX (Y:=[n,g,[110]]) (by simp)
   have a2:=a1.back [g,n] (by simp [hng.symm]) (by
    intro y hy
    simp only [List.mem_cons,List.mem_nil_iff,or_false] at hy
    rcases hy with rfl | rfl
    ·rw [hf4,up_at]; simp
    ·rw [hf4,up_ne _ _ hng,up_at]; simp) (fun _ _ _=>rfl) (by simp)
   have e:(u4 n g m d4).1=if (swapS m (d4,0)).2=9 then backT [g,n] (swapS m (d4,0)).1 else swapS m (d4,0):=by unfold u4; split <;> rfl
   rw [e]
   rw [hf4] at a2
   refine a2.eq rfl ?_
   rw [rmv_four _ _ hF hG]
  have k3:∀ d3:Dsk,srt d3.files→d3.down=false→fm d3.files=up (fm d.files) n (some (x,((x.length:Nat):Int)))→Out d3 (u3 n g m d3).1 [n,g,[110]] (up (up (up (fm d.files) n (some (x,((x.length:Nat):Int)))) g (some ([],0))) [109] (manV m)) (some (fm d.files)):=by
   intro d3 hs3 hd3 hf3
   have a1:=crt_out hs3 hg (by rw [hf3,up_ne _ _ hng.symm]; exact hG)
   have e:(u3 n g m d3).1=if (chgF d3 (crtR d3.files g)).2=0 then (u4 n g m (chgF d3 (crtR d3.files g)).1).1 else chgF d3 (crtR d3.files g):=by
    unfold u3
    by_cases c:(chgF d3 (crtR d3.files g)).2=0
    ·rw [if_neg (by simp [c]),if_pos c]
    ·rw [if_pos c,if_neg c]
   rw [e]
   refine Out.seq a1 (g2:=some (fm d.files)) (fun h0 hd4 hf4 hs4=>k4 _ hs4 hd4 (by rw [hf4,hf3])) (fun y hy=>?_) (by simp) (fun _ h=>h) (by simp) (by simp)
   exact up_ne _ _ (fun e=>hy (by simp [e]))
  have k2:∀ d2:Dsk,srt d2.files→d2.down=false→fm d2.files=up (fm d.files) n (some (x,0))→Out d2 (u2 n g m d2).1 [n,g,[110]] (up (up (up (fm d.files) n (some (x,((x.length:Nat):Int)))) g (some ([],0))) [109] (manV m)) (some (fm d.files)):=by
   intro d2 hs2 hd2 hf2
   have a1:=syn_out hs2 (n:=n) (v:=(x,0)) (by rw [hf2,up_at])
   rw [hf2,up_up] at a1
   have e:(u2 n g m d2).1=if (chgF d2 (synR d2.files n)).2=0 then (u3 n g m (chgF d2 (synR d2.files n)).1).1 else chgF d2 (synR d2.files n):=by
    unfold u2
    by_cases c:(chgF d2 (synR d2.files n)).2=0
    ·rw [if_neg (by simp [c]),if_pos c]
    ·rw [if_pos c,if_neg c]
   rw [e]
   refine Out.seq a1 (g2:=some (fm d.files)) (fun h0 hd4 hf4 hs4=>k3 _ hs4 hd4 hf4) (fun y hy=>?_) (by simp) (fun _ h=>h) (by simp) (by simp)
   rw [hf2,up_ne _ _ (fun e=>hy (by simp [e])),up_ne _ _ (fun e=>hy (by simp [e]))]
  have k1:∀ d1:Dsk,srt d1.files→d1.down=false→fm d1.files=up (fm d.files) n (some ([],0))→Out d1 (u1 n g x m d1).1 [n,g,[110]] (up (up (up (fm d.files) n (some (x,((x.length:Nat):Int)))) g (some ([],0))) [109] (manV m)) (some (fm d.files)):=by
   intro d1 hs1 hd1 hf1
   have a1:=(app_out hs1 x (n:=n) (v:=([],0)) (by rw [hf1,up_at])).upX (Y:=[n,g,[110]]) (by simp)
   have a2:=a1.back [n] (by simp) (by
    intro y hy
    rw [List.mem_singleton.1 hy,hf1,up_at]; simp) (fun _ _ _=>rfl) (by simp)
   rw [hf1,up_up,rmv1,up_up,up_self hF] at a2
   have e:(u1 n g x m d1).1=if (if (chgF d1 (appR d1.files d1.cap n x)).2=9 then backT [n] (chgF d1 (appR d1.files d1.cap n x)).1 else chgF d1 (appR d1.files d1.cap n x)).2=0 then (u2 n g m (if (chgF d1 (appR d1.files d1.cap n x)).2=9 then backT [n] (chgF d1 (appR d1.files d1.cap n x)).1 else chgF d1 (appR d1.files d1.cap n x)).1).1 else (if (chgF d1 (appR d1.files d1.cap n x)).2=9 then backT [n] (chgF d1 (appR d1.files d1.cap n x)).1 else chgF d1 (appR d1.files d1.cap n x)):=by
    unfold u1
    by_cases c:(chgF d1 (appR d1.files d1.cap n x)).2=9
    ·rw [if_pos c,if_pos c,if_neg (back_ne _ _)]
    ·rw [if_neg c,if_neg c]
     by_cases c0:(chgF d1 (appR d1.files d1.cap n x)).2=0
     ·rw [if_neg (by simp [c0]),if_pos c0]
     ·rw [if_pos c0,if_neg c0]
   rw [e]
   refine Out.seq a2 (X2:=[n,g,[110]]) (g2:=some (fm d.files)) (fun h0 hd4 hf4 hs4=>k2 _ hs4 hd4 hf4) (fun y hy=>?_) (fun _ h=>h) (fun _ h=>h) (by simp) (by simp)
   rw [hf1]
   exact (up_ne _ _ (fun e=>hy (by simp [e]))).trans (up_ne _ _ (fun e=>hy (by simp [e]))).symm
  have a1:=crt_out hs hn hF
  have e:(u0 n g x m d).1=if (chgF d (crtR d.files n)).2=0 then (u1 n g x m (chgF d (crtR d.files n)).1).1 else chgF d (crtR d.files n):=by
   unfold u0
   by_cases c:(chgF d (crtR d.files n)).2=0
   ·rw [if_neg (by simp [c]),if_pos c]
   ·rw [if_pos c,if_neg c]
  rw [e]
  refine Out.seq a1 (g2:=some (fm d.files)) (fun h0 hd4 hf4 hs4=>k1 _ hs4 hd4 hf4) (fun y hy=>?_) (by simp) (fun _ h=>h) (by simp) (by simp)
  exact up_ne _ _ (fun e=>hy (by simp [e]))
theorem goT_goP:∀ (l:List Txt) (d:Dsk),goT l d=goP l (d,0)
 | [],d=>rfl
 | n::l,d=>by
  have e1:delS n (d,0)=chgF d (delR d.files n):=stp_ye _ _
  rw [goP_cons,e1,goT]
  split
  ·rename_i h0
   rw [goT_goP l,← pair_eq h0]
  ·rename_i h0
   exact (goP_err l _ h0).symm
variable {k u:Nat} {f:Int} {S:Txt} {l0:List Pr} {s:Sto} {M:List SR} {g:Seg} {l:List Rec}
theorem srt_head {l:List Fil} {a b:Fil} (h:srt (a::l)) (hb:b∈l):bl a.name b.name=true:=(List.pairwise_cons.1 h).1 b hb
theorem fm_ext:∀ (l l':List Fil),srt l→srt l'→fm l=fm l'→l=l'
 | [],[],_,_,_=>rfl
 | [],b::l',_,hs',h=>by
  have:=congrFun h b.name
  rw [show fm (b::l') b.name=some (b.data,b.sure) by simp [fm]] at this
  simp [fm] at this
 | a::l,[],hs,_,h=>by
  have:=congrFun h a.name
  rw [show fm (a::l) a.name=some (a.data,a.sure) by simp [fm]] at this
  simp [fm] at this
 | a::l,b::l',hs,hs',h=>by
  have ha:fm (a::l) a.name=some (a.data,a.sure):=by simp [fm]
  have hb:fm (b::l') b.name=some (b.data,b.sure):=by simp [fm]
  have e:a.name=b.name:=by
   rcases bl_tri a.name b.name with c | c | c
   ·have h1:fm (b::l') a.name=none:=by
     rw [fm_none]
     intro x hx e
     rcases List.mem_cons.1 hx with rfl | hx
     ·rw [e,bl_irr] at c; cases c
     ·have:=bl_trans c (srt_head hs' hx)
      rw [e,bl_irr] at this; cases this
    rw [← h,ha] at h1; cases h1
   ·exact c
   ·have h1:fm (a::l) b.name=none:=by
     rw [fm_none]
     intro x hx e
     rcases List.mem_cons.1 hx with rfl | hx
     ·rw [e,bl_irr] at c; cases c
     ·have:=bl_trans c (srt_head hs hx)
      rw [e,bl_irr] at this; cases this
    rw [h,hb] at h1; cases h1
  have hd:a=b:=by
   have:=congrFun h a.name
   rw [ha,e,hb] at this
   obtain ⟨an,ad,as'⟩:=a
   obtain ⟨bn,bd,bs⟩:=b
   simp only [Option.some.injEq,Prod.mk.injEq] at this e
   rw [e,this.1,this.2]
  subst hd
  have hn:fm l a.name=none:=fm_none.2 fun x hx e=>by
   have:=srt_head hs hx; rw [e,bl_irr] at this; cases this
  have hn':fm l' a.name=none:=fm_none.2 fun x hx e=>by
   have:=srt_head hs' hx; rw [e,bl_irr] at this; cases this
  have h1:fm (a::l)=up (fm l) a.name (some (a.data,a.sure)):=fm_mid [] a l (by simp)
  have h2:fm (a::l')=up (fm l') a.name (some (a.data,a.sure)):=fm_mid [] a l' (by simp)
  have h3:fm l=fm l':=by
   funext k
   by_cases c:k=a.name
   ·rw [c,hn,hn']
   ·have:=congrFun h k
    rw [h1,h2,up_ne _ _ c,up_ne _ _ c] at this
    exact this
  rw [fm_ext l l' (List.pairwise_cons.1 hs).2 (List.pairwise_cons.1 hs').2 h3]
theorem Dk.same {d d':Dsk} (h:Dk d d') (hs:srt d.files) (hs':srt d'.files) (hf:fm d'.files=fm d.files) (ha:d.armed=false) (hd:d.down=false):d'=d:=by
 have h1:=h.idle ha hd
 have h2:=fm_ext _ _ hs' hs hf
 obtain ⟨a,b,c,e,q⟩:=d
 obtain ⟨a',b',c',e',q'⟩:=d'
 have h3:=h.cap
 have h4:=h.armed
 simp only at h1 h2 h3 h4 hd
 rw [h2,h3,h4,h1.2,h1.1,hd]
theorem newX_right {ver at_:Int} {x:Txt} (hv:1≤ver∧ver≤1099511627776) (ha:0 < at_∧at_≤1099511627776) (hx:1≤x.length∧x.length≤65536):manB (newX ver at_ x).man=true:=by
 refine manB_mk hv ⟨by simp [newX,Sto.man],by simp [newX,Sto.man]⟩ ?_ (.inr ⟨?_,?_⟩)
 ·show incB (-1) [at_]=true
  simp [incB]; omega
 ·show ([at_]:List Int).head?≠some 0
  simp; omega
 ·show 0 < ((x.length:Nat):Int)∧((x.length:Nat):Int)≤65536
  omega
theorem names_nodup (ho:okS k u s) (h:W f S l0 s M g l):(namesT s).Nodup:=by
 have:=oldN_nodup ho h s.segs.length
 unfold oldN at this
 rw [List.take_length] at this
 exact this
theorem parse_pos {x:Txt} {q:List Pr} (h:parseF x=some q):1≤x.length:=by
 cases x with
 | nil=>simp [parseF,rdF] at h
 | cons a r=>simp
theorem WR.inst {R:List Rec} (ho:okS k u s) (h:WR f S l0 s R) (hv:u < 1000000000000) (at_:Int) {x:Txt} (hx:x.length≤1000) :
  ((instT s at_ x).2=1∧(instT s at_ x).1=s∧(parseF x=none∨at_≤s.next∨1099511627776 < at_)) ∨
  ((∃ q,parseF x=some q∧s.next < at_∧at_≤1099511627776 ∧
   ((((instT s at_ x).2=9∧(instT s at_ x).1.disk.down=false∧fm (instT s at_ x).1.disk.files=fm s.disk.files)∨((instT s at_ x).2=10∧(instT s at_ x).1.disk.down=true))∧(instT s at_ x).1={ s with disk:=(instT s at_ x).1.disk }∧srt (instT s at_ x).1.disk.files∧Dk s.disk (instT s at_ x).1.disk∧WR f S l0 (instT s at_ x).1 R ∨
   ((instT s at_ x).2=0∧(instT s at_ x).1.disk.down=false∨(instT s at_ x).2=10∧(instT s at_ x).1.disk.down=true)∧WR at_ x q (instT s at_ x).1 []∧(instT s at_ x).1.next=at_∧(instT s at_ x).1.sure=at_∧(instT s at_ x).1.disk.cap=s.disk.cap))):=by
 have h0:=h
 have hsn:=h.sure
 have hfl:=WR.floor h0
 have hf0:0≤f:=by rw [← hfl]; exact (floor_ok ho).1
 obtain ⟨M,g,l,h,rfl⟩:=h
 unfold instT
 by_cases c0:parseF x=none∨at_≤s.next∨1099511627776 < at_
 ·rw [if_pos c0]; exact .inl ⟨rfl,rfl,c0⟩
 ·rw [if_neg c0]
  simp only [not_or] at c0
  obtain ⟨q,hq⟩:=Option.ne_none_iff_exists'.1 c0.1
  have hna:s.next < at_:=by omega
  have hab:at_≤1099511627776:=by omega
  have hxp:=parse_pos hq
  have hv1:=(manB_t h.right).1.1
  have hv2:=ho.ver
  have hvm:s.man.ver=s.ver:=rfl
  rw [hvm] at hv1
  refine .inr ⟨q,hq,hna,hab,?_⟩
  have hmr:manB (newX (s.ver+1) at_ x).man=true:=newX_right (by omega) (by omega) (by omega)
  have hbase:∀ a∈s.segs,0≤a.base∧a.base≤s.next:=by
   intro a ha
   have hn:=h.inv.next
   have hcm:=chain_mem _ _ _ h.inv.chain
   refine ⟨(ho.seg a ha).1.1,?_⟩
   rw [h.inv.segs] at ha
   rcases List.mem_append.1 ha with ha | ha
   ·obtain ⟨p,hp,rfl⟩:=List.mem_map.1 ha
    have:=hcm.2 p hp; omega
   ·rw [List.mem_singleton.1 ha]; omega
  have nr1:¬ rel f s (snapN at_):=W.not_rel ho (by omega) (by omega)
  have nr2:¬ rel f s (fileN at_):=by
   rintro (e | ⟨b,hb,e⟩ | ⟨_,e⟩)
   ·exact absurd e (n109 _ (by rw [fileN_len]; decide))
   ·have:=fileN_inj (by omega) (ho.seg b hb).1 e
    have:=hbase b hb; omega
   ·exact absurd e.symm (snap_file _ _)
  have none_of:∀ n,¬ rel f s n→s.disk.down=false→fm s.disk.files n=none:=fun n hn hd=>by
   cases hx:fm s.disk.files n with
   | none=>rfl
   | some v=>exact absurd (h.only hd n (by rw [hx]; simp)) hn
  have hO:=u0_out ho.dsk.srt (n:=snapN at_) (g:=fileN at_) (x:=x) hmr (namedS _) (namedN _) (snap_file _ _) (n110 _ (by rw [snapN_len]; decide)) (n110 _ (by rw [fileN_len]; decide)) (none_of _ (rel_110 f s)) (none_of _ nr1) (none_of _ nr2)
  generalize (u0 (snapN at_) (fileN at_) x (newX (s.ver+1) at_ x).man s.disk).1=e at *
  by_cases c1:e.2=0
  ·rw [if_neg (by simp [c1])]
   rcases hO.2.2 with ⟨_,hd,hf⟩ | ⟨_,_,e9,_⟩ | ⟨e10,_⟩
   ·refine .inr ?_
    have hdn:=hO.1.up_of hd
    have hmem:∀ m,m∈namesT s↔(∃ a∈s.segs,m=fileN a.base)∨(0 < f∧m=snapN f):=by
     intro m
     unfold namesT
     rw [List.mem_append,List.mem_map,hfl]
     constructor
     ·rintro (⟨a,ha,rfl⟩ | hm)
      ·exact .inl ⟨a,ha,rfl⟩
      ·split at hm
       ·rename_i c; exact .inr ⟨c,List.mem_singleton.1 hm⟩
       ·cases hm
     ·rintro (⟨a,ha,rfl⟩ | ⟨hc,rfl⟩)
      ·exact .inl ⟨a,ha,rfl⟩
      ·rw [if_pos hc]; exact .inr (by simp)
    have hne:∀ m∈namesT s,m≠[109]∧m≠snapN at_∧m≠fileN at_∧fm s.disk.files m≠none:=by
     intro m hm
     have hr:rel f s m:=by
      rcases (hmem m).1 hm with hm | hm
      ·exact .inr (.inl hm)
      ·exact .inr (.inr hm)
     refine ⟨?_,fun e=>nr1 (e ▸ hr),fun e=>nr2 (e ▸ hr),?_⟩
     ·rcases (hmem m).1 hm with ⟨a,_,rfl⟩ | ⟨_,rfl⟩
      ·exact n109 _ (by rw [fileN_len]; decide)
      ·exact n109 _ (by rw [snapN_len]; decide)
     ·rcases (hmem m).1 hm with ⟨a,ha,rfl⟩ | ⟨hc,rfl⟩
      ·rw [h.inv.segs] at ha
       rcases List.mem_append.1 ha with ha | ha
       ·obtain ⟨p,hp,rfl⟩:=List.mem_map.1 ha
        rw [h.full p hp]; simp
       ·rw [List.mem_singleton.1 ha]
        obtain ⟨j,h1,_⟩:=h.last
        rw [h1]; simp
      ·rcases h.snp with ⟨h1,_⟩ | ⟨_,h1,_⟩
       ·omega
       ·rw [h1]; simp
    have hg:=goP_out (namesT s) e.1 hO.2.1 (names_nodup ho h) hd (fun m hm=>by
     have:=hne m hm
     rw [hf,up_ne _ _ this.1,up_ne _ _ this.2.2.1,up_ne _ _ this.2.1]; exact this.2.2.2)
    rw [goT_goP]
    generalize goP (namesT s) (e.1,0)=w at *
    have n1:[109] ∉ namesT s:=fun hm=>(hne _ hm).1 rfl
    have n2:snapN at_ ∉ namesT s:=fun hm=>(hne _ hm).2.1 rfl
    have n3:fileN at_ ∉ namesT s:=fun hm=>(hne _ hm).2.2.1 rfl
    have hkeep:∀ m,m ∉ namesT s→fm w.1.files m=fm e.1.files m:=by
     intro m hm
     rcases hg.2.2 with ⟨_,_,hf⟩ | ⟨_,hc,_⟩ | ⟨_,_,hf⟩
     ·rw [hf]; exact if_neg hm
     ·cases hc
     ·exact hf m hm
    refine ⟨?_,⟨[],⟨at_,0,0⟩,[],⟨⟨rfl,fun p hp=>?_,rfl,by show at_=at_+_; simp,by show 0≤at_∧at_≤at_; omega⟩,.inr ⟨by omega,?_,hq,rfl,rfl⟩,?_,hmr,fun p hp=>(by cases hp),⟨0,?_,by simp [rowS],by simp⟩,Int.le_refl _,fun hd2 m hm=>?_⟩,rfl⟩,rfl,rfl,hg.1.cap.trans hO.1.cap⟩
    ·rcases hg.2.2 with ⟨a,b,_⟩ | ⟨_,hc,_⟩ | ⟨a,b,_⟩
     ·exact .inl ⟨a,b⟩
     ·cases hc
     ·exact .inr ⟨a,b⟩
    ·rw [List.nil_append,List.mem_singleton] at hp
     subst hp
     refine ⟨(fm_hasD hg.2.1 _ _).2 ⟨0,?_⟩,fun r hr=>(by cases hr),fun i hi=>(by simp at hi),rfl,rfl⟩
     rw [hkeep _ n3,hf,up_ne _ _ (n109 _ (by rw [fileN_len]; decide)),up_at]; rfl
    ·show fm w.1.files _=_
     rw [hkeep _ n2,hf,up_ne _ _ (n109 _ (by rw [snapN_len]; decide)),up_ne _ _ (snap_file _ _),up_at]
    ·show fm w.1.files _=_
     rw [hkeep _ n1,hf,up_at]; rfl
    ·show fm w.1.files _=_
     rw [hkeep _ n3,hf,up_ne _ _ (n109 _ (by rw [fileN_len]; decide)),up_at]; rfl
    ·have hm2:fm w.1.files m≠none:=hm
     have hd3:w.1.down=false:=hd2
     rcases hg.2.2 with ⟨_,_,hfw⟩ | ⟨_,hc,_⟩ | ⟨_,b,_⟩
     ·rw [hfw] at hm2
      unfold rmv at hm2
      by_cases c:m∈namesT s
      ·rw [if_pos c] at hm2; exact absurd rfl hm2
      ·rw [if_neg c,hf] at hm2
       by_cases a1:m=[109]
       ·exact .inl a1
       ·rw [up_ne _ _ a1] at hm2
        by_cases a2:m=fileN at_
        ·exact .inr (.inl ⟨⟨at_,0,0⟩,by show _∈[(⟨at_,0,0⟩:Seg)]; simp,a2⟩)
        ·rw [up_ne _ _ a2] at hm2
         by_cases a3:m=snapN at_
         ·exact .inr (.inr ⟨by omega,a3⟩)
         ·rw [up_ne _ _ a3] at hm2
          rcases h.only hdn m hm2 with e | e | e
          ·exact absurd e a1
          ·exact absurd ((hmem m).2 (.inl e)) c
          ·exact absurd ((hmem m).2 (.inr e)) c
     ·cases hc
     ·rw [hd3] at b; cases b
   ·rw [e9] at c1; cases c1
   ·rw [e10] at c1; cases c1
  ·rw [if_pos c1]
   have hw:=h.fail ho.dsk.srt hO c1 (by
    intro m hm
    simp only [List.mem_cons,List.mem_nil_iff,or_false] at hm
    rcases hm with rfl | rfl | rfl
    ·exact nr1
    ·exact nr2
    ·exact rel_110 f s)
   refine .inl ⟨?_,rfl,hO.2.1,hO.1,M,g,l,hw.1,rfl⟩
   rcases hw.2 with ⟨a,b,c⟩ | ⟨a,b⟩
   ·exact .inl ⟨a,c,b⟩
   ·exact .inr ⟨a,b⟩
theorem same06_left (d:Dsk) (x:Int) (hl:d.files.length≤1000000):∃ b:Bool,call 11 [.agg (Dsk.l { d with left:=x }),.agg d.l] []=some (vb b,[])∧(x=d.left→b=true):=by
 by_cases c:x=d.left
 ·subst c
  exact ⟨true,same06_spec d hl,fun _=>rfl⟩
 ·refine ⟨false,?_,fun h=>absurd h c⟩
  apply enterS s11 rfl
  simp only [Dsk.l]
  (simp (disch:=first|decide|omega|(intros;exact Eq.trans rfl rfl)|simp only[puri]) only [wkf,a11,c,ne_self,neb_self,go_sem,seval,dis])
  try simp [trim]
theorem same05_rfl (l:List Pr) (hl:l.length≤1000000):call 14 [vl (l.map Pr.enc),vl (l.map Pr.enc)] []=some (vb true,[]):=by
 apply enterS s14 rfl
 (simp (disch:=first|decide|omega|(intros;exact Eq.trans rfl rfl)|simp only[puri]) only [a14,go_sem,seval,dis])
 refine loop_boxM (m:=0) (σ:=Nat) (fun i=>l.length - i) (fun i=>i≤l.length) (fun i=>[vl (l.map Pr.enc),vl (l.map Pr.enc),vi i]) (fun _=>[])
  (fun _=>(vb true,[])) ?_ 0 (Nat.zero_le _) _ _ hdM
 intro i h1 R hR
 by_cases hi:i < l.length
 ·have g1:(l.map Pr.enc)[i]?=some l[i].enc:=by rw [List.getElem?_map,List.getElem?_eq_getElem hi]; rfl
  have hR':=hR (i+1) (by omega) (by omega)
  generalize l[i]=p at *
  have he:=Pr.eqs p p
  (simp (disch:=first|decide|omega|(intros;exact Eq.trans rfl rfl)|simp only[puri]) only [a14_0,g1,Pr.len,Pr.tkL,Pr.tk,he,go_sem,seval,dis])
  exact hR' _ _ hdM
 ·(simp (disch:=first|decide|omega|(intros;exact Eq.trans rfl rfl)|simp only[puri]) only [a14_0,a14,go_sem,seval,dis])
  try simp [trim]
def eT (n:Txt):List D:=[.s n]
theorem eT_of (r:List D) (h:wfRow [.s] r):∃ x:Txt,r=eT x∧x.length≤9223372036854775807:=by
 simp only [wfRow,wfT] at h
 obtain ⟨_,_,rfl,⟨x,rfl,hx⟩,rfl⟩:=h
 exact ⟨x,rfl,hx⟩
theorem stF_snoc {l0:List Pr} {f n:Int} {R:List Rec} (r:Rec) (h:n=f+R.length):stF l0 f (R++[r]) (n+1)=stepF (stF l0 f R n) r.da:=by
 unfold stF
 rw [List.take_of_length_le (by rw [List.length_append,List.length_singleton]; omega),List.take_of_length_le (by omega),foldP_app]; rfl
structure SI (at_:Int) (x:Txt) (q:List Pr) (i:Nat) (s:Sto) (l:List Pr):Prop where
 ok:okS (100+2*i) (930000+1000*i) s
 log:∃ R,WR at_ x q s R∧stF q at_ R s.next=l∧R.length≤i
set_option maxRecDepth 20000 in
set_option maxHeartbeats 8000000 in
theorem states15 (seg:Nat) (hs:seg < 256) (l:List Ac) (hl:l.length≤9223372036854775807) (ha:∀ a∈l,a.ok) (at_:Int) (hat : -9223372036854775808≤at_∧at_ < 9223372036854775808) (x:Txt) (da:List Txt) (hda:da.length≤9223372036854775807) (hdx:∀ d∈da,d.length≤9223372036854775807) :
  call 4 [.agg [.d (.i .u8 (seg:Nat)),.d (.l (l.map Ac.enc)),.d (.i .i64 at_),.d (.s x)],vl (da.map eT)] []=some (vb true,[]):=by
 have q1:=rplay_spec (20+(seg:Int)) l hl ha
 have hp:=play_PI (20+(seg:Int)) l ha
 have hw:=play_LW (seg:=20+(seg:Int)) (by omega) l ha
 have q2:=awake15_spec
 have hcell:∀ s:Sto,s.l=[.d (.l (s.disk.files.map Fil.enc)),.d (.i .i64 s.disk.cap),.d (.b s.disk.armed),.d (.i .i64 s.disk.left),.d (.b s.disk.down),.d (.i .i64 s.ver),.d (.l (s.segs.map Seg.enc)),.d (.i .i64 s.next),.d (.i .i64 s.sure),.d (.i .i64 s.size),.d (.i .u32 s.sum)]:=fun _=>rfl
 apply enterS s4 rfl
 generalize playT (20+(seg:Int)) l=P at *
 obtain ⟨st,ok⟩:=P
 simp only [hcell] at q1 hp hw
 cases ok with
 | false =>
  (simp (disch:=first|decide|omega|(intros;exact Eq.trans rfl rfl)|simp only[puri]) only [wkf,a4,q1,q2,go_sem,seval,dis])
  try simp [trim]
 | true =>
  by_cases k1:(1000:Int) < (x.length:Int)
  ·(simp (disch:=first|decide|omega|(intros;exact Eq.trans rfl rfl)|simp only[puri]) only [wkf,a4,q1,q2,decide_eq_true k1,go_sem,seval,dis])
   try simp [trim]
  ·by_cases k2:(20:Int) < (da.length:Int)
   ·(simp (disch:=first|decide|omega|(intros;exact Eq.trans rfl rfl)|simp only[puri]) only [wkf,a4,q1,q2,decide_eq_false k1,decide_eq_true k2,List.length_map,go_sem,seval,dis])
    try simp [trim]
   ·by_cases k3:(549755813888:Int) < at_
    ·(simp (disch:=first|decide|omega|(intros;exact Eq.trans rfl rfl)|simp only[puri]) only [wkf,a4,q1,q2,decide_eq_false k1,decide_eq_false k2,decide_eq_true k3,List.length_map,go_sem,seval,dis])
     try simp [trim]
    ·obtain ⟨f,S,l0,R,hw⟩:=hw
     have q3:=inst_spec st hp.ok (by decide) (by decide) at_ hat x (by omega)
     have o1:=inst_ok hp.ok at_ (x:=x) (by omega)
     have hi:=hw.inst hp.ok (by decide) at_ (x:=x) (by omega)
     have hfl:=st.disk.files.length
     have hdl:=hp.ok.dsk.len
     have hsrt:=hp.ok.dsk.srt
     have hnn:=hp.ok.next
     rcases hi with ⟨e1,e2,_⟩ | ⟨q,hq,hna,hab,⟨e1,e2,e3,e4,_⟩ | ⟨e1,e2,e3,e4,e5⟩⟩
     ·generalize instT st at_ x=r at *
      obtain ⟨y,e⟩:=r
      simp only at e1 e2
      subst e1 e2
      have q4:=same06_spec y.disk (by omega)
      simp only [stoV,hcell,Dsk.l] at q3 q4
      (simp (disch:=first|decide|omega|(intros;exact Eq.trans rfl rfl)|simp only[puri]) only [wkf,a4,q1,q2,decide_eq_false k1,decide_eq_false k2,decide_eq_false k3,q3,q4,List.length_map,go_sem,seval,dis])
      try simp [trim]
     ·generalize instT st at_ x=r at *
      obtain ⟨y,e⟩:=r
      simp only at e1 e2 e3 e4
      rcases e1 with ⟨rfl,b1,b2⟩ | ⟨rfl,b1⟩
      ·have hff:y.disk.files=st.disk.files:=fm_ext _ _ e3 hsrt b2
       have hdd:y.disk.down=st.disk.down:=b1.trans (e4.up_of b1).symm
       have hyd:y.disk={ st.disk with left:=y.disk.left }:=by
        have:=e4.cap
        have:=e4.armed
        generalize y.disk=a at *
        obtain ⟨a1,a2,a3,a4,a5⟩:=a
        simp only at *
        subst hff hdd
        simp [*]
       obtain ⟨b,q4,hb⟩:=same06_left st.disk y.disk.left (by omega)
       have hb2:b=true∨(b=false∧st.disk.armed=true):=by
        cases b with
        | true=>exact .inl rfl
        | false =>
         refine .inr ⟨rfl,?_⟩
         cases hx:st.disk.armed with
         | true=>rfl
         | false =>
          have:=hb (e4.idle hx (e4.up_of b1)).2
          cases this
       have hy:y={ st with disk:={ st.disk with left:=y.disk.left } }:=by rw [← hyd]; exact e2
       generalize y.disk.left=lf at *
       subst hy
       simp only [stoV,hcell,Dsk.l] at q3 q4
       rcases hb2 with rfl | ⟨rfl,harm⟩
       ·(simp (disch:=first|decide|omega|(intros;exact Eq.trans rfl rfl)|simp only[puri]) only [wkf,a4,q1,q2,decide_eq_false k1,decide_eq_false k2,decide_eq_false k3,q3,q4,List.length_map,go_sem,seval,dis])
        try simp [trim]
       ·simp only [harm] at q3 q4
        (simp (disch:=first|decide|omega|(intros;exact Eq.trans rfl rfl)|simp only[puri]) only [wkf,a4,q1,q2,decide_eq_false k1,decide_eq_false k2,decide_eq_false k3,q3,q4,harm,List.length_map,go_sem,seval,dis])
        try simp [trim]
      ·simp only [stoV,hcell] at q3
       (simp (disch:=first|decide|omega|(intros;exact Eq.trans rfl rfl)|simp only[puri]) only [wkf,a4,q1,q2,decide_eq_false k1,decide_eq_false k2,decide_eq_false k3,q3,List.length_map,go_sem,seval,dis])
       try simp [trim]
     ·generalize hr:instT st at_ x=r at *
      obtain ⟨y,e⟩:=r
      simp only at e1 e2 e3 e4 e5 o1
      rcases e1 with ⟨rfl,hyd⟩ | ⟨rfl,hyd⟩
      ·have hSI0:SI at_ x q 0 y (stF q at_ [] at_):=⟨o1.up (by decide) (by decide),[],e2,by rw [e3],Nat.le_refl _⟩
       have hq0:stF q at_ [] at_=q:=by simp [stF,foldP]
       rw [hq0] at hSI0
       have q4:=parse_ref x (by omega)
       rw [hq] at q4
       simp only [parseV] at q4
       have q5:=rread_any y o1 (by decide) (by decide) (at_ - 1)
       rw [e2.rtrim o1 (at_ - 1) (by omega)] at q5
       have hfly:=e2.floor
       have q6:=rstate_sto y o1 (by decide) (by decide) at_ (by omega)
       rw [e2.stT o1 at_ (by omega),hq0] at q6
       have hql:=(e2.st_ok at_).2.2
       rw [hq0] at hql
       have q7:=same05_rfl q (by omega)
       have hyn:=e3
       clear e2 hq hw hp hfly hq0
       simp only [stoV,hcell] at q3 q5 q6
       simp only [hyn] at q3 q5 q6
       have hne11:¬ (11:Int)=0:=by decide
       (simp (disch:=first|decide|omega|(intros;exact Eq.trans rfl rfl)|simp only[puri]) only [wkf,a4,q1,q2,decide_eq_false k1,decide_eq_false k2,decide_eq_false k3,q3,q4,q5,q6,q7,List.length_map,go_sem,seval,dis])
       refine loop_boxM (m:=0) (σ:=Nat × Sto × List Pr) (fun t=>da.length - t.1) (fun t=>t.1≤da.length∧SI at_ x q t.1 t.2.1 t.2.2) (fun t=>[vl (da.map eT),V.one (.p 0 0),V.one (.p 1 0),vl (t.2.2.map Pr.enc),vi t.1])
        (fun t=>[.cells [.d (.i .u8 (seg:Nat)),.d (.l (l.map Ac.enc)),.d (.i .i64 at_),.d (.s x)],.cells [.d (.l (t.2.1.disk.files.map Fil.enc)),.d (.i .i64 t.2.1.disk.cap),.d (.b t.2.1.disk.armed),.d (.i .i64 t.2.1.disk.left),.d (.b t.2.1.disk.down),.d (.i .i64 t.2.1.ver),.d (.l (t.2.1.segs.map Seg.enc)),.d (.i .i64 t.2.1.next),.d (.i .i64 t.2.1.sure),.d (.i .i64 t.2.1.size),.d (.i .u32 t.2.1.sum)]]) (fun _=>(vb true,[])) ?_ (0,y,q) ⟨Nat.zero_le _,hSI0⟩ _ _ ?_
       rotate_left
       ·simp only [hyn]; exact hdM
       clear q3 q4 q5 q6 q7 hyn e3 e4 e5 o1 hyd hne11 q1
       rintro ⟨i,s,w⟩ ⟨h1,h2⟩ K hK
       simp only at h1 h2 ⊢
       have hok:=h2.ok
       obtain ⟨R',hW,hst,hRl⟩:=h2.log
       have hnx:=hW.next
       have hfn:=hok.next
       have hst':=hW.stT hok s.next (by have:=hW.sure; omega)
       have hwok:=hW.st_ok s.next
       have hfs:=hW.floor
       rw [hst] at hst' hwok
       have f1:=rstate_sto s hok (by omega) (by omega) s.next (by omega)
       rw [hst'] at f1
       have f2:=same05_rfl w (by omega)
       rw [hcell] at f1
       by_cases c1:i < da.length
       ·have hc1:(i:Int) < (da.length:Int):=by omega
        have g1:(da.map eT)[i]?=some [.s da[i]]:=by rw [List.getElem?_map,List.getElem?_eq_getElem c1]; rfl
        have hdl:=hdx _ (List.getElem_mem c1)
        have g2:=rappend_sto s hok (by omega) (by omega) (20+(seg:Int)) ⟨s.next,0,da[i]⟩ ⟨by simp only []; omega,by simp only []; omega,hdl⟩
        have hap:=hW.app hok (seg:=20+(seg:Int)) (by omega) (by omega) ⟨s.next,0,da[i]⟩
        have o2:=appT_ok hok (20+(seg:Int)) ⟨s.next,0,da[i]⟩
        have hK':=fun s' w'=>hK (i+1,s',w')
        generalize da[i]=d at *
        generalize appT s (20+(seg:Int)) ⟨s.next,0,d⟩=r at *
        obtain ⟨y2,e⟩:=r
        simp only [stoV,hcell,Rec.enc,List.map_cons,List.map_nil] at g2
        simp only at hap o2
        rcases hap.2.2 with ⟨rfl,_,hwhy,_,_,hW2⟩ | ⟨_,he⟩
        ·have hd64:d.length≤64:=why_len hwhy
         have g3:=step_ref w (by omega) d (by omega)
         have hn2:=hW2.next
         rw [List.length_append,List.length_singleton] at hn2
         have hK2:=hK' y2 (stepF w d) (by simp only []; omega) ⟨by simp only []; omega,o2.up (by simp only []; omega) (by simp only []; omega),_,hW2,by
          simp only []
          rw [show y2.next=s.next+1 by omega,stF_snoc _ hnx,hst],by simp; omega⟩
         generalize stepF w d=w2 at *
         clear hW2 hW h2 hK hK' o2 hwhy f1 f2
         (simp (disch:=first|decide|omega|(intros;exact Eq.trans rfl rfl)|simp only[puri]) only [wkf,a4_0,decide_eq_true hc1,g1,g2,g3,List.length_map,go_sem,seval,dis,vdr,A.kind,A.xs,optX,A.isN])
         exact hK2 _ _ hdM
        ·have he0:¬ e=0:=by
          rcases he with h | h | h | h
          ·omega
          ·omega
          ·omega
          ·omega
         clear hW h2 hK hK' o2
         (simp (disch:=first|decide|omega|(intros;exact Eq.trans rfl rfl)|simp only[puri]) only [wkf,a4_0,a4,decide_eq_true hc1,g1,g2,he0,q2,f1,f2,List.length_map,go_sem,seval,dis,vdr,A.kind,A.xs,optX,A.isN])
         try simp [trim]
       ·have hc1:¬ (i:Int) < (da.length:Int):=by omega
        (simp (disch:=first|decide|omega|(intros;exact Eq.trans rfl rfl)|simp only[puri]) only [wkf,a4_0,a4,decide_eq_false hc1,q2,f1,f2,List.length_map,go_sem,seval,dis,vdr,A.kind,A.xs,optX,A.isN])
        try simp [trim]
      ·simp only [stoV,hcell] at q3
       (simp (disch:=first|decide|omega|(intros;exact Eq.trans rfl rfl)|simp only[puri]) only [wkf,a4,q1,q2,decide_eq_false k1,decide_eq_false k2,decide_eq_false k3,q3,List.length_map,go_sem,seval,dis])
       try simp [trim]
theorem installStates_pure (xs:List V) (h:wfAs [(true,[.i .u8,.l [.i .i64,.i .i64,.i .i64,.s],.i .i64,.s]),(false,[.l [.s]])] xs):call 4 xs []=some (vb true,[]):=by
 simp only [wfAs,wfA] at h
 obtain ⟨_,_,rfl,⟨d,rfl,hd⟩,_,_,rfl,⟨e,rfl,he⟩,rfl⟩:=h
 simp only [wfRow,wfT] at hd he
 obtain ⟨_,_,e1,⟨b,rfl,a1,a2⟩,_,_,e2,⟨rows,rfl,hl,hr⟩,_,_,e3,⟨o,rfl,b1,b2⟩,_,_,e4,⟨s,rfl,c1⟩,rfl⟩:=hd
 obtain ⟨_,_,e5,⟨rows2,rfl,hl2,hr2⟩,rfl⟩:=he
 subst e1 e2 e3 e4
 cases e5
 obtain ⟨l,rfl,ha⟩:=rows_map Ac.of rows hr
 obtain ⟨da,rfl,hda⟩:=rows_map eT_of rows2 hr2
 have a1':0≤b:=Int.le_trans (by decide) a1
 have a2':b < 256:=Int.lt_of_le_of_lt a2 (by decide)
 have b1' : -9223372036854775808≤o:=Int.le_trans (by decide) b1
 have b2':o < 9223372036854775808:=Int.lt_of_le_of_lt b2 (by decide)
 have eb:((b.toNat:Nat):Int)=b:=Int.toNat_of_nonneg a1'
 have:=states15 b.toNat (by omega) l (by simpa using hl) ha o ⟨b1',b2'⟩ s da (by simpa using hl2) hda
 rw [eb] at this
 exact this
end Go.Proofs.YthlnpioogbmogaaGreat
