import Derived.Test.YthlnpioogbmogaaGreatT09
import Derived.Test.YthlnpioogbmogaaGreatT08
set_option linter.unusedSimpArgs false
set_option linter.unusedVariables false
namespace Go.Proofs.YthlnpioogbmogaaGreat
open Go.Vi
variable {k u:Nat}
def n9 (r:Dsk × Int):Prop:=r.1.cap=0∧r.2≠9
theorem chg9 {d:Dsk} (h:d.cap=0) {r:List Fil × Int} (hr:r.2≠9):n9 (chgF d r):=by
 unfold chgF;split
 ·exact⟨h,by simp⟩
 ·split
  ·exact⟨h,hr⟩
  ·split
   ·split
    ·exact⟨h,by simp⟩
    ·exact⟨h,by simp⟩
   ·exact⟨h,by simp⟩
theorem crt9 {d:Dsk} (h:d.cap=0) (n:Txt):n9 (chgF d (crtR d.files n)):=chg9 h (by
 unfold crtR;split
 ·split <;> simp
 ·simp)
theorem app9 {d:Dsk} (h:d.cap=0) (n x:Txt):n9 (chgF d (appR d.files d.cap n x)):=chg9 h (by
 unfold appR;rw[h];split
 ·simp
 ·simp)
theorem syn9 {d:Dsk} (h:d.cap=0) (n:Txt):n9 (chgF d (synR d.files n)):=chg9 h (by unfold synR;split <;> simp)
theorem del9 {d:Dsk} (h:d.cap=0) (n:Txt):n9 (chgF d (delR d.files n)):=chg9 h (by unfold delR;split <;> simp)
theorem ren9 {d:Dsk} (h:d.cap=0) (n t:Txt):n9 (chgF d (renR d.files n t)):=chg9 h (by
 unfold renR;split
 ·split <;> simp
 ·simp)
theorem stp9 {s:Dsk × Int} {f:Dsk->Dsk × Int} (h:n9 s) (hf:n9 (f s.1)):n9 (stp s f):=by
 unfold stp;split
 ·exact hf
 ·exact h
theorem unl9 {s:Dsk × Int} (h:n9 s) (n:Txt):unlS n s=s:=by unfold unlS;rw[if_pos h.2]
theorem swap9 {s:Dsk × Int} (h:n9 s) (m:Man):n9 (swapS m s):=by
 unfold swapS;simp only[];have h1:n9 (if s.2=0 then(s.1,(manPut m).2) else s):=by
  split
  ·exact⟨h.1,by unfold manPut;split <;> simp⟩
  ·exact h
 generalize (if s.2=0 then(s.1,(manPut m).2) else s)=s1 at *
 have h2:n9 (if(readF s1.1.files [110]).2=0 then delS [110] s1 else s1):=by
  split
  ·exact stp9 h1 (del9 h1.1 _)
  ·exact h1
 generalize (if(readF s1.1.files [110]).2=0 then delS [110] s1 else s1)=s2 at *
 have h3:n9 (crtS [110] s2):=stp9 h2 (crt9 h2.1 _);split
 ·exact h3
 ·have h4:n9 (appS [110] (manPut m).1 (crtS [110] s2)):=stp9 h3 (app9 h3.1 _ _);rw[unl9 h4];have h5:n9 (synS [110] (appS [110] (manPut m).1 (crtS [110] s2))):=stp9 h4 (syn9 h4.1 _);exact stp9 h5 (ren9 h5.1 _ _)
theorem goP9:∀ (l:List Txt) (s:Dsk × Int),n9 s->n9 (goP l s)
 | [],s,h=>h
 | n::l,s,h=>goP9 l _ (stp9 h (del9 h.1 n))
theorem u09 {d:Dsk} (h:d.cap=0) (n g x:Txt) (m:Man):n9 (u0 n g x m d).1:=by
 have p4:∀ d:Dsk,d.cap=0->n9 (u4 n g m d).1:=fun d h=>by
  have h2:=swap9 (s:=(d,0)) ⟨h,by simp⟩ m
  unfold u4;rw[if_neg h2.2];exact h2
 have p3:∀ d:Dsk,d.cap=0->n9 (u3 n g m d).1:=fun d h=>by
  have h2:=crt9 h g;unfold u3;split
  ·exact h2
  ·exact p4 _ h2.1
 have p2:∀ d:Dsk,d.cap=0->n9 (u2 n g m d).1:=fun d h=>by
  have h2:=syn9 h n;unfold u2;split
  ·exact h2
  ·exact p3 _ h2.1
 have p1:∀ d:Dsk,d.cap=0->n9 (u1 n g x m d).1:=fun d h=>by
  have h2:=app9 h n x;unfold u1;rw[if_neg h2.2];split
  ·exact h2
  ·exact p2 _ h2.1
 have h2:=crt9 h n;unfold u0;split
 ·exact h2
 ·exact p1 _ h2.1
theorem inst9 {s:Sto} (h:s.disk.cap=0) (at_:Int) (x:Txt):(instT s at_ x).2≠9:=by
 unfold instT;split
 ·simp
 ·have h2:=u09 h (snapN at_) (fileN at_) x (newX (s.ver+1) at_ x).man;split
  ·exact h2.2
  ·rename_i hc;show(goT _ _).2≠9;rw[goT_goP];have h3:=goP9 (namesT s) ((u0 (snapN at_) (fileN at_) x (newX (s.ver+1) at_ x).man s.disk).1.1,0) ⟨h2.1,by simp⟩
   exact h3.2
set_option maxRecDepth 20000 in
set_option maxHeartbeats 8000000 in
theorem crash15 (seg:Nat) (hs:seg<256) (l:List Ac) (hl:l.length<=9223372036854775807) (ha:∀ a∈l,a.ok) (at_:Int) (hat : -9223372036854775808<=at_∧at_<9223372036854775808) (x:Txt) (fu:Nat) (hfu:fu<256) :
  call 5 [.agg [.d (.i .u8 (seg:Nat)),.d (.l (l.map Ac.enc)),.d (.i .i64 at_),.d (.s x)],vk .u8 ((fu:Nat):Int)] []=some (vb true,[]):=by
 have q1:=rplay_spec (20+(seg:Int)) l hl ha;have hp:=play_PI (20+(seg:Int)) l ha;have hw:=play_LW (seg:=20+(seg:Int)) (by omega) l ha
 have hin:=play_in (20+(seg:Int)) l;have q2:=awake15_spec;have hcell:∀ s:Sto,s.l=[.d (.l (s.disk.files.map Fil.enc)),.d (.i .i64 s.disk.cap),.d (.b s.disk.armed),.d (.i .i64 s.disk.left),.d (.b s.disk.down),.d (.i .i64 s.ver),.d (.l (s.segs.map Seg.enc)),.d (.i .i64 s.next),.d (.i .i64 s.sure),.d (.i .i64 s.size),.d (.i .u32 s.sum)]:=fun _=>rfl
 apply enterS s5 rfl;generalize playT (20+(seg:Int)) l=P at *;obtain⟨st,ok⟩:=P;simp only[hcell] at q1 hp hw hin;cases ok with
 | false =>
  (simp(disch:=first|decide|omega|(intros;exact Eq.trans rfl rfl)|simp only[puri]) only[wkf,a5,q1,q2,go_sem,seval,dis])
  try simp[trim]
 | true =>
  by_cases k1:(1000:Int)<(x.length:Int)
  ·(simp(disch:=first|decide|omega|(intros;exact Eq.trans rfl rfl)|simp only[puri]) only[wkf,a5,q1,q2,decide_eq_true k1,go_sem,seval,dis])
   try simp[trim]
  ·by_cases k2:(0:Int)<st.disk.cap
   ·(simp(disch:=first|decide|omega|(intros;exact Eq.trans rfl rfl)|simp only[puri]) only[wkf,a5,q1,q2,decide_eq_false k1,decide_eq_true k2,go_sem,seval,dis])
    try simp[trim]
   ·by_cases k3:st.disk.down=true
    ·rw[k3] at q1;(simp(disch:=first|decide|omega|(intros;exact Eq.trans rfl rfl)|simp only[puri]) only[wkf,a5,q1,q2,decide_eq_false k1,decide_eq_false k2,go_sem,seval,dis])
     try simp[trim]
    ·have k3':st.disk.down=false:=by simpa using k3
     rw[k3'] at q1;have k4:¬ ((st.segs.length:Nat):Int)=0:=by have:=hp.ok.len;omega
     obtain⟨f,S,l0,R,hw⟩:=hw;have hok:=hp.ok;have q3:=rsync_sto st hok (by decide) (by decide)
     have hsy:=hw.sync hok;have hoy:=syncT_ok hok;have hiny:=sync_in hin;have hny:(syncT st).1.next=st.next:=rfl;have hcap:st.disk.cap=0:=by have:=hok.dsk.cap;omega
     have hwn:=hw.next;have hcells:st.l=[.d (.l (st.disk.files.map Fil.enc)),.d (.i .i64 st.disk.cap),.d (.b st.disk.armed),.d (.i .i64 st.disk.left),.d (.b st.disk.down),.d (.i .i64 st.ver),.d (.l (st.segs.map Seg.enc)),.d (.i .i64 st.next),.d (.i .i64 st.sure),.d (.i .i64 st.size),.d (.i .u32 st.sum)]:=rfl;rw[hcells] at q3;rw[k3'] at q3;by_cases k5:(syncT st).1.disk.down=true
     ·generalize syncT st=r at *;obtain⟨y,e⟩:=r;simp only[stoV,hcell] at q3 k5;rw[k5] at q3;(simp(disch:=first|decide|omega|(intros;exact Eq.trans rfl rfl)|simp only[puri]) only[wkf,a5,q1,q2,decide_eq_false k1,decide_eq_false k2,q3,k4,List.length_map,go_sem,seval,dis])
      try simp[trim]
     ·have k5':(syncT st).1.disk.down=false:=by simpa using k5
      have hnp:=hp.next;clear hp hin;have hsure:(syncT st).1.sure=st.next:=by
       rcases hsy.2.1 with h|h
       ·exact h.2.1
       ·rw[h.2.1] at k5';cases k5'
      have hcy:(syncT st).1.disk.cap=0:=hsy.2.2.trans hcap;have hwy:=hsy.1;clear hsy;generalize syncT st=r at *;obtain⟨y,e0⟩:=r;simp only at k5' hsure hcy hwy hny hoy hiny q3;obtain⟨n,hn⟩:∃ n:Int,n=((fu:Nat):Int) % 16:=⟨_,rfl⟩;have hn2:0<=n∧n<16:=by omega
      have hn3:((fu:Nat):Int).tmod 16=n:=by rw[hn,Int.tmod_eq_emod_of_nonneg (by omega)]
      have q4:=arm_spec y.disk n (by omega)
      have hwz:WR f S l0 { y with disk:=armD y.disk n } R:=by
       obtain⟨M,g,l',h,e⟩:=hwy;exact⟨M,g,l',h.arm hoy.dsk.srt _,e⟩
      have hoz:okS (10+2*40) (2000+23000*40) { y with disk:=armD y.disk n }:=by
       refine⟨⟨hoy.dsk.len,hoy.dsk.srt,?_,hoy.dsk.cap,hoy.dsk.used⟩,hoy.len,hoy.seg,hoy.next,hoy.ver,hoy.sum⟩;show 0<=(if 0<n then n else 0)∧_
       show 0<=(if 0<n then n else 0)∧(if 0<n then n else 0)<9223372036854775808
       split <;> omega
      have hinz:inB (armD y.disk n).files:=hiny;have hcz:(armD y.disk n).cap=0:=hcy;have q5:=inst_spec { y with disk:=armD y.disk n } hoz (by decide) (by decide) at_ hat x (by omega)
      have hi:=hwz.inst hoz (by decide) at_ (x:=x) (by omega)
      have o1:=inst_ok hoz at_ (x:=x) (by omega)
      have hin2:=inst_in (s:={ y with disk:=armD y.disk n }) hinz at_ x
      have h9:=inst9 (s:={ y with disk:=armD y.disk n }) hcz at_ x
      have q6:=rcrash_spec (instT { y with disk:=armD y.disk n } at_ x).1.disk (Nat.le_trans o1.dsk.len (by decide)) (Nat.le_trans o1.dsk.used (by decide)) hin2 [] (by simp) (by simp)
      have q7:=fun hd=>ropen_spec (crashT (instT { y with disk:=armD y.disk n } at_ x).1.disk []) (crash_okN o1.dsk []) (by decide) (by decide) hd
      have hpa:=parse_ref x (by omega)
      have hnz:({ y with disk:=armD y.disk n }:Sto).next=st.next:=hny
      have hsz:({ y with disk:=armD y.disk n }:Sto).sure=st.next:=hsure
      have q8:=fun(w:Sto) (hw:okS (10+2*40+3) (2000+23000*40+2000) w) (a:Int) (ha:a<=w.floor+100000)=>rstate_sto w hw (by decide) (by decide) a ha
      rcases hi with⟨e1,e2,_⟩|⟨q,hq,hna,hab,⟨e1,e2,e3,e4,e5⟩|⟨e1,e2,e3,e4,e5⟩⟩
      ·have hcr:=WR.crash o1 (by rw[e2];exact hwz) hin2 []
       rw[e2] at hcr;generalize instT { y with disk:=armD y.disk n } at_ x=r at *
       obtain⟨x',e⟩:=r;simp only at e1 e2;subst e1 e2;simp only at q5 q6 q7 hcr;obtain⟨j,j1,j2,j3,j4,j5,j6,j7,j8,j9,j10,j11,j12,j13⟩:=hcr;replace q7:=q7 j13
       have hyn2:(openT (crashT (armD y.disk n) [])).1.next=st.next:=by rw[j9];omega
       generalize openT (crashT (armD y.disk n) [])=r2 at *;generalize crashT (armD y.disk n) []=d2 at *;generalize armD y.disk n=dz at *;obtain⟨y2,e2⟩:=r2;simp only at j3 hyn2;subst j3;obtain⟨⟨yf,yc,ya,yl,yd⟩,yv,ys,yn,yu,yz,ym⟩:=y;obtain⟨zf,zc,za,zl,zd⟩:=dz;obtain⟨f2,c2,a2,l2,dn2⟩:=d2;simp only at k5' hsure hny hcy;subst hsure;simp only[stoV,hcell,Dsk.l,hyn2,List.map_nil] at q3 q4 q5 q6 q7;subst k5';clear hwz hoz hinz hcz o1 hin2 h9 q8 hwy hiny hoy hw hok j4 j12 j13;(simp(disch:=first|decide|omega|(intros;exact Eq.trans rfl rfl)|simp only[puri]) only[wkf,a5,q1,q2,decide_eq_false k1,decide_eq_false k2,q3,k4,q4,q5,q6,q7,hn3,List.length_map,go_sem,seval,dis])
       try simp[trim]
      ·have e10:(instT { y with disk:=armD y.disk n } at_ x).2=10∧(instT { y with disk:=armD y.disk n } at_ x).1.disk.down=true:=by
        rcases e1 with⟨h,_⟩|h
        ·exact absurd h h9
        ·exact h
       have hcr:=e5.crash o1 hin2 [];have hx1:(instT { y with disk:=armD y.disk n } at_ x).1.sure=st.next:=by rw[e2];exact hsure
       obtain⟨j,j1,j2,j3,j4,j5,j6,j7,j8,j9,j10,j11,j12,j13⟩:=hcr;replace q7:=q7 j13
       rw[hx1] at j1;have hj:j=R.length:=by omega
       have hyn2:(openT (crashT (instT { y with disk:=armD y.disk n } at_ x).1.disk [])).1.next=st.next:=by rw[j9];omega
       rw[hj,List.take_length] at j4;have hf1:=(floor_ok hoz).1;have hf2:=hwz.floor;have hf3:=j4.floor;have s1:=q8 _ j12 st.next (by omega)
       have s2:=rstate_sto { y with disk:=armD y.disk n } hoz (by decide) (by decide) st.next (by omega)
       rw[j4.stT j12 st.next (by omega)] at s1
       rw[hwz.stT hoz st.next (by omega)] at s2
       have s3:=(hwz.st_ok st.next).2.2;have s4:=same05_rfl (stF l0 f R st.next) (by omega)
       rw[hq] at hpa;simp only[parseV] at hpa;have hna2:¬ st.next=at_:=by rw[hnz] at hna;omega
       generalize stF l0 f R st.next=SL at *;clear hwz hoz hinz hcz o1 hin2 h9 q8 hwy hiny hoy hw hok j4 j12 j13 e5 e4 e3 e2 e1 hf1 hf2 hf3;generalize instT { y with disk:=armD y.disk n } at_ x=r at *
       obtain⟨x',e⟩:=r;simp only at e10 hx1 q5 q6 q7 j3 hyn2 s1;obtain⟨rfl,e10⟩:=e10;generalize openT (crashT x'.disk [])=r2 at *;generalize crashT x'.disk []=d2 at *;generalize armD y.disk n=dz at *;obtain⟨y2,e2⟩:=r2;simp only at j3 hyn2 s1;subst j3;obtain⟨⟨yf,yc,ya,yl,yd⟩,yv,ys,yn,yu,yz,ym⟩:=y;obtain⟨zf,zc,za,zl,zd⟩:=dz;obtain⟨f2,c2,a2,l2,dn2⟩:=d2;obtain⟨⟨xf,xc,xa,xl,xd⟩,xv,xs,xn,xu,xz,xm⟩:=x';simp only at k5' hsure hny hcy;subst hsure hny;simp only[stoV,hcell,Dsk.l,hyn2,List.map_nil] at q3 q4 q5 q6 q7 s1 s2;subst k5';(simp(disch:=first|decide|omega|(intros;exact Eq.trans rfl rfl)|simp only[puri]) only[wkf,a5,q1,q2,decide_eq_false k1,decide_eq_false k2,q3,k4,q4,q5,q6,q7,hn3,hpa,hna2,s1,s2,s4,List.length_map,go_sem,seval,dis])
       try simp[trim]
      ·have hcr:=e2.crash o1 hin2 [];obtain⟨j,j1,j2,j3,j4,j5,j6,j7,j8,j9,j10,j11,j12,j13⟩:=hcr;replace q7:=q7 j13
       have hj:j=0:=by simpa using j2
       have hyn2:(openT (crashT (instT { y with disk:=armD y.disk n } at_ x).1.disk [])).1.next=at_:=by rw[j9,hj];omega
       have hf3:=j4.floor;have s1:=q8 _ j12 at_ (by omega)
       rw[hj,List.take_zero] at j4;have hq0:stF q at_ [] at_=q:=by simp[stF,foldP]
       rw[j4.stT j12 at_ (by omega),hq0] at s1
       have hql:=(j4.st_ok at_).2.2;rw[hq0] at hql;have s4:=same05_rfl q (by omega)
       rw[hq] at hpa;simp only[parseV] at hpa;clear hwz hoz hinz hcz o1 hin2 h9 q8 hwy hiny hoy hw hok j4 j12 j13 e5 e4 e3 e2 hf3;generalize instT { y with disk:=armD y.disk n } at_ x=r at *
       obtain⟨x',e⟩:=r;simp only at e1 q5 q6 q7 j3 hyn2 s1;have he1:¬ e=1:=by
        rcases e1 with⟨h,_⟩|⟨h,_⟩
        ·omega
        ·omega
       clear e1;generalize openT (crashT x'.disk [])=r2 at *;generalize crashT x'.disk []=d2 at *;generalize armD y.disk n=dz at *;obtain⟨y2,e2⟩:=r2;simp only at j3 hyn2 s1;subst j3;obtain⟨⟨yf,yc,ya,yl,yd⟩,yv,ys,yn,yu,yz,ym⟩:=y;obtain⟨zf,zc,za,zl,zd⟩:=dz;obtain⟨f2,c2,a2,l2,dn2⟩:=d2;obtain⟨⟨xf,xc,xa,xl,xd⟩,xv,xs,xn,xu,xz,xm⟩:=x';simp only at k5' hsure hny hcy;subst hsure hny;simp only[stoV,hcell,Dsk.l,hyn2,List.map_nil] at q3 q4 q5 q6 q7 s1;subst k5';(simp(disch:=first|decide|omega|(intros;exact Eq.trans rfl rfl)|simp only[puri]) only[wkf,a5,q1,q2,decide_eq_false k1,decide_eq_false k2,q3,k4,q4,q5,q6,q7,hn3,hpa,he1,s1,s4,List.length_map,go_sem,seval,dis])
       try simp[trim]
theorem installCrash_pure (xs:List V) (h:wfAs [(true,[.i .u8,.l [.i .i64,.i .i64,.i .i64,.s],.i .i64,.s]),(false,[.i .u8])] xs):call 5 xs []=some (vb true,[]):=by
 simp only[wfAs,wfA] at h;obtain⟨_,_,rfl,⟨d,rfl,hd⟩,_,_,rfl,⟨e,rfl,he⟩,rfl⟩:=h;simp only[wfRow,wfT] at hd he;obtain⟨_,_,e1,⟨b,rfl,a1,a2⟩,_,_,e2,⟨rows,rfl,hl,hr⟩,_,_,e3,⟨o,rfl,b1,b2⟩,_,_,e4,⟨s,rfl,c1⟩,rfl⟩:=hd;obtain⟨_,_,e5,⟨z,rfl,z1,z2⟩,rfl⟩:=he;subst e1 e2 e3 e4;cases e5;obtain⟨l,rfl,ha⟩:=rows_map Ac.of rows hr;have a1':0<=b:=Int.le_trans (by decide) a1
 have a2':b<256:=Int.lt_of_le_of_lt a2 (by decide)
 have b1' : -9223372036854775808<=o:=Int.le_trans (by decide) b1
 have b2':o<9223372036854775808:=Int.lt_of_le_of_lt b2 (by decide)
 have z1':0<=z:=Int.le_trans (by decide) z1
 have z2':z<256:=Int.lt_of_le_of_lt z2 (by decide)
 have eb:((b.toNat:Nat):Int)=b:=Int.toNat_of_nonneg a1';have ez:((z.toNat:Nat):Int)=z:=Int.toNat_of_nonneg z1';have:=crash15 b.toNat (by omega) l (by simpa using hl) ha o ⟨b1',b2'⟩ s z.toNat (by omega)
 rw[eb,ez] at this;exact this
end Go.Proofs.YthlnpioogbmogaaGreat
