import Derived.Test.YtghfhomfppbooaaGreatT07
import Derived.Test.YtghfhomfppbooaaGreatVid
set_option linter.unusedSimpArgs false
set_option linter.unusedVariables false
namespace Go.Proofs.YtghfhomfppbooaaGreat
open Go.Vi
theorem sJ (b:Txt):∀ (k:Nat) (s:Nat × Bool),cz b (k+1) s=((cz b k s).1++[((ej b (cz b k s).2).1:Int)],(ej b (cz b k s).2).2)
 | 0,s=>by simp[cz]
 | k+1,s=>by
  rw[cz,sJ b k (ej b s).2];simp[cz]
theorem ug (b:Txt):∀ (k:Nat) (s:Nat × Bool),s.1<=b.length->(cz b k s).2.1<=b.length∧(cz b k s).1.length=k
 | 0,s,h=>⟨h,rfl⟩
 | k+1,s,h=>by
  have:=ug b k (ej b s).2 (mc b s h).1;exact⟨this.1,by simp[cz,this.2]⟩
def AA:Option Man->V
 | some m=>Cj m
 | none=>tO 3
theorem AT (b:Txt) (hb:b.length<=1000000) (s:Nat × Bool) (hs:s.1<=1000000) (B0 B2:Box):az call 102 [.one (.p 1 0)] [B0,.cells (DE b s),B2]=some (vi (ej b s).1,[B0,.cells (DE b (ej b s).2),B2]) :=
 aU (ids:=[1]) rfl rfl rfl (fR b hb s hs) rfl
set_option maxRecDepth 8000 in
set_option maxHeartbeats 4000000 in
theorem De (s:Txt) (hs:s.length<=1000000):∃ Z,call 55 [vs s] []=some (Z,[])∧(∀ m,j4 s=some m->Z=Cj m)∧(j4 s=none->∃ e,e≠0∧Z=tO e):=by
 have q0:=uQ s 0 (by decide) (by omega)
 have z0:((0:Nat):Int)=0:=rfl;rw[z0] at q0;have hbl:=nS s 0;rw[<- F0];unfold EZ;generalize cr s 0=nn at *;obtain⟨b,nx,e⟩:=nn;simp only[cW] at q0 hbl ⊢;by_cases he:e=0
 ·subst he;rw[if_neg (by simp)]
  obtain⟨bad,hbad⟩:∃ bad:Bool,bad=decide ((nx:Int)≠(s.length:Nat)):=⟨_,rfl⟩;rw[<- hbad];have hw:((nx:Int) != ((s.length:Nat):Int))=bad:=by rw[hbad];by_cases c:(nx:Int)=((s.length:Nat):Int) <;> simp[c]
  refine⟨AA (tr b bad),?_,fun m h=>by rw[h];rfl,fun h=>⟨3,by decide,by rw[h];rfl⟩⟩
  generalize hZ:AA (tr b bad)=Z;have l1:=mc b (0,bad) (Nat.zero_le _);have p1:=fR b (by omega) (0,bad) (Nat.zero_le _)
  unfold tr at hZ;simp only at hZ;generalize hr1:ej b (0,bad)=r1 at *;have l2:=mc b r1.2 l1.1;have p2:=AT b (by omega) r1.2 (by omega)
  generalize hr2:ej b r1.2=r2 at *;obtain⟨v,a1,b1⟩:=r1;obtain⟨n,a2,b2⟩:=r2;have p1':∀ B0:Box,az call 102 [.one (.p 1 0)] [B0,.cells [.d (.s b),.d (.i .i64 0),.d (.b bad)]]=some (vi v,[B0,.cells [.d (.s b),.d (.i .i64 a1),.d (.b b1)]]):=fun B0 =>
   aU (ids:=[1]) rfl rfl rfl p1 rfl
  simp only[DE] at p1' p2 l1 l2 hZ;apply ai PS rfl;by_cases cn:64<n
  ·have cn':(64:Int)<(n:Int):=by omega
   rw[if_pos cn] at hZ;simp only[AA] at hZ;rw[<- hZ];(simp(disch:=first|decide|omega|(intros;exact rfl)|simp only[aa]) only[aS,Jg,q0,hw,p1',p2,decide_eq_true cn',go_sem,seval,aq])
   try simp[trim,tO,qG]
  ·have cn':¬ (64:Int)<(n:Int):=by omega
   rw[if_neg cn] at hZ;(simp(disch:=first|decide|omega|(intros;exact rfl)|simp only[aa]) only[aS,Jg,q0,hw,p1',p2,decide_eq_false cn',go_sem,seval,aq])
   have hl3:=fun i=>ug b i (a2,b2) l2.1
   refine aI (m:=0) (σ:=Option Nat) (fun t=>match t with|none=>n+1|some i=>n-i) (fun t=>match t with|none=>True|some i=>i+1<=n) (fun t=>match t with|none=>[V.one (.p 0 0),V.one (.p 1 0),V.one (.p 2 0),vi n,vi 0]|some i=>[V.one (.p 0 0),V.one (.p 1 0),V.one (.p 2 0),vi n,vi ((i+1:Nat):Int)])
    (fun t=>match t with|none=>[.cells [.d (.i .i64 0),.ns,.d (.i .i64 0),.d (.i .u32 0)],.cells [.d (.s b),.d (.i .i64 a2),.d (.b b2)],.cells [.d (.i .i64 v),.ns,.d (.i .i64 0),.d (.i .u32 0)]]|some i=>[.cells [.d (.i .i64 0),.ns,.d (.i .i64 0),.d (.i .u32 0)],.cells [.d (.s b),.d (.i .i64 (cz b (i+1) (a2,b2)).2.1),.d (.b (cz b (i+1) (a2,b2)).2.2)],.cells [.d (.i .i64 v),.sl 3 1 0 (i+1),.d (.i .i64 0),.d (.i .u32 0)],.arr 1 ((cz b (i+1) (a2,b2)).1.map eI) 0]) (fun _=>(Z,[])) ?_ none trivial _ _ ?_
   rotate_left
   ·exact cG
   intro t hi R hR;cases t with
   | none =>
    simp only;by_cases c:0<n
    ·have ci:(0:Int)<(n:Int):=by omega
     have hK:=hR (some 0) (by simp only[];omega) (by simp only[];omega)
     have p3:=fR b (by omega) (a2,b2) (by simp only[];omega)
     simp only[cz,DE,List.map_cons,List.map_nil,eI] at p3 hK;generalize ej b (a2,b2)=r at *;obtain⟨w,a3,b3⟩:=r;simp only at p3 hK;have f1:∀ B0 B2:Box,mJ call 102 [.one (.p 1 0)] [B0,.cells [.d (.s b),.d (.i .i64 a2),.d (.b b2)],B2]=some (vi w,[B0,.cells [.d (.s b),.d (.i .i64 a3),.d (.b b3)],B2]):=fun B0 B2 =>
      Be (ids:=[1]) rfl rfl rfl (aU (ids:=[0]) rfl rfl rfl p3 rfl) rfl
     clear hR hZ;(simp(disch:=first|decide|omega|(intros;exact rfl)|simp only[aa]) only[aS,qp,ci,↓Bo,f1,↓qi,GZ,↓pa,zY,go_sem,seval,aq,cw,A.kind,A.xs,aP,A.isN])
     exact hK _ _ cG
    ·have hn0:n=0:=by omega
     subst hn0;clear hR;have l4:=mc b (a2,b2) l2.1;have p4:=fR b (by omega) (a2,b2) (by simp only[];omega)
     simp only[cz] at hZ;have p5:=uJ b (by omega) (ej b (a2,b2)).2 l4.1
     rcases hq:ej b (a2,b2) with⟨w,a3,b3⟩;simp only[hq] at hZ p4 p5 l4;rcases hq2:s0 b (a3,b3) with⟨sm,a4,b4⟩;simp only[hq2] at hZ p5;clear hq hq2;have hmr:=jZ ⟨v,[],w,sm⟩ (by simp)
     have hmb:manB ⟨v,[],w,sm⟩=false:=by simp[manB]
     rw[hmb] at hZ hmr;rw[if_neg (by simp)] at hZ
     simp only[DE,Man.l,List.map_nil] at p4 p5 hmr;have f4:∀ B0 B2:Box,az call 102 [.one (.p 1 0)] [B0,.cells [.d (.s b),.d (.i .i64 a2),.d (.b b2)],B2]=some (vi w,[B0,.cells [.d (.s b),.d (.i .i64 a3),.d (.b b3)],B2]):=fun B0 B2=>aU (ids:=[1]) rfl rfl rfl p4 rfl
     have f5:∀ B0 B2:Box,az call 103 [.one (.p 1 0)] [B0,.cells [.d (.s b),.d (.i .i64 a3),.d (.b b3)],B2]=some (vk .u32 sm,[B0,.cells [.d (.s b),.d (.i .i64 a4),.d (.b b4)],B2]):=fun B0 B2=>aU (ids:=[1]) rfl rfl rfl p5 rfl
     simp only[AA] at hZ;rw[<- hZ];cases b4 with
     | true =>
      (simp(disch:=first|decide|omega|(intros;exact rfl)|simp only[aa]) only[aS,qp,Jg,f4,f5,go_sem,seval,aq,cw,A.kind,A.xs,aP,A.isN])
      try simp[trim,tO,qG]
     | false =>
      (simp(disch:=first|decide|omega|(intros;exact rfl)|simp only[aa]) only[aS,qp,Jg,f4,f5,hmr,go_sem,seval,aq,cw,A.kind,A.xs,aP,A.isN])
      try simp[trim,tO,qG]
   | some i =>
    simp only;by_cases c:i+1<n
    ·have ci:((i+1:Nat):Int)<(n:Int):=by omega
     have hK:=hR (some (i+1)) (by simp only[];omega) (by simp only[];omega)
     have hl4:=hl3 (i+1);have p3:=fR b (by omega) (cz b (i+1) (a2,b2)).2 (by omega)
     simp only[sJ b (i+1),List.map_append,List.map_cons,List.map_nil] at hK;have hml:((cz b (i+1) (a2,b2)).1.map eI).length=i+1:=by simp[hl4.2]
     clear hR hZ hl3;generalize (cz b (i+1) (a2,b2)).1.map eI=Q at *;generalize (cz b (i+1) (a2,b2)).2=r0 at *;generalize ej b r0=r at *;obtain⟨w,a4,b4⟩:=r;obtain⟨a3,b3⟩:=r0;simp only[DE,eI] at p3 hK ⊢;have f1:∀ B0 B2 B3:Box,mJ call 102 [.one (.p 1 0)] [B0,.cells [.d (.s b),.d (.i .i64 a3),.d (.b b3)],B2,B3]=some (vi w,[B0,.cells [.d (.s b),.d (.i .i64 a4),.d (.b b4)],B2,B3]):=fun B0 B2 B3 =>
      Be (ids:=[1]) rfl rfl rfl (aU (ids:=[0]) rfl rfl rfl p3 rfl) rfl
     (simp(disch:=first|decide|omega|(intros;exact rfl)|simp only[aa]) only[aS,qp,ci,↓Bo,f1,hml,↓pa,zY,go_sem,seval,aq,cw,A.kind,A.xs,aP,A.isN])
     exact hK _ _ cG
    ·have ci:¬ ((i+1:Nat):Int)<(n:Int):=by omega
     have hin:i+1=n:=by omega
     rw[hin];have hl4:=hl3 n;clear hR hl3 hi c;obtain⟨Q,hQ⟩:∃ Q,Q=cz b n (a2,b2):=⟨_,rfl⟩;rw[<- hQ] at hZ hl4 ⊢;obtain⟨sg,a3,b3⟩:=Q;simp only at hZ hl4 ⊢;have l4:=mc b (a3,b3) hl4.1;have p4:=fR b (by omega) (a3,b3) (by simp only[];omega)
     have p5:=uJ b (by omega) (ej b (a3,b3)).2 l4.1
     rcases hq:ej b (a3,b3) with⟨w,a4,b4⟩;simp only[hq] at hZ p4 p5 l4;rcases hq2:s0 b (a4,b4) with⟨sm,a5,b5⟩;simp only[hq2] at hZ p5;clear hq hq2;have hmr:=jZ ⟨v,sg,w,sm⟩ (by simp only[];omega)
     simp only[DE,Man.l] at p4 p5 hmr hZ;have f4:∀ B0 B2 B3:Box,az call 102 [.one (.p 1 0)] [B0,.cells [.d (.s b),.d (.i .i64 a3),.d (.b b3)],B2,B3]=some (vi w,[B0,.cells [.d (.s b),.d (.i .i64 a4),.d (.b b4)],B2,B3]):=fun B0 B2 B3=>aU (ids:=[1]) rfl rfl rfl p4 rfl
     have f5:∀ B0 B2 B3:Box,az call 103 [.one (.p 1 0)] [B0,.cells [.d (.s b),.d (.i .i64 a4),.d (.b b4)],B2,B3]=some (vk .u32 sm,[B0,.cells [.d (.s b),.d (.i .i64 a5),.d (.b b5)],B2,B3]):=fun B0 B2 B3=>aU (ids:=[1]) rfl rfl rfl p5 rfl
     have hml:(sg.map eI).length=n:=by simp[hl4.2]
     have htk:List.take n (sg.map eI)=sg.map eI:=List.take_of_length_le (by omega)
     cases b5 with
     | true =>
      rw[if_neg (by simp)] at hZ
      simp only[AA] at hZ;rw[<- hZ];(simp(disch:=first|decide|omega|(intros;exact rfl)|simp only[aa]) only[aS,qp,Jg,ci,f4,f5,go_sem,seval,aq,cw,A.kind,A.xs,aP,A.isN])
      try simp[trim,tO,qG]
     | false =>
      generalize hmbv:manB ⟨v,sg,w,sm⟩=mb at *;cases mb with
      | false =>
       rw[if_neg (by simp)] at hZ
       simp only[AA] at hZ;rw[<- hZ];(simp(disch:=first|decide|omega|(intros;exact rfl)|simp only[aa]) only[aS,qp,Jg,ci,f4,f5,hmr,hml,htk,go_sem,seval,aq,cw,A.kind,A.xs,aP,A.isN])
       try simp[trim,tO,qG]
      | true =>
       rw[if_pos (by simp)] at hZ
       simp only[AA] at hZ;rw[<- hZ];(simp(disch:=first|decide|omega|(intros;exact rfl)|simp only[aa]) only[aS,qp,Jg,ci,f4,f5,hmr,hml,htk,go_sem,seval,aq,cw,A.kind,A.xs,aP,A.isN])
       try simp[trim,Cj,Man.l]
 ·rw[if_pos he];refine⟨tO e,?_,fun m h=>(by cases h),fun _=>⟨e,he,rfl⟩⟩
  apply ai PS rfl;(simp(disch:=first|decide|omega|(intros;exact rfl)|simp only[aa]) only[aS,Jg,q0,he,go_sem,seval,aq])
  try simp[trim,tO,qG]
def dH (d:Dsk) (b:Int):Seg × Int:=(⟨b,(cU (aC d.files (fileN b)).1 b).1.length,(cU (aC d.files (fileN b)).1 b).2.1⟩,(cU (aC d.files (fileN b)).1 b).2.2)
def dg (d:Dsk):List Int->Option (List Seg)
 | []=>some []
 | b::r=>if(aC d.files (fileN b)).2≠0 then none else match r with
  | []=>some [(dH d b).1]
  | c::_=>if(dH d b).2≠0∨b+(dH d b).1.n≠c then none else(dg d r).map ((dH d b).1 :: ·)
def uR (d:Dsk) (out:List Seg) (r:List Int):Option (List Seg):=(dg d r).map (out ++ ·)
theorem fE (d:Dsk) (b:Int) (r:List Int):dg d (b::r)=if(aC d.files (fileN b)).2≠0 then none else match r with
  | []=>some [(dH d b).1]
  | c::_=>if(dH d b).2≠0∨b+(dH d b).1.n≠c then none else(dg d r).map ((dH d b).1 :: ·):=by cases r <;> simp only[dg]
def dK (d:Dsk):Sto:=⟨d,0,[],0,0,0,0⟩
def sH (d:Dsk):Sto × Int:=if(aV [] d).2≠0 then(dK (aV [] d).1,(aV [] d).2) else aR (aV [] d).1
def zO (m:Man):List Txt:=[109]::(if 0<m.segs.headD 0 then[aQ (m.segs.headD 0)] else[])
def dw (m:Man):List Txt:=zO m++m.segs.map fileN
def eY (d:Dsk) (m:Man):Bool:=decide (¬ 0<m.segs.headD 0) || (decide ((aC d.files (aQ (m.segs.headD 0))).2=0) && (decide (((aC d.files (aQ (m.segs.headD 0))).1.length:Int)=m.size) && decide (qP (aC d.files (aQ (m.segs.headD 0))).1=m.sum)))
theorem AW {d:Dsk} {m:Man}:eY d m=true↔(0<m.segs.headD 0->(aC d.files (aQ (m.segs.headD 0))).2=0∧((aC d.files (aQ (m.segs.headD 0))).1.length:Int)=m.size∧qP (aC d.files (aQ (m.segs.headD 0))).1=m.sum):=by
 unfold eY;generalize m.segs.headD 0=h;by_cases c:0<h
 ·simp only[c,not_true,decide_false,Bool.false_or,Bool.and_eq_true,decide_eq_true_eq,forall_const]
 ·simp[c]
def cV (d:Dsk) (g:Seg):Dsk × Int :=
 ee (fileN g.base) (if g.size<((aC d.files (fileN g.base)).1.length:Nat) then au d (kI d.files (fileN g.base) g.size) else(d,0))
def qv (d:Dsk) (m:Man) (gs:List Seg):Sto × Int :=
 if(aV (dw m) d).2≠0 then(dK (aV (dw m) d).1,(aV (dw m) d).2) else
  if(cV (aV (dw m) d).1 (gs.getLastD ⟨0,0,0⟩)).2≠0 then(dK (cV (aV (dw m) d).1 (gs.getLastD ⟨0,0,0⟩)).1,(cV (aV (dw m) d).1 (gs.getLastD ⟨0,0,0⟩)).2) else
   (⟨(cV (aV (dw m) d).1 (gs.getLastD ⟨0,0,0⟩)).1,m.ver,gs,(gs.getLastD ⟨0,0,0⟩).base+(gs.getLastD ⟨0,0,0⟩).n,(gs.getLastD ⟨0,0,0⟩).base+(gs.getLastD ⟨0,0,0⟩).n,m.size,m.sum⟩,0)
def uo (d:Dsk) (m:Man):Sto × Int:=if eY d m=true then(match dg d m.segs with|some gs=>qv d m gs|none=>(dK d,3)) else(dK d,3)
def aJ (d:Dsk):Sto × Int :=
 if d.down=true then(dK d,10) else if(aC d.files [109]).2≠0 then sH d else match j4 (aC d.files [109]).1 with
  | some m=>uo d m
  | none=>(dK d,3)
theorem BR {k u:Nat}:∀ (l:List Txt) (s:Dsk × Int),okN k u s.1->okN k u (wS l s).1
 | [],s,h=>h
 | n::l,s,h=>BR l _ (ft h n)
theorem me {k u:Nat} {d:Dsk} (h:okN k u d) (use:List Txt):okN k u (aV use d).1:=BR _ _ h
theorem Bl {k u:Nat} {d:Dsk} (h:okN k u d) (g:Seg):okN k u (au d (kI d.files (fileN g.base) g.size)).1:=by
 refine ph h fun h0=>?_
 unfold kI at h0 ⊢;split at h0
 ·rename_i hh;rw[if_pos hh];split at h0
  ·cases h0
  ·rename_i hc;rw[if_neg hc];obtain⟨hp,he⟩:=bL hh;refine⟨by rw[vM];exact h.len,iM (mQ _ _ _ (fun _=>rfl)) h.srt,?_⟩
   simp only[gL hp];have hu:=oy d.files _ hp { d.files[aw d.files (fileN g.base)] with data:=d.files[aw d.files (fileN g.base)].data.take g.size.toNat,sure:=if g.size<d.files[aw d.files (fileN g.base)].sure then g.size else d.files[aw d.files (fileN g.base)].sure }
   have:=h.used;simp only[List.length_take] at hu;omega
 ·cases h0
theorem vo {k u:Nat} {d:Dsk} (h:okN k u d) (g:Seg):okN k u (cV d g).1:=by
 unfold cV;refine lU ?_ _;split
 ·exact Bl h g
 ·exact h
theorem HE {l:List Int} (h:1<=l.length):(l.map eI)[0]?=some [.i .i64 (l.headD 0)]:=by
 cases l with
 | nil=>simp at h
 | cons a r=>rfl
theorem pC:∀ (d:Dsk) (l:List Int) (gs:List Seg),dg d l=some gs->gs.length=l.length
 | d,[],gs,h=>by simp only[dg] at h;cases h;rfl
 | d,b::r,gs,h=>by
  rw[fE] at h;split at h
  ·cases h
  ·cases r with
   | nil=>simp only[Option.some.injEq] at h;subst h;rfl
   | cons c r =>
    simp only at h;split at h
    ·cases h
    ·obtain⟨gs',h1,h2⟩:=Option.map_eq_some_iff.1 h;subst h2;rw[List.length_cons,pC d (c::r) gs' h1];rfl
theorem yh {k u:Nat} {d:Dsk} (hd:okN k u d):∀ (l:List Int) (gs:List Seg),dg d l=some gs->∀ g∈gs,g.base∈l∧(0<=g.n∧g.n<=u)∧(0<=g.size)
 | [],gs,h=>by simp only[dg] at h;cases h;simp
 | b::r,gs,h=>by
  have hone:b∈b::r∧(0<=(dH d b).1.n∧(dH d b).1.n<=u)∧0<=(dH d b).1.size:=by
   have:=Nat.le_trans (mH (aC d.files (fileN b)).1 b) (Nat.le_trans (eD _ _) hd.used);refine⟨by simp,⟨?_,?_⟩,?_⟩
   ·show 0<=((_:Nat):Int);omega
   ·show((_:Nat):Int)<=_;omega
   ·show 0<=((_:Nat):Int);omega
  rw[fE] at h;split at h
  ·cases h
  ·cases r with
   | nil=>simp only[Option.some.injEq] at h;subst h;intro g hg;rw[List.mem_singleton.1 hg];exact hone
   | cons c r =>
    simp only at h;split at h
    ·cases h
    ·obtain⟨gs',h1,h2⟩:=Option.map_eq_some_iff.1 h;subst h2;intro g hg;rcases List.mem_cons.1 hg with rfl|hg
     ·exact hone
     ·have:=yh hd (c::r) gs' h1 g hg;exact⟨List.mem_cons_of_mem _ this.1,this.2⟩
abbrev Rows:=List (Txt × Bool)
def ju (d:Dsk) (m:Man) (sg us:L):List L:=[.d (.l (d.files.map Fil.enc)),.d (.i .i64 d.cap),.d (.b d.armed),.d (.i .i64 d.left),.d (.b d.down),.d (.i .i64 m.ver),.d (.l (m.segs.map eI)),.d (.i .i64 m.size),.d (.i .u32 m.sum),sg,us]
theorem rG (rows:Rows) (n u:Txt):lB (dY rows n true) u=(decide (n=u) || lB rows u):=by
 induction rows with
 | nil=>by_cases h:n=u <;> simp[dY,lB,h]
 | cons r t ih =>
  simp only[dY];by_cases h:r.1=n
  ·rw[if_pos h];simp only[lB];by_cases h2:n=u
   ·simp[h2]
   ·have:¬ r.1=u:=fun e=>h2 (h ▸ e)
    simp[h2,this]
  ·rw[if_neg h];simp only[lB,ih];by_cases h2:r.1=u
   ·have:¬ n=u:=fun e=>h (h2.trans e.symm)
    simp[h2,this]
   ·simp[h2]
def uV (m:Man) (rows:Rows):Rows:=if m.segs.headD 0=0 then rows else dY rows (aQ (m.segs.headD 0)) true
set_option maxRecDepth 8000 in
set_option maxHeartbeats 2000000 in
theorem Ao {k u:Nat} (d:Dsk) (hd:okN k u d) (hk:k<=700000) (hu:u<=1000000) (m:Man) (hm:manB m=true) (rows:Rows) :
  call 56 [.one (.p 0 0)] [.cells (ju d m .ns (.m 1)),.mp rows]=some (vb (eY d m),[.cells (ju d m .ns (.m 1)),.mp (uV m rows)]):=by
 have hmb:=dN hm;have hmi:=eB _ _ hmb.2.2.1;have g0:=HE hmb.2.1.1;have hh:0<=m.segs.headD 0∧m.segs.headD 0<=1099511627776:=by
  have hne:=hmb.2.1.1;cases hs:m.segs with
  | nil=>rw[hs] at hne;simp at hne
  | cons b r=>rw[hs] at hmi;have:=hmi b (by simp);simp only[List.headD_cons];omega
 have q3:=EM hh;have q4:=iN d (Nat.le_trans hd.len (by omega)) hd.srt (aQ (m.segs.headD 0))
 have hrl:=eD d.files (aQ (m.segs.headD 0));have hdu:=hd.used;have q5:=C7 (aC d.files (aQ (m.segs.headD 0))).1 (by omega)
 unfold eY uV ju;have hlm:(m.segs.map eI).length=m.segs.length:=by simp
 have hln:1<=m.segs.length:=hmb.2.1.1;generalize m.segs.headD 0=f at *;generalize aQ f=N at *;generalize aC d.files N=rf at *;obtain⟨x,e⟩:=rf;simp only[Dsk.l] at q4 q5 ⊢;apply ai Q4 rfl;by_cases c:f=0
 ·subst c;(simp(disch:=first|decide|omega|(intros;exact rfl)|simp only[aa]) only[aS,Mc,g0,hlm,go_sem,seval,aq,cw,A.kind,A.xs,aP,A.isN])
  try simp[trim,V.refs,L.refs,Box.refs]
 ·have c0:(0<f):=by omega
  rw[if_neg c];by_cases c1:e=0
  ·subst c1;by_cases c2:((x.length:Nat):Int)=m.size
   ·by_cases c3:qP x=m.sum
    ·(simp(disch:=first|decide|omega|(intros;exact rfl)|simp only[aa]) only[aS,Mc,g0,hlm,q3,q4,↓iI,By,vG,dJ,q5,c,eq_true c2,eq_true c3,go_sem,seval,aq,cw,A.kind,A.xs,aP,A.isN])
     simp[trim,V.refs,L.refs,Box.refs,c0,c2,c3]
    ·(simp(disch:=first|decide|omega|(intros;exact rfl)|simp only[aa]) only[aS,Mc,g0,hlm,q3,q4,↓iI,By,vG,dJ,q5,c,eq_true c2,eq_false c3,go_sem,seval,aq,cw,A.kind,A.xs,aP,A.isN])
     simp[trim,V.refs,L.refs,Box.refs,c0,c2,c3]
   ·(simp(disch:=first|decide|omega|(intros;exact rfl)|simp only[aa]) only[aS,Mc,g0,hlm,q3,q4,↓iI,By,vG,dJ,q5,c,eq_false c2,go_sem,seval,aq,cw,A.kind,A.xs,aP,A.isN])
    simp[trim,V.refs,L.refs,Box.refs,c0,c2]
  ·(simp(disch:=first|decide|omega|(intros;exact rfl)|simp only[aa]) only[aS,Mc,g0,hlm,q3,q4,↓iI,By,vG,dJ,q5,c,eq_false c1,go_sem,seval,aq,cw,A.kind,A.xs,aP,A.isN])
   simp[trim,V.refs,L.refs,Box.refs,c0,c1]
def yp (m:Man) (i:Nat):Bool:=decide ((i:Int)=(m.segs.length:Int)-1)
def lu (d:Dsk) (m:Man) (i:Nat) (b:Int):Bool:=yp m i || (decide ((dH d b).2=0) && decide (b+(dH d b).1.n=m.segs.getD (i+1) 0))
set_option maxRecDepth 8000 in
set_option maxHeartbeats 4000000 in
theorem A6 {k u:Nat} (d:Dsk) (hd:okN k u d) (hk:k<=700000) (hu:u<=1000000) (m:Man) (hm:manB m=true) (rows:Rows) (i:Nat) (hi:i<m.segs.length) :
  call 57 [.one (.p 0 0),vi i] [.cells (ju d m .ns (.m 1)),.mp rows] =
   if(aC d.files (fileN (m.segs[i]))).2≠0 then some (vb false,[.cells (ju d m .ns (.m 1)),.mp (dY rows (fileN m.segs[i]) true)])
   else some (vb (lu d m i m.segs[i]),[.cells (ju d m (.sl 3 3 0 1) (.m 1)),.mp (dY rows (fileN m.segs[i]) true),.arr 3 [(dH d m.segs[i]).1.enc] 0,.arr 3 [(dH d m.segs[i]).1.enc] 0]):=by
 have hmb:=dN hm;have hmi:=eB _ _ hmb.2.2.1;have hbi:=hmi _ (List.getElem_mem hi);have g1:(m.segs.map eI)[i]?=some [.i .i64 m.segs[i]]:=by rw[List.getElem?_map,List.getElem?_eq_getElem hi];rfl
 have q1:=rJ (show 0<=m.segs[i]∧m.segs[i]<=1099511627776 by omega)
 have q2:=iN d (Nat.le_trans hd.len (by omega)) hd.srt (fileN m.segs[i])
 have hrl:=eD d.files (fileN m.segs[i]);have hdu:=hd.used;have q3:=uI (aC d.files (fileN m.segs[i])).1 (Nat.le_trans hrl (Nat.le_trans hdu hu)) m.segs[i] (by omega)
 have hsl:=Nat.le_trans (mH (aC d.files (fileN m.segs[i])).1 m.segs[i]) (Nat.le_trans hrl (Nat.le_trans hdu hu));have hlm:(m.segs.map eI).length=m.segs.length:=by simp
 have hml:=hmb.2.1;unfold lu yp dH ju;unfold ir at q3;simp only[Seg.enc] at q3 ⊢;obtain⟨nx,hnx⟩:∃ nx,nx=m.segs.getD (i+1) 0:=⟨_,rfl⟩;have g2:i+1<m.segs.length->(m.segs.map eI)[i+1]?=some [.i .i64 nx]:=fun h=>by
  rw[List.getElem?_map,List.getElem?_eq_getElem h,hnx,List.getD_eq_getElem?_getD,List.getElem?_eq_getElem h];rfl
 rw[<- hnx];obtain⟨ml,hmle⟩:∃ ml,ml=m.segs.length:=⟨_,rfl⟩;rw[<- hmle] at hlm hml hi g2 ⊢;generalize m.segs[i]=b at *;generalize fileN b=N at *;generalize aC d.files N=rf at *;obtain⟨x,e⟩:=rf;simp only at q2 q3 hsl hrl ⊢;generalize cU x b=sc at *;obtain⟨sl,sa,se⟩:=sc;simp only[Dsk.l] at q2 q3 hsl ⊢;have hw0:((0:Int)<=(i:Int)):=by omega
 by_cases c:e=0
 ·subst c;rw[if_neg (by simp)]
  apply ai NR rfl;by_cases c1:(i:Int)=(ml:Int)-1
  ·(simp(disch:=first|decide|omega|(intros;exact rfl)|simp only[aa]) only[aS,Hv,g1,hlm,q1,q2,q3,eq_true c1,List.length_map,go_sem,seval,aq,cw,A.kind,A.xs,aP,A.isN])
   simp[trim,V.refs,L.refs,Box.refs,c1]
  ·have hi2:i+1<ml:=by omega
   have g2':=g2 hi2;have ei:((i:Int)+1).toNat=i+1:=by omega
   by_cases c2:se=0
   ·subst c2;by_cases c3:b+(sl.length:Int)=nx
    ·(simp(disch:=first|decide|omega|(intros;exact rfl)|simp only[aa]) only[aS,Hv,g1,hlm,q1,q2,q3,eq_false c1,ei,g2',eq_true c3,List.length_map,go_sem,seval,aq,cw,A.kind,A.xs,aP,A.isN])
     simp[trim,V.refs,L.refs,Box.refs,c1,c3]
    ·(simp(disch:=first|decide|omega|(intros;exact rfl)|simp only[aa]) only[aS,Hv,g1,hlm,q1,q2,q3,eq_false c1,ei,g2',eq_false c3,List.length_map,go_sem,seval,aq,cw,A.kind,A.xs,aP,A.isN])
     simp[trim,V.refs,L.refs,Box.refs,c1,c3]
   ·(simp(disch:=first|decide|omega|(intros;exact rfl)|simp only[aa]) only[aS,Hv,g1,hlm,q1,q2,q3,eq_false c1,ei,g2',eq_false c2,List.length_map,go_sem,seval,aq,cw,A.kind,A.xs,aP,A.isN])
    simp[trim,V.refs,L.refs,Box.refs,c1,c2]
 ·rw[if_pos c];apply ai NR rfl;(simp(disch:=first|decide|omega|(intros;exact rfl)|simp only[aa]) only[aS,Hv,g1,hlm,q1,q2,eq_false c,go_sem,seval,aq,cw,A.kind,A.xs,aP,A.isN])
  simp[trim,V.refs,L.refs,Box.refs]
set_option maxRecDepth 8000 in
set_option maxHeartbeats 4000000 in
theorem As {k u:Nat} (d:Dsk) (hd:okN k u d) (hk:k<=700000) (hu:u<=1000000) (m:Man) (hm:manB m=true) (rows:Rows) (i:Nat) (hi:i<m.segs.length) (gs:List Seg) (hgl:gs.length<=64) :
  call 57 [.one (.p 0 0),vi i] [.cells (ju d m (.sl 1 3 0 gs.length) (.m 2)),.arr 3 (gs.map Seg.enc) 0,.mp rows] =
   if(aC d.files (fileN (m.segs[i]))).2≠0 then some (vb false,[.cells (ju d m (.sl 1 3 0 gs.length) (.m 2)),.arr 3 (gs.map Seg.enc) 0,.mp (dY rows (fileN m.segs[i]) true)])
   else some (vb (lu d m i m.segs[i]),[.cells (ju d m (.sl 4 3 0 (gs.length+1)) (.m 2)),.dead,.mp (dY rows (fileN m.segs[i]) true),.arr 3 [(dH d m.segs[i]).1.enc] 0,.arr 3 (gs.map Seg.enc++[(dH d m.segs[i]).1.enc]) 0]):=by
 have hmb:=dN hm;have hmi:=eB _ _ hmb.2.2.1;have hbi:=hmi _ (List.getElem_mem hi);have g1:(m.segs.map eI)[i]?=some [.i .i64 m.segs[i]]:=by rw[List.getElem?_map,List.getElem?_eq_getElem hi];rfl
 have q1:=rJ (show 0<=m.segs[i]∧m.segs[i]<=1099511627776 by omega)
 have q2:=iN d (Nat.le_trans hd.len (by omega)) hd.srt (fileN m.segs[i])
 have hrl:=eD d.files (fileN m.segs[i]);have hdu:=hd.used;have q3:=uI (aC d.files (fileN m.segs[i])).1 (Nat.le_trans hrl (Nat.le_trans hdu hu)) m.segs[i] (by omega)
 have hsl:=Nat.le_trans (mH (aC d.files (fileN m.segs[i])).1 m.segs[i]) (Nat.le_trans hrl (Nat.le_trans hdu hu));have hlm:(m.segs.map eI).length=m.segs.length:=by simp
 have hml:=hmb.2.1;have hgm:(gs.map Seg.enc).length=gs.length:=by simp
 generalize gs.map Seg.enc=G at *;generalize gs.length=gl at *;unfold lu yp dH ju;unfold ir at q3;simp only[Seg.enc] at q3 ⊢;obtain⟨nx,hnx⟩:∃ nx,nx=m.segs.getD (i+1) 0:=⟨_,rfl⟩;have g2:i+1<m.segs.length->(m.segs.map eI)[i+1]?=some [.i .i64 nx]:=fun h=>by
  rw[List.getElem?_map,List.getElem?_eq_getElem h,hnx,List.getD_eq_getElem?_getD,List.getElem?_eq_getElem h];rfl
 rw[<- hnx];obtain⟨ml,hmle⟩:∃ ml,ml=m.segs.length:=⟨_,rfl⟩;rw[<- hmle] at hlm hml hi g2 ⊢;generalize m.segs[i]=b at *;generalize fileN b=N at *;generalize aC d.files N=rf at *;obtain⟨x,e⟩:=rf;simp only at q2 q3 hsl hrl ⊢;generalize cU x b=sc at *;obtain⟨sl,sa,se⟩:=sc;simp only[Dsk.l] at q2 q3 hsl ⊢;have hw0:((0:Int)<=(i:Int)):=by omega
 by_cases c:e=0
 ·subst c;rw[if_neg (by simp)]
  apply ai NR rfl;by_cases c1:(i:Int)=(ml:Int)-1
  ·(simp(disch:=first|decide|omega|(intros;exact rfl)|simp only[aa]) only[aS,Hv,g1,hlm,q1,q2,q3,eq_true c1,hgm,List.length_map,go_sem,seval,aq,cw,A.kind,A.xs,aP,A.isN])
   simp[trim,V.refs,L.refs,Box.refs,c1]
  ·have hi2:i+1<ml:=by omega
   have g2':=g2 hi2;have ei:((i:Int)+1).toNat=i+1:=by omega
   by_cases c2:se=0
   ·subst c2;by_cases c3:b+(sl.length:Int)=nx
    ·(simp(disch:=first|decide|omega|(intros;exact rfl)|simp only[aa]) only[aS,Hv,g1,hlm,q1,q2,q3,eq_false c1,ei,g2',eq_true c3,hgm,List.length_map,go_sem,seval,aq,cw,A.kind,A.xs,aP,A.isN])
     simp[trim,V.refs,L.refs,Box.refs,c1,c3]
    ·(simp(disch:=first|decide|omega|(intros;exact rfl)|simp only[aa]) only[aS,Hv,g1,hlm,q1,q2,q3,eq_false c1,ei,g2',eq_false c3,hgm,List.length_map,go_sem,seval,aq,cw,A.kind,A.xs,aP,A.isN])
     simp[trim,V.refs,L.refs,Box.refs,c1,c3]
   ·(simp(disch:=first|decide|omega|(intros;exact rfl)|simp only[aa]) only[aS,Hv,g1,hlm,q1,q2,q3,eq_false c1,ei,g2',eq_false c2,hgm,List.length_map,go_sem,seval,aq,cw,A.kind,A.xs,aP,A.isN])
    simp[trim,V.refs,L.refs,Box.refs,c1,c2]
 ·rw[if_pos c];apply ai NR rfl;(simp(disch:=first|decide|omega|(intros;exact rfl)|simp only[aa]) only[aS,Hv,g1,hlm,q1,q2,eq_false c,hgm,go_sem,seval,aq,cw,A.kind,A.xs,aP,A.isN])
  simp[trim,V.refs,L.refs,Box.refs]
theorem CM {k u:Nat} (d:Dsk) (hd:okN k u d) (hk:k<=700000) (hu:u<=1000000) (m:Man) (hm:manB m=true) (rows:Rows) (i:Nat) (hi:i<m.segs.length) :
  az call 57 [.one (.p 0 0),vi i] [.cells (ju d m .ns (.m 1)),.mp rows] =
   if(aC d.files (fileN (m.segs[i]))).2≠0 then some (vb false,[.cells (ju d m .ns (.m 1)),.mp (dY rows (fileN m.segs[i]) true)])
   else some (vb (lu d m i m.segs[i]),[.cells (ju d m (.sl 3 3 0 1) (.m 1)),.mp (dY rows (fileN m.segs[i]) true),.arr 3 [(dH d m.segs[i]).1.enc] 0,.arr 3 [(dH d m.segs[i]).1.enc] 0]):=by
 have p:=A6 d hd hk hu m hm rows i hi;by_cases c:(aC d.files (fileN (m.segs[i]))).2=0
 ·rw[if_neg (by simp[c])] at p ⊢
  exact aU (ids:=[0,1]) rfl rfl rfl p rfl
 ·rw[if_pos c] at p ⊢;exact aU (ids:=[0,1]) rfl rfl rfl p rfl
theorem DD {k u:Nat} (d:Dsk) (hd:okN k u d) (hk:k<=700000) (hu:u<=1000000) (m:Man) (hm:manB m=true) (rows:Rows) (i:Nat) (hi:i<m.segs.length) (gs:List Seg) (hgl:gs.length<=64) :
  az call 57 [.one (.p 0 0),vi i] [.cells (ju d m (.sl 1 3 0 gs.length) (.m 2)),.arr 3 (gs.map Seg.enc) 0,.mp rows] =
   if(aC d.files (fileN (m.segs[i]))).2≠0 then some (vb false,[.cells (ju d m (.sl 1 3 0 gs.length) (.m 2)),.arr 3 (gs.map Seg.enc) 0,.mp (dY rows (fileN m.segs[i]) true)])
   else some (vb (lu d m i m.segs[i]),[.cells (ju d m (.sl 4 3 0 (gs.length+1)) (.m 2)),.dead,.mp (dY rows (fileN m.segs[i]) true),.arr 3 [(dH d m.segs[i]).1.enc] 0,.arr 3 (gs.map Seg.enc++[(dH d m.segs[i]).1.enc]) 0]):=by
 have p:=As d hd hk hu m hm rows i hi gs hgl;by_cases c:(aC d.files (fileN (m.segs[i]))).2=0
 ·rw[if_neg (by simp[c])] at p ⊢
  exact aU (ids:=[0,1,2]) rfl rfl rfl p rfl
 ·rw[if_pos c] at p ⊢;exact aU (ids:=[0,1,2]) rfl rfl rfl p rfl
def mq (d:Dsk):List L:=[.d (.l (d.files.map Fil.enc)),.d (.i .i64 d.cap),.d (.b d.armed),.d (.i .i64 d.left),.d (.b d.down),.d (.i .i64 0),.ns,.d (.i .i64 0),.d (.i .u32 0),.ns,.nm]
def Nb (d:Dsk) (m:Man) (gs:List Seg) (rows:Rows):Hp:=match gs with
 | []=>[.cells (ju d m .ns (.m 1)),.mp rows]
 | g::r=>[.cells (ju d m (.sl 1 3 0 (r.length+1)) (.m 2)),.arr 3 ((g::r).map Seg.enc) 0,.mp rows]
theorem IJ (d:Dsk) (m:Man) (gs:List Seg) (x:Seg) (rows:Rows):Nb d m (gs++[x]) rows=[.cells (ju d m (.sl 1 3 0 (gs.length+1)) (.m 2)),.arr 3 (gs.map Seg.enc++[x.enc]) 0,.mp rows]:=by
 cases gs with
 | nil=>rfl
 | cons g r =>
  have e:Nb d m ((g::r)++[x]) rows=[.cells (ju d m (.sl 1 3 0 ((r++[x]).length+1)) (.m 2)),.arr 3 ((g::(r++[x])).map Seg.enc) 0,.mp rows]:=rfl;rw[e];simp
theorem GR (d:Dsk) (m:Man) (gs:List Seg) (rows:Rows) (h:1<=gs.length):Nb d m gs rows=[.cells (ju d m (.sl 1 3 0 gs.length) (.m 2)),.arr 3 (gs.map Seg.enc) 0,.mp rows]:=by
 cases gs with
 | nil=>simp at h
 | cons g r=>rfl
def qc (d:Dsk) (m:Man) (z:V × Hp):Prop:=match dg d m.segs with
 | some gs=>∃ rows:Rows,(∀ u,lB rows u=fZ (dw m) u)∧z=(vb true,[.cells (ju d m (.sl 1 3 0 gs.length) (.m 2)),.arr 3 (gs.map Seg.enc) 0,.mp rows])
 | none=>∃ (b:Box) (T:Hp),z=(vb false,b::T)
theorem zM (d:Dsk) (m:Man) (gs:List Seg) (h:gs.length<m.segs.length) (hi:uR d gs (m.segs.drop gs.length)=dg d m.segs) :
  ((aC d.files (fileN m.segs[gs.length])).2≠0->dg d m.segs=none) ∧
  ((aC d.files (fileN m.segs[gs.length])).2=0->lu d m gs.length m.segs[gs.length]=false->dg d m.segs=none) ∧
  ((aC d.files (fileN m.segs[gs.length])).2=0->lu d m gs.length m.segs[gs.length]=true->uR d (gs++[(dH d m.segs[gs.length]).1]) (m.segs.drop (gs.length+1))=dg d m.segs):=by
 rw[<- hi,List.drop_eq_getElem_cons h];unfold uR;rw[fE];refine⟨fun c=>by rw[if_pos c];rfl,fun c1 c2=>?_,fun c1 c2=>?_⟩
 ·rw[if_neg (by simp[c1])]
  unfold lu yp at c2;simp only[Bool.or_eq_false_iff,Bool.and_eq_false_iff,decide_eq_false_iff_not] at c2;have h2:gs.length+1<m.segs.length:=by omega
  rw[List.drop_eq_getElem_cons h2];simp only;rw[List.getD_eq_getElem?_getD,List.getElem?_eq_getElem h2] at c2;rw[if_pos (by simpa using c2.2)]
  try rfl
 ·rw[if_neg (by simp[c1])]
  unfold lu yp at c2;simp only[Bool.or_eq_true,Bool.and_eq_true,decide_eq_true_eq] at c2;by_cases h2:gs.length+1<m.segs.length
  ·rcases c2 with c2|c2
   ·omega
   ·rw[List.getD_eq_getElem?_getD,List.getElem?_eq_getElem h2] at c2;have e:=List.drop_eq_getElem_cons h2;rw[e];simp only;rw[if_neg (by simpa using c2),<- e,Option.map_map]
    congr 1
    funext x
    simp
  ·rw[List.drop_eq_nil_of_le (by omega)]
   simp[dg]
theorem C0 {m:Man} {rows:Rows} {i:Nat} (h:i<m.segs.length) (hr:∀ u,lB rows u=fZ (zO m++(m.segs.take i).map fileN) u):∀ u,lB (dY rows (fileN m.segs[i]) true) u=fZ (zO m++(m.segs.take (i+1)).map fileN) u:=by
 intro u;rw[rG,hr,List.take_succ_eq_append_getElem h,List.map_append,<- List.append_assoc];unfold fZ;rw[List.any_append,List.any_append,List.any_append];simp only[List.map_cons,List.map_nil,List.any_cons,List.any_nil,Bool.or_false];rw[Bool.or_comm]
theorem DT {m:Man} (hh:0<=m.segs.headD 0):∀ u,lB (uV m (dY [] [109] true)) u=fZ (zO m++(m.segs.take 0).map fileN) u:=by
 intro u;unfold uV zO fZ;by_cases c:m.segs.headD 0=0
 ·rw[if_pos c,if_neg (by omega),rG]
  simp[lB]
 ·rw[if_neg c,if_pos (by omega),rG,rG]
  simp[lB,Bool.or_comm]
def FF (d:Dsk) (s:Txt) (z:V × Hp):Prop:=match j4 s with
 | some m=>if eY d m=true then qc d m z else ∃ (b:Box) (T:Hp),z=(vb false,b::T)
 | none=>∃ (b:Box) (T:Hp),z=(vb false,b::T)
set_option maxRecDepth 8000 in
set_option maxHeartbeats 8000000 in
theorem Ae {k u:Nat} (d:Dsk) (hd:okN k u d) (hk:k<=700000) (hu:u<=1000000) (s:Txt) (hs:s.length<=1000000) :
  ∃ z,call 25 [.one (.p 0 0),vs s] [.cells (mq d)]=some z∧FF d s z:=by
 obtain⟨Z,q1,q2,q3⟩:=De s hs;apply Lc Ql rfl;unfold FF;cases hdm:j4 s with
 | none =>
  obtain⟨e,he,rfl⟩:=q3 hdm;unfold tO qG at q1;simp only[mq];(simp(disch:=first|decide|omega|(intros;exact rfl)|simp only[aa]) only[aS,MU,q1,he,go_sem,seval,aq,cw,A.kind,A.xs,aP,A.isN])
  exact⟨_,rfl,_,_,by simp[trim,V.refs,L.refs,Box.refs];exact⟨rfl,rfl⟩⟩
 | some m =>
  have hZ:=q2 m hdm;subst hZ;have hm:=(mo hdm).1;have hmb:=dN hm;have hmi:=eB _ _ hmb.2.2.1;have hne:=hmb.2.1;have hh:0<=m.segs.headD 0:=by
   cases hs:m.segs with
   | nil=>simp
   | cons b r=>rw[hs] at hmi;have:=hmi b (by simp);simp only[List.headD_cons];omega
  have p1:=Ao d hd hk hu m hm (dY [] [109] true);have hrs:=DT hh;have e2:∀ B:Box,az call 56 [.one (.p 0 0)] [.cells (ju d m .ns (.m 2)),B,.mp (dY [] [109] true)]=some (vb (eY d m),[.cells (ju d m .ns (.m 2)),B,.mp (uV m (dY [] [109] true))]):=fun B =>
   aU (ids:=[0,2]) rfl rfl rfl p1 rfl
  have hml:m.l=[.d (.i .i64 m.ver),.d (.l (m.segs.map eI)),.d (.i .i64 m.size),.d (.i .u32 m.sum)]:=rfl;have hlm:(m.segs.map eI).length=m.segs.length:=by simp
  unfold Cj at q1;rw[hml] at q1;simp only[mq];simp only[ju] at e2;generalize uV m (dY [] [109] true)=rw0 at *;cases hso:eY d m with
  | false =>
   rw[hso] at e2;simp only[Bool.false_eq_true,if_false];(simp(disch:=first|decide|omega|(intros;exact rfl)|simp only[aa]) only[aS,MU,q1,e2,go_sem,seval,aq,cw,A.kind,A.xs,aP,A.isN])
   exact⟨_,rfl,_,_,by simp[trim,V.refs,L.refs,Box.refs];exact⟨rfl,rfl⟩⟩
  | true =>
   rw[hso] at e2;simp only[if_true];(simp(disch:=first|decide|omega|(intros;exact rfl)|simp only[aa]) only[aS,MU,q1,e2,hlm,go_sem,seval,aq,cw,A.kind,A.xs,aP,A.isN])
   refine HF (m:=1) (σ:=List Seg × Rows) (fun t=>m.segs.length-t.1.length) (fun t=>t.1.length<=m.segs.length∧uR d t.1 (m.segs.drop t.1.length)=dg d m.segs∧∀ u,lB t.2 u=fZ (zO m++(m.segs.take t.1.length).map fileN) u)
    (fun t=>[.one (.p 0 0),vi m.segs.length,vi t.1.length]) (fun t=>Nb d m t.1 t.2) (qc d m) ?_ ([],rw0) ⟨Nat.zero_le _,by simp[uR],hrs⟩ _ _ ?_
   rotate_left
   ·exact cG
   rintro⟨gs,rows⟩ ⟨h1,h2,h3⟩ R hR;simp only at h1 h2 h3 ⊢;by_cases c:gs.length<m.segs.length
   ·have hc:((gs.length:Nat):Int)<(m.segs.length:Int):=by omega
    have hst:=zM d m gs c h2;have hrw:=C0 c h3;have hR':=hR (gs++[(dH d m.segs[gs.length]).1],dY rows (fileN m.segs[gs.length]) true);simp only[IJ,List.length_append,List.length_cons,List.length_nil,Nat.zero_add] at hR';by_cases h0:gs=[]
    ·subst h0;have hz0:((0:Nat):Int)=0:=rfl;have p2:=CM d hd hk hu m hm rows 0 c;simp only[List.length_nil,Nat.zero_add,List.map_nil,List.nil_append] at hst hrw hR' p2 ⊢;simp only[Nb,ju] at p2 hR' ⊢;simp only[hz0] at p2 hc ⊢;by_cases c1:(aC d.files (fileN m.segs[0])).2=0
     ·rw[if_neg (by simp[c1])] at p2
      cases c2:lu d m 0 m.segs[0] with
      | false =>
       have hno:=hst.2.1 c1 c2;rw[c2] at p2;clear hR hR' hst;generalize dY rows (fileN m.segs[0]) true=rows2 at *;generalize (dH d m.segs[0]).1.enc=x at *;(simp(disch:=first|decide|omega|(intros;exact rfl)|simp only[aa]) only[aS,p7,decide_eq_true hc,p2,go_sem,seval,aq,cw,A.kind,A.xs,aP,A.isN])
       refine⟨_,rfl,?_⟩;unfold qc;rw[hno];exact⟨_,_,by simp[trim,V.refs,L.refs,Box.refs];exact⟨rfl,rfl⟩⟩
      | true =>
       have hyes:=hst.2.2 c1 c2;rw[c2] at p2;have hK:=hR' (by omega) ⟨by omega,hyes,hrw⟩
       clear hR hR' hst hyes hrw;generalize dY rows (fileN m.segs[0]) true=rows2 at *;generalize (dH d m.segs[0]).1.enc=x at *;(simp(disch:=first|decide|omega|(intros;exact rfl)|simp only[aa]) only[aS,p7,decide_eq_true hc,p2,go_sem,seval,aq,cw,A.kind,A.xs,aP,A.isN])
       exact hK _ _ cG
     ·rw[if_pos c1] at p2;have hno:=hst.1 c1;clear hR hR' hst;generalize dY rows (fileN m.segs[0]) true=rows2 at *;(simp(disch:=first|decide|omega|(intros;exact rfl)|simp only[aa]) only[aS,p7,decide_eq_true hc,p2,go_sem,seval,aq,cw,A.kind,A.xs,aP,A.isN])
      refine⟨_,rfl,?_⟩;unfold qc;rw[hno];exact⟨_,_,by simp[trim,V.refs,L.refs,Box.refs];exact⟨rfl,rfl⟩⟩
    ·have hg1:1<=gs.length:=List.length_pos_iff.2 h0;rw[GR d m gs rows hg1];have p2:=DD d hd hk hu m hm rows gs.length c gs (by omega)
     have hgm:(gs.map Seg.enc).length=gs.length:=by simp
     simp only[ju] at p2 hR' ⊢;by_cases c1:(aC d.files (fileN m.segs[gs.length])).2=0
     ·rw[if_neg (by simp[c1])] at p2
      cases c2:lu d m gs.length m.segs[gs.length] with
      | false =>
       have hno:=hst.2.1 c1 c2;rw[c2] at p2;clear hR hR' hst;generalize dY rows (fileN m.segs[gs.length]) true=rows2 at *;generalize (dH d m.segs[gs.length]).1.enc=x at *;generalize gs.map Seg.enc=G at *;(simp(disch:=first|decide|omega|(intros;exact rfl)|simp only[aa]) only[aS,p7,decide_eq_true hc,p2,go_sem,seval,aq,cw,A.kind,A.xs,aP,A.isN])
       refine⟨_,rfl,?_⟩;unfold qc;rw[hno];exact⟨_,_,by simp[trim,V.refs,L.refs,Box.refs];exact⟨rfl,rfl⟩⟩
      | true =>
       have hyes:=hst.2.2 c1 c2;rw[c2] at p2;have hK:=hR' (by omega) ⟨by omega,hyes,hrw⟩
       clear hR hR' hst hyes hrw;generalize dY rows (fileN m.segs[gs.length]) true=rows2 at *;generalize (dH d m.segs[gs.length]).1.enc=x at *;generalize gs.map Seg.enc=G at *;(simp(disch:=first|decide|omega|(intros;exact rfl)|simp only[aa]) only[aS,p7,decide_eq_true hc,p2,go_sem,seval,aq,cw,A.kind,A.xs,aP,A.isN])
       exact hK _ _ cG
     ·rw[if_pos c1] at p2;have hno:=hst.1 c1;clear hR hR' hst;generalize dY rows (fileN m.segs[gs.length]) true=rows2 at *;generalize gs.map Seg.enc=G at *;(simp(disch:=first|decide|omega|(intros;exact rfl)|simp only[aa]) only[aS,p7,decide_eq_true hc,p2,go_sem,seval,aq,cw,A.kind,A.xs,aP,A.isN])
      refine⟨_,rfl,?_⟩;unfold qc;rw[hno];exact⟨_,_,by simp[trim,V.refs,L.refs,Box.refs];exact⟨rfl,rfl⟩⟩
   ·have hc:¬ ((gs.length:Nat):Int)<(m.segs.length:Int):=by omega
    have hgl:gs.length=m.segs.length:=by omega
    rw[hgl,List.drop_eq_nil_of_le (Nat.le_refl _)] at h2;rw[hgl,List.take_length] at h3;have h4:dg d m.segs=some gs:=by rw[<- h2];simp[uR,dg]
    clear hR;rw[GR d m gs rows (by omega)]
    simp only[ju];(simp(disch:=first|decide|omega|(intros;exact rfl)|simp only[aa]) only[aS,p7,MU,decide_eq_false hc,go_sem,seval,aq,cw,A.kind,A.xs,aP,A.isN])
    refine⟨_,rfl,?_⟩;unfold qc;rw[h4];refine⟨rows,h3,?_⟩;simp[trim,V.refs,L.refs,Box.refs,ju]
theorem Fp (n:Txt):fZ [] n=false:=rfl
set_option maxRecDepth 8000 in
set_option maxHeartbeats 4000000 in
theorem yK {k u:Nat} (d:Dsk) (hd:okN k u d) (hk:k<=700000) (hu:u<=900000000000):call 23 [.one (.p 0 0)] [.cells (mq d)]=some (vi (aV [] d).2,[.cells (mq (aV [] d).1)]):=by
 have q1:=qA d (Nat.le_trans hd.len (by omega))
 obtain⟨Z,hZ⟩:∃ Z,Z=aV [] d:=⟨_,rfl⟩;rw[<- hZ];unfold aV at hZ;have hnl:(du d.files).length<=1000000:=by have:=hd.len;simp[du];omega
 obtain⟨⟨zfl,zcp,zar,zlf,zdn⟩,ze⟩:=Z;generalize du d.files=NL at *;simp only[Dsk.l,mq] at q1 ⊢;have hml:(NL.map eT).length=NL.length:=by simp
 apply ai PH rfl;(simp(disch:=first|decide|omega|(intros;exact rfl)|simp only[aa]) only[aS,Ns,q1,hml,go_sem,seval,aq])
 refine aI (m:=1) (σ:=Nat × Dsk) (fun t=>NL.length-t.1) (fun t=>t.1<=NL.length∧okN k u t.2∧kM [] (NL.drop t.1) (t.2,0)=(⟨zfl,zcp,zar,zlf,zdn⟩,ze)) (fun t=>[V.one (.p 0 0),vl (NL.map eT),vi NL.length,vi t.1])
  (fun t=>[.cells [.d (.l (t.2.files.map Fil.enc)),.d (.i .i64 t.2.cap),.d (.b t.2.armed),.d (.i .i64 t.2.left),.d (.b t.2.down),.d (.i .i64 0),.ns,.d (.i .i64 0),.d (.i .u32 0),.ns,.nm]])
  (fun _=>((vi ze,[.cells [.d (.l (zfl.map Fil.enc)),.d (.i .i64 zcp),.d (.b zar),.d (.i .i64 zlf),.d (.b zdn),.d (.i .i64 0),.ns,.d (.i .i64 0),.d (.i .u32 0),.ns,.nm]]):V × Hp)) ?_ (0,d) ⟨Nat.zero_le _,hd,hZ.symm⟩ _ _ ?_
 rotate_left
 ·exact cG
 rintro⟨i,dd⟩ ⟨h1,h2,h3⟩ R hR;simp only at h1 h2 h3 ⊢;by_cases c:i<NL.length
 ·have hc:(i:Int)<(NL.length:Int):=by omega
  rw[List.drop_eq_getElem_cons c,qC] at h3;have g1:(NL.map eT)[i]?=some [.s NL[i]]:=by rw[List.getElem?_map,List.getElem?_eq_getElem c];rfl
  generalize NL[i]=n at *;cases hkp:fZ [] n with
  | true =>
   rw[Fp] at hkp;cases hkp
  | false =>
   rw[hkp,if_neg (by simp)] at h3
   have g2:=lK dd (h2.ok (by omega) (by omega)) n
   have kk:=ft (s:=(dd,0)) h2 n;rw[show cN n (dd,0)=au dd (bZ dd.files n) from bO _ _] at kk h3
   have hRn:=fun h=>hR (i+1,(au dd (bZ dd.files n)).1) (by simp only[];omega) ⟨by simp only[];omega,kk,h⟩
   generalize au dd (bZ dd.files n)=q at *;obtain⟨⟨qfl,qcp,qar,qlf,qdn⟩,qe⟩:=q;obtain⟨fl,cp,ar,lf,dn⟩:=dd;simp only[bu,Dsk.l] at g2 h3 hRn ⊢;clear hR;by_cases c2:qe=0
   ·subst c2;(simp(disch:=first|decide|omega|(intros;exact rfl)|simp only[aa]) only[aS,qh,decide_eq_true hc,g1,g2,go_sem,seval,aq])
    exact hRn h3 _ _ cG
   ·have e:kM [] (NL.drop (i+1)) (⟨qfl,qcp,qar,qlf,qdn⟩,qe)=(⟨qfl,qcp,qar,qlf,qdn⟩,qe):=wa _ _ c2;rw[e] at h3;cases h3;(simp(disch:=first|decide|omega|(intros;exact rfl)|simp only[aa]) only[aS,qh,decide_eq_true hc,g1,g2,eq_false c2,go_sem,seval,aq])
    try simp[trim,V.refs,L.refs,Box.refs]
 ·have hc:¬ (i:Int)<(NL.length:Int):=by omega
  rw[List.drop_eq_nil_of_le (by omega)] at h3
  cases h3;(simp(disch:=first|decide|omega|(intros;exact rfl)|simp only[aa]) only[aS,qh,Ns,decide_eq_false hc,go_sem,seval,aq])
  try simp[trim,V.refs,L.refs,Box.refs]
set_option maxRecDepth 8000 in
set_option maxHeartbeats 4000000 in
theorem x7 {k u:Nat} (d:Dsk) (hd:okN k u d) (hk:k<=700000) (hu:u<=900000000000) (m:Man) (n0:Nat) (G:List (List D)) (rows:Rows) (use:List Txt) (hr:∀ v,lB rows v=fZ use v):call 23 [.one (.p 0 0)] [.cells (ju d m (.sl 1 3 0 n0) (.m 2)),.arr 3 G 0,.mp rows]=some (vi (aV use d).2,[.cells (ju (aV use d).1 m (.sl 1 3 0 n0) (.m 2)),.arr 3 G 0,.mp rows]):=by
 have q1:=qA d (Nat.le_trans hd.len (by omega))
 obtain⟨Z,hZ⟩:∃ Z,Z=aV use d:=⟨_,rfl⟩;rw[<- hZ];unfold aV at hZ;have hnl:(du d.files).length<=1000000:=by have:=hd.len;simp[du];omega
 obtain⟨⟨zfl,zcp,zar,zlf,zdn⟩,ze⟩:=Z;generalize du d.files=NL at *;simp only[Dsk.l,ju] at q1 ⊢;have hml:(NL.map eT).length=NL.length:=by simp
 apply ai PH rfl;(simp(disch:=first|decide|omega|(intros;exact rfl)|simp only[aa]) only[aS,Ns,q1,hml,go_sem,seval,aq])
 refine aI (m:=3) (σ:=Nat × Dsk) (fun t=>NL.length-t.1) (fun t=>t.1<=NL.length∧okN k u t.2∧kM use (NL.drop t.1) (t.2,0)=(⟨zfl,zcp,zar,zlf,zdn⟩,ze)) (fun t=>[V.one (.p 0 0),vl (NL.map eT),vi NL.length,vi t.1])
  (fun t=>[.cells [.d (.l (t.2.files.map Fil.enc)),.d (.i .i64 t.2.cap),.d (.b t.2.armed),.d (.i .i64 t.2.left),.d (.b t.2.down),.d (.i .i64 m.ver),.d (.l (m.segs.map eI)),.d (.i .i64 m.size),.d (.i .u32 m.sum),.sl 1 3 0 n0,.m 2],.arr 3 G 0,.mp rows])
  (fun _=>((vi ze,[.cells [.d (.l (zfl.map Fil.enc)),.d (.i .i64 zcp),.d (.b zar),.d (.i .i64 zlf),.d (.b zdn),.d (.i .i64 m.ver),.d (.l (m.segs.map eI)),.d (.i .i64 m.size),.d (.i .u32 m.sum),.sl 1 3 0 n0,.m 2],.arr 3 G 0,.mp rows]):V × Hp)) ?_ (0,d) ⟨Nat.zero_le _,hd,hZ.symm⟩ _ _ ?_
 rotate_left
 ·exact cG
 rintro⟨i,dd⟩ ⟨h1,h2,h3⟩ R hR;simp only at h1 h2 h3 ⊢;by_cases c:i<NL.length
 ·have hc:(i:Int)<(NL.length:Int):=by omega
  rw[List.drop_eq_getElem_cons c,qC] at h3;have g1:(NL.map eT)[i]?=some [.s NL[i]]:=by rw[List.getElem?_map,List.getElem?_eq_getElem c];rfl
  generalize NL[i]=n at *;cases hkp:fZ use n with
  | true =>
   rw[hkp,if_pos rfl] at h3;have hmg:=(hr n).trans hkp;have hRk:=hR (i+1,dd) (by simp only[];omega) ⟨by simp only[];omega,h2,h3⟩
   (simp(disch:=first|decide|omega|(intros;exact rfl)|simp only[aa]) only[aS,qh,decide_eq_true hc,g1,hmg,go_sem,seval,aq])
   exact hRk _ _ cG
  | false =>
   rw[hkp,if_neg (by simp)] at h3
   have g2:=lK dd (h2.ok (by omega) (by omega)) n
   have kk:=ft (s:=(dd,0)) h2 n;rw[show cN n (dd,0)=au dd (bZ dd.files n) from bO _ _] at kk h3
   have hRn:=fun h=>hR (i+1,(au dd (bZ dd.files n)).1) (by simp only[];omega) ⟨by simp only[];omega,kk,h⟩
   generalize au dd (bZ dd.files n)=q at *;obtain⟨⟨qfl,qcp,qar,qlf,qdn⟩,qe⟩:=q;obtain⟨fl,cp,ar,lf,dn⟩:=dd;simp only[bu,Dsk.l] at g2 h3 hRn ⊢;have hmg:=(hr n).trans hkp;clear hR;by_cases c2:qe=0
   ·subst c2;(simp(disch:=first|decide|omega|(intros;exact rfl)|simp only[aa]) only[aS,qh,decide_eq_true hc,g1,g2,hmg,go_sem,seval,aq])
    exact hRn h3 _ _ cG
   ·have e:kM use (NL.drop (i+1)) (⟨qfl,qcp,qar,qlf,qdn⟩,qe)=(⟨qfl,qcp,qar,qlf,qdn⟩,qe):=wa _ _ c2;rw[e] at h3;cases h3;(simp(disch:=first|decide|omega|(intros;exact rfl)|simp only[aa]) only[aS,qh,decide_eq_true hc,g1,g2,eq_false c2,hmg,go_sem,seval,aq])
    try simp[trim,V.refs,L.refs,Box.refs]
 ·have hc:¬ (i:Int)<(NL.length:Int):=by omega
  rw[List.drop_eq_nil_of_le (by omega)] at h3
  cases h3;(simp(disch:=first|decide|omega|(intros;exact rfl)|simp only[aa]) only[aS,qh,Ns,decide_eq_false hc,go_sem,seval,aq])
  try simp[trim,V.refs,L.refs,Box.refs]
theorem A8 {gs:List Seg} (h:1<=gs.length):(gs.map Seg.enc)[gs.length-1]?=some (gs.getLastD ⟨0,0,0⟩).enc:=by
 have hl:gs.length-1<gs.length:=by omega
 rw[List.getElem?_map,List.getElem?_eq_getElem hl,List.getLastD_eq_getLast?,List.getLast?_eq_getElem?,List.getElem?_eq_getElem hl];rfl
set_option maxRecDepth 8000 in
set_option maxHeartbeats 4000000 in
theorem Dm {k u:Nat} (d:Dsk) (hd:okN k u d) (hk:k<=700000) (hu:u<=1000000) (m:Man) (rows:Rows) (gs:List Seg) (hg:1<=gs.length∧gs.length<=64) (hb:0<=(gs.getLastD ⟨0,0,0⟩).base∧(gs.getLastD ⟨0,0,0⟩).base<=1099511627776) :
  call 26 [.one (.p 0 0)] [.cells (ju d m (.sl 1 3 0 gs.length) (.m 2)),.arr 3 (gs.map Seg.enc) 0,.mp rows]=some (vi (cV d (gs.getLastD ⟨0,0,0⟩)).2,[.cells (ju (cV d (gs.getLastD ⟨0,0,0⟩)).1 m (.sl 1 3 0 gs.length) (.m 2)),.arr 3 (gs.map Seg.enc) 0,.mp rows]):=by
 have g1:=A8 hg.1;have hgm:(gs.map Seg.enc).length=gs.length:=by simp
 have hn1:(gs.length:Int)-1=((gs.length-1:Nat):Int):=by omega
 have hn2:((gs.length:Int)-1).toNat=gs.length-1:=by omega
 generalize gs.getLastD ⟨0,0,0⟩=g at *;generalize gs.map Seg.enc=G at *;obtain⟨gn,hgn⟩:∃ gn,gn=gs.length:=⟨_,rfl⟩;rw[<- hgn] at hg hgm hn1 hn2 g1 ⊢;have q1:=rJ hb;have q2:=iN d (Nat.le_trans hd.len (by omega)) hd.srt (fileN g.base)
 have q3:=GK d (hd.ok (by omega) (by omega)) (fileN g.base) g.size
 have k3:=Bl hd g;have q4:=pv d (hd.ok (by omega) (by omega)) (fileN g.base)
 have q5:=pv _ (k3.ok (by omega) (by omega)) (fileN g.base)
 unfold cV;have e0:∀ d:Dsk,ee (fileN g.base) (d,0)=au d (cJ d.files (fileN g.base)):=fun d=>bO _ _
 have e1:∀ (d:Dsk) (e:Int),e≠0->ee (fileN g.base) (d,e)=(d,e):=fun d e h=>by unfold ee qX;rw[if_neg h]
 obtain⟨gb,gnn,gz⟩:=g;simp only[Seg.enc] at g1 hb q1 q2 q3 q4 q5 e0 e1 ⊢;generalize fileN gb=N at *;have hrl:=eD d.files N;have hdu:=hd.used;generalize aC d.files N=rf at *;obtain⟨x,e⟩:=rf;simp only at q2 hrl ⊢;by_cases c:gz<((x.length:Nat):Int)
 ·rw[if_pos c];generalize au d (kI d.files N gz)=w at *;obtain⟨w1,we⟩:=w;by_cases c1:we=0
  ·subst c1;rw[e0];simp only at q5 ⊢;generalize au w1 (cJ w1.files N)=y at *;obtain⟨⟨yfl,ycp,yar,ylf,ydn⟩,ye⟩:=y;obtain⟨wfl,wcp,war,wlf,wdn⟩:=w1;obtain⟨fl,cp,ar,lf,dn⟩:=d;simp only[bu,Dsk.l,ju] at q2 q3 q5 ⊢;clear e0 e1 q4 k3;apply ai Oc rfl;(simp(disch:=first|decide|omega|(intros;exact rfl)|simp only[aa]) only[aS,NO,hgm,hn1,hn2,g1,q1,q2,decide_eq_true c,q3,q5,go_sem,seval,aq,cw,A.kind,A.xs,aP,A.isN])
   try simp[trim,V.refs,L.refs,Box.refs]
  ·rw[e1 _ _ c1];obtain⟨wfl,wcp,war,wlf,wdn⟩:=w1;obtain⟨fl,cp,ar,lf,dn⟩:=d;simp only[bu,Dsk.l,ju] at q2 q3 ⊢;clear e0 e1 q4 q5 k3;apply ai Oc rfl;(simp(disch:=first|decide|omega|(intros;exact rfl)|simp only[aa]) only[aS,NO,hgm,hn1,hn2,g1,q1,q2,decide_eq_true c,q3,eq_false c1,go_sem,seval,aq,cw,A.kind,A.xs,aP,A.isN])
   try simp[trim,V.refs,L.refs,Box.refs]
 ·rw[if_neg c,e0];generalize au d (cJ d.files N)=y at *;obtain⟨⟨yfl,ycp,yar,ylf,ydn⟩,ye⟩:=y;obtain⟨fl,cp,ar,lf,dn⟩:=d;simp only[bu,Dsk.l,ju] at q2 q4 ⊢;clear e0 e1 q3 q5 k3;apply ai Oc rfl;(simp(disch:=first|decide|omega|(intros;exact rfl)|simp only[aa]) only[aS,NO,hgm,hn1,hn2,g1,q1,q2,decide_eq_false c,q4,go_sem,seval,aq,cw,A.kind,A.xs,aP,A.isN])
  try simp[trim,V.refs,L.refs,Box.refs]
set_option maxRecDepth 20000 in
set_option maxHeartbeats 8000000 in
theorem dX {k u:Nat} (d:Dsk) (hd:okN k u d) (hk:k<=700000) (hu:u<=1000000):call 10 [.agg d.l] []=some (cM (aJ d),[]):=by
 have hrd:=fun n=>iN d (Nat.le_trans hd.len (by omega)) hd.srt n
 have hcell:∀ s:Sto,s.l=[.d (.l (s.disk.files.map Fil.enc)),.d (.i .i64 s.disk.cap),.d (.b s.disk.armed),.d (.i .i64 s.disk.left),.d (.b s.disk.down),.d (.i .i64 s.ver),.d (.l (s.segs.map Seg.enc)),.d (.i .i64 s.next),.d (.i .i64 s.sure),.d (.i .i64 s.size),.d (.i .u32 s.sum)]:=fun _=>rfl
 have hdl:∀ d:Dsk,d.l=([.d (.l (d.files.map Fil.enc)),.d (.i .i64 d.cap),.d (.b d.armed),.d (.i .i64 d.left),.d (.b d.down)]:List L):=fun _=>rfl
 have hds:∀ d:Dsk,[.d (.l ((dK d).disk.files.map Fil.enc)),.d (.i .i64 (dK d).disk.cap),.d (.b (dK d).disk.armed),.d (.i .i64 (dK d).disk.left),.d (.b (dK d).disk.down),.d (.i .i64 (dK d).ver),.d (.l ((dK d).segs.map Seg.enc)),.d (.i .i64 (dK d).next),.d (.i .i64 (dK d).sure),.d (.i .i64 (dK d).size),.d (.i .u32 (dK d).sum)]=([.d (.l (d.files.map Fil.enc)),.d (.i .i64 d.cap),.d (.b d.armed),.d (.i .i64 d.left),.d (.b d.down),.d (.i .i64 0),.d (.l []),.d (.i .i64 0),.d (.i .i64 0),.d (.i .i64 0),.d (.i .u32 0)]:List L):=fun _=>rfl
 unfold aJ;apply ai QF rfl;by_cases c0:d.down=true
 ·rw[if_pos c0];simp only[cM,hcell,hds,hdl] at hrd ⊢;rw[c0];(simp(disch:=first|decide|omega|(intros;exact rfl)|simp only[aa]) only[aS,a10,go_sem,seval,aq])
  try simp[trim]
 ·rw[if_neg c0];have c0':d.down=false:=by simpa using c0
  have q1:=hrd [109];have hrl:=eD d.files [109];have hdu:=hd.used;by_cases c1:(aC d.files [109]).2=0
  ·rw[if_neg (by simp[c1])]
   obtain⟨z,q2,hq⟩:=Ae d hd hk hu (aC d.files [109]).1 (by omega)
   unfold FF at hq;have hbad:(∃ (b:Box) (T:Hp),z=(vb false,b::T))->∃ (b:Box) (T:Hp),∀ B0 B1:Box,az call 25 [.one (.p 2 0),vs (aC d.files [109]).1] [B0,B1,.cells (mq d)]=some (vb false,B0::B1::b::T):=by
    rintro⟨b,T,rfl⟩;exact⟨Box.ren (fun j=>if j<1 then[2][j]? else some (3+(j-1))) b,T.map (Box.ren (fun j=>if j<1 then[2][j]? else some (3+(j-1)))),fun B0 B1=>aU (ids:=[2]) rfl rfl rfl q2 rfl⟩
   have hbd:(∃ (b:Box) (T:Hp),∀ B0 B1:Box,az call 25 [.one (.p 2 0),vs (aC d.files [109]).1] [B0,B1,.cells (mq d)]=some (vb false,B0::B1::b::T))->jy call ([]:Hp).length (yF a10.res a10.keep ([]:Hp).length) a10.body (ae a10.ntmps (qT [.agg d.l])) [] []=some (cM (dK d,3),[]):=by
    rintro⟨b,T,f2⟩;generalize aC d.files [109]=rf at *;simp only[cM,hcell,hds,hdl,mq] at q1 f2 ⊢;rw[c0'] at q1 f2 ⊢;clear q2 hq hbad;(simp(disch:=first|decide|omega|(intros;exact rfl)|simp only[aa]) only[aS,a10,q1,c1,f2,go_sem,seval,aq])
    try simp[trim]
   cases hdm:j4 (aC d.files [109]).1 with
   | none =>
    rw[hdm] at hq;exact hbd (hbad hq)
   | some m =>
    rw[hdm] at hq;simp only at hq ⊢;unfold uo;cases hso:eY d m with
    | false =>
     rw[hso] at hq;simp only[Bool.false_eq_true,if_false] at hq ⊢;exact hbd (hbad hq)
    | true =>
     rw[hso] at hq;simp only[if_true] at hq ⊢;unfold qc at hq;cases hsg:dg d m.segs with
     | none =>
      rw[hsg] at hq;exact hbd (hbad hq)
     | some gs =>
      rw[hsg] at hq;simp only at hq ⊢;obtain⟨rows,hr,rfl⟩:=hq;clear hbad hbd;have hm:=(mo hdm).1;have hmb:=dN hm;have hmi:=eB _ _ hmb.2.2.1;have hgl:=pC d _ _ hsg;have hgb:=yh hd _ _ hsg;have hlast:gs.getLastD ⟨0,0,0⟩∈gs:=by
       have hne:gs≠[]:=fun h=>by rw[h] at hgl;simp at hgl;omega
       rw[List.getLastD_eq_getLast?,List.getLast?_eq_some_getLast hne];exact List.getLast_mem hne
      have hg1:=hgb _ hlast;have hg2:=hmi _ hg1.1;have g1:=A8 (gs:=gs) (by omega)
      have hgm:(gs.map Seg.enc).length=gs.length:=by simp
      have hn1:(gs.length:Int)-1=((gs.length-1:Nat):Int):=by omega
      have hn2:((gs.length:Int)-1).toNat=gs.length-1:=by omega
      have htk:List.take gs.length (gs.map Seg.enc)=gs.map Seg.enc:=List.take_of_length_le (by omega)
      have q3:=x7 d hd hk (by omega) m gs.length (gs.map Seg.enc) rows (dw m) hr
      have ks:=me hd (dw m);have q4:=Dm _ ks hk hu m rows gs (by omega) (by omega)
      have km:=vo ks (gs.getLastD ⟨0,0,0⟩);unfold qv;have f2:∀ B0 B1:Box,az call 25 [.one (.p 2 0),vs (aC d.files [109]).1] [B0,B1,.cells (mq d)]=some (vb true,[B0,B1,.cells (ju d m (.sl 3 3 0 gs.length) (.m 4)),.arr 3 (gs.map Seg.enc) 0,.mp rows]):=fun B0 B1=>aU (ids:=[2]) rfl rfl rfl q2 rfl
      have f3:∀ B0 B1:Box,az call 23 [.one (.p 2 0)] [B0,B1,.cells (ju d m (.sl 3 3 0 gs.length) (.m 4)),.arr 3 (gs.map Seg.enc) 0,.mp rows]=some (vi (aV (dw m) d).2,[B0,B1,.cells (ju (aV (dw m) d).1 m (.sl 3 3 0 gs.length) (.m 4)),.arr 3 (gs.map Seg.enc) 0,.mp rows]):=fun B0 B1=>aU (ids:=[2,3,4]) rfl rfl rfl q3 rfl
      have f4:∀ B0 B1:Box,az call 26 [.one (.p 2 0)] [B0,B1,.cells (ju (aV (dw m) d).1 m (.sl 3 3 0 gs.length) (.m 4)),.arr 3 (gs.map Seg.enc) 0,.mp rows]=some (vi (cV (aV (dw m) d).1 (gs.getLastD ⟨0,0,0⟩)).2,[B0,B1,.cells (ju (cV (aV (dw m) d).1 (gs.getLastD ⟨0,0,0⟩)).1 m (.sl 3 3 0 gs.length) (.m 4)),.arr 3 (gs.map Seg.enc) 0,.mp rows]):=fun B0 B1=>aU (ids:=[2,3,4]) rfl rfl rfl q4 rfl
      clear q2 q3 q4 hr hgb hlast hsg hmi;generalize aC d.files [109]=rf at *;generalize aV (dw m) d=w at *;obtain⟨w1,we⟩:=w;generalize cV w1 (gs.getLastD ⟨0,0,0⟩)=y at *;obtain⟨y1,ye⟩:=y;simp only at f2 f3 f4 hg1 hg2 km ⊢;generalize gs.getLastD ⟨0,0,0⟩=g at *;generalize hG:gs.map Seg.enc=G at *;obtain⟨gb,gn,gz⟩:=g;simp only[Seg.enc] at g1 hg1 hg2;obtain⟨gl,hgl2⟩:∃ gl,gl=gs.length:=⟨_,rfl⟩;rw[<- hgl2] at f2 f3 f4 hgm hn1 hn2 g1 htk hgl;by_cases c2:we=0
      ·subst c2;rw[if_neg (by simp)]
       by_cases c3:ye=0
       ·subst c3;rw[if_neg (by simp)]
        simp only[cM,hcell,hdl,ju,mq,hG] at q1 f2 f3 f4 ⊢;rw[c0'] at q1 f2 f3 ⊢;(simp(disch:=first|decide|omega|(intros;exact rfl)|simp only[aa]) only[aS,a10,q1,c1,f2,f3,f4,hgm,hn1,hn2,g1,htk,go_sem,seval,aq,cw,A.kind,A.xs,aP,A.isN])
        try simp[trim]
       ·rw[if_pos c3];simp only[cM,hcell,hds,hdl,ju,mq] at q1 f2 f3 f4 ⊢;rw[c0'] at q1 f2 f3 ⊢;(simp(disch:=first|decide|omega|(intros;exact rfl)|simp only[aa]) only[aS,a10,q1,c1,f2,f3,f4,eq_false c3,go_sem,seval,aq,cw,A.kind,A.xs,aP,A.isN])
        try simp[trim]
      ·rw[if_pos c2];simp only[cM,hcell,hds,hdl,ju,mq] at q1 f2 f3 f4 ⊢;rw[c0'] at q1 f2 f3 ⊢;(simp(disch:=first|decide|omega|(intros;exact rfl)|simp only[aa]) only[aS,a10,q1,c1,f2,f3,eq_false c2,go_sem,seval,aq,cw,A.kind,A.xs,aP,A.isN])
       try simp[trim]
  ·rw[if_pos c1];have q3:=yK d hd hk (by omega)
   have ks:=me hd [];unfold sH;generalize aC d.files [109]=rf at *;generalize aV [] d=w at *;have q4:=GJ w.1 ks (by omega) (by omega)
   have f3:∀ B0 B1:Box,az call 23 [.one (.p 2 0)] [B0,B1,.cells (mq d)]=some (vi w.2,[B0,B1,.cells (mq w.1)]):=fun B0 B1=>aU (ids:=[2]) rfl rfl rfl q3 rfl
   clear q3;obtain⟨w1,we⟩:=w;by_cases c2:we=0
   ·subst c2;rw[if_neg (by simp)]
    simp only at q4 ⊢;generalize aR w1=y at *;obtain⟨y1,ye⟩:=y;simp only[cM,hcell,hdl,mq] at q1 q4 f3 ⊢;rw[c0'] at q1 f3 ⊢;(simp(disch:=first|decide|omega|(intros;exact rfl)|simp only[aa]) only[aS,a10,q1,c1,f3,q4,go_sem,seval,aq])
    try simp[trim]
   ·rw[if_pos c2];simp only[cM,hcell,hds,hdl,mq] at q1 f3 ⊢;rw[c0'] at q1 f3 ⊢;(simp(disch:=first|decide|omega|(intros;exact rfl)|simp only[aa]) only[aS,a10,q1,c1,f3,eq_false c2,go_sem,seval,aq])
    try simp[trim]
def dv (l:List Fil):Prop:=∀ x∈l,0<=x.sure∧x.sure<=((x.data.length:Nat):Int)
theorem pE {d:Dsk} (h:dv d.files) {r:List Fil × Int} (hr:r.2=0->dv r.1):dv (au d r).1.files:=by
 unfold au;split
 ·exact h
 ·split
  ·exact h
  ·rename_i h0;have h0:r.2=0:=by simpa using h0
   split
   ·split
    ·exact h
    ·exact hr h0
   ·exact hr h0
theorem EE {l:List Fil} (h:dv l) (k:Nat) {f:Fil} (hf:0<=f.sure∧f.sure<=((f.data.length:Nat):Int)):dv (gC l k f):=by
 intro x hx;unfold gC at hx;rcases List.mem_append.1 hx with hx|hx
 ·exact h x (List.mem_of_mem_take hx)
 ·rcases List.mem_cons.1 hx with rfl|hx
  ·exact hf
  ·exact h x (List.mem_of_mem_drop hx)
theorem AU {l:List Fil} (h:dv l) (k:Nat) {f:Fil} (hf:0<=f.sure∧f.sure<=((f.data.length:Nat):Int)):dv (l.set k f):=by
 intro x hx;rcases List.mem_or_eq_of_mem_set hx with hx|rfl
 ·exact h x hx
 ·exact hf
theorem E9 {l:List Fil} (h:dv l) (k:Nat) {g:Fil->Fil} (hg:∀ f:Fil,(0<=f.sure∧f.sure<=((f.data.length:Nat):Int))->(0<=(g f).sure∧(g f).sure<=(((g f).data.length:Nat):Int))):dv (mY l k g):=by
 unfold mY;split
 ·rename_i f hf;exact AU h k (hg f (h f (List.mem_of_getElem? hf)))
 ·exact h
theorem zJ {l:List Fil} (h:dv l) (k:Nat):dv (ef l k):=by
 intro x hx;unfold ef at hx;rcases List.mem_append.1 hx with hx|hx
 ·exact h x (List.mem_of_mem_take hx)
 ·exact h x (List.mem_of_mem_drop hx)
theorem LV {d:Dsk} (h:dv d.files) (n:Txt):dv (au d (bP d.files n)).1.files:=pE h fun h0=>by
 unfold bP at h0 ⊢;split at h0
 ·split at h0
  ·cases h0
  ·rename_i h1 h2;rw[if_pos h1,if_neg h2];exact EE h _ (by simp)
 ·cases h0
theorem GA {d:Dsk} (h:dv d.files) (n x:Txt):dv (au d (bV d.files d.cap n x)).1.files:=pE h fun h0=>by
 unfold bV at h0 ⊢;split at h0
 ·split at h0
  ·cases h0
  ·rename_i h1 h2;rw[if_pos h1,if_neg h2];exact E9 h _ fun f hf=>⟨hf.1,by show f.sure<=(((f.data++x).length:Nat):Int);rw[List.length_append];omega⟩
 ·cases h0
theorem Hb {d:Dsk} (h:dv d.files) (n:Txt):dv (au d (cJ d.files n)).1.files:=pE h fun h0=>by
 unfold cJ at h0 ⊢;split at h0
 ·rename_i h1;rw[if_pos h1];exact E9 h _ fun f hf=>⟨by show(0:Int)<=((f.data.length:Nat):Int);omega,Int.le_refl _⟩
 ·cases h0
theorem L3 {d:Dsk} (h:dv d.files) (n:Txt):dv (au d (bZ d.files n)).1.files:=pE h fun h0=>by
 unfold bZ at h0 ⊢;split at h0
 ·rename_i h1;rw[if_pos h1];exact zJ h _
 ·cases h0
theorem Kj {d:Dsk} (h:dv d.files) (n t:Txt):dv (au d (iy d.files n t)).1.files:=pE h fun h0=>by
 unfold iy at h0 ⊢;split at h0
 ·split at h0
  ·rename_i h1 h2;rw[if_pos h1,if_pos h2];have hf:0<=(dj d.files (aw d.files n) t).sure∧(dj d.files (aw d.files n) t).sure<=(((dj d.files (aw d.files n) t).data.length:Nat):Int):=by
    unfold dj;split
    ·rename_i f hf;exact h f (List.mem_of_getElem? hf)
    ·simp
   simp only[iu];split
   ·exact AU (zJ h _) _ hf
   ·exact EE (zJ h _) _ hf
  ·cases h0
 ·cases h0
theorem Ki {d:Dsk} (h:dv d.files) (n:Txt) (k:Int):dv (au d (kI d.files n k)).1.files:=pE h fun h0=>by
 unfold kI at h0 ⊢;split at h0
 ·rename_i h1;split at h0
  ·cases h0
  ·rename_i h2;rw[if_pos h1,if_neg h2];obtain⟨hp,he⟩:=bL h1;rw[gL hp];have hx:=h _ (List.getElem_mem hp);have hr:(aC d.files n).1=d.files[aw d.files n].data:=by unfold aC;rw[List.getElem?_eq_getElem hp];simp only[];rw[if_pos he]
   rw[hr] at h2;refine AU h _ ⟨?_,?_⟩
   ·simp only[];split <;> omega
   ·simp only[List.length_take];split <;> omega
 ·cases h0
theorem rV {s:Dsk × Int} {f:Dsk->Dsk × Int} (h:dv s.1.files) (hf:dv (f s.1).1.files):dv (qX s f).1.files:=by
 unfold qX;split
 ·exact hf
 ·exact h
theorem rF {s:Dsk × Int} (h:dv s.1.files) (n:Txt):dv (bQ n s).1.files:=rV h (LV h n)
theorem mG {s:Dsk × Int} (h:dv s.1.files) (n:Txt):dv (cN n s).1.files:=rV h (L3 h n)
theorem wP {s:Dsk × Int} (h:dv s.1.files) (n:Txt):dv (ee n s).1.files:=rV h (Hb h n)
theorem BD {s:Dsk × Int} (h:dv s.1.files) (n x:Txt):dv (j5 n x s).1.files:=rV h (GA h n x)
theorem JP {s:Dsk × Int} (h:dv s.1.files) (n t:Txt):dv (tZ n t s).1.files:=rV h (Kj h n t)
theorem rI {s:Dsk × Int} (h:dv s.1.files) (n:Txt):dv (cL n s).1.files:=by
 unfold cL;split
 ·exact h
 ·split
  ·exact mG (s:=(s.1,0)) h n
  ·exact mG (s:=(s.1,0)) h n
theorem wi {s:Dsk × Int} (h:dv s.1.files) (m:Man):dv (bR m s).1.files:=by
 unfold bR;simp only[];have h1:dv (if s.2=0 then(s.1,(bK m).2) else s).1.files:=by split <;> exact h
 generalize (if s.2=0 then(s.1,(bK m).2) else s)=s1 at *
 have h2:dv (if(aC s1.1.files [110]).2=0 then cN [110] s1 else s1).1.files:=by
  split
  ·exact mG h1 _
  ·exact h1
 generalize (if(aC s1.1.files [110]).2=0 then cN [110] s1 else s1)=s2 at *
 have h3:=rF h2 [110];split
 ·exact h3
 ·exact JP (wP (rI (BD h3 _ _) _) _) _ _
theorem B6 {s:Sto} (h:dv s.disk.files):dv (a8 s).1.disk.files:=Hb h _
theorem BW {s:Sto} (h:dv s.disk.files):dv (bN s).1.disk.files:=by
 unfold bN;split
 ·exact h
 ·have h2:=B6 h;split
  ·exact h2
  ·generalize (a8 s).1=t at *;have h3:dv (dI t).1.files:=by
    unfold dI;have h4:=rF (s:=(t.disk,0)) h2 (fileN t.next);simp only[];split
    ·exact rI (wi h4 _) _
    ·exact h4
   split
   ·exact h3
   ·exact h3
theorem F5 {s:Sto} (h:dv s.disk.files) (x:Txt):dv (dW s x).1.disk.files:=by
 have h2:=GA h (fileN s.last.base) x;unfold dW;simp only[];split
 ·exact h2
 ·exact h2
theorem BP {s:Sto} (h:dv s.disk.files) (seg:Int) (r:Rec):dv (gd s seg r).1.disk.files:=by
 unfold gd;split
 ·exact h
 ·split
  ·exact h
  ·split
   ·split
    ·exact BW h
    ·exact F5 (BW h) _
   ·exact F5 h _
theorem ED:∀ (l:List Txt) (s:Dsk × Int),dv s.1.files->dv (wS l s).1.files
 | [],s,h=>h
 | n::l,s,h=>ED l _ (mG h n)
theorem A9:∀ (l:List Seg) (s:Dsk × Int),dv s.1.files->dv (eZ l s).1.files
 | [],s,h=>h
 | n::l,s,h=>A9 l _ (mG h _)
theorem H0 {s:Sto} (h:dv s.disk.files) (a b:Int):dv (dk s a b).1.disk.files:=by
 unfold dk;split
 ·exact h
 ·generalize dR s.segs a b=k;unfold oV;have h2:dv (nB s.disk (aQ (aM s.segs k)) (bt (bo s (aM s.segs k))) (db s k).man).1.files:=by
   unfold nB;simp only[];have h4:=rF (s:=(s.disk,0)) h (aQ (aM s.segs k));generalize bQ (aQ (aM s.segs k)) (s.disk,0)=q at *;have h5:dv (if q.2=0 then cL (aQ (aM s.segs k)) (j5 (aQ (aM s.segs k)) (bt (bo s (aM s.segs k))) q) else q).1.files:=by
    split
    ·exact rI (BD h4 _ _) _
    ·exact h4
   generalize (if q.2=0 then cL (aQ (aM s.segs k)) (j5 (aQ (aM s.segs k)) (bt (bo s (aM s.segs k))) q) else q)=q2 at *
   have h6:=wP h5 (aQ (aM s.segs k));split
   ·exact rI (wi h6 _) _
   ·exact h6
  generalize nB s.disk (aQ (aM s.segs k)) (bt (bo s (aM s.segs k))) (db s k).man=e at *;simp only[];split
  ·exact h2
  ·show dv (qO s k e).1.files;unfold qO;have h7:=A9 (s.segs.take k) e h2;simp only[];split
   ·exact mG h7 _
   ·exact h7
theorem pD {d:Dsk} (h:dv d.files):dv (aR d).1.disk.files:=by
 unfold aR;simp only[];have h1:=rF (s:=(d,0)) h (fileN 0);generalize bQ (fileN 0) (d,0)=q at *;have h2:dv (if q.2=0 then bR ⟨1,[0],0,0⟩ q else q).1.files:=by
  split
  ·exact wi h1 _
  ·exact h1
 generalize (if q.2=0 then bR ⟨1,[0],0,0⟩ q else q)=q2 at *
 split
 ·exact h2
 ·exact h2
theorem Kg {s:Sto} (h:dv s.disk.files) (seg i:Int) (a:Ac):dv (sj seg i s a).disk.files:=by
 unfold sj;split
 ·exact B6 h
 ·split
  ·exact H0 h _ _
  ·split
   ·exact h
   ·split
    ·exact h
    ·exact BP h _ _
theorem Bj (seg:Int):∀ (l:List Ac) (i:Int) (s:Sto),dv s.disk.files->dv (tA seg i l s).1.disk.files
 | [],i,s,h=>h
 | a::l,i,s,h=>by
  simp only[tA];split
  ·exact h
  ·exact Bj seg l (i+1) _ (Kg h seg i a)
theorem Bk (seg:Int) (l:List Ac):dv (ku seg l).1.disk.files:=by
 have h0:dv (aR d0).1.disk.files:=pD (d:=d0) (fun x hx=>by cases hx)
 unfold ku;split
 ·exact h0
 ·exact Bj seg l 0 _ h0
def Ei (f:Fil) (k:Option Int):Int:=match k with|some a=>max 0 (min a ((f.data.length:Nat)-f.sure))|none=>0
def Ed (f:Fil) (k:Option Int):Fil:=⟨f.name,f.data.take (f.sure+Ei f k).toNat,f.sure+Ei f k⟩
def kE (l:List Fil) (keep:List Int):List Fil:=l.mapIdx fun i f=>Ed f keep[i]?
def aG (d:Dsk) (keep:List Int):Dsk:=⟨kE d.files keep,d.cap,false,0,false⟩
theorem Aq {f:Fil} (h:0<=f.sure∧f.sure<=((f.data.length:Nat):Int)) (k:Option Int):0<=Ei f k∧f.sure+Ei f k<=((f.data.length:Nat):Int):=by
 unfold Ei;cases k with
 | none=>simp only[];omega
 | some a=>simp only[];omega
theorem wK (l:List Fil) (keep:List Int):(kE l keep).length=l.length:=by simp[kE]
theorem KC (l:List Fil) (keep:List Int) (i:Nat) (h:i<l.length):(kE l keep).take (i+1)=(kE l keep).take i++[Ed l[i] keep[i]?]:=by
 rw[List.take_succ_eq_append_getElem (by rw[wK];exact h)]
 simp[kE]
set_option maxRecDepth 8000 in
set_option maxHeartbeats 4000000 in
theorem gX (d:Dsk) (hl:d.files.length<=1000000) (hu:usedF d.files<=1000000000000) (hin:dv d.files) (keep:List Int) (hk:keep.length<=1000000) (hki:∀ a∈keep,-9223372036854775808<=a∧a<9223372036854775808):call 19 [.agg d.l,vl (keep.map eI)] []=some (.agg (aG d keep).l,[]):=by
 obtain⟨Z,hZ⟩:∃ Z,Z=(aG d keep).l:=⟨_,rfl⟩;rw[<- hZ];unfold aG at hZ;obtain⟨fl,cp,ar,lf,dn⟩:=d;simp only[Dsk.l] at hl hu hin hZ ⊢;apply ai Q0 rfl;(simp(disch:=first|decide|omega|(intros;exact rfl)|simp only[aa]) only[aS,O5,go_sem,seval,aq])
 refine aI (m:=0) (σ:=Nat) (fun i=>fl.length-i) (fun i=>i<=fl.length) (fun i=>[vl (keep.map eI),V.one (.p 0 0),V.one (.p 1 0),V.one (.sl 2 3 0 ((kE fl keep).take i).length),vi i])
  (fun i=>[.cells [.d (.l (fl.map Fil.enc)),.d (.i .i64 cp),.d (.b ar),.d (.i .i64 lf),.d (.b dn)],.cells [.ns,.d (.i .i64 0),.d (.b false),.d (.i .i64 0),.d (.b false)],.arr 3 (((kE fl keep).take i).map Fil.enc) 0]) (fun _=>(V.agg Z,[])) ?_ 0 (Nat.zero_le _) _ _ cG
 intro i h1 R hR;have hcl:=wK fl keep;by_cases hi:i<fl.length
 ·have hc:(i:Int)<(fl.length:Int):=by omega
  have g1:(fl.map Fil.enc)[i]?=some fl[i].enc:=by rw[List.getElem?_map,List.getElem?_eq_getElem hi];rfl
  have hR':=hR (i+1) (by omega) (by omega)
  rw[KC fl keep i hi] at hR';have hlen:(((kE fl keep).take i).map Fil.enc).length=((kE fl keep).take i).length:=by simp
  have hl2:((kE fl keep).take i).length<=1000000:=by simp;omega
  have hx:=hin _ (List.getElem_mem hi);have hd:=Nat.le_trans (mX fl i hi) hu;have hcn:=Aq hx keep[i]?;have e2:((kE fl keep).take i++[Ed fl[i] keep[i]?]).map Fil.enc=((kE fl keep).take i).map Fil.enc++[[.s fl[i].name,.s (fl[i].data.take (fl[i].sure+Ei fl[i] keep[i]?).toNat),.i .i64 (fl[i].sure+Ei fl[i] keep[i]?)]]:=by rw[List.map_append];rfl
  have e3:((kE fl keep).take i++[Ed fl[i] keep[i]?]).length=((kE fl keep).take i).length+1:=by rw[List.length_append];rfl
  rw[e2,e3] at hR';have hkl:(keep.map eI).length=keep.length:=by simp
  generalize ((kE fl keep).take i).length=n at *;generalize ((kE fl keep).take i).map Fil.enc=Q at *;clear e2 e3;generalize fl[i]=w at *;obtain⟨a,b,c⟩:=w;simp only[Fil.enc] at g1 hx hd hcn hR';by_cases ck:i<keep.length
  ·have hck:(i:Int)<(keep.length:Int):=by omega
   have g2:(keep.map eI)[i]?=some [.i .i64 keep[i]]:=by rw[List.getElem?_map,List.getElem?_eq_getElem ck];rfl
   rw[List.getElem?_eq_getElem ck] at hR' hcn;have hkk:=hki _ (List.getElem_mem ck);obtain⟨z,hz⟩:∃ z,z=Ei ⟨a,b,c⟩ (some keep[i]):=⟨_,rfl⟩;rw[<- hz] at hR' hcn;have hz2:z=max 0 (min keep[i] ((b.length:Nat)-c)):=hz;clear hz;generalize keep[i]=y at *;have ht:(b.take (c+z).toNat).length=(c+z).toNat:=by simp;omega
   have hcz:(((c+z).toNat:Nat):Int)=c+z:=by omega
   by_cases m1:((b.length:Nat):Int)-c<y
   ·by_cases m2:(0:Int)<((b.length:Nat):Int)-c
    ·have m3:z=((b.length:Nat):Int)-c:=by omega
     rw[m3] at hR' ht hcz;(simp(disch:=first|decide|omega|(intros;exact rfl)|simp only[aa]) only[aS,sK,decide_eq_true hc,List.length_map,g1,hkl,decide_eq_true hck,g2,hlen,if_pos m1,if_pos m2,ht,hcz,go_sem,seval,aq])
     exact hR' _ _ cG
    ·have m3:z=0:=by omega
     rw[m3] at hR' ht hcz;(simp(disch:=first|decide|omega|(intros;exact rfl)|simp only[aa]) only[aS,sK,decide_eq_true hc,List.length_map,g1,hkl,decide_eq_true hck,g2,hlen,if_pos m1,if_neg m2,ht,hcz,go_sem,seval,aq])
     exact hR' _ _ cG
   ·by_cases m2:(0:Int)<y
    ·have m3:z=y:=by omega
     rw[m3] at hR' ht hcz;(simp(disch:=first|decide|omega|(intros;exact rfl)|simp only[aa]) only[aS,sK,decide_eq_true hc,List.length_map,g1,hkl,decide_eq_true hck,g2,hlen,if_neg m1,if_pos m2,ht,hcz,go_sem,seval,aq])
     exact hR' _ _ cG
    ·have m3:z=0:=by omega
     rw[m3] at hR' ht hcz;(simp(disch:=first|decide|omega|(intros;exact rfl)|simp only[aa]) only[aS,sK,decide_eq_true hc,List.length_map,g1,hkl,decide_eq_true hck,g2,hlen,if_neg m1,if_neg m2,ht,hcz,go_sem,seval,aq])
     exact hR' _ _ cG
  ·have hck:¬ (i:Int)<(keep.length:Int):=by omega
   rw[List.getElem?_eq_none (by omega)] at hR' hcn
   simp only[Ei,Int.add_zero] at hR' hcn;have ht:(b.take c.toNat).length=c.toNat:=by simp;omega
   have hcz:((c.toNat:Nat):Int)=c:=by omega
   (simp(disch:=first|decide|omega|(intros;exact rfl)|simp only[aa]) only[aS,sK,decide_eq_true hc,List.length_map,g1,hkl,decide_eq_false hck,hlen,ht,hcz,Int.add_zero,go_sem,seval,aq])
   exact hR' _ _ cG
 ·have hc:¬ (i:Int)<(fl.length:Int):=by omega
  have ht:(kE fl keep).take i=kE fl keep:=List.take_of_length_le (by omega)
  rw[ht];have htk:List.take (kE fl keep).length ((kE fl keep).map Fil.enc)=(kE fl keep).map Fil.enc:=List.take_of_length_le (by simp)
  have hln:((kE fl keep).map Fil.enc).length=(kE fl keep).length:=by simp
  rw[hZ];(simp(disch:=first|decide|omega|(intros;exact rfl)|simp only[aa]) only[aS,sK,O5,decide_eq_false hc,List.length_map,htk,hln,go_sem,seval,aq])
  try simp[trim]
theorem ya (a:Fil) (l:List Fil) (keep:List Int):kE (a::l) keep=Ed a keep[0]?::kE l keep.tail:=by
 unfold kE;rw[List.mapIdx_cons];congr 1
 congr 1
 funext i f
 cases keep with
 | nil=>simp
 | cons b r=>simp
theorem wc:∀ (l:List Fil) (keep:List Int),dv l->∀ n,(fm l n=none∧fm (kE l keep) n=none)∨(∃ (x:Txt) (q:Int) (c:Nat),fm l n=some (x,q)∧fm (kE l keep) n=some (x.take c,((c:Nat):Int))∧q<=c∧c<=x.length)
 | [],keep,_,n=>.inl ⟨rfl,rfl⟩
 | a::l,keep,h,n=>by
  rw[ya];by_cases e:a.name=n
  ·have h1:=h a (by simp)
   have h2:=Aq h1 keep[0]?;refine .inr ⟨a.data,a.sure,(a.sure+Ei a keep[0]?).toNat,by simp[fm,e],?_,by omega,by omega⟩
   have:(((a.sure+Ei a keep[0]?).toNat:Nat):Int)=a.sure+Ei a keep[0]?:=by omega
   rw[this];simp[fm,Ed,e]
  ·have e1:fm (a::l) n=fm l n:=by simp[fm,e]
   have e2:fm (Ed a keep[0]?::kE l keep.tail) n=fm (kE l keep.tail) n:=by simp[fm,Ed,e]
   rw[e1,e2];exact wc l keep.tail (fun x hx=>h x (by simp[hx])) n
theorem Du (l:List Fil) (keep:List Int):(kE l keep).map Fil.name=l.map Fil.name:=by
 apply List.ext_getElem
 ·simp[kE]
 ·intro i h1 h2;simp[kE,Ed]
theorem xN:∀ (l:List Fil) (keep:List Int),usedF (kE l keep)<=usedF l
 | [],keep=>Nat.le_refl _
 | a::l,keep=>by
  rw[ya];have h1:=xN l keep.tail;have e1:∀ (b:Fil) (m:List Fil),usedF (b::m)=b.data.length+usedF m:=fun b m=>by rw[<- gk,<- cu];rfl
  rw[e1,e1];have:(Ed a keep[0]?).data.length<=a.data.length:=by simp[Ed];omega
  omega
theorem dp {k u:Nat} {d:Dsk} (h:okN k u d) (keep:List Int):okN k u (aG d keep) :=
 ⟨by show(kE d.files keep).length<=k;rw[wK];exact h.len,iM (Du _ _) h.srt,⟨Int.le_refl _,by show(0:Int)<_;decide⟩,h.cap,Nat.le_trans (xN _ _) h.used⟩
theorem yq (a b:List Rec):rowS (a++b)=rowS a++rowS b:=List.flatMap_append
theorem DH (l:List Rec) {a b:Nat} (h:a<=b):b9 l a<=b9 l b:=by
 unfold b9;have:l.take b=l.take a++(l.take b).drop a:=by
  conv=>lhs;rw[<- List.take_append_drop a (l.take b)]
  rw[List.take_take,Nat.min_eq_left h]
 rw[this,yq,List.length_append];omega
theorem xO (l:List Rec) (c:Nat):∀ m,m<=l.length->∃ w,w<=l.length∧b9 l w<=c∧(w<l.length->c<b9 l (w+1))∨(b9 l m<=c∧w=m∧m<=l.length)
 | 0,_=>⟨0,.inr ⟨by simp[b9,rowS],rfl,Nat.zero_le _⟩⟩
 | m+1,h=>by
  obtain⟨w,h1|⟨h1,rfl,h2⟩⟩:=xO l c m (by omega)
  ·exact⟨w,.inl h1⟩
  ·by_cases h3:b9 l (w+1)<=c
   ·exact⟨w+1,.inr ⟨h3,rfl,h⟩⟩
   ·exact⟨w,.inl ⟨by omega,h1,fun _=>by omega⟩⟩
theorem GO (l:List Rec) (c:Nat):∃ w,w<=l.length∧b9 l w<=c∧(w<l.length->c<b9 l (w+1)):=by
 obtain⟨w,h|⟨h1,rfl,h2⟩⟩:=xO l c l.length (Nat.le_refl _)
 ·exact⟨w,h⟩
 ·exact⟨l.length,Nat.le_refl _,h1,fun h=>by omega⟩
theorem tN (l:List Rec) (b:Int) (hb:dy b=true) (hw:∀ r∈l,whyF r=0) (hn:numB b l) (c m:Nat) (hc:c<=(rowS l).length) (hm:b9 l m<=c) (hml:m<=l.length) :
  ∃ w,m<=w∧w<=l.length∧b9 l w<=c∧(cU ((rowS l).take c) b).1.length=w∧(cU ((rowS l).take c) b).2.1=b9 l w:=by
 obtain⟨w,h1,h2,h3⟩:=GO l c;have hcut:=EF l b hb hw hn w c h1 h2 (fun h=>by rw[h];unfold b9;rw[List.take_length];exact hc) h3
 refine⟨w,?_,h1,h2,?_,by rw[hcut.2]⟩
 ·rcases Nat.lt_or_ge w m with h|h
  ·have:=DH l (show w+1<=m by omega)
   have:=h3 (by omega)
   omega
  ·exact h
 ·have:=congrArg List.length hcut.1;simp at this;omega
theorem CN {d:Dsk} (hs:srt d.files) {p:SR} (hb:dy p.1.base=true) (hf:∃ q,fm d.files (fileN p.1.base)=some (rowS p.2,q)) (hw:∀ r∈p.2,whyF r=0) (hn:numB p.1.base p.2) (h1:p.1.n=p.2.length) (h2:p.1.size=(rowS p.2).length) :
  dH d p.1.base=(p.1,0)∧(aC d.files (fileN p.1.base)).2=0:=by
 obtain⟨q,hf⟩:=hf;have hr:aC d.files (fileN p.1.base)=(rowS p.2,0):=by rw[fA hs,hf]
 have hsc:=xC p.2 p.1.base hb hw hn;have hl:(cU (rowS p.2) p.1.base).1.length=p.2.length:=by
  have:=congrArg List.length hsc.1;simpa using this
 unfold dH;rw[hr];simp only[hl,hsc.2];refine⟨?_,trivial⟩;obtain⟨⟨a,b,c⟩,rs⟩:=p;simp only at h1 h2 ⊢;rw[h1,h2]
theorem qd {d:Dsk} {g:Int} {z:Seg} (hz:(aC d.files (fileN g)).2=0) (hg:(dH d g).1=z):∀ (M:List SR) (b:Int),chainM b M g->(∀ p∈M,dH d p.1.base=(p.1,0)∧(aC d.files (fileN p.1.base)).2=0)->(∀ p∈M,p.1.n=p.2.length) ->
  dg d (M.map (fun p=>p.1.base)++[g])=some (M.map (·.1)++[z])
 | [],b,_,_,_=>by
  rw[List.map_nil,List.nil_append,fE,if_neg (by simp[hz])]
  simp[hg]
 | p::M,b,hc,hp,hn=>by
  have h1:=hp p (by simp)
  have ih:=qd hz hg M (b+p.2.length) hc.2.2 (fun q hq=>hp q (by simp[hq])) (fun q hq=>hn q (by simp[hq]))
  have hpn:=hn p (by simp)
  have hnx:∃ r,M.map (fun p=>p.1.base)++[g]=(b+p.2.length)::r:=by
   have h2:=hc.2.2;cases M with
   | nil=>exact⟨[],by simp[chainM] at h2 ⊢;omega⟩
   | cons q r=>exact⟨r.map (fun p=>p.1.base)++[g],by simp[chainM] at h2 ⊢;omega⟩
  obtain⟨r,hr⟩:=hnx;rw[List.map_cons,List.cons_append,fE,if_neg (by simp[h1.2]),hr]
  simp only[];rw[if_neg (by rw[h1.1,hc.1];simp[hpn]),<- hr,ih,h1.1]
  try rfl
def exR:Rec:=⟨0,0,[97,98]⟩
def exO:Sto:=(gd (aJ d0).1 100 exR).1
theorem Es:aJ d0=aR d0:=by
 have h1:aV [] d0=(d0,0):=rfl;unfold aJ sH;rw[if_neg (by decide),if_pos (by decide),h1,if_neg (by decide)]
theorem Lr:(aJ d0).2=0∧(gd (aJ d0).1 100 exR).2=0:=by decide +kernel
theorem Li:(aJ d0).1.segs.length=1:=by decide +kernel
theorem KX:(aJ (aG exO.disk [9,5])).2=0∧(aJ (aG exO.disk [9,5])).1.next=0:=by decide +kernel
theorem Kz:(aJ (aG exO.disk [9,99])).2=0∧(aJ (aG exO.disk [9,99])).1.next=1:=by decide +kernel
set_option maxRecDepth 20000 in
set_option maxHeartbeats 4000000 in
theorem vd:call 9 [] []=some (vb true,[]):=by
 have q0:=dX d0 d0_ok (by decide) (by decide)
 have hp:=new_PI;rw[<- Es] at hp;have q1:=qj (aJ d0).1 hp.ok (by decide) (by decide) 100 exR (by refine⟨⟨?_,?_⟩,⟨?_,?_⟩,?_⟩ <;> decide)
 have o1:=Bc hp.ok 100 exR;have hin:dv exO.disk.files:=BP (s:=(aJ d0).1) (by rw[Es];exact pD (d:=d0) (fun x hx=>by cases hx)) 100 exR
 have q2:=gX exO.disk (Nat.le_trans o1.dsk.len (by decide)) (Nat.le_trans o1.dsk.used (by decide)) hin [9,5] (by decide) (by decide)
 have q3:=gX exO.disk (Nat.le_trans o1.dsk.len (by decide)) (Nat.le_trans o1.dsk.used (by decide)) hin [9,99] (by decide) (by decide)
 have q4:=dX (aG exO.disk [9,5]) (dp o1.dsk [9,5]) (by decide) (by decide)
 have q5:=dX (aG exO.disk [9,99]) (dp o1.dsk [9,99]) (by decide) (by decide)
 obtain⟨a1,a3⟩:=Lr;have a4:=Li;obtain⟨x1,x2⟩:=KX;obtain⟨y1,y2⟩:=Kz;have hcell:∀ s:Sto,s.l=[.d (.l (s.disk.files.map Fil.enc)),.d (.i .i64 s.disk.cap),.d (.b s.disk.armed),.d (.i .i64 s.disk.left),.d (.b s.disk.down),.d (.i .i64 s.ver),.d (.l (s.segs.map Seg.enc)),.d (.i .i64 s.next),.d (.i .i64 s.sure),.d (.i .i64 s.size),.d (.i .u32 s.sum)]:=fun _=>rfl
 have hd0:d0.l=[.d (.l []),.d (.i .i64 0),.d (.b false),.d (.i .i64 0),.d (.b false)]:=rfl;have hr:exR.enc.map L.d=[.d (.i .i64 0),.d (.i .i64 0),.d (.s [97,98])]:=rfl;rw[hr] at q1;have eO:exO=(gd (aJ d0).1 100 exR).1:=rfl;rw[eO] at q2 q3 q4 q5 x1 x2 y1 y2;generalize aJ d0=r0 at *;obtain⟨st0,e0⟩:=r0;simp only at a1 a3 a4 q1 q2 q3 q4 q5 x1 x2 y1 y2;subst a1;generalize gd st0 100 exR=r1 at *;obtain⟨st1,e1⟩:=r1;simp only at a3 q2 q3 q4 q5 x1 x2 y1 y2;subst a3;generalize aG st1.disk [9,5]=c1 at *;generalize aG st1.disk [9,99]=c2 at *;generalize aJ c1=r2 at *;generalize aJ c2=r3 at *;obtain⟨s2,e2⟩:=r2;obtain⟨s3,e3⟩:=r3;simp only at x1 x2 y1 y2;subst x1 y1;have hdl:∀ d:Dsk,d.l=([.d (.l (d.files.map Fil.enc)),.d (.i .i64 d.cap),.d (.b d.armed),.d (.i .i64 d.left),.d (.b d.down)]:List L):=fun _=>rfl
 simp only[cM,hcell,hd0,hdl,x2,y2,List.map_cons,List.map_nil,eI] at q0 q1 q2 q3 q4 q5;clear hcell hdl hp o1 hin;apply ai s9 rfl;(simp(disch:=first|decide|omega|(intros;exact rfl)|simp only[aa]) only[aS,a9,q0,q1,q2,q3,q4,q5,a4,List.length_map,go_sem,seval,aq])
 try simp[trim]
theorem zo {k u:Nat} {d:Dsk} (h:okN k u d):okN (k+2) (u+800) (aR d).1.disk∧(aR d).1.segs.length<=64:=by
 have h1:=fN (s:=(d,0)) h (fileN 0);unfold aR;simp only[];have h2:okN (k+2) (u+800) (if(bQ (fileN 0) (d,0)).2=0 then bR ⟨1,[0],0,0⟩ (bQ (fileN 0) (d,0)) else bQ (fileN 0) (d,0)).1:=by
  split
  ·exact kl h1 _
  ·exact h1.up (by omega) (by omega)
 generalize (if(bQ (fileN 0) (d,0)).2=0 then bR ⟨1,[0],0,0⟩ (bQ (fileN 0) (d,0)) else bQ (fileN 0) (d,0))=w2 at *
 split
 ·exact⟨h2,by simp⟩
 ·exact⟨h2,by simp⟩
theorem yu {k u:Nat} {d:Dsk} (h:okN k u d):okN (k+2) (u+800) (aJ d).1.disk∧(aJ d).1.segs.length<=64:=by
 have dead:okN (k+2) (u+800) (dK d).disk∧(dK d).segs.length<=64:=⟨h.up (by omega) (by omega),by simp[dK]⟩
 unfold aJ;split
 ·exact dead
 ·split
  ·unfold sH;have ks:=me h [];split
   ·exact⟨ks.up (by omega) (by omega),by simp[dK]⟩
   ·exact zo ks
  ·split
   ·rename_i m hm;have hmb:=dN (mo hm).1;unfold uo;split
    ·split
     ·rename_i gs hg;have hl:=pC d _ _ hg;have ks:=me h (dw m);unfold qv;split
      ·exact⟨ks.up (by omega) (by omega),by simp[dK]⟩
      ·have km:=vo ks (gs.getLastD ⟨0,0,0⟩);split
       ·exact⟨km.up (by omega) (by omega),by simp[dK]⟩
       ·exact⟨km.up (by omega) (by omega),by show gs.length<=64;omega⟩
     ·exact dead
    ·exact dead
   ·exact dead
end Go.Proofs.YtghfhomfppbooaaGreat
