import Derived.Test.YtghfhomfppbooaaGreatT07
import Derived.Test.YtghfhomfppbooaaGreatT06
set_option linter.unusedSimpArgs false
set_option linter.unusedVariables false
set_option maxRecDepth 20000
set_option maxHeartbeats 16000000
namespace Go.Proofs.YtghfhomfppbooaaGreat
open Go.Vi
def lc (d:Dsk):List L:=[.d (.l (d.files.map Fil.enc)),zI d.cap,zB d.armed,zI d.left,zB d.down,zI 0,.ns,zI 0,zW 0,.ns,.nm]
def Lg (d:Dsk) (m:Man) (gs:List Seg) (rows:Rows):Hp:=match gs with
 | []=>[.cells (iB d m .ns (.m 1)),.mp rows]
 | g::r=>[.cells (iB d m (.sl 1 3 0 (r.length+1)) (.m 2)),.arr 3 ((g::r).map Seg.enc) 0,.mp rows]
theorem FG (d:Dsk) (m:Man) (gs:List Seg) (x:Seg) (rows:Rows):Lg d m (gs++[x]) rows=[.cells (iB d m (.sl 1 3 0 (gs.length+1)) (.m 2)),.arr 3 (gs.map Seg.enc++[x.enc]) 0,.mp rows]:=by
 cases gs with
 | nil=>rfl
 | cons g r =>
  have e:Lg d m ((g::r)++[x]) rows=[.cells (iB d m (.sl 1 3 0 ((r++[x]).length+1)) (.m 2)),.arr 3 ((g::(r++[x])).map Seg.enc) 0,.mp rows]:=rfl;rw[e];simp
theorem Dc (d:Dsk) (m:Man) (gs:List Seg) (rows:Rows) (h:1<=gs.length):Lg d m gs rows=[.cells (iB d m (.sl 1 3 0 gs.length) (.m 2)),.arr 3 (gs.map Seg.enc) 0,.mp rows]:=by
 cases gs with
 | nil=>simp at h
 | cons g r=>rfl
def pq (d:Dsk) (m:Man) (z:V × Hp):Prop:=match cU d m.segs with
 | some gs=>∃ rows:Rows,(∀ u,kj rows u=fo (cI m) u)∧z=(vb true,[.cells (iB d m (.sl 1 3 0 gs.length) (.m 2)),.arr 3 (gs.map Seg.enc) 0,.mp rows])
 | none=>∃ (b:Box) (T:Hp),z=(vb false,b::T)
theorem xA (d:Dsk) (m:Man) (gs:List Seg) (h:gs.length<m.segs.length) (hi:ka d gs (m.segs.drop gs.length)=cU d m.segs) :
  ((aB d.files (fileN m.segs[gs.length])).2≠0->cU d m.segs=none) ∧
  ((aB d.files (fileN m.segs[gs.length])).2=0->kh d m gs.length m.segs[gs.length]=false->cU d m.segs=none) ∧
  ((aB d.files (fileN m.segs[gs.length])).2=0->kh d m gs.length m.segs[gs.length]=true->ka d (gs++[(cX d m.segs[gs.length]).1]) (m.segs.drop (gs.length+1))=cU d m.segs):=by
 rw[<- hi,zD h];unfold ka;rw[jY];refine⟨fun c=>by rw[if_pos c];rfl,fun c1 c2=>?_,fun c1 c2=>?_⟩
 ·rw[if_neg (by simp[c1])]
  unfold kh w4 at c2;simp only[Bool.or_eq_false_iff,Bool.and_eq_false_iff,decide_eq_false_iff_not] at c2;have h2:gs.length+1<m.segs.length:=by omega
  rw[zD h2];simp only;rw[List.getD_eq_getElem?_getD,zE h2] at c2;rw[if_pos (by simpa using c2.2)]
  try rfl
 ·rw[if_neg (by simp[c1])]
  unfold kh w4 at c2;simp only[Bool.or_eq_true,Bool.and_eq_true,decide_eq_true_eq] at c2;by_cases h2:gs.length+1<m.segs.length
  ·rcases c2 with c2|c2
   ·omega
   ·rw[List.getD_eq_getElem?_getD,zE h2] at c2;have e:=zD h2;rw[e];simp only;rw[if_neg (by simpa using c2),<- e,Option.map_map]
    congr 1
    funext x
    simp
  ·rw[zC (by omega)]
   simp[cU]
theorem BB {m:Man} {rows:Rows} {i:Nat} (h:i<m.segs.length) (hr:∀ u,kj rows u=fo (cW m++(m.segs.take i).map fileN) u):∀ u,kj (dD rows (fileN m.segs[i]) true) u=fo (cW m++(m.segs.take (i+1)).map fileN) u:=by
 intro u;rw[pX,hr,zO h,List.map_append,<- List.append_assoc];unfold fo;rw[List.any_append,List.any_append,List.any_append];simp only[List.map_cons,List.map_nil,List.any_cons,List.any_nil,Bool.or_false];rw[Bool.or_comm]
theorem BW {m:Man} (hh:0<=m.segs.headD 0):∀ u,kj (tL m (dD [] [109] true)) u=fo (cW m++(m.segs.take 0).map fileN) u:=by
 intro u;unfold tL cW fo;by_cases c:m.segs.headD 0=0
 ·rw[if_pos c,if_neg (by omega),pX]
  simp[kj]
 ·rw[if_neg c,if_pos (by omega),pX,pX]
  simp[kj,Bool.or_comm]
def Dp (d:Dsk) (s:Txt) (z:V × Hp):Prop:=match bG s with
 | some m=>if jM d m=true then pq d m z else ∃ (b:Box) (T:Hp),z=(vb false,b::T)
 | none=>∃ (b:Box) (T:Hp),z=(vb false,b::T)
theorem xV {k u:Nat} (d:Dsk) (hd:okN k u d) (hk:k<=700000) (hu:u<=1000000) (s:Txt) (hs:s.length<=1000000) :
  ∃ z,call 25 [.one (.p 0 0),vs s] [.cells (lc d)]=some z∧Dp d s z:=by
 obtain⟨Z,q1,q2,q3⟩:=Cf s hs;apply Jq Om rfl;unfold Dp;cases hdm:bG s with
 | none =>
  obtain⟨e,he,rfl⟩:=q3 hdm;unfold dG cO at q1;simp only[lc];(simp(disch:=first|decide|omega|(intros;exact aj rfl rfl)|simp only[aa]) only[aH,KN,q1,he,go_sem,seval,ai,bg,A.kind,A.xs,aG,A.isN])
  exact⟨_,rfl,_,_,by simp[zR];exact⟨rfl,rfl⟩⟩
 | some m =>
  have hZ:=q2 m hdm;subst hZ;have hm:=(bJ hdm).1;have hmb:=d5 hm;have hmi:=db _ _ hmb.2.2.1;have hne:=hmb.2.1;have hh:0<=m.segs.headD 0:=by
   cases hs:m.segs with
   | nil=>simp
   | cons b r=>rw[hs] at hmi;have:=hmi b (by simp);simp only[List.headD_cons];omega
  have p1:=yX d hd hk hu m hm (dD [] [109] true);have hrs:=BW hh;have e2:∀ B:Box,az call 56 [.one (.p 0 0)] [.cells (iB d m .ns (.m 2)),B,.mp (dD [] [109] true)]=some (vb (jM d m),[.cells (iB d m .ns (.m 2)),B,.mp (tL m (dD [] [109] true))]):=fun B =>
   aP (ids:=[0,2]) rfl rfl rfl p1 rfl
  have hml:m.l=[zI m.ver,.d (.l (m.segs.map eI)),zI m.size,zW m.sum]:=rfl;have hlm:(m.segs.map eI).length=m.segs.length:=by simp
  unfold kd at q1;rw[hml] at q1;simp only[lc];simp only[iB] at e2;generalize tL m (dD [] [109] true)=rw0 at *;cases hso:jM d m with
  | false =>
   rw[hso] at e2;simp only[Bool.false_eq_true,if_false];(simp(disch:=first|decide|omega|(intros;exact aj rfl rfl)|simp only[aa]) only[aH,KN,q1,e2,go_sem,seval,ai,bg,A.kind,A.xs,aG,A.isN])
   exact⟨_,rfl,_,_,by simp[zR];exact⟨rfl,rfl⟩⟩
  | true =>
   rw[hso] at e2;simp only[if_true];(simp(disch:=first|decide|omega|(intros;exact aj rfl rfl)|simp only[aa]) only[aH,KN,q1,e2,hlm,go_sem,seval,ai,bg,A.kind,A.xs,aG,A.isN])
   refine Hs (m:=1) (σ:=List Seg × Rows) (fun t=>m.segs.length-t.1.length) (fun t=>t.1.length<=m.segs.length∧ka d t.1 (m.segs.drop t.1.length)=cU d m.segs∧∀ u,kj t.2 u=fo (cW m++(m.segs.take t.1.length).map fileN) u)
    (fun t=>[.one (.p 0 0),vi m.segs.length,vi t.1.length]) (fun t=>Lg d m t.1 t.2) (pq d m) ?_ ([],rw0) ⟨zP _,by simp[ka],hrs⟩ _ _ ?_
   rotate_left
   ·exact bv
   rintro⟨gs,rows⟩ ⟨h1,h2,h3⟩ R hR;simp only at h1 h2 h3 ⊢;by_cases c:gs.length<m.segs.length
   ·have hc:((gs.length:Nat):Int)<(m.segs.length:Int):=by omega
    have hst:=xA d m gs c h2;have hrw:=BB c h3;have hR':=hR (gs++[(cX d m.segs[gs.length]).1],dD rows (fileN m.segs[gs.length]) true);simp only[FG,zA,List.length_cons,List.length_nil,Nat.zero_add] at hR';by_cases h0:gs=[]
    ·subst h0;have hz0:((0:Nat):Int)=0:=rfl;have p2:=A2 d hd hk hu m hm rows 0 c;simp only[List.length_nil,Nat.zero_add,List.map_nil,List.nil_append] at hst hrw hR' p2 ⊢;simp only[Lg,iB] at p2 hR' ⊢;simp only[hz0] at p2 hc ⊢;by_cases c1:(aB d.files (fileN m.segs[0])).2=0
     ·rw[if_neg (by simp[c1])] at p2
      cases c2:kh d m 0 m.segs[0] with
      | false =>
       have hno:=hst.2.1 c1 c2;rw[c2] at p2;clear hR hR' hst;generalize dD rows (fileN m.segs[0]) true=rows2 at *;generalize (cX d m.segs[0]).1.enc=x at *;(simp(disch:=first|decide|omega|(intros;exact aj rfl rfl)|simp only[aa]) only[aH,o5,zT hc,p2,go_sem,seval,ai,bg,A.kind,A.xs,aG,A.isN])
       refine⟨_,rfl,?_⟩;unfold pq;rw[hno];exact⟨_,_,by simp[zR];exact⟨rfl,rfl⟩⟩
      | true =>
       have hyes:=hst.2.2 c1 c2;rw[c2] at p2;have hK:=hR' (by omega) ⟨by omega,hyes,hrw⟩
       clear hR hR' hst hyes hrw;generalize dD rows (fileN m.segs[0]) true=rows2 at *;generalize (cX d m.segs[0]).1.enc=x at *;(simp(disch:=first|decide|omega|(intros;exact aj rfl rfl)|simp only[aa]) only[aH,o5,zT hc,p2,go_sem,seval,ai,bg,A.kind,A.xs,aG,A.isN])
       exact hK _ _ bv
     ·rw[if_pos c1] at p2;have hno:=hst.1 c1;clear hR hR' hst;generalize dD rows (fileN m.segs[0]) true=rows2 at *;(simp(disch:=first|decide|omega|(intros;exact aj rfl rfl)|simp only[aa]) only[aH,o5,zT hc,p2,go_sem,seval,ai,bg,A.kind,A.xs,aG,A.isN])
      refine⟨_,rfl,?_⟩;unfold pq;rw[hno];exact⟨_,_,by simp[zR];exact⟨rfl,rfl⟩⟩
    ·have hg1:1<=gs.length:=List.length_pos_iff.2 h0;rw[Dc d m gs rows hg1];have p2:=B5 d hd hk hu m hm rows gs.length c gs (by omega)
     have hgm:(gs.map Seg.enc).length=gs.length:=by simp
     simp only[iB] at p2 hR' ⊢;by_cases c1:(aB d.files (fileN m.segs[gs.length])).2=0
     ·rw[if_neg (by simp[c1])] at p2
      cases c2:kh d m gs.length m.segs[gs.length] with
      | false =>
       have hno:=hst.2.1 c1 c2;rw[c2] at p2;clear hR hR' hst;generalize dD rows (fileN m.segs[gs.length]) true=rows2 at *;generalize (cX d m.segs[gs.length]).1.enc=x at *;generalize gs.map Seg.enc=G at *;(simp(disch:=first|decide|omega|(intros;exact aj rfl rfl)|simp only[aa]) only[aH,o5,zT hc,p2,go_sem,seval,ai,bg,A.kind,A.xs,aG,A.isN])
       refine⟨_,rfl,?_⟩;unfold pq;rw[hno];exact⟨_,_,by simp[zR];exact⟨rfl,rfl⟩⟩
      | true =>
       have hyes:=hst.2.2 c1 c2;rw[c2] at p2;have hK:=hR' (by omega) ⟨by omega,hyes,hrw⟩
       clear hR hR' hst hyes hrw;generalize dD rows (fileN m.segs[gs.length]) true=rows2 at *;generalize (cX d m.segs[gs.length]).1.enc=x at *;generalize gs.map Seg.enc=G at *;(simp(disch:=first|decide|omega|(intros;exact aj rfl rfl)|simp only[aa]) only[aH,o5,zT hc,p2,go_sem,seval,ai,bg,A.kind,A.xs,aG,A.isN])
       exact hK _ _ bv
     ·rw[if_pos c1] at p2;have hno:=hst.1 c1;clear hR hR' hst;generalize dD rows (fileN m.segs[gs.length]) true=rows2 at *;generalize gs.map Seg.enc=G at *;(simp(disch:=first|decide|omega|(intros;exact aj rfl rfl)|simp only[aa]) only[aH,o5,zT hc,p2,go_sem,seval,ai,bg,A.kind,A.xs,aG,A.isN])
      refine⟨_,rfl,?_⟩;unfold pq;rw[hno];exact⟨_,_,by simp[zR];exact⟨rfl,rfl⟩⟩
   ·have hc:¬ ((gs.length:Nat):Int)<(m.segs.length:Int):=by omega
    have hgl:gs.length=m.segs.length:=by omega
    rw[hgl,zC (Nat.le_refl _)] at h2;rw[hgl,List.take_length] at h3;have h4:cU d m.segs=some gs:=by rw[<- h2];simp[ka,cU]
    clear hR;rw[Dc d m gs rows (by omega)]
    simp only[iB];(simp(disch:=first|decide|omega|(intros;exact aj rfl rfl)|simp only[aa]) only[aH,o5,KN,zF hc,go_sem,seval,ai,bg,A.kind,A.xs,aG,A.isN])
    refine⟨_,rfl,?_⟩;unfold pq;rw[h4];refine⟨rows,h3,?_⟩;simp[zR,iB]
theorem Dx (n:Txt):fo [] n=false:=rfl
theorem wm {k u:Nat} (d:Dsk) (hd:okN k u d) (hk:k<=700000) (hu:u<=900000000000):call 23 [.one (.p 0 0)] [.cells (lc d)]=some (vi (bd [] d).2,[.cells (lc (bd [] d).1)]):=by
 have q1:=o9 d (Nat.le_trans hd.len (by omega))
 obtain⟨Z,hZ⟩:∃ Z,Z=bd [] d:=⟨_,rfl⟩;rw[<- hZ];unfold bd at hZ;have hnl:(bR d.files).length<=1000000:=by have:=hd.len;simp[bR];omega
 obtain⟨⟨zfl,zcp,zar,zlf,zdn⟩,ze⟩:=Z;generalize bR d.files=NL at *;simp only[Dsk.l,lc] at q1 ⊢;have hml:(NL.map eT).length=NL.length:=by simp
 apply ah NE rfl;(simp(disch:=first|decide|omega|(intros;exact aj rfl rfl)|simp only[aa]) only[aH,Ll,q1,hml,go_sem,seval,ai])
 refine aE (m:=1) (σ:=Nat × Dsk) (fun t=>NL.length-t.1) (fun t=>t.1<=NL.length∧okN k u t.2∧ij [] (NL.drop t.1) (t.2,0)=(⟨zfl,zcp,zar,zlf,zdn⟩,ze)) (fun t=>[V.one (.p 0 0),vl (NL.map eT),vi NL.length,vi t.1])
  (fun t=>[.cells [.d (.l (t.2.files.map Fil.enc)),zI t.2.cap,zB t.2.armed,zI t.2.left,zB t.2.down,zI 0,.ns,zI 0,zW 0,.ns,.nm]])
  (fun _=>((vi ze,[.cells [.d (.l (zfl.map Fil.enc)),zI zcp,zB zar,zI zlf,zB zdn,zI 0,.ns,zI 0,zW 0,.ns,.nm]]):V × Hp)) ?_ (0,d) ⟨zP _,hd,hZ.symm⟩ _ _ ?_
 rotate_left
 ·exact bv
 rintro⟨i,dd⟩ ⟨h1,h2,h3⟩ R hR;simp only at h1 h2 h3 ⊢;by_cases c:i<NL.length
 ·have hc:(i:Int)<(NL.length:Int):=by omega
  rw[zD c,kE] at h3;have g1:(NL.map eT)[i]?=some [.s NL[i]]:=by rw[zG,zE c];rfl
  generalize NL[i]=n at *;cases hkp:fo [] n with
  | true =>
   rw[Dx] at hkp;cases hkp
  | false =>
   rw[hkp,if_neg (by simp)] at h3
   have g2:=kV dd (h2.ok (by omega) (by omega)) n
   have kk:=dM (s:=(dd,0)) h2 n;rw[show cQ n (dd,0)=aA dd (b7 dd.files n) from cA _ _] at kk h3
   have hRn:=fun h=>hR (i+1,(aA dd (b7 dd.files n)).1) (by simp only[];omega) ⟨by simp only[];omega,kk,h⟩
   generalize aA dd (b7 dd.files n)=q at *;obtain⟨⟨qfl,qcp,qar,qlf,qdn⟩,qe⟩:=q;obtain⟨fl,cp,ar,lf,dn⟩:=dd;simp only[aR,Dsk.l] at g2 h3 hRn ⊢;clear hR;by_cases c2:qe=0
   ·subst c2;(simp(disch:=first|decide|omega|(intros;exact aj rfl rfl)|simp only[aa]) only[aH,pg,zT hc,g1,g2,go_sem,seval,ai])
    exact hRn h3 _ _ bv
   ·have e:ij [] (NL.drop (i+1)) (⟨qfl,qcp,qar,qlf,qdn⟩,qe)=(⟨qfl,qcp,qar,qlf,qdn⟩,qe):=uS _ _ c2;rw[e] at h3;cases h3;(simp(disch:=first|decide|omega|(intros;exact aj rfl rfl)|simp only[aa]) only[aH,pg,zT hc,g1,g2,eq_false c2,go_sem,seval,ai])
    try simp[zR]
 ·have hc:¬ (i:Int)<(NL.length:Int):=by omega
  rw[zC (by omega)] at h3
  cases h3;(simp(disch:=first|decide|omega|(intros;exact aj rfl rfl)|simp only[aa]) only[aH,pg,Ll,zF hc,go_sem,seval,ai])
  try simp[zR]
theorem wA {k u:Nat} (d:Dsk) (hd:okN k u d) (hk:k<=700000) (hu:u<=900000000000) (m:Man) (n0:Nat) (G:List (List D)) (rows:Rows) (use:List Txt) (hr:∀ v,kj rows v=fo use v):call 23 [.one (.p 0 0)] [.cells (iB d m (.sl 1 3 0 n0) (.m 2)),.arr 3 G 0,.mp rows]=some (vi (bd use d).2,[.cells (iB (bd use d).1 m (.sl 1 3 0 n0) (.m 2)),.arr 3 G 0,.mp rows]):=by
 have q1:=o9 d (Nat.le_trans hd.len (by omega))
 obtain⟨Z,hZ⟩:∃ Z,Z=bd use d:=⟨_,rfl⟩;rw[<- hZ];unfold bd at hZ;have hnl:(bR d.files).length<=1000000:=by have:=hd.len;simp[bR];omega
 obtain⟨⟨zfl,zcp,zar,zlf,zdn⟩,ze⟩:=Z;generalize bR d.files=NL at *;simp only[Dsk.l,iB] at q1 ⊢;have hml:(NL.map eT).length=NL.length:=by simp
 apply ah NE rfl;(simp(disch:=first|decide|omega|(intros;exact aj rfl rfl)|simp only[aa]) only[aH,Ll,q1,hml,go_sem,seval,ai])
 refine aE (m:=3) (σ:=Nat × Dsk) (fun t=>NL.length-t.1) (fun t=>t.1<=NL.length∧okN k u t.2∧ij use (NL.drop t.1) (t.2,0)=(⟨zfl,zcp,zar,zlf,zdn⟩,ze)) (fun t=>[V.one (.p 0 0),vl (NL.map eT),vi NL.length,vi t.1])
  (fun t=>[.cells [.d (.l (t.2.files.map Fil.enc)),zI t.2.cap,zB t.2.armed,zI t.2.left,zB t.2.down,zI m.ver,.d (.l (m.segs.map eI)),zI m.size,zW m.sum,.sl 1 3 0 n0,.m 2],.arr 3 G 0,.mp rows])
  (fun _=>((vi ze,[.cells [.d (.l (zfl.map Fil.enc)),zI zcp,zB zar,zI zlf,zB zdn,zI m.ver,.d (.l (m.segs.map eI)),zI m.size,zW m.sum,.sl 1 3 0 n0,.m 2],.arr 3 G 0,.mp rows]):V × Hp)) ?_ (0,d) ⟨zP _,hd,hZ.symm⟩ _ _ ?_
 rotate_left
 ·exact bv
 rintro⟨i,dd⟩ ⟨h1,h2,h3⟩ R hR;simp only at h1 h2 h3 ⊢;by_cases c:i<NL.length
 ·have hc:(i:Int)<(NL.length:Int):=by omega
  rw[zD c,kE] at h3;have g1:(NL.map eT)[i]?=some [.s NL[i]]:=by rw[zG,zE c];rfl
  generalize NL[i]=n at *;cases hkp:fo use n with
  | true =>
   rw[hkp,if_pos rfl] at h3;have hmg:=(hr n).trans hkp;have hRk:=hR (i+1,dd) (by simp only[];omega) ⟨by simp only[];omega,h2,h3⟩
   (simp(disch:=first|decide|omega|(intros;exact aj rfl rfl)|simp only[aa]) only[aH,pg,zT hc,g1,hmg,go_sem,seval,ai])
   exact hRk _ _ bv
  | false =>
   rw[hkp,if_neg (by simp)] at h3
   have g2:=kV dd (h2.ok (by omega) (by omega)) n
   have kk:=dM (s:=(dd,0)) h2 n;rw[show cQ n (dd,0)=aA dd (b7 dd.files n) from cA _ _] at kk h3
   have hRn:=fun h=>hR (i+1,(aA dd (b7 dd.files n)).1) (by simp only[];omega) ⟨by simp only[];omega,kk,h⟩
   generalize aA dd (b7 dd.files n)=q at *;obtain⟨⟨qfl,qcp,qar,qlf,qdn⟩,qe⟩:=q;obtain⟨fl,cp,ar,lf,dn⟩:=dd;simp only[aR,Dsk.l] at g2 h3 hRn ⊢;have hmg:=(hr n).trans hkp;clear hR;by_cases c2:qe=0
   ·subst c2;(simp(disch:=first|decide|omega|(intros;exact aj rfl rfl)|simp only[aa]) only[aH,pg,zT hc,g1,g2,hmg,go_sem,seval,ai])
    exact hRn h3 _ _ bv
   ·have e:ij use (NL.drop (i+1)) (⟨qfl,qcp,qar,qlf,qdn⟩,qe)=(⟨qfl,qcp,qar,qlf,qdn⟩,qe):=uS _ _ c2;rw[e] at h3;cases h3;(simp(disch:=first|decide|omega|(intros;exact aj rfl rfl)|simp only[aa]) only[aH,pg,zT hc,g1,g2,eq_false c2,hmg,go_sem,seval,ai])
    try simp[zR]
 ·have hc:¬ (i:Int)<(NL.length:Int):=by omega
  rw[zC (by omega)] at h3
  cases h3;(simp(disch:=first|decide|omega|(intros;exact aj rfl rfl)|simp only[aa]) only[aH,pg,Ll,zF hc,go_sem,seval,ai])
  try simp[zR]
theorem Ax {gs:List Seg} (h:1<=gs.length):(gs.map Seg.enc)[gs.length-1]?=some (gs.getLastD ⟨0,0,0⟩).enc:=by
 have hl:gs.length-1<gs.length:=by omega
 rw[zG,zE hl,List.getLastD_eq_getLast?,List.getLast?_eq_getElem?,zE hl];rfl
theorem BI {k u:Nat} (d:Dsk) (hd:okN k u d) (hk:k<=700000) (hu:u<=1000000) (m:Man) (rows:Rows) (gs:List Seg) (hg:1<=gs.length∧gs.length<=64) (hb:0<=(gs.getLastD ⟨0,0,0⟩).base∧(gs.getLastD ⟨0,0,0⟩).base<=1099511627776) :
  call 26 [.one (.p 0 0)] [.cells (iB d m (.sl 1 3 0 gs.length) (.m 2)),.arr 3 (gs.map Seg.enc) 0,.mp rows]=some (vi (iO d (gs.getLastD ⟨0,0,0⟩)).2,[.cells (iB (iO d (gs.getLastD ⟨0,0,0⟩)).1 m (.sl 1 3 0 gs.length) (.m 2)),.arr 3 (gs.map Seg.enc) 0,.mp rows]):=by
 have g1:=Ax hg.1;have hgm:(gs.map Seg.enc).length=gs.length:=by simp
 have hn1:(gs.length:Int)-1=((gs.length-1:Nat):Int):=by omega
 have hn2:((gs.length:Int)-1).toNat=gs.length-1:=by omega
 generalize gs.getLastD ⟨0,0,0⟩=g at *;generalize gs.map Seg.enc=G at *;obtain⟨gn,hgn⟩:∃ gn,gn=gs.length:=⟨_,rfl⟩;rw[<- hgn] at hg hgm hn1 hn2 g1 ⊢;have q1:=pK hb;have q2:=gS d (Nat.le_trans hd.len (by omega)) hd.srt (fileN g.base)
 have q3:=Cr d (hd.ok (by omega) (by omega)) (fileN g.base) g.size
 have k3:=pN hd g;have q4:=oq d (hd.ok (by omega) (by omega)) (fileN g.base)
 have q5:=oq _ (k3.ok (by omega) (by omega)) (fileN g.base)
 unfold iO;have e0:∀ d:Dsk,gK (fileN g.base) (d,0)=aA d (di d.files (fileN g.base)):=fun d=>cA _ _
 have e1:∀ (d:Dsk) (e:Int),e≠0->gK (fileN g.base) (d,e)=(d,e):=fun d e h=>by unfold gK rT;rw[if_neg h]
 obtain⟨gb,gnn,gz⟩:=g;simp only[Seg.enc] at g1 hb q1 q2 q3 q4 q5 e0 e1 ⊢;generalize fileN gb=N at *;have hrl:=bP d.files N;have hdu:=hd.used;generalize aB d.files N=rf at *;obtain⟨x,e⟩:=rf;simp only at q2 hrl ⊢;by_cases c:gz<((x.length:Nat):Int)
 ·rw[if_pos c];generalize aA d (lU d.files N gz)=w at *;obtain⟨w1,we⟩:=w;by_cases c1:we=0
  ·subst c1;rw[e0];simp only at q5 ⊢;generalize aA w1 (di w1.files N)=y at *;obtain⟨⟨yfl,ycp,yar,ylf,ydn⟩,ye⟩:=y;obtain⟨wfl,wcp,war,wlf,wdn⟩:=w1;obtain⟨fl,cp,ar,lf,dn⟩:=d;simp only[aR,Dsk.l,iB] at q2 q3 q5 ⊢;clear e0 e1 q4 k3;apply ah Nb rfl;(simp(disch:=first|decide|omega|(intros;exact aj rfl rfl)|simp only[aa]) only[aH,LG,hgm,hn1,hn2,g1,q1,q2,zT c,q3,q5,go_sem,seval,ai,bg,A.kind,A.xs,aG,A.isN])
   try simp[zR]
  ·rw[e1 _ _ c1];obtain⟨wfl,wcp,war,wlf,wdn⟩:=w1;obtain⟨fl,cp,ar,lf,dn⟩:=d;simp only[aR,Dsk.l,iB] at q2 q3 ⊢;clear e0 e1 q4 q5 k3;apply ah Nb rfl;(simp(disch:=first|decide|omega|(intros;exact aj rfl rfl)|simp only[aa]) only[aH,LG,hgm,hn1,hn2,g1,q1,q2,zT c,q3,eq_false c1,go_sem,seval,ai,bg,A.kind,A.xs,aG,A.isN])
   try simp[zR]
 ·rw[if_neg c,e0];generalize aA d (di d.files N)=y at *;obtain⟨⟨yfl,ycp,yar,ylf,ydn⟩,ye⟩:=y;obtain⟨fl,cp,ar,lf,dn⟩:=d;simp only[aR,Dsk.l,iB] at q2 q4 ⊢;clear e0 e1 q3 q5 k3;apply ah Nb rfl;(simp(disch:=first|decide|omega|(intros;exact aj rfl rfl)|simp only[aa]) only[aH,LG,hgm,hn1,hn2,g1,q1,q2,zF c,q4,go_sem,seval,ai,bg,A.kind,A.xs,aG,A.isN])
  try simp[zR]
theorem jZ {k u:Nat} (d:Dsk) (hd:okN k u d) (hk:k<=700000) (hu:u<=1000000):call 10 [.agg d.l] []=some (bh (df d),[]):=by
 have hrd:=fun n=>gS d (Nat.le_trans hd.len (by omega)) hd.srt n
 have hcell:∀ s:Sto,s.l=[.d (.l (s.disk.files.map Fil.enc)),zI s.disk.cap,zB s.disk.armed,zI s.disk.left,zB s.disk.down,zI s.ver,.d (.l (s.segs.map Seg.enc)),zI s.next,zI s.sure,zI s.size,zW s.sum]:=fun _=>rfl
 have hdl:∀ d:Dsk,d.l=([.d (.l (d.files.map Fil.enc)),zI d.cap,zB d.armed,zI d.left,zB d.down]:List L):=fun _=>rfl
 have hds:∀ d:Dsk,[.d (.l ((bT d).disk.files.map Fil.enc)),.d (.i .i64 (bT d).disk.cap),.d (.b (bT d).disk.armed),.d (.i .i64 (bT d).disk.left),.d (.b (bT d).disk.down),.d (.i .i64 (bT d).ver),.d (.l ((bT d).segs.map Seg.enc)),.d (.i .i64 (bT d).next),.d (.i .i64 (bT d).sure),.d (.i .i64 (bT d).size),.d (.i .u32 (bT d).sum)]=([.d (.l (d.files.map Fil.enc)),zI d.cap,zB d.armed,zI d.left,zB d.down,zI 0,.d (.l []),zI 0,zI 0,zI 0,zW 0]:List L):=fun _=>rfl
 unfold df;apply ah Pg rfl;by_cases c0:d.down=true
 ·rw[if_pos c0];simp only[bh,hcell,hds,hdl] at hrd ⊢;rw[c0];(simp(disch:=first|decide|omega|(intros;exact aj rfl rfl)|simp only[aa]) only[aH,a10,go_sem,seval,ai])
  try simp[trim]
 ·rw[if_neg c0];have c0':d.down=false:=by simpa using c0
  have q1:=hrd [109];have hrl:=bP d.files [109];have hdu:=hd.used;by_cases c1:(aB d.files [109]).2=0
  ·rw[if_neg (by simp[c1])]
   obtain⟨z,q2,hq⟩:=xV d hd hk hu (aB d.files [109]).1 (by omega)
   unfold Dp at hq;have hbad:(∃ (b:Box) (T:Hp),z=(vb false,b::T))->∃ (b:Box) (T:Hp),∀ B0 B1:Box,az call 25 [.one (.p 2 0),vs (aB d.files [109]).1] [B0,B1,.cells (lc d)]=some (vb false,B0::B1::b::T):=by
    rintro⟨b,T,rfl⟩;exact⟨Box.ren (fun j=>if j<1 then[2][j]? else some (3+(j-1))) b,T.map (Box.ren (fun j=>if j<1 then[2][j]? else some (3+(j-1)))),fun B0 B1=>aP (ids:=[2]) rfl rfl rfl q2 rfl⟩
   have hbd:(∃ (b:Box) (T:Hp),∀ B0 B1:Box,az call 25 [.one (.p 2 0),vs (aB d.files [109]).1] [B0,B1,.cells (lc d)]=some (vb false,B0::B1::b::T))->iF call ([]:Hp).length (wZ a10.res a10.keep ([]:Hp).length) a10.body (ae a10.ntmps (pF [.agg d.l])) [] []=some (bh (bT d,3),[]):=by
    rintro⟨b,T,f2⟩;generalize aB d.files [109]=rf at *;simp only[bh,hcell,hds,hdl,lc] at q1 f2 ⊢;rw[c0'] at q1 f2 ⊢;clear q2 hq hbad;(simp(disch:=first|decide|omega|(intros;exact aj rfl rfl)|simp only[aa]) only[aH,a10,q1,c1,f2,go_sem,seval,ai])
    try simp[trim]
   cases hdm:bG (aB d.files [109]).1 with
   | none =>
    rw[hdm] at hq;exact hbd (hbad hq)
   | some m =>
    rw[hdm] at hq;simp only at hq ⊢;unfold tH;cases hso:jM d m with
    | false =>
     rw[hso] at hq;simp only[Bool.false_eq_true,if_false] at hq ⊢;exact hbd (hbad hq)
    | true =>
     rw[hso] at hq;simp only[if_true] at hq ⊢;unfold pq at hq;cases hsg:cU d m.segs with
     | none =>
      rw[hsg] at hq;exact hbd (hbad hq)
     | some gs =>
      rw[hsg] at hq;simp only at hq ⊢;obtain⟨rows,hr,rfl⟩:=hq;clear hbad hbd;have hm:=(bJ hdm).1;have hmb:=d5 hm;have hmi:=db _ _ hmb.2.2.1;have hgl:=lG d _ _ hsg;have hgb:=rQ hd _ _ hsg;have hlast:gs.getLastD ⟨0,0,0⟩∈gs:=by
       have hne:gs≠[]:=fun h=>by rw[h] at hgl;simp at hgl;omega
       rw[List.getLastD_eq_getLast?,List.getLast?_eq_some_getLast hne];exact List.getLast_mem hne
      have hg1:=hgb _ hlast;have hg2:=hmi _ hg1.1;have g1:=Ax (gs:=gs) (by omega)
      have hgm:(gs.map Seg.enc).length=gs.length:=by simp
      have hn1:(gs.length:Int)-1=((gs.length-1:Nat):Int):=by omega
      have hn2:((gs.length:Int)-1).toNat=gs.length-1:=by omega
      have htk:List.take gs.length (gs.map Seg.enc)=gs.map Seg.enc:=zL (by omega)
      have q3:=wA d hd hk (by omega) m gs.length (gs.map Seg.enc) rows (cI m) hr
      have ks:=jx hd (cI m);have q4:=BI _ ks hk hu m rows gs (by omega) (by omega)
      have km:=pO ks (gs.getLastD ⟨0,0,0⟩);unfold vD;have f2:∀ B0 B1:Box,az call 25 [.one (.p 2 0),vs (aB d.files [109]).1] [B0,B1,.cells (lc d)]=some (vb true,[B0,B1,.cells (iB d m (.sl 3 3 0 gs.length) (.m 4)),.arr 3 (gs.map Seg.enc) 0,.mp rows]):=fun B0 B1=>aP (ids:=[2]) rfl rfl rfl q2 rfl
      have f3:∀ B0 B1:Box,az call 23 [.one (.p 2 0)] [B0,B1,.cells (iB d m (.sl 3 3 0 gs.length) (.m 4)),.arr 3 (gs.map Seg.enc) 0,.mp rows]=some (vi (bd (cI m) d).2,[B0,B1,.cells (iB (bd (cI m) d).1 m (.sl 3 3 0 gs.length) (.m 4)),.arr 3 (gs.map Seg.enc) 0,.mp rows]):=fun B0 B1=>aP (ids:=[2,3,4]) rfl rfl rfl q3 rfl
      have f4:∀ B0 B1:Box,az call 26 [.one (.p 2 0)] [B0,B1,.cells (iB (bd (cI m) d).1 m (.sl 3 3 0 gs.length) (.m 4)),.arr 3 (gs.map Seg.enc) 0,.mp rows]=some (vi (iO (bd (cI m) d).1 (gs.getLastD ⟨0,0,0⟩)).2,[B0,B1,.cells (iB (iO (bd (cI m) d).1 (gs.getLastD ⟨0,0,0⟩)).1 m (.sl 3 3 0 gs.length) (.m 4)),.arr 3 (gs.map Seg.enc) 0,.mp rows]):=fun B0 B1=>aP (ids:=[2,3,4]) rfl rfl rfl q4 rfl
      clear q2 q3 q4 hr hgb hlast hsg hmi;generalize aB d.files [109]=rf at *;generalize bd (cI m) d=w at *;obtain⟨w1,we⟩:=w;generalize iO w1 (gs.getLastD ⟨0,0,0⟩)=y at *;obtain⟨y1,ye⟩:=y;simp only at f2 f3 f4 hg1 hg2 km ⊢;generalize gs.getLastD ⟨0,0,0⟩=g at *;generalize hG:gs.map Seg.enc=G at *;obtain⟨gb,gn,gz⟩:=g;simp only[Seg.enc] at g1 hg1 hg2;obtain⟨gl,hgl2⟩:∃ gl,gl=gs.length:=⟨_,rfl⟩;rw[<- hgl2] at f2 f3 f4 hgm hn1 hn2 g1 htk hgl;by_cases c2:we=0
      ·subst c2;rw[if_neg (by simp)]
       by_cases c3:ye=0
       ·subst c3;rw[if_neg (by simp)]
        simp only[bh,hcell,hdl,iB,lc,hG] at q1 f2 f3 f4 ⊢;rw[c0'] at q1 f2 f3 ⊢;(simp(disch:=first|decide|omega|(intros;exact aj rfl rfl)|simp only[aa]) only[aH,a10,q1,c1,f2,f3,f4,hgm,hn1,hn2,g1,htk,go_sem,seval,ai,bg,A.kind,A.xs,aG,A.isN])
        try simp[trim]
       ·rw[if_pos c3];simp only[bh,hcell,hds,hdl,iB,lc] at q1 f2 f3 f4 ⊢;rw[c0'] at q1 f2 f3 ⊢;(simp(disch:=first|decide|omega|(intros;exact aj rfl rfl)|simp only[aa]) only[aH,a10,q1,c1,f2,f3,f4,eq_false c3,go_sem,seval,ai,bg,A.kind,A.xs,aG,A.isN])
        try simp[trim]
      ·rw[if_pos c2];simp only[bh,hcell,hds,hdl,iB,lc] at q1 f2 f3 f4 ⊢;rw[c0'] at q1 f2 f3 ⊢;(simp(disch:=first|decide|omega|(intros;exact aj rfl rfl)|simp only[aa]) only[aH,a10,q1,c1,f2,f3,eq_false c2,go_sem,seval,ai,bg,A.kind,A.xs,aG,A.isN])
       try simp[trim]
  ·rw[if_pos c1];have q3:=wm d hd hk (by omega)
   have ks:=jx hd [];unfold mg;generalize aB d.files [109]=rf at *;generalize bd [] d=w at *;have q4:=CN w.1 ks (by omega) (by omega)
   have f3:∀ B0 B1:Box,az call 23 [.one (.p 2 0)] [B0,B1,.cells (lc d)]=some (vi w.2,[B0,B1,.cells (lc w.1)]):=fun B0 B1=>aP (ids:=[2]) rfl rfl rfl q3 rfl
   clear q3;obtain⟨w1,we⟩:=w;by_cases c2:we=0
   ·subst c2;rw[if_neg (by simp)]
    simp only at q4 ⊢;generalize bD w1=y at *;obtain⟨y1,ye⟩:=y;simp only[bh,hcell,hdl,lc] at q1 q4 f3 ⊢;rw[c0'] at q1 f3 ⊢;(simp(disch:=first|decide|omega|(intros;exact aj rfl rfl)|simp only[aa]) only[aH,a10,q1,c1,f3,q4,go_sem,seval,ai])
    try simp[trim]
   ·rw[if_pos c2];simp only[bh,hcell,hds,hdl,lc] at q1 f3 ⊢;rw[c0'] at q1 f3 ⊢;(simp(disch:=first|decide|omega|(intros;exact aj rfl rfl)|simp only[aa]) only[aH,a10,q1,c1,f3,eq_false c2,go_sem,seval,ai])
    try simp[trim]
def dZ (l:List Fil):Prop:=∀ x∈l,0<=x.sure∧x.sure<=((x.data.length:Nat):Int)
theorem rB {d:Dsk} (h:dZ d.files) {r:List Fil × Int} (hr:r.2=0->dZ r.1):dZ (aA d r).1.files:=by
 unfold aA;split
 ·exact h
 ·split
  ·exact h
  ·rename_i h0;have h0:r.2=0:=by simpa using h0
   split
   ·split
    ·exact h
    ·exact hr h0
   ·exact hr h0
theorem DU {l:List Fil} (h:dZ l) (k:Nat) {f:Fil} (hf:0<=f.sure∧f.sure<=((f.data.length:Nat):Int)):dZ (gt l k f):=by
 intro x hx;unfold gt at hx;rcases zX.1 hx with hx|hx
 ·exact h x (zZ hx)
 ·rcases List.mem_cons.1 hx with rfl|hx
  ·exact hf
  ·exact h x (List.mem_of_mem_drop hx)
theorem E5 {l:List Fil} (h:dZ l) (k:Nat) {f:Fil} (hf:0<=f.sure∧f.sure<=((f.data.length:Nat):Int)):dZ (l.set k f):=by
 intro x hx;rcases List.mem_or_eq_of_mem_set hx with hx|rfl
 ·exact h x hx
 ·exact hf
theorem EM {l:List Fil} (h:dZ l) (k:Nat) {g:Fil->Fil} (hg:∀ f:Fil,(0<=f.sure∧f.sure<=((f.data.length:Nat):Int))->(0<=(g f).sure∧(g f).sure<=(((g f).data.length:Nat):Int))):dZ (rZ l k g):=by
 unfold rZ;split
 ·rename_i f hf;exact E5 h k (hg f (h f (List.mem_of_getElem? hf)))
 ·exact h
theorem xQ {l:List Fil} (h:dZ l) (k:Nat):dZ (cR l k):=by
 intro x hx;unfold cR at hx;rcases zX.1 hx with hx|hx
 ·exact h x (zZ hx)
 ·exact h x (List.mem_of_mem_drop hx)
theorem Jt {d:Dsk} (h:dZ d.files) (n:Txt):dZ (aA d (cN d.files n)).1.files:=rB h fun h0=>by
 unfold cN at h0 ⊢;split at h0
 ·split at h0
  ·cases h0
  ·rename_i h1 h2;rw[if_pos h1,if_neg h2];exact DU h _ (by simp)
 ·cases h0
theorem De {d:Dsk} (h:dZ d.files) (n x:Txt):dZ (aA d (dg d.files d.cap n x)).1.files:=rB h fun h0=>by
 unfold dg at h0 ⊢;split at h0
 ·split at h0
  ·cases h0
  ·rename_i h1 h2;rw[if_pos h1,if_neg h2];exact EM h _ fun f hf=>⟨hf.1,by show f.sure<=(((f.data++x).length:Nat):Int);rw[zA];omega⟩
 ·cases h0
theorem DT {d:Dsk} (h:dZ d.files) (n:Txt):dZ (aA d (di d.files n)).1.files:=rB h fun h0=>by
 unfold di at h0 ⊢;split at h0
 ·rename_i h1;rw[if_pos h1];exact EM h _ fun f hf=>⟨by show(0:Int)<=((f.data.length:Nat):Int);omega,Int.le_refl _⟩
 ·cases h0
theorem IJ {d:Dsk} (h:dZ d.files) (n:Txt):dZ (aA d (b7 d.files n)).1.files:=rB h fun h0=>by
 unfold b7 at h0 ⊢;split at h0
 ·rename_i h1;rw[if_pos h1];exact xQ h _
 ·cases h0
theorem JF {d:Dsk} (h:dZ d.files) (n t:Txt):dZ (aA d (jF d.files n t)).1.files:=rB h fun h0=>by
 unfold jF at h0 ⊢;split at h0
 ·split at h0
  ·rename_i h1 h2;rw[if_pos h1,if_pos h2];have hf:0<=(dK d.files (aw d.files n) t).sure∧(dK d.files (aw d.files n) t).sure<=(((dK d.files (aw d.files n) t).data.length:Nat):Int):=by
    unfold dK;split
    ·rename_i f hf;exact h f (List.mem_of_getElem? hf)
    ·simp
   simp only[jD];split
   ·exact E5 (xQ h _) _ hf
   ·exact DU (xQ h _) _ hf
  ·cases h0
 ·cases h0
theorem rY {s:Dsk × Int} {f:Dsk->Dsk × Int} (h:dZ s.1.files) (hf:dZ (f s.1).1.files):dZ (rT s f).1.files:=by
 unfold rT;split
 ·exact hf
 ·exact h
theorem pU {s:Dsk × Int} (h:dZ s.1.files) (n:Txt):dZ (bS n s).1.files:=rY h (Jt h n)
theorem nC {s:Dsk × Int} (h:dZ s.1.files) (n:Txt):dZ (cQ n s).1.files:=rY h (IJ h n)
theorem AA {s:Dsk × Int} (h:dZ s.1.files) (n:Txt):dZ (gK n s).1.files:=rY h (DT h n)
theorem Aa {s:Dsk × Int} (h:dZ s.1.files) (n x:Txt):dZ (lT n x s).1.files:=rY h (De h n x)
theorem FD {s:Dsk × Int} (h:dZ s.1.files) (n t:Txt):dZ (uw n t s).1.files:=rY h (JF h n t)
theorem pR {s:Dsk × Int} (h:dZ s.1.files) (n:Txt):dZ (eD n s).1.files:=by
 unfold eD;split
 ·exact h
 ·split
  ·exact nC (s:=(s.1,0)) h n
  ·exact nC (s:=(s.1,0)) h n
theorem uf {s:Dsk × Int} (h:dZ s.1.files) (m:Man):dZ (bX m s).1.files:=by
 unfold bX;simp only[];have h1:dZ (if s.2=0 then(s.1,(aX m).2) else s).1.files:=by split <;> exact h
 generalize (if s.2=0 then(s.1,(aX m).2) else s)=s1 at *
 have h2:dZ (if(aB s1.1.files [110]).2=0 then cQ [110] s1 else s1).1.files:=by
  split
  ·exact nC h1 _
  ·exact h1
 generalize (if(aB s1.1.files [110]).2=0 then cQ [110] s1 else s1)=s2 at *
 have h3:=pU h2 [110];split
 ·exact h3
 ·exact FD (AA (pR (Aa h3 _ _) _) _) _ _
theorem zn {s:Sto} (h:dZ s.disk.files):dZ (dh s).1.disk.files:=DT h _
theorem zp {s:Sto} (h:dZ s.disk.files):dZ (dp s).1.disk.files:=by
 unfold dp;split
 ·exact h
 ·have h2:=zn h;split
  ·exact h2
  ·generalize (dh s).1=t at *;have h3:dZ (kD t).1.files:=by
    unfold kD;have h4:=pU (s:=(t.disk,0)) h2 (fileN t.next);simp only[];split
    ·exact pR (uf h4 _) _
    ·exact h4
   split
   ·exact h3
   ·exact h3
theorem Fi {s:Sto} (h:dZ s.disk.files) (x:Txt):dZ (mo s x).1.disk.files:=by
 have h2:=De h (fileN s.last.base) x;unfold mo;simp only[];split
 ·exact h2
 ·exact h2
theorem Af {s:Sto} (h:dZ s.disk.files) (seg:Int) (r:Rec):dZ (lQ s seg r).1.disk.files:=by
 unfold lQ;split
 ·exact h
 ·split
  ·exact h
  ·split
   ·split
    ·exact zp h
    ·exact Fi (zp h) _
   ·exact Fi h _
theorem z8:∀ (l:List Seg) (s:Dsk × Int),dZ s.1.files->dZ (fh l s).1.files
 | [],s,h=>h
 | n::l,s,h=>z8 l _ (nC h _)
theorem G8 {s:Sto} (h:dZ s.disk.files) (a b:Int):dZ (iU s a b).1.disk.files:=by
 unfold iU;split
 ·exact h
 ·generalize ik s.segs a b=k;unfold p9;have h2:dZ (yE s.disk (aV (bC s.segs k)) (cC (cD s (bC s.segs k))) (gj s k).man).1.files:=by
   unfold yE;simp only[];have h4:=pU (s:=(s.disk,0)) h (aV (bC s.segs k));generalize bS (aV (bC s.segs k)) (s.disk,0)=q at *;have h5:dZ (if q.2=0 then eD (aV (bC s.segs k)) (lT (aV (bC s.segs k)) (cC (cD s (bC s.segs k))) q) else q).1.files:=by
    split
    ·exact pR (Aa h4 _ _) _
    ·exact h4
   generalize (if q.2=0 then eD (aV (bC s.segs k)) (lT (aV (bC s.segs k)) (cC (cD s (bC s.segs k))) q) else q)=q2 at *
   have h6:=AA h5 (aV (bC s.segs k));split
   ·exact pR (uf h6 _) _
   ·exact h6
  generalize yE s.disk (aV (bC s.segs k)) (cC (cD s (bC s.segs k))) (gj s k).man=e at *;simp only[];split
  ·exact h2
  ·show dZ (uL s k e).1.files;unfold uL;have h7:=z8 (s.segs.take k) e h2;simp only[];split
   ·exact nC h7 _
   ·exact h7
theorem tr {d:Dsk} (h:dZ d.files):dZ (bD d).1.disk.files:=by
 unfold bD;simp only[];have h1:=pU (s:=(d,0)) h (fileN 0);generalize bS (fileN 0) (d,0)=q at *;have h2:dZ (if q.2=0 then bX ⟨1,[0],0,0⟩ q else q).1.files:=by
  split
  ·exact uf h1 _
  ·exact h1
 generalize (if q.2=0 then bX ⟨1,[0],0,0⟩ q else q)=q2 at *
 split
 ·exact h2
 ·exact h2
theorem IC {s:Sto} (h:dZ s.disk.files) (seg i:Int) (a:Ac):dZ (vE seg i s a).disk.files:=by
 unfold vE;split
 ·exact zn h
 ·split
  ·exact G8 h _ _
  ·split
   ·exact h
   ·split
    ·exact h
    ·exact Af h _ _
theorem Ak (seg:Int):∀ (l:List Ac) (i:Int) (s:Sto),dZ s.disk.files->dZ (uk seg i l s).1.disk.files
 | [],i,s,h=>h
 | a::l,i,s,h=>by
  simp only[uk];split
  ·exact h
  ·exact Ak seg l (i+1) _ (IC h seg i a)
theorem G7 (seg:Int) (l:List Ac):dZ (kI seg l).1.disk.files:=by
 have h0:dZ (bD d0).1.disk.files:=tr (d:=d0) (fun x hx=>by cases hx)
 unfold kI;split
 ·exact h0
 ·exact Ak seg l 0 _ h0
def Hk (f:Fil) (k:Option Int):Int:=match k with|some a=>max 0 (min a ((f.data.length:Nat)-f.sure))|none=>0
def HW (f:Fil) (k:Option Int):Fil:=⟨f.name,f.data.take (f.sure+Hk f k).toNat,f.sure+Hk f k⟩
def l7 (l:List Fil) (keep:List Int):List Fil:=l.mapIdx fun i f=>HW f keep[i]?
def fq (d:Dsk) (keep:List Int):Dsk:=⟨l7 d.files keep,d.cap,false,0,false⟩
theorem JJ {f:Fil} (h:0<=f.sure∧f.sure<=((f.data.length:Nat):Int)) (k:Option Int):0<=Hk f k∧f.sure+Hk f k<=((f.data.length:Nat):Int):=by
 unfold Hk;cases k with
 | none=>simp only[];omega
 | some a=>simp only[];omega
theorem uC (l:List Fil) (keep:List Int):(l7 l keep).length=l.length:=by simp[l7]
theorem JV (l:List Fil) (keep:List Int) (i:Nat) (h:i<l.length):(l7 l keep).take (i+1)=(l7 l keep).take i++[HW l[i] keep[i]?]:=by
 rw[zO (by rw[uC];exact h)]
 simp[l7]
theorem kW (d:Dsk) (hl:d.files.length<=1000000) (hu:usedF d.files<=1000000000000) (hin:dZ d.files) (keep:List Int) (hk:keep.length<=1000000) (hki:∀ a∈keep,-9223372036854775808<=a∧a<9223372036854775808):call 19 [.agg d.l,vl (keep.map eI)] []=some (.agg (fq d keep).l,[]):=by
 obtain⟨Z,hZ⟩:∃ Z,Z=(fq d keep).l:=⟨_,rfl⟩;rw[<- hZ];unfold fq at hZ;obtain⟨fl,cp,ar,lf,dn⟩:=d;simp only[Dsk.l] at hl hu hin hZ ⊢;apply ah OY rfl;(simp(disch:=first|decide|omega|(intros;exact aj rfl rfl)|simp only[aa]) only[aH,Mc,go_sem,seval,ai])
 refine aE (m:=0) (σ:=Nat) (fun i=>fl.length-i) (fun i=>i<=fl.length) (fun i=>[vl (keep.map eI),V.one (.p 0 0),V.one (.p 1 0),V.one (.sl 2 3 0 ((l7 fl keep).take i).length),vi i])
  (fun i=>[.cells [.d (.l (fl.map Fil.enc)),zI cp,zB ar,zI lf,zB dn],.cells [.ns,zI 0,zB false,zI 0,zB false],.arr 3 (((l7 fl keep).take i).map Fil.enc) 0]) (fun _=>(V.agg Z,[])) ?_ 0 (zP _) _ _ bv
 intro i h1 R hR;have hcl:=uC fl keep;by_cases hi:i<fl.length
 ·have hc:(i:Int)<(fl.length:Int):=by omega
  have g1:(fl.map Fil.enc)[i]?=some fl[i].enc:=by rw[zG,zE hi];rfl
  have hR':=hR (i+1) (by omega) (by omega)
  rw[JV fl keep i hi] at hR';have hlen:(((l7 fl keep).take i).map Fil.enc).length=((l7 fl keep).take i).length:=by simp
  have hl2:((l7 fl keep).take i).length<=1000000:=by simp;omega
  have hx:=hin _ (zN hi);have hd:=Nat.le_trans (iZ fl i hi) hu;have hcn:=JJ hx keep[i]?;have e2:((l7 fl keep).take i++[HW fl[i] keep[i]?]).map Fil.enc=((l7 fl keep).take i).map Fil.enc++[[.s fl[i].name,.s (fl[i].data.take (fl[i].sure+Hk fl[i] keep[i]?).toNat),.i .i64 (fl[i].sure+Hk fl[i] keep[i]?)]]:=by rw[List.map_append];rfl
  have e3:((l7 fl keep).take i++[HW fl[i] keep[i]?]).length=((l7 fl keep).take i).length+1:=by rw[zA];rfl
  rw[e2,e3] at hR';have hkl:(keep.map eI).length=keep.length:=by simp
  generalize ((l7 fl keep).take i).length=n at *;generalize ((l7 fl keep).take i).map Fil.enc=Q at *;clear e2 e3;generalize fl[i]=w at *;obtain⟨a,b,c⟩:=w;simp only[Fil.enc] at g1 hx hd hcn hR';by_cases ck:i<keep.length
  ·have hck:(i:Int)<(keep.length:Int):=by omega
   have g2:(keep.map eI)[i]?=some [.i .i64 keep[i]]:=by rw[zG,zE ck];rfl
   rw[zE ck] at hR' hcn;have hkk:=hki _ (zN ck);obtain⟨z,hz⟩:∃ z,z=Hk ⟨a,b,c⟩ (some keep[i]):=⟨_,rfl⟩;rw[<- hz] at hR' hcn;have hz2:z=max 0 (min keep[i] ((b.length:Nat)-c)):=hz;clear hz;generalize keep[i]=y at *;have ht:(b.take (c+z).toNat).length=(c+z).toNat:=by simp;omega
   have hcz:(((c+z).toNat:Nat):Int)=c+z:=by omega
   by_cases m1:((b.length:Nat):Int)-c<y
   ·by_cases m2:(0:Int)<((b.length:Nat):Int)-c
    ·have m3:z=((b.length:Nat):Int)-c:=by omega
     rw[m3] at hR' ht hcz;(simp(disch:=first|decide|omega|(intros;exact aj rfl rfl)|simp only[aa]) only[aH,sb,zT hc,zM,g1,hkl,zT hck,g2,hlen,if_pos m1,if_pos m2,ht,hcz,go_sem,seval,ai])
     exact hR' _ _ bv
    ·have m3:z=0:=by omega
     rw[m3] at hR' ht hcz;(simp(disch:=first|decide|omega|(intros;exact aj rfl rfl)|simp only[aa]) only[aH,sb,zT hc,zM,g1,hkl,zT hck,g2,hlen,if_pos m1,if_neg m2,ht,hcz,go_sem,seval,ai])
     exact hR' _ _ bv
   ·by_cases m2:(0:Int)<y
    ·have m3:z=y:=by omega
     rw[m3] at hR' ht hcz;(simp(disch:=first|decide|omega|(intros;exact aj rfl rfl)|simp only[aa]) only[aH,sb,zT hc,zM,g1,hkl,zT hck,g2,hlen,if_neg m1,if_pos m2,ht,hcz,go_sem,seval,ai])
     exact hR' _ _ bv
    ·have m3:z=0:=by omega
     rw[m3] at hR' ht hcz;(simp(disch:=first|decide|omega|(intros;exact aj rfl rfl)|simp only[aa]) only[aH,sb,zT hc,zM,g1,hkl,zT hck,g2,hlen,if_neg m1,if_neg m2,ht,hcz,go_sem,seval,ai])
     exact hR' _ _ bv
  ·have hck:¬ (i:Int)<(keep.length:Int):=by omega
   rw[List.getElem?_eq_none (by omega)] at hR' hcn
   simp only[Hk,Int.add_zero] at hR' hcn;have ht:(b.take c.toNat).length=c.toNat:=by simp;omega
   have hcz:((c.toNat:Nat):Int)=c:=by omega
   (simp(disch:=first|decide|omega|(intros;exact aj rfl rfl)|simp only[aa]) only[aH,sb,zT hc,zM,g1,hkl,zF hck,hlen,ht,hcz,Int.add_zero,go_sem,seval,ai])
   exact hR' _ _ bv
 ·have hc:¬ (i:Int)<(fl.length:Int):=by omega
  have ht:(l7 fl keep).take i=l7 fl keep:=zL (by omega)
  rw[ht];have htk:List.take (l7 fl keep).length ((l7 fl keep).map Fil.enc)=(l7 fl keep).map Fil.enc:=zL (by simp)
  have hln:((l7 fl keep).map Fil.enc).length=(l7 fl keep).length:=by simp
  rw[hZ];(simp(disch:=first|decide|omega|(intros;exact aj rfl rfl)|simp only[aa]) only[aH,sb,Mc,zF hc,zM,htk,hln,go_sem,seval,ai])
  try simp[trim]
theorem Fh (a:Fil) (l:List Fil) (keep:List Int):l7 (a::l) keep=HW a keep[0]?::l7 l keep.tail:=by
 unfold l7;rw[List.mapIdx_cons];congr 1
 congr 1
 funext i f
 cases keep with
 | nil=>simp
 | cons b r=>simp
theorem Bn (l:List Fil) (keep:List Int):(l7 l keep).map Fil.name=l.map Fil.name:=by
 apply List.ext_getElem
 ·simp[l7]
 ·intro i h1 h2;simp[l7,HW]
theorem wS:∀ (l:List Fil) (keep:List Int),usedF (l7 l keep)<=usedF l
 | [],keep=>Nat.le_refl _
 | a::l,keep=>by
  rw[Fh];have h1:=wS l keep.tail;have e1:∀ (b:Fil) (m:List Fil),usedF (b::m)=b.data.length+usedF m:=fun b m=>by rw[<- fj,<- bV];rfl
  rw[e1,e1];have:(HW a keep[0]?).data.length<=a.data.length:=by simp[HW];omega
  omega
theorem n7 {k u:Nat} {d:Dsk} (h:okN k u d) (keep:List Int):okN k u (fq d keep) :=
 ⟨by show(l7 d.files keep).length<=k;rw[uC];exact h.len,gO (Bn _ _) h.srt,⟨Int.le_refl _,by show(0:Int)<_;decide⟩,h.cap,Nat.le_trans (wS _ _) h.used⟩
def exR:Rec:=⟨0,0,[97,98]⟩
def exO:Sto:=(lQ (df d0).1 100 exR).1
theorem Eb:df d0=bD d0:=by
 have h1:bd [] d0=(d0,0):=rfl;unfold df mg;rw[if_neg (by decide),if_pos (by decide),h1,if_neg (by decide)]
theorem JR:(df d0).2=0∧(lQ (df d0).1 100 exR).2=0:=by decide +kernel
theorem JO:(df d0).1.segs.length=1:=by decide +kernel
theorem IB:(df (fq exO.disk [9,5])).2=0∧(df (fq exO.disk [9,5])).1.next=0:=by decide +kernel
theorem IE:(df (fq exO.disk [9,99])).2=0∧(df (fq exO.disk [9,99])).1.next=1:=by decide +kernel
theorem u9:call 9 [] []=some (vb true,[]):=by
 have q0:=jZ d0 DK (by decide) (by decide)
 have hp:=new_PI;rw[<- Eb] at hp;have q1:=o8 (df d0).1 hp.ok (by decide) (by decide) 100 exR (by refine⟨⟨?_,?_⟩,⟨?_,?_⟩,?_⟩ <;> decide)
 have o1:=Ad hp.ok 100 exR;have hin:dZ exO.disk.files:=Af (s:=(df d0).1) (by rw[Eb];exact tr (d:=d0) (fun x hx=>by cases hx)) 100 exR
 have q2:=kW exO.disk (Nat.le_trans o1.dsk.len (by decide)) (Nat.le_trans o1.dsk.used (by decide)) hin [9,5] (by decide) (by decide)
 have q3:=kW exO.disk (Nat.le_trans o1.dsk.len (by decide)) (Nat.le_trans o1.dsk.used (by decide)) hin [9,99] (by decide) (by decide)
 have q4:=jZ (fq exO.disk [9,5]) (n7 o1.dsk [9,5]) (by decide) (by decide)
 have q5:=jZ (fq exO.disk [9,99]) (n7 o1.dsk [9,99]) (by decide) (by decide)
 obtain⟨a1,a3⟩:=JR;have a4:=JO;obtain⟨x1,x2⟩:=IB;obtain⟨y1,y2⟩:=IE;have hcell:∀ s:Sto,s.l=[.d (.l (s.disk.files.map Fil.enc)),zI s.disk.cap,zB s.disk.armed,zI s.disk.left,zB s.disk.down,zI s.ver,.d (.l (s.segs.map Seg.enc)),zI s.next,zI s.sure,zI s.size,zW s.sum]:=fun _=>rfl
 have hd0:d0.l=[.d (.l []),zI 0,zB false,zI 0,zB false]:=rfl;have hr:exR.enc.map L.d=[zI 0,zI 0,.d (.s [97,98])]:=rfl;rw[hr] at q1;have eO:exO=(lQ (df d0).1 100 exR).1:=rfl;rw[eO] at q2 q3 q4 q5 x1 x2 y1 y2;generalize df d0=r0 at *;obtain⟨st0,e0⟩:=r0;simp only at a1 a3 a4 q1 q2 q3 q4 q5 x1 x2 y1 y2;subst a1;generalize lQ st0 100 exR=r1 at *;obtain⟨st1,e1⟩:=r1;simp only at a3 q2 q3 q4 q5 x1 x2 y1 y2;subst a3;generalize fq st1.disk [9,5]=c1 at *;generalize fq st1.disk [9,99]=c2 at *;generalize df c1=r2 at *;generalize df c2=r3 at *;obtain⟨s2,e2⟩:=r2;obtain⟨s3,e3⟩:=r3;simp only at x1 x2 y1 y2;subst x1 y1;have hdl:∀ d:Dsk,d.l=([.d (.l (d.files.map Fil.enc)),zI d.cap,zB d.armed,zI d.left,zB d.down]:List L):=fun _=>rfl
 simp only[bh,hcell,hd0,hdl,x2,y2,List.map_cons,List.map_nil,eI] at q0 q1 q2 q3 q4 q5;clear hcell hdl hp o1 hin;apply ah s9 rfl;(simp(disch:=first|decide|omega|(intros;exact aj rfl rfl)|simp only[aa]) only[aH,a9,q0,q1,q2,q3,q4,q5,a4,zM,go_sem,seval,ai])
 try simp[trim]
theorem yW {k u:Nat} {d:Dsk} (h:okN k u d):okN (k+2) (u+800) (bD d).1.disk∧(bD d).1.segs.length<=64:=by
 have h1:=fH (s:=(d,0)) h (fileN 0);unfold bD;simp only[];have h2:okN (k+2) (u+800) (if(bS (fileN 0) (d,0)).2=0 then bX ⟨1,[0],0,0⟩ (bS (fileN 0) (d,0)) else bS (fileN 0) (d,0)).1:=by
  split
  ·exact jm h1 _
  ·exact h1.up (by omega) (by omega)
 generalize (if(bS (fileN 0) (d,0)).2=0 then bX ⟨1,[0],0,0⟩ (bS (fileN 0) (d,0)) else bS (fileN 0) (d,0))=w2 at *
 split
 ·exact⟨h2,by simp⟩
 ·exact⟨h2,by simp⟩
theorem D1 {k u:Nat} {d:Dsk} (h:okN k u d):okN (k+2) (u+800) (df d).1.disk∧(df d).1.segs.length<=64:=by
 have dead:okN (k+2) (u+800) (bT d).disk∧(bT d).segs.length<=64:=⟨h.up (by omega) (by omega),by simp[bT]⟩
 unfold df;split
 ·exact dead
 ·split
  ·unfold mg;have ks:=jx h [];split
   ·exact⟨ks.up (by omega) (by omega),by simp[bT]⟩
   ·exact yW ks
  ·split
   ·rename_i m hm;have hmb:=d5 (bJ hm).1;unfold tH;split
    ·split
     ·rename_i gs hg;have hl:=lG d _ _ hg;have ks:=jx h (cI m);unfold vD;split
      ·exact⟨ks.up (by omega) (by omega),by simp[bT]⟩
      ·have km:=pO ks (gs.getLastD ⟨0,0,0⟩);split
       ·exact⟨km.up (by omega) (by omega),by simp[bT]⟩
       ·exact⟨km.up (by omega) (by omega),by show gs.length<=64;omega⟩
     ·exact dead
    ·exact dead
   ·exact dead
variable {k u:Nat} {f:Int} {S:Txt} {l0:List Pr} {s:Sto} {M:List SR} {g:Seg} {l:List Rec}
variable {k u:Nat}
def wP (seg:Int) (l:List Ac) (keep:List Int) (fi at_ tu fu:Int) (fd:Bool):List L:=[zU seg,.d (.l (l.map Ac.enc)),.d (.l (keep.map eI)),zU fi,.d (.i .u16 at_),zU tu,zU fu,zB fd]
def M3:List L:=[.d (.l []),zI 0,zB false,zI 0,zB false]
def rV (P:Sto × Bool) (keep:List Int):V:=if P.2=true∧keep.length<=300 then .tup [(true,P.1.l),(true,(fq P.1.disk keep).l),(false,[zB true])] else .tup [(true,P.1.l),(true,M3),(false,[zB false])]
theorem uh (seg:Nat) (hs:seg<256) (l:List Ac) (hl:l.length<=9223372036854775807) (ha:∀ a∈l,a.ok) (keep:List Int) (hkl:keep.length<=9223372036854775807) (hki:∀ a∈keep,-9223372036854775808<=a∧a<9223372036854775808) (fi at_ tu fu:Int) (fd:Bool) :
  call 13 [.agg (wP (seg:Nat) l keep fi at_ tu fu fd)] []=some (rV (kI (20+(seg:Int)) l) keep,[]):=by
 have q1:=xH (20+(seg:Int)) l hl ha;have hp:=Ap (20+(seg:Int)) l ha;have hin:=G7 (20+(seg:Int)) l;have hcell:∀ s:Sto,s.l=[.d (.l (s.disk.files.map Fil.enc)),zI s.disk.cap,zB s.disk.armed,zI s.disk.left,zB s.disk.down,zI s.ver,.d (.l (s.segs.map Seg.enc)),zI s.next,zI s.sure,zI s.size,zW s.sum]:=fun _=>rfl
 have hdl:∀ d:Dsk,d.l=([.d (.l (d.files.map Fil.enc)),zI d.cap,zB d.armed,zI d.left,zB d.down]:List L):=fun _=>rfl
 unfold wP rV M3;generalize kI (20+(seg:Int)) l=P at *;obtain⟨st,ok⟩:=P;simp only[hcell] at q1 hp hin ⊢;cases ok with
 | false =>
  rw[if_neg (by simp)]
  apply ah Me rfl;(simp(disch:=first|decide|omega|(intros;exact aj rfl rfl)|simp only[aa]) only[aH,LB,q1,go_sem,seval,ai])
  try simp[trim]
 | true =>
  by_cases c:keep.length<=300
  ·rw[if_pos ⟨rfl,c⟩];have q2:=kW st.disk (Nat.le_trans hp.ok.dsk.len (by decide)) (Nat.le_trans hp.ok.dsk.used (by decide)) hin keep (by omega) hki
   have c':¬ (300:Int)<(keep.length:Int):=by omega
   simp only[hdl] at q2 ⊢;apply ah Me rfl;(simp(disch:=first|decide|omega|(intros;exact aj rfl rfl)|simp only[aa]) only[aH,LB,q1,zF c',q2,zM,go_sem,seval,ai])
   try simp[trim]
  ·rw[if_neg (by simp[c])]
   have c':(300:Int)<(keep.length:Int):=by omega
   apply ah Me rfl;(simp(disch:=first|decide|omega|(intros;exact aj rfl rfl)|simp only[aa]) only[aH,LB,q1,zT c',zM,go_sem,seval,ai])
   try simp[trim]
variable {k u:Nat} {f:Int} {S:Txt} {l0:List Pr} {s s':Sto} {M:List SR} {g:Seg} {l:List Rec}
variable {k u:Nat} {f:Int} {S:Txt} {l0:List Pr} {s:Sto} {M:List SR} {g:Seg} {l:List Rec}
variable {k u:Nat} {f:Int} {S:Txt} {l0:List Pr} {s s':Sto} {M:List SR} {g:Seg} {l:List Rec}
theorem Gx (xs:List V) (h:ET [(true,[.i .u8,.l [.i .i64,.i .i64,.i .i64,.s],.l [.i .i64],.i .u8,.i .u16,.i .u8,.i .u8,.b])] xs) :
  ∃ (seg fi at_ tu fu:Nat) (l:List Ac) (keep:List Int) (fd:Bool),xs=[.agg (wP (seg:Nat) l keep (fi:Nat) (at_:Nat) (tu:Nat) (fu:Nat) fd)]∧seg<256∧l.length<=9223372036854775807∧(∀ a∈l,a.ok)∧keep.length<=9223372036854775807 ∧
   (∀ a∈keep,-9223372036854775808<=a∧a<9223372036854775808)∧fi<256∧at_<65536∧tu<256∧fu<256:=by
 simp only[ET,Kw] at h;obtain⟨_,_,rfl,⟨d,rfl,hd⟩,rfl⟩:=h;simp only[dF,IK] at hd;obtain⟨_,_,e1,⟨b,rfl,a1,a2⟩,_,_,e2,⟨rows,rfl,hl,hr⟩,_,_,e3,⟨krows,rfl,hkl,hkr⟩,_,_,e4,⟨fi,rfl,b1,b2⟩,_,_,e5,⟨at_,rfl,c1,c2⟩,_,_,e6,⟨tu,rfl,d1,d2⟩,_,_,e7,⟨fu,rfl,f1,f2⟩,_,_,e8,⟨fd,rfl⟩,rfl⟩:=hd;subst e1 e2 e3 e4 e5 e6 e7 e8;obtain⟨l,rfl,ha⟩:=vS Ac.of rows hr;have hkk:∃ keep:List Int,krows=keep.map eI∧∀ a∈keep,-9223372036854775808<=a∧a<9223372036854775808:=by
  clear hkl;induction krows with
  | nil=>exact⟨[],rfl,by simp⟩
  | cons r rs ih =>
   obtain⟨k,e,h⟩:=ih (fun x hx=>hkr x (by simp[hx]))
   have h1:=hkr r (by simp)
   obtain⟨_,_,rfl,⟨n,rfl,n1,n2⟩,rfl⟩:=h1;have n1' : -9223372036854775808<=n:=Int.le_trans (by decide) n1
   have n2':n<9223372036854775808:=zK n2 (by decide)
   refine⟨n::k,by rw[e];rfl,fun a ha=>?_⟩
   rcases List.mem_cons.1 ha with rfl|ha
   ·exact⟨n1',n2'⟩
   ·exact h a ha
 obtain⟨keep,rfl,hki⟩:=hkk;have u:∀ (n:Int) (k:IntKind) (m:Nat),k.min<=n->n<=k.max->k.min=0->k.max<(m:Int)->∃ j:Nat,n=j∧j<m:=fun n k m h1 h2 h3 h4=>⟨n.toNat,by omega,by omega⟩
 obtain⟨b',rfl,hb⟩:=u b .u8 256 a1 a2 rfl (by decide)
 obtain⟨fi',rfl,hfi⟩:=u fi .u8 256 b1 b2 rfl (by decide)
 obtain⟨at',rfl,hat⟩:=u at_ .u16 65536 c1 c2 rfl (by decide)
 obtain⟨tu',rfl,htu⟩:=u tu .u8 256 d1 d2 rfl (by decide)
 obtain⟨fu',rfl,hfu⟩:=u fu .u8 256 f1 f2 rfl (by decide)
 exact⟨b',fi',at',tu',fu',l,keep,fd,rfl,hb,by simpa using hl,ha,by simpa using hkl,hki,hfi,hat,htu,hfu⟩
theorem As (a b:Nat) (h:0<b):((a:Nat):Int).tmod (b:Nat)=((a % b:Nat):Int):=by
 rw[Int.tmod_eq_emod_of_nonneg (by omega)]
 exact(Int.natCast_emod a b).symm
theorem CC {k u:Nat} (E:Dsk) (h:okN k u E) (hk:k<=600000) (hu:u<=1000000):∃ (w:Sto) (e:Int),call 10 [.agg [.d (.l (E.files.map Fil.enc)),zI E.cap,zB E.armed,zI E.left,zB E.down]] []=some (.tup [(true,[.d (.l (w.disk.files.map Fil.enc)),zI w.disk.cap,zB w.disk.armed,zI w.disk.left,zB w.disk.down,zI w.ver,.d (.l (w.segs.map Seg.enc)),zI w.next,zI w.sure,zI w.size,zW w.sum]),(false,[zI e])],[])∧call 11 [.agg [.d (.l (E.files.map Fil.enc)),zI E.cap,zB E.armed,zI E.left,zB E.down]] []=some (.tup [(true,[.d (.l (w.disk.files.map Fil.enc)),zI w.disk.cap,zB w.disk.armed,zI w.disk.left,zB w.disk.down,zI w.ver,.d (.l (w.segs.map Seg.enc)),zI w.next,zI w.sure,zI w.size,zW w.sum]),(false,[zI e])],[])∧call 12 [.agg [.d (.l (w.disk.files.map Fil.enc)),zI w.disk.cap,zB w.disk.armed,zI w.disk.left,zB w.disk.down,zI w.ver,.d (.l (w.segs.map Seg.enc)),zI w.next,zI w.sure,zI w.size,zW w.sum],.agg [.d (.l (w.disk.files.map Fil.enc)),zI w.disk.cap,zB w.disk.armed,zI w.disk.left,zB w.disk.down,zI w.ver,.d (.l (w.segs.map Seg.enc)),zI w.next,zI w.sure,zI w.size,zW w.sum]] []=some (vb true,[]):=by
 have p1:=jZ E h (by omega) hu
 have p2:=xl E h (by omega) hu (fun m hm=>EA hm)
 have k1:=D1 h;exact⟨(df E).1,(df E).2,p1,p2,vL _ (Nat.le_trans k1.1.len (by omega)) (Nat.le_trans k1.2 (by decide))⟩
theorem F0 (seg:Nat) (hs:seg<256) (l:List Ac) (hl:l.length<=9223372036854775807) (ha:∀ a∈l,a.ok) (keep:List Int) (hkl:keep.length<=9223372036854775807) (hki:∀ a∈keep,-9223372036854775808<=a∧a<9223372036854775808) (fi at_ tu fu:Nat) (hfi:fi<256) (hat:at_<65536) (htu:tu<256) (hfu:fu<256) (fd:Bool) :
  call 4 [.agg (wP (seg:Nat) l keep (fi:Nat) (at_:Nat) (tu:Nat) (fu:Nat) fd)] []=some (vb true,[]):=by
 have q1:=uh seg hs l hl ha keep hkl hki (fi:Nat) (at_:Nat) (tu:Nat) (fu:Nat) fd;have q0:=u9;have hp:=Ap (20+(seg:Int)) l ha;have hcell:∀ s:Sto,s.l=[.d (.l (s.disk.files.map Fil.enc)),zI s.disk.cap,zB s.disk.armed,zI s.disk.left,zB s.disk.down,zI s.ver,.d (.l (s.segs.map Seg.enc)),zI s.next,zI s.sure,zI s.size,zW s.sum]:=fun _=>rfl
 have hdl:∀ d:Dsk,d.l=([.d (.l (d.files.map Fil.enc)),zI d.cap,zB d.armed,zI d.left,zB d.down]:List L):=fun _=>rfl
 unfold wP rV M3 at *;generalize kI (20+(seg:Int)) l=P at *;obtain⟨st,ok⟩:=P;simp only at hp;apply ah s4 rfl;by_cases c:ok=true∧keep.length<=300
 ·rw[if_pos c] at q1;obtain⟨n,hn⟩:∃ n:Int,n=((fu:Nat):Int) % 8:=⟨_,rfl⟩;have hn2:0<=n∧n<8:=by omega
  have hn3:((fu:Nat):Int).tmod 8=n:=by rw[hn,Int.tmod_eq_emod_of_nonneg (by omega)]
  have hkc:=n7 hp.ok.dsk keep;generalize fq st.disk keep=cd at *;have q6:=vz cd n (by omega)
  obtain⟨D,hD,hok⟩:∃ D:Dsk,((fd=true∧call 14 [.agg cd.l,vi n] []=some (.agg D.l,[]))∨(fd=false∧D=cd))∧okN (10+2*40) (2000+23000*40) D:=by
   cases fd with
   | true=>exact⟨_,.inl ⟨rfl,q6⟩,⟨hkc.len,hkc.srt,by show 0<=(if 0<n then n else 0)∧(if 0<n then n else 0)<9223372036854775808;split <;> omega,hkc.cap,hkc.used⟩⟩
   | false=>exact⟨_,.inr ⟨rfl,rfl⟩,hkc⟩
  clear hp q6 hkc hn2;by_cases c1:0<D.files.length∧0<tu
  ·obtain⟨c1,c2⟩:=c1;have c1':(0:Int)<(D.files.length:Int):=by omega
   have c2':(0:Int)<(tu:Int):=by omega
   obtain⟨k,hk⟩:∃ k,k=fi % D.files.length:=⟨_,rfl⟩;have hkl2:k<D.files.length:=by rw[hk];exact Nat.mod_lt _ c1
   have r1:((fi:Nat):Int).tmod ((D.files.length:Nat):Int)=((k:Nat):Int):=by rw[hk];exact As fi _ c1
   have z1:¬ ((D.files.length:Nat):Int)=0:=by omega
   have g1:(D.files.map Fil.enc)[k]?=some D.files[k].enc:=by rw[zG,zE hkl2];rfl
   have hlen:=hok.len;have htk:(D.files.map Fil.enc).take D.files.length=D.files.map Fil.enc:=zL (by simp)
   have hokr:aQ 3 (D.files.map Fil.enc)=true:=a8 Fil.len _;by_cases c3:0<D.files[k].data.length
   ·have c3':(0:Int)<(D.files[k].data.length:Int):=by omega
    obtain⟨i,hi⟩:∃ i,i=at_ % D.files[k].data.length:=⟨_,rfl⟩;have hil:i<D.files[k].data.length:=by rw[hi];exact Nat.mod_lt _ c3
    have r2:((at_:Nat):Int).tmod ((D.files[k].data.length:Nat):Int)=((i:Nat):Int):=by rw[hi];exact As at_ _ c3
    have z2:¬ ((D.files[k].data.length:Nat):Int)=0:=by omega
    have hwd:D.files[k].data.length<=140737488355328:=by have:=Nat.le_trans (iZ D.files k hkl2) hok.used;omega
    have hbl:=eg D.files[k].data;have g2:=pB D.files[k].data i hil;have g3:∀ v:Nat,v<256->dL (((aD D.files[k].data).set i [.i .u8 ((v:Nat):Int)]).take D.files[k].data.length)=some (D.files[k].data.set i (UInt8.ofNat v)):=fun v hv=>by
     have e:v=(UInt8.ofNat v).toNat:=by rw[UInt8.toNat_ofNat'];omega
     have e2:=pH D.files[k].data i (UInt8.ofNat v);rw[<- e] at e2;rw[e2,zL (by rw[eg];simp),jP]
    have hfin:∀ X:Txt,X.length=D.files[k].data.length->∃ FL:List Fil,(D.files.map Fil.enc).set k [.s D.files[k].name,.s X,.i .i64 D.files[k].sure]=FL.map Fil.enc∧FL.length=D.files.length∧okN 90 922000 ⟨FL,D.cap,D.armed,D.left,D.down⟩:=fun X hX =>
     ⟨D.files.set k ⟨D.files[k].name,X,D.files[k].sure⟩,by rw[List.map_set];rfl,List.length_set,by simp only[List.length_set];exact hok.len,gO (by
     apply List.ext_getElem
     ·simp
     ·intro a h1 h2;simp only[List.getElem_map,List.getElem_set];split
      ·rename_i h;subst h;rfl
      ·rfl) hok.srt,hok.left,hok.cap,by
     have:=kX D.files k hkl2 ⟨D.files[k].name,X,D.files[k].sure⟩;have:=hok.used;simp only at *;omega⟩
    have hxb:=D.files[k].data[i].toNat_lt;generalize D.files[k].data[i].toNat=xb at *;generalize D.files[k]=w at *;obtain⟨wn,wd,ws⟩:=w;obtain⟨fl,cp,ar,lf,dn⟩:=D;simp only[Fil.enc,hcell,hdl] at *;rcases hD with⟨rfl,qa⟩|⟨rfl,rfl⟩;all_goals
     first
     | (simp(disch:=first|decide|omega|(intros;exact aj rfl rfl)|simp only[aa]) only[aH,a4,q0,q1,qa,hn3,decide_eq_true c1',decide_eq_true c2',r1,eq_false z1,g1,decide_eq_true c3',r2,eq_false z2,hwd,hbl,g2,hokr,htk,List.length_map,go_sem,seval,ai])
     | (simp(disch:=first|decide|omega|(intros;exact aj rfl rfl)|simp only[aa]) only[aH,a4,q0,q1,hn3,decide_eq_true c1',decide_eq_true c2',r1,eq_false z1,g1,decide_eq_true c3',r2,eq_false z2,hwd,hbl,g2,hokr,htk,List.length_map,go_sem,seval,ai])
     generalize hv:BitVec.toNat _=v;have hv2:v<256:=by rw[<- hv];exact BitVec.isLt _
     clear hv;have g4:=g3 v hv2;have hX:(wd.set i (UInt8.ofNat v)).length=wd.length:=List.length_set;generalize wd.set i (UInt8.ofNat v)=X at *;obtain⟨FL,hset,hl2,hE⟩:=hfin X hX;obtain⟨W,e,f1,f2,f3⟩:=CC _ hE (by decide) (by decide)
     have htk2:(FL.map Fil.enc).take fl.length=FL.map Fil.enc:=zL (by simp[hl2])
     have hokr2:aQ 3 (FL.map Fil.enc)=true:=a8 Fil.len _;simp only at f1 f2;(simp(disch:=first|decide|omega|(intros;exact aj rfl rfl)|simp only[aa]) only[aH,g4,hset,htk2,hokr2,hl2,g1,q0,f1,f2,f3,zM,go_sem,seval,ai])
     try simp[trim]
   ·have c3':¬ (0:Int)<(D.files[k].data.length:Int):=by omega
    have hwd:D.files[k].data.length<=140737488355328:=by omega
    obtain⟨W,e,f1,f2,f3⟩:=CC ⟨cR D.files k,D.cap,D.armed,D.left,D.down⟩ (k:=90) (u:=922000) ⟨by
     have:(cR D.files k).length<=D.files.length:=by unfold cR;simp;omega
     exact Nat.le_trans this hok.len,mX hok.srt k,hok.left,hok.cap,by
     have:=rL D.files k hkl2;have:=hok.used;simp only at *;omega⟩ (by decide) (by decide)
    have e1:List.take (D.files.length-(k+1)) (List.drop (k+1) (D.files.map Fil.enc))=List.drop (k+1) (D.files.map Fil.enc):=zL (by simp)
    have e2:(List.drop (k+1) (D.files.map Fil.enc)).length=D.files.length-(k+1):=by simp
    have e3:aQ 3 (List.drop (k+1) (D.files.map Fil.enc))=true:=by rw[<- List.map_drop];exact a8 Fil.len _
    have e4:List.take k (D.files.map Fil.enc)++List.drop (k+1) (D.files.map Fil.enc)=(cR D.files k).map Fil.enc:=by unfold cR;rw[List.map_append,List.map_take,List.map_drop]
    have e5:List.take (k+(D.files.length-(k+1))) ((cR D.files k).map Fil.enc)=(cR D.files k).map Fil.enc:=zL (by simp[cR];omega)
    have e6:¬ k=D.files.length:=by omega
    have e7:k+(D.files.length-(k+1))<=D.files.length:=by omega
    have e8:k+(D.files.length-(k+1))=(cR D.files k).length:=by unfold cR;simp;omega
    have e9:aQ 3 ((cR D.files k).map Fil.enc)=true:=a8 Fil.len _;rw[e8] at e5;generalize cR D.files k=FL at *;generalize D.files[k]=w at *;obtain⟨wn,wd,ws⟩:=w;obtain⟨fl,cp,ar,lf,dn⟩:=D;simp only[Fil.enc,bh,hcell,hdl] at *;clear ha hki;rcases hD with⟨rfl,qa⟩|⟨rfl,rfl⟩
    ·(simp(disch:=first|decide|omega|(intros;exact aj rfl rfl)|simp only[aa]) only[aH,a4,q0,q1,qa,hn3,zT c1',zT c2',r1,eq_false z1,g1,zF c3',hwd,hokr,htk,e1,e2,e3,e4,e5,Nat.sub_zero,eq_false e6,eq_true e7,e8,e9,Nat.le_refl,f1,f2,f3,zM,go_sem,seval,ai])
     try simp[trim]
    ·(simp(disch:=first|decide|omega|(intros;exact aj rfl rfl)|simp only[aa]) only[aH,a4,q0,q1,hn3,zT c1',zT c2',r1,eq_false z1,g1,zF c3',hwd,hokr,htk,e1,e2,e3,e4,e5,Nat.sub_zero,eq_false e6,eq_true e7,e8,e9,Nat.le_refl,f1,f2,f3,zM,go_sem,seval,ai])
     try simp[trim]
  ·obtain⟨W,e,f1,f2,f3⟩:=CC D hok (by decide) (by decide)
   obtain⟨fl,cp,ar,lf,dn⟩:=D;simp only[bh,hcell,hdl] at *;clear ha hki;by_cases c2:0<fl.length
   ·have c2':(0:Int)<(fl.length:Int):=by omega
    have c3':¬ (0:Int)<(tu:Int):=by omega
    rcases hD with⟨rfl,qa⟩|⟨rfl,rfl⟩
    ·(simp(disch:=first|decide|omega|(intros;exact aj rfl rfl)|simp only[aa]) only[aH,a4,q0,q1,qa,hn3,zT c2',zF c3',f1,f2,f3,zM,go_sem,seval,ai])
     try simp[trim]
    ·(simp(disch:=first|decide|omega|(intros;exact aj rfl rfl)|simp only[aa]) only[aH,a4,q0,q1,hn3,zT c2',zF c3',f1,f2,f3,zM,go_sem,seval,ai])
     try simp[trim]
   ·have c2':¬ (0:Int)<(fl.length:Int):=by omega
    rcases hD with⟨rfl,qa⟩|⟨rfl,rfl⟩
    ·(simp(disch:=first|decide|omega|(intros;exact aj rfl rfl)|simp only[aa]) only[aH,a4,q0,q1,qa,hn3,zF c2',f1,f2,f3,zM,go_sem,seval,ai])
     try simp[trim]
    ·(simp(disch:=first|decide|omega|(intros;exact aj rfl rfl)|simp only[aa]) only[aH,a4,q0,q1,hn3,zF c2',f1,f2,f3,zM,go_sem,seval,ai])
     try simp[trim]
 ·rw[if_neg c] at q1;simp only[hcell] at q1;(simp(disch:=first|decide|omega|(intros;exact aj rfl rfl)|simp only[aa]) only[aH,a4,q1,q0,go_sem,seval,ai])
  try simp[trim]
theorem reopenPlays_pure (xs:List V) (h:ET [(true,[.i .u8,.l [.i .i64,.i .i64,.i .i64,.s],.l [.i .i64],.i .u8,.i .u16,.i .u8,.i .u8,.b])] xs):call 4 xs []=some (vb true,[]):=by
 obtain⟨seg,fi,at_,tu,fu,l,keep,fd,rfl,h1,h2,h3,h4,h5,h6,h7,h8,h9⟩:=Gx xs h;exact F0 seg h1 l h2 h3 keep h4 h5 fi at_ tu fu h6 h7 h8 h9 fd
end Go.Proofs.YtghfhomfppbooaaGreat
