import Derived.Test.YtgoifbjgmgbihaaGreatT05
import Derived.Test.YtgoifbjgmgbihaaGreatT03
import Derived.Test.YtgoifbjgmgbihaaGreatVid
set_option linter.unusedSimpArgs false
set_option linter.unusedVariables false
set_option maxRecDepth 20000
set_option maxHeartbeats 16000000
namespace Go.Proofs.YtgoifbjgmgbihaaGreat
open Go.Vi
theorem ON {k:Int} {l:List Pr} (h:∀ p∈l,k<=p.key):dR l k=0:=by
 unfold dR;rw[List.countP_eq_zero];intro p hp;have:=h p hp;simp;omega
theorem Gz (k:Int):∀ (l:List Pr),fY l->l.takeWhile (fun p=>decide (p.key<k))=l.take (dR l k)
 | [],_=>rfl
 | x::r,hs=>by
  have hr:=List.pairwise_cons.1 hs;by_cases c:x.key<k
  ·have e:dR (x::r) k=dR r k+1:=by unfold dR;rw[List.countP_cons_of_pos (by simpa using c)]
   rw[e,List.takeWhile_cons,if_pos (by simpa using c),List.take_succ_cons,Gz k r hr.2]
  ·have e:dR (x::r) k=0:=ON fun p hp=>by
    rcases List.mem_cons.1 hp with rfl|hp
    ·omega
    ·have:=hr.1 p hp;omega
   rw[e,List.takeWhile_cons,if_neg (by simpa using c),List.take_zero]
theorem yh {Q:Pr->Bool} {l:List Pr} (h:∀ p∈l,Q p=true):l.filter Q=l:=List.filter_eq_self.2 h
theorem Hv (k:Int):∀ (l:List Pr),fY l->l.filter (fun p=>decide (k<p.key))=l.drop (dR l k+(if jR l k=true then 1 else 0))
 | [],_=>by simp
 | x::r,hs=>by
  have hr:=List.pairwise_cons.1 hs;by_cases c:x.key<k
  ·have e:dR (x::r) k=dR r k+1:=by unfold dR;rw[List.countP_cons_of_pos (by simpa using c)]
   have e2:jR (x::r) k=jR r k:=by unfold jR;rw[e,List.getElem?_cons_succ]
   rw[e,e2,List.filter_cons,if_neg (by simp;omega),Hv k r hr.2,show dR r k+1+(if jR r k=true then 1 else 0)=(dR r k+(if jR r k=true then 1 else 0))+1 by omega,List.drop_succ_cons]
  ·have hge:∀ p∈x::r,k<=p.key:=fun p hp=>by
    rcases List.mem_cons.1 hp with rfl|hp
    ·omega
    ·have:=hr.1 p hp;omega
   have e:dR (x::r) k=0:=ON hge;by_cases c2:x.key=k
   ·have e2:jR (x::r) k=true:=by unfold jR;rw[e];simpa using c2
    rw[e,e2,List.filter_cons,if_neg (by simp;omega),if_pos rfl]
    rw[yh (fun p hp=>by have:=hr.1 p hp;simp;omega)]
    try rfl
   ·have e2:jR (x::r) k=false:=by unfold jR;rw[e];simpa using c2
    rw[e,e2,yh (fun p hp=>by
     rcases List.mem_cons.1 hp with rfl|hp
     ·simp;omega
     ·have:=hr.1 p hp;simp;omega)]
    try rfl
theorem Bg (l:List Pr) (c:UInt8) (r:List UInt8):cH l (c::r)=l.takeWhile (fun p=>decide (p.key<(c.toNat:Int)))++(if r=[] then[] else[⟨(c.toNat:Int),r⟩])++l.filter (fun p=>decide ((c.toNat:Int)<p.key)):=by rw[cH]
theorem step_pos {l:List Pr} (hs:fY l) (c:UInt8) (r:List UInt8):cH l (c::r)=l.take (dR l (c.toNat:Int))++(if r=[] then[] else[⟨(c.toNat:Int),r⟩])++l.drop (dR l (c.toNat:Int)+(if jR l (c.toNat:Int)=true then 1 else 0)):=by
 rw[Bg,Gz _ l hs,Hv _ l hs]
theorem step_srt {l:List Pr} (hs:fY l) (d:List UInt8):fY (cH l d):=by
 cases d with
 | nil=>exact hs
 | cons c r =>
  have h1:∀ p∈l.takeWhile (fun p=>decide (p.key<(c.toNat:Int))),p.key<(c.toNat:Int):=fun p hp=>by simpa using List.all_eq_true.1 (List.all_takeWhile (p:=fun p:Pr=>decide (p.key<(c.toNat:Int))) (l:=l)) p hp
  have h2:∀ p∈l.filter (fun p=>decide ((c.toNat:Int)<p.key)),(c.toNat:Int)<p.key:=fun p hp=>by simpa using(List.mem_filter.1 hp).2
  unfold fY;rw[Bg,List.append_assoc,List.pairwise_append];refine⟨hs.sublist (List.takeWhile_sublist _),?_,?_⟩
  ·split
   ·exact hs.sublist List.filter_sublist
   ·rw[List.singleton_append,List.pairwise_cons];exact⟨fun p hp=>h2 p hp,hs.sublist List.filter_sublist⟩
  ·intro a ha b hb;have:=h1 a ha;rw[zX] at hb;rcases hb with hb|hb
   ·split at hb
    ·cases hb
    ·rw[zV.1 hb];exact this
   ·have:=h2 b hb;omega
theorem J1 {l:List Pr} {k:Int} (h:jR l k=true):∃ hp:dR l k<l.length,l[dR l k].key=k:=by
 unfold jR at h;split at h
 ·rename_i f hf;obtain⟨hp,rfl⟩:=List.getElem?_eq_some_iff.1 hf;exact⟨hp,by simpa using h⟩
 ·cases h
theorem Pr.dr (e:Pr):e.enc.drop 2=[]:=Eq.trans rfl rfl
def N5 (l:List Pr) (r:Option (V × Hp)):Prop :=
 r=some (.one (.sl 0 2 0 l.length),[.arr 2 (l.map Pr.enc) 0])∨(∃ p:Pr,r=some (.one (.sl 2 2 0 l.length),[.dead,.cells (p.enc.map .d),.arr 2 (l.map Pr.enc) 0])) ∨
 (∃ p:Pr,r=some (.one (.sl 3 2 0 l.length),[.dead,.cells (p.enc.map .d),.arr 2 [p.enc] 0,.arr 2 (l.map Pr.enc) 0]))
theorem G8 (l:List Pr) (hl:l.length<=100000) (hs:fY l) (ho:okP l) (d:List UInt8) (hd:d.length<=1000):N5 (cH l d) (call 176 [.one (.sl 0 2 0 l.length),vs d] [.arr 2 (l.map Pr.enc) 0]):=by
 cases d with
 | nil =>
  refine .inl ?_;have e0:(([]:List UInt8) == [])=true:=rfl;have e:cH l []=l:=rfl;rw[e];apply ah Ft rfl;(simp(disch:=first|decide|omega|(intros;exact aj rfl rfl)|simp only[aa]) only[CD,e0,go_sem,seval,ak])
  simp[zR]
 | cons c r =>
  have hc:0<=(c.toNat:Int)∧(c.toNat:Int)<256:=⟨by omega,by have:=UInt8.toNat_lt c;omega⟩
  have hst:=step_pos hs c r;have hf0:=CZ l (by omega) hs ho (c.toNat:Int) hc
  have hf:au call 190 [.one (.sl 0 2 0 l.length),vk .u8 (c.toNat:Int)] [.arr 2 (l.map Pr.enc) 0]=some (jJ l (c.toNat:Int),[.arr 2 (l.map Pr.enc) 0]) :=
   aE (ids:=[0]) rfl rfl rfl hf0 rfl
  unfold jJ at hf;have hp:=Bt l (c.toNat:Int);have hat := @J1 l (c.toNat:Int);generalize dR l (c.toNat:Int)=k at *;have e0:((c::r) == ([]:List UInt8))=false:=rfl;have hc0:(c::r)[0]?=some c:=rfl;have hdr:List.drop 1 (c::r)=r:=rfl;have hdl:(c::r).length=r.length+1:=rfl;obtain⟨dt,hD⟩:∃ dt,dt=c::r:=⟨_,rfl⟩;rw[<- hD] at e0 hc0 hdr hdl ⊢;have hdt:List.take dt.length dt=dt:=List.take_length;have hdi:dt.tail=r:=by rw[hD];rfl
  have hrl:r.length<=1000:=by have:(c::r).length<=1000:=hd;simp at this;omega
  by_cases hr:r=[]
  ·have er:r.isEmpty=true:=by rw[hr];rfl
   have er2:(r == [])=true:=by rw[hr];rfl
   rw[if_pos hr,List.append_nil] at hst;cases ht:jR l (c.toNat:Int) with
   | true =>
    obtain⟨hk,hkey⟩:=hat ht;rw[ht,if_pos rfl] at hst;rw[ht] at hf;have hd0:=zt (l:=lib) (an:=qy Hj) (P:=Tryz.prog) (f:=191) (k:=2) rfl rfl rfl (l.map Pr.enc) k (by simpa using hk) (by simp;omega)
    rw[show(l.map Pr.enc).take k++(l.map Pr.enc).drop (k+1)=(l.take k++l.drop (k+1)).map Pr.enc by simp,zM] at hd0
    have hi:∀ C:Box,au call 191 [.one (.sl 0 2 0 l.length),vi (k:Nat),.one (zI ((k:Int)+1))] [.arr 2 (l.map Pr.enc) 0,C]=some (.one (.sl 2 2 0 (l.length-1)),[.dead,C,.arr 2 ((l.take k++l.drop (k+1)).map Pr.enc) 0]):=fun C =>
     aE (ids:=[0]) rfl rfl rfl hd0 rfl
    have hll:l.length-1=(l.take k++l.drop (k+1)).length:=by simp;omega
    rw[hD,hst,<- hD];generalize l.take k++l.drop (k+1)=q at *;refine .inr (.inl ⟨⟨(c.toNat:Int),r⟩,?_⟩);apply ah Ft rfl;(simp(disch:=first|decide|omega|(intros;exact aj rfl rfl)|simp only[aa]) only[CD,e0,hc0,↓hf,hdr,hdt,hdi,er,er2,↓hi,hll,go_sem,seval,ak])
    simp[zR,Pr.enc]
   | false =>
    rw[ht,if_neg (by simp),Nat.add_zero,zY] at hst
    rw[ht] at hf;refine .inl ?_;rw[hD,hst,<- hD];apply ah Ft rfl;(simp(disch:=first|decide|omega|(intros;exact aj rfl rfl)|simp only[aa]) only[CD,e0,hc0,↓hf,hdr,hdt,hdi,er,er2,go_sem,seval,ak])
    simp[zR]
  ·have er:r.isEmpty=false:=by simpa using hr
   have er2:(r == [])=false:=by simpa using hr
   rw[if_neg hr] at hst;have henc:([zU (c.toNat:Int),zS r]:List L)=(⟨(c.toNat:Int),r⟩:Pr).enc.map .d:=rfl;cases ht:jR l (c.toNat:Int) with
   | true =>
    obtain⟨hk,hkey⟩:=hat ht;rw[ht,if_pos rfl] at hst;rw[ht] at hf;have e2:(l.map Pr.enc).set k [.i .u8 (c.toNat:Int),.s r]=(cH l (c::r)).map Pr.enc:=by
     rw[hst,List.set_eq_take_append_cons_drop,if_pos (by simpa using hk)]
     simp[Pr.enc]
    have e3:l.length=(cH l (c::r)).length:=by have:=congrArg List.length e2;simpa using this
    rw[<- hD] at e2 e3;have hkl:k<l.length:=hk;generalize cH l dt=q at *;refine .inl ?_;apply ah Ft rfl;(simp(disch:=first|decide|omega|(intros;exact aj rfl rfl)|simp only[aa]) only[CD,e0,hc0,↓hf,hdr,hdt,hdi,er,er2,e2,zM,Pr.len,Pr.dr,go_sem,seval,ak])
    simp[zR,e3]
   | false =>
    rw[ht,if_neg (by simp),Nat.add_zero] at hst
    rw[ht] at hf;have hi0:=vO (l:=lib) (an:=qy Hj) (P:=Tryz.prog) (f:=192) (k:=2) (bytes:=24) rfl rfl (l.map Pr.enc) (Pr.enc ⟨(c.toNat:Int),r⟩) k 0 rfl (by simpa using hp) (by simp;omega) (by simp;omega)
    rw[show(l.map Pr.enc).take k++Pr.enc ⟨(c.toNat:Int),r⟩::(l.map Pr.enc).drop k=(cH l (c::r)).map Pr.enc by rw[hst];simp,zM] at hi0
    have hi:∀ C:Box,au call 192 [.one (.sl 0 2 0 l.length),vi (k:Nat),.one (.sl 2 2 0 1)] [.arr 2 (l.map Pr.enc) 0,C,.arr 2 [[.i .u8 (c.toNat:Int),.s r]] 0]=some (.one (.sl 3 2 0 (l.length+1)),[.dead,C,.arr 2 [[.i .u8 (c.toNat:Int),.s r]] 0,.arr 2 ((cH l (c::r)).map Pr.enc) 0]):=fun C =>
     aE (ids:=[0,2]) rfl rfl rfl hi0 rfl
    have hll:l.length+1=(cH l (c::r)).length:=by rw[hst];simp;omega
    rw[<- hD] at hi hll;generalize cH l dt=q at *;refine .inr (.inr ⟨⟨(c.toNat:Int),r⟩,?_⟩);apply ah Ft rfl;(simp(disch:=first|decide|omega|(intros;exact aj rfl rfl)|simp only[aa]) only[CD,e0,hc0,↓hf,hdr,hdt,hdi,er,er2,↓hi,hll,go_sem,seval,ak])
    simp[zR,Pr.enc]
def cL (l:List Pr) (R:List Rec):List Pr:=R.foldl (fun l r=>cH l r.da) l
theorem ub (l:List Pr) (A B:List Rec):cL l (A++B)=cL (cL l A) B:=List.foldl_append
theorem lQ:∀ (R:List Rec) (l:List Pr),fY l->okP l->(∀ r∈R,r.da.length<=64)->fY (cL l R)∧okP (cL l R)∧(cL l R).length<=l.length+R.length
 | [],l,hs,ho,_=>⟨hs,ho,Nat.le_refl _⟩
 | r::R,l,hs,ho,hr=>by
  have h:=lQ R (cH l r.da) (step_srt hs _) (step_ok ho (hr r (by simp))) (fun x hx=>hr x (by simp[hx]))
  have h2:=step_len l r.da;refine⟨h.1,h.2.1,?_⟩;have:(cL l (r::R)).length<=(cH l r.da).length+R.length:=h.2.2;simp only[List.length_cons];omega
theorem BF:∀ (l:List Pr) (a:Int),fY l->(∀ p∈l,a<=p.key∧p.key<256)->(l.length:Int)<=max 0 (256-a)
 | [],a,_,_=>by simp;omega
 | p::r,a,hs,h=>by
  have hr:=List.pairwise_cons.1 hs;have h1:=h p (by simp)
  have:=BF r (p.key+1) hr.2 (fun q hq=>⟨by have:=hr.1 q hq;omega,(h q (by simp[hq])).2⟩)
  simp only[List.length_cons];omega
theorem pS {l:List Pr} (hs:fY l) (ho:okP l):l.length<=256:=by
 have:=BF l 0 hs (fun p hp=>(ho p hp).1)
 omega
theorem Cy (l:List Pr) (hs:fY l) (ho:okP l) (R:List Rec) (hR:R.length<=1000000000) (hr:∀ r∈R,r.da.length<=64):call 148 [vl (l.map Pr.enc),vl (R.map Rec.enc)] []=some (vl ((cL l R).map Pr.enc),[]):=by
 have hl:=pS hs ho;have hcl:=Q4 (l.map Pr.enc) (aV Pr.len _) (by simp;omega) (by simp;omega)
 obtain⟨Z,hZ⟩:∃ Z:V,Z=vl ((cL l R).map Pr.enc):=⟨_,rfl⟩;rw[<- hZ];apply ah Q6 rfl;(simp(disch:=first|decide|omega|(intros;exact aj rfl rfl)|simp only[aa]) only[LA,↓hcl,zM,go_sem,seval,ak])
 refine aB (m:=0) (σ:=Nat × List Pr) (fun t=>R.length-t.1) (fun t=>t.1<=R.length∧fY t.2∧okP t.2∧cL l R=cL t.2 (R.drop t.1)) (fun t=>[V.one (.sl 0 2 0 t.2.length),vl (R.map Rec.enc),vi R.length,vi t.1]) (fun t=>[.arr 2 (t.2.map Pr.enc) 0])
  (fun _=>(Z,[])) ?_ (0,l) ⟨zP _,hs,ho,rfl⟩ _ _ cm
 rintro⟨i,q⟩ ⟨h1,h2,h3,h5⟩ K hK;simp only at h1 h2 h3 h5 ⊢;have h4:=pS h2 h3;by_cases c:i<R.length
 ·have hc:(i:Int)<(R.length:Int):=by omega
  have g1:(R.map Rec.enc)[i]?=some R[i].enc:=by rw[zG,zE c];rfl
  rw[zD c] at h5;have hd:=hr _ (zN c);generalize R[i]=r at *;have ht:=G8 q (by omega) h2 h3 r.da (by omega)
  have hK':=hK (i+1,cH q r.da) (by simp only[];omega) ⟨by simp only[];omega,step_srt h2 _,step_ok h3 hd,h5⟩
  generalize cH q r.da=q2 at *;obtain⟨a,b,d⟩:=r;simp only[Rec.enc] at g1 ht;rcases ht with ht|⟨p,ht⟩|⟨p,ht⟩
  ·have hi:∀ C:Box,au call 176 [.one (.sl 0 2 0 q.length),vs d] [.arr 2 (q.map Pr.enc) 0,C]=some (.one (.sl 0 2 0 q2.length),[.arr 2 (q2.map Pr.enc) 0,C]):=fun C =>
    aE (ids:=[0]) rfl rfl rfl ht rfl
   (simp(disch:=first|decide|omega|(intros;exact aj rfl rfl)|simp only[aa]) only[sd,zT hc,g1,↓hi,go_sem,seval,ak])
   exact hK' _ _ cm
  ·have hi:∀ C:Box,au call 176 [.one (.sl 0 2 0 q.length),vs d] [.arr 2 (q.map Pr.enc) 0,C]=some (.one (.sl 3 2 0 q2.length),[.dead,C,.cells (p.enc.map .d),.arr 2 (q2.map Pr.enc) 0]):=fun C =>
    aE (ids:=[0]) rfl rfl rfl ht rfl
   (simp(disch:=first|decide|omega|(intros;exact aj rfl rfl)|simp only[aa]) only[sd,zT hc,g1,↓hi,go_sem,seval,ak])
   exact hK' _ _ cm
  ·have hi:∀ C:Box,au call 176 [.one (.sl 0 2 0 q.length),vs d] [.arr 2 (q.map Pr.enc) 0,C]=some (.one (.sl 4 2 0 q2.length),[.dead,C,.cells (p.enc.map .d),.arr 2 [p.enc] 0,.arr 2 (q2.map Pr.enc) 0]):=fun C =>
    aE (ids:=[0]) rfl rfl rfl ht rfl
   (simp(disch:=first|decide|omega|(intros;exact aj rfl rfl)|simp only[aa]) only[sd,zT hc,g1,↓hi,go_sem,seval,ak])
   exact hK' _ _ cm
 ·have hc:¬ (i:Int)<(R.length:Int):=by omega
  rw[zC (by omega)] at h5
  have e:Z=vl (q.map Pr.enc):=by rw[hZ,h5];rfl
  rw[e];have htk:List.take q.length (q.map Pr.enc)=q.map Pr.enc:=zL (by simp)
  (simp(disch:=first|decide|omega|(intros;exact aj rfl rfl)|simp only[aa]) only[sd,LA,zF hc,htk,go_sem,seval,ak])
  try simp[trim]
theorem gZ (a b:List UInt8):aw a++aw b=aw (a++b):=by simp[aw]
theorem qC (n:Int) (h:0<=n∧n<256):([[.i .u8 n]]:List (List D))=aw [UInt8.ofNat n.toNat]:=by
 have:((UInt8.ofNat n.toNat).toNat:Int)=n:=by simp;omega
 simp only[aw,List.map_cons,List.map_nil,this]
theorem Ea (l:List Pr) (i:Nat):(aq l.length++(l.take i).flatMap gV).length<=(aZ l).length:=by
 have e:l.flatMap gV=(l.take i).flatMap gV++(l.drop i).flatMap gV:=by rw[<- List.flatMap_append,zY]
 rw[aZ,e];simp
theorem Af (l:List Pr) (hl:l.length<=1000000) (hb:(aZ l).length<=1000000000) (hk:∀ p∈l,0<=p.key∧p.key<256):call 106 [vl (l.map Pr.enc)] []=some (vs (aZ l),[]):=by
 apply ah Qn rfl;have h0:=oU l.length (by omega)
 have hel:(aq l.length).length<=1000:=by have:=du (n:=l.length) (by omega);have:(aq l.length).length<=9:=this;omega
 (simp(disch:=first|decide|omega|(intros;exact aj rfl rfl)|simp only[aa]) only[L3,h0,hel,go_sem,seval,ak])
 refine aB (m:=0) (σ:=Nat) (fun i=>l.length-i) (fun i=>i<=l.length) (fun i=>[V.one (.sl 0 1 0 (aq l.length++(l.take i).flatMap gV).length),vl (l.map Pr.enc),vi l.length,vi i]) (fun i=>[.arr 0 (aw (aq l.length++(l.take i).flatMap gV)) 0])
  (fun _=>(vs (aZ l),[])) ?_ 0 (zP _) _ _ (at_head2 (by decide) (by simp only[List.map_cons,List.map_nil,go_sem,seval];exact rfl) (by simp[aK,aH,aC,aQ,ay,V.ren,L.ren,Box.ren,V.refs,L.refs,Box.refs,List.append_nil]) (by simp[aK,aH,aC,aQ,ay,V.ren,L.ren,Box.ren,V.refs,L.refs,Box.refs,List.append_nil]))
 intro i h1 R hR;by_cases hi:i<l.length
 ·have g1:(l.map Pr.enc)[i]?=some l[i].enc:=by rw[zG,zE hi];rfl
  have hnx:aq l.length++(l.take (i+1)).flatMap gV=(aq l.length++(l.take i).flatMap gV)++gV l[i]:=by
   rw[zO hi,List.flatMap_append];simp
  have hle:=Nat.le_trans (Ea l (i+1)) hb;have hR':=hR (i+1) (by omega) (by omega)
  rw[hnx] at hR' hle;have hpk:=hk _ (zN hi);obtain⟨p,hp⟩:∃ p,p=l[i]:=⟨_,rfl⟩;rw[<- hp] at g1 hle hR' hpk;obtain⟨S,hS⟩:∃ S,S=aq l.length++(l.take i).flatMap gV:=⟨_,rfl⟩;rw[<- hS] at hle hR' ⊢;have hpb:(gV p).length=1+(aq p.val.length).length+p.val.length:=by simp[gV];omega
  rw[zA] at hle;have hput:=oU p.val.length (by omega)
  rw[show S++gV p=((S++[UInt8.ofNat p.key.toNat])++aq p.val.length)++p.val by simp[gV]] at hR'
  rw[hpb] at hle;have hone:=qC p.key hpk;obtain⟨E,hE⟩:∃ E,E=aq p.val.length:=⟨_,rfl⟩;rw[<- hE] at hR' hput hle;have hok1:aR 1 (aw [UInt8.ofNat p.key.toNat])=true:=oG _;have hln1:(aw [UInt8.ofNat p.key.toNat]).length=1:=rfl;have htk1:List.take 1 (aw [UInt8.ofNat p.key.toNat])=aw [UInt8.ofNat p.key.toNat]:=rfl;generalize [UInt8.ofNat p.key.toNat]=K at *;have hK1:K.length=1:=by rw[<- dh,hln1]
  have q1:(S++K).length=S.length+1:=by simp[hK1]
  have q2:((S++K)++E).length=S.length+1+E.length:=by simp[hK1];omega
  have q3:(((S++K)++E)++p.val).length=S.length+1+E.length+p.val.length:=by simp[hK1];omega
  have r1:=gZ S K;have r2:=gZ (S++K) E;have r3:=gZ ((S++K)++E) p.val;obtain⟨S1,hS1⟩:∃ S1,S1=S++K:=⟨_,rfl⟩;rw[<- hS1] at q1 q2 q3 hR' r1 r2 r3;obtain⟨S2,hS2⟩:∃ S2,S2=S1++E:=⟨_,rfl⟩;rw[<- hS2] at q2 q3 hR' r2 r3;obtain⟨S3,hS3⟩:∃ S3,S3=S2++p.val:=⟨_,rfl⟩;rw[<- hS3] at q3 hR' r3;rw[q3] at hR';obtain⟨pk,pv⟩:=p;simp only[Pr.enc] at *;(simp(disch:=first|decide|omega|(intros;exact aj rfl rfl)|simp only[aa]) only[AH,g1,hput,hone,hok1,hln1,htk1,r1,r2,r3,dh,oG,q1,q2,go_sem,seval,ak])
  exact hR' _ _ cm
 ·have ht:l.take i=l:=zL (by omega)
  rw[ht];have e:aq l.length++l.flatMap gV=aZ l:=rfl;rw[e];have htk:(aw (aZ l)).take (aZ l).length=aw (aZ l):=zL (by rw[dh];exact Nat.le_refl _)
  (simp(disch:=first|decide|omega|(intros;exact aj rfl rfl)|simp only[aa]) only[AH,L3,htk,dh,kv,go_sem,seval,ak])
  try simp[trim]
theorem rA (f:Seg->Int) (l:List Seg) (i:Nat) (h:i<l.length):gN f (l.drop i)=f l[i]+gN f (l.drop (i+1)):=by
 rw[zD h];rfl
theorem rj (l:List Seg) (i:Nat) (h:i+1<l.length):(l.drop i).take (l.length-i-1)=l[i]'(by omega)::(l.drop (i+1)).take (l.length-(i+1)-1):=by
 rw[zD (by omega:i<l.length)]
 obtain⟨k,hk⟩:∃ k,l.length-i-1=k+1:=⟨l.length-i-2,by omega⟩
 rw[hk,List.take_succ_cons];congr 2;omega
theorem rE (l:List Seg) (keep count:Int) (i:Nat) (h:i+1<l.length):dJ l keep count i=false↔(keep<gN Seg.size ((l.drop i).take (l.length-i-1))∨count<gN Seg.n (l.drop i)):=by
 unfold dJ Gm;have e:(l.drop i).length=l.length-i:=by simp
 rw[e];have:1<l.length-i:=by omega
 simp[this];omega
theorem uq (l:List Seg) (keep count:Int) (i:Nat) (h:l.length<=i+1):dJ l keep count i=true:=by
 unfold dJ Gm;have e:(l.drop i).length=l.length-i:=by simp
 have:¬ 1<l.length-i:=by omega
 simp[this]
theorem CK (l:List Seg) (keep count:Int) (h:G7 l) (i:Nat) (hs:dJ l keep count i=true):dJ l keep count (i+1)=true:=by
 by_cases c:i+2<l.length
 ·cases hq:dJ l keep count (i+1) with
  | true=>rfl
  | false =>
   have h1:=(rE l keep count (i+1) (by omega)).1 hq
   have hm:=h.2 _ (zN (by omega:i<l.length))
   have e1:gN Seg.size ((l.drop i).take (l.length-i-1))=l[i].size+gN Seg.size ((l.drop (i+1)).take (l.length-(i+1)-1)):=by rw[rj l i (by omega)];rfl
   have e2:=rA Seg.n l i (by omega)
   have:dJ l keep count i=false:=(rE l keep count i (by omega)).2 (by rw[e1,e2];omega)
   rw[this] at hs;cases hs
 ·exact uq l keep count (i+1) (by omega)
theorem nS (l:List Seg) (keep count:Int) (j:Nat) (hj:j<l.length) (h1:dJ l keep count j=true) (h2:∀ i,i<j->dJ l keep count i=false):d8 l keep count=j:=by
 have:(List.range l.length).find? (dJ l keep count)=some j:=by
  rw[List.find?_range_eq_some];exact⟨h1,by simpa using hj,fun i hi=>by rw[h2 i hi];rfl⟩
 unfold d8;rw[this]
theorem Cr (l:List Seg) (keep count:Int) (h:G7 l) (j:Nat) (hj:dJ l keep count j=false):∀ i,i<=j->dJ l keep count i=false:=by
 intro i hi;cases hq:dJ l keep count i with
 | false=>rfl
 | true =>
  have:∀ k,dJ l keep count (i+k)=true:=by
   intro k;induction k with
   | zero=>exact hq
   | succ k ih=>exact CK l keep count h (i+k) ih
  have:=this (j-i);rw[show i+(j-i)=j by omega,hj] at this
  cases this
theorem zk (l:List Seg) (h:G7 l) (keep count:Int):call 105 [vl (l.map Seg.enc),vi keep,vi count] []=some (vi (d8 l keep count:Nat),[]):=by
 apply ah QQ rfl;have hlen:=h.1;by_cases c0:l.length=0
 ·have e:d8 l keep count=0:=by unfold d8;rw[c0];rfl
  rw[e];(simp(disch:=first|decide|omega|(intros;exact aj rfl rfl)|simp only[aa]) only[HT,c0,go_sem,seval,ak])
  try simp[trim]
 ·have hL:l.length-1<l.length:=by omega
  have c1:¬ (l.length:Int)=0:=by omega
  have ek:((l.length:Int)-1).toNat=l.length-1:=by omega
  have ek0:(0:Int)<=(l.length:Int)-1:=by omega
  have g0:(l.map Seg.enc)[l.length-1]?=some l[l.length-1].enc:=by rw[zG,zE hL];rfl
  have hs1:gN Seg.n (l.drop (l.length-1))=l[l.length-1].n:=by rw[rA _ _ _ hL,show l.length-1+1=l.length by omega,List.drop_length];simp[gN]
  have hs0:gN Seg.size ((l.drop (l.length-1)).take (l.length-(l.length-1)-1))=0:=by rw[show l.length-(l.length-1)-1=0 by omega,List.take_zero];rfl
  obtain⟨W,hW⟩:∃ W,W=d8 l keep count:=⟨_,rfl⟩;rw[<- hW];have hsq:dJ l keep count (l.length-1)=true:=uq _ _ _ _ (by omega)
  have hinit:gN Seg.size ((l.drop (l.length-1)).take (l.length-(l.length-1)-1))=0∧gN Seg.n (l.drop (l.length-1))=l[l.length-1].n:=⟨hs0,hs1⟩;obtain⟨p,hp⟩:∃ p,p=l[l.length-1]:=⟨_,rfl⟩;rw[<- hp] at g0 hinit;(simp(disch:=first|decide|omega|(intros;exact aj rfl rfl)|simp only[aa]) only[HT,c1,ek,ek0,g0,Seg.enc,go_sem,seval,ak])
  refine aB (m:=0) (σ:=Nat × Int × Int × Int) (fun t=>t.1) (fun t=>t.1<=l.length-1∧dJ l keep count t.1=true∧t.2.1=gN Seg.size ((l.drop t.1).take (l.length-t.1-1))∧t.2.2.1=gN Seg.n (l.drop t.1)∧t.2.2.2=(t.1:Int)-1) (fun t=>[vl (l.map Seg.enc),vi keep,vi count,vi t.2.1,vi t.2.2.1,vi t.2.2.2]) (fun _=>[])
   (fun _=>(vi (W:Nat),[])) ?_ (l.length-1,0,p.n,(l.length:Int)-1-1) ⟨Nat.le_refl _,hsq,hinit.1.symm,hinit.2.symm,by simp only[];omega⟩ _ _ cm
  rintro⟨j,b,r,i⟩ ⟨h1,h2,h3,h4,h5⟩ R hR;simp only at h1 h2 h3 h4 h5;by_cases hj:j=0
  ·have e:W=0:=by rw[hW];exact nS l keep count 0 (by omega) (hj ▸ h2) (fun i hi=>absurd hi (by omega))
   have ci:¬ (0:Int)<=i:=by omega
   rw[e];(simp(disch:=first|decide|omega|(intros;exact aj rfl rfl)|simp only[aa]) only[rZ,HT,zF ci,go_sem,seval,ak])
   try simp[trim]
  ·have hjl:j-1<l.length:=by omega
   have ci:(0:Int)<=i:=by omega
   have ei:i.toNat=j-1:=by omega
   have g1:(l.map Seg.enc)[j-1]?=some l[j-1].enc:=by rw[zG,zE hjl];rfl
   have s1:gN Seg.size ((l.drop (j-1)).take (l.length-(j-1)-1))=l[j-1].size+gN Seg.size ((l.drop j).take (l.length-j-1)):=by
    have:=rj l (j-1) (by omega)
    simp only[show j-1+1=j by omega] at this
    rw[this];rfl
   have s2:gN Seg.n (l.drop (j-1))=l[j-1].n+gN Seg.n (l.drop j):=by rw[rA _ _ _ hjl,show j-1+1=j by omega]
   have sb:=E6 Seg.size (l.drop j) (by simp;omega) (fun g hg=>(h.2 g (List.mem_of_mem_drop hg)).2) (l.length-j-1)
   have sn:=E6 Seg.n (l.drop j) (by simp;omega) (fun g hg=>(h.2 g (List.mem_of_mem_drop hg)).1) l.length
   rw[zL (by simp)] at sn
   have hm:=h.2 _ (zN hjl);have hst:=rE l keep count (j-1) (by omega)
   have hR':=hR (j-1,b+l[j-1].size,r+l[j-1].n,i-1) (by simp only[];omega)
   rw[s1,s2] at hst;simp only[s1,s2] at hR';rw[<- h3] at hst sb hR';rw[<- h4] at hst sn hR';have hdn:=Cr l keep count h (j-1);obtain⟨q,hq⟩:∃ q,q=l[j-1]:=⟨_,rfl⟩;rw[<- hq] at g1 hst hm hR';have hjn:((j-1:Nat):Int)+1=j:=by omega
   have hij:i+1=(j:Int):=by omega
   by_cases k1:keep<b+q.size
   ·have hf:=hst.2 (.inl (by omega))
    have e:W=j:=by rw[hW];exact nS l keep count j (by omega) h2 (fun i hi=>hdn hf i (by omega))
    rw[e];(simp(disch:=first|decide|omega|(intros;exact aj rfl rfl)|simp only[aa]) only[rZ,ci,ei,g1,Seg.enc,zT k1,hij,go_sem,seval,ak])
    try simp[trim]
   ·by_cases k2:count<r+q.n
    ·have hf:=hst.2 (.inr (by omega))
     have e:W=j:=by rw[hW];exact nS l keep count j (by omega) h2 (fun i hi=>hdn hf i (by omega))
     rw[e];(simp(disch:=first|decide|omega|(intros;exact aj rfl rfl)|simp only[aa]) only[rZ,ci,ei,g1,Seg.enc,zF k1,zT k2,hij,go_sem,seval,ak])
     try simp[trim]
    ·have hsy:dJ l keep count (j-1)=true:=by
      cases hx:dJ l keep count (j-1) with
      | true=>rfl
      | false=>have:=hst.1 hx;omega
     (simp(disch:=first|decide|omega|(intros;exact aj rfl rfl)|simp only[aa]) only[rZ,ci,ei,g1,Seg.enc,zF k1,zF k2,go_sem,seval,ak])
     exact hR' ⟨by omega,hsy,by omega,by omega,by omega⟩ _ _ cm
theorem Es {k u:Nat} (s:Sto) (h:okS k u s) (hk:k<=800000):call 145 [.agg s.l] []=some (vs (dU s),[]):=by
 have hf:call 119 [.agg s.l] []=some (vi s.floor,[]):=mZ s;have hn:=lz (gU h);have hr:=o5 s.disk (Nat.le_trans h.dsk.len (by omega)) h.dsk.srt (aN s.floor)
 have e:dU s=if s.floor=0 then[] else(bZ s.disk.files (aN s.floor)).1:=rfl
 rw[e];generalize s.floor=fl at *;generalize aN fl=N at *;generalize bZ s.disk.files N=rf at *;have hcell:s.l=[.d (.l (s.disk.files.map Fil.enc)),zI s.disk.cap,zB s.disk.armed,zI s.disk.left,zB s.disk.down,zI s.ver,.d (.l (s.segs.map Seg.enc)),zI s.next,zI s.sure,zI s.size,zW s.sum]:=rfl;have hd:s.disk.l=[.d (.l (s.disk.files.map Fil.enc)),zI s.disk.cap,zB s.disk.armed,zI s.disk.left,zB s.disk.down]:=rfl;apply ah Qw rfl;rw[hcell] at hf ⊢;rw[hd] at hr;by_cases c:fl=0
 ·subst c;rw[if_pos rfl];(simp(disch:=first|decide|omega|(intros;exact aj rfl rfl)|simp only[aa]) only[aF,Mi,hf,go_sem,seval,ak])
  try simp[trim]
 ·rw[if_neg c];(simp(disch:=first|decide|omega|(intros;exact aj rfl rfl)|simp only[aa]) only[aF,Mi,hf,hn,hr,c,go_sem,seval,ak])
  try simp[trim]
theorem uj {s:List UInt8} {l:List Pr} (h:bA s=some l):fY l:=by
 have hr:fu l=true:=by
  unfold bA at h;split at h
  ·split at h
   ·cases h
   ·unfold nG at h;split at h
    ·split at h
     ·rename_i hc;cases h;exact hc.2
     ·cases h
    ·cases h
  ·cases h
 have key:∀ i,(hi:i+1<l.length)->l[i].key<l[i+1].key:=by
  intro i hi;have:=(List.all_eq_true.1 hr) (i+1) (by simpa using hi)
  simp only[qF,zE hi,Bool.and_eq_true,Bool.or_eq_true,decide_eq_true_eq] at this;have h2:=this.2.resolve_left (by omega)
  have e:jD l (i+1-1)=l[i].key:=by simp[jD,zE (show i<l.length by omega)]
  rwa [e] at h2
 have mono:∀ d i,(hi:i+1+d<l.length)->l[i].key<l[i+1+d].key:=by
  intro d;induction d with
  | zero=>intro i hi;exact key i hi
  | succ d ih=>intro i hi;exact Int.lt_trans (ih i (by omega)) (key (i+1+d) hi)
 unfold fY;rw[List.pairwise_iff_getElem];intro i j hi hj hij;have:=mono (j-i-1) i (by omega)
 simpa only[show i+1+(j-i-1)=j by omega] using this
def Sto.rcs (s:Sto) (g:Seg):List Rec:=(ib (s.txt g) g.base).1.map (·.1)
def ET (s:Sto) (off:Int):List Seg->List Pr->List Pr
 | [],l=>l
 | g::r,l=>if off<=g.base then l else ET s off r (cL l ((s.rcs g).take (off-g.base).toNat))
def lU (s:Sto) (off:Int):List Pr:=ET s off s.segs ((bA (dU s)).getD [])
theorem MK (s:Sto) (g:Seg):∀ r∈s.rcs g,r.da.length<=64:=by
 intro r hr;simp only[Sto.rcs,List.mem_map] at hr;obtain⟨x,hx,rfl⟩:=hr;exact wH (ym _ _ x hx)
theorem CR {k u:Nat} {s:Sto} (h:okS k u s):(dU s).length<=u:=by
 unfold dU;split
 ·simp
 ·exact Nat.le_trans (pd _ _) h.dsk.used
theorem Ld (s:Sto):fY ((bA (dU s)).getD [])∧okP ((bA (dU s)).getD []):=by
 cases h:bA (dU s) with
 | none=>exact⟨List.Pairwise.nil,fun p hp=>by cases hp⟩
 | some l=>exact⟨uj h,(rQ h).1⟩
theorem Dc {k u:Nat} (s:Sto) (h:okS k u s) (hk:k<=800000) (hu:u<=1000000) (off:Int) (hoff:0<=off∧off<=1099511627776):call 107 [.agg s.l,vi off] []=some (vl ((lU s off).map Pr.enc),[]):=by
 have hs:=Es s h hk;have hsl:=CR h;have hp:=se (dU s) (by omega)
 have hpv:∃ ok:Bool,gp (bA (dU s))=.tup [(false,[.d (.l (((bA (dU s)).getD []).map Pr.enc))]),(false,[zB ok])]:=by
  cases bA (dU s) with
  | none=>exact⟨false,rfl⟩
  | some l=>exact⟨true,rfl⟩
 have hl0:=Ld s;obtain⟨Z,hZ⟩:∃ Z:V,Z=vl ((lU s off).map Pr.enc):=⟨_,rfl⟩;rw[<- hZ];have hZ':Z=vl ((ET s off s.segs ((bA (dU s)).getD [])).map Pr.enc):=hZ;clear hZ;obtain⟨ok,hpv⟩:=hpv;rw[hpv] at hp;generalize (bA (dU s)).getD []=l0 at *;generalize dU s=sn at *;have hlen:=h.len;have hseg:=h.seg;have hrd:=fun g=>o5 s.disk (Nat.le_trans h.dsk.len (by omega)) h.dsk.srt (fileN g)
 have hd:s.disk.l=[.d (.l (s.disk.files.map Fil.enc)),zI s.disk.cap,zB s.disk.armed,zI s.disk.left,zB s.disk.down]:=rfl;rw[hd] at hrd;have hcell:s.l=[.d (.l (s.disk.files.map Fil.enc)),zI s.disk.cap,zB s.disk.armed,zI s.disk.left,zB s.disk.down,zI s.ver,.d (.l (s.segs.map Seg.enc)),zI s.next,zI s.sure,zI s.size,zW s.sum]:=rfl;apply ah Q5 rfl;rw[hcell] at hs ⊢;(simp(disch:=first|decide|omega|(intros;exact aj rfl rfl)|simp only[aa]) only[aF,J9,hs,hp,go_sem,seval,ak])
 refine aB (m:=0) (σ:=Nat × List Pr) (fun t=>s.segs.length-t.1) (fun t=>t.1<=s.segs.length∧(fY t.2∧okP t.2)∧Z=vl ((ET s off (s.segs.drop t.1) t.2).map Pr.enc)) (fun t=>[vi off,V.one (.p 0 0),vl (t.2.map Pr.enc),vl (s.segs.map Seg.enc),vi s.segs.length,vi t.1])
  (fun _=>[.cells [.d (.l (s.disk.files.map Fil.enc)),zI s.disk.cap,zB s.disk.armed,zI s.disk.left,zB s.disk.down,zI s.ver,.d (.l (s.segs.map Seg.enc)),zI s.next,zI s.sure,zI s.size,zW s.sum]]) (fun _=>(Z,[])) ?_ (0,l0) ⟨zP _,hl0,hZ'⟩ _ _ cm
 rintro⟨i,l⟩ ⟨h1,h2,h3⟩ R hR;simp only at h1 h2 h3;by_cases c:i<s.segs.length
 ·have hc:(i:Int)<(s.segs.length:Int):=by omega
  rw[zD c,ET] at h3;have g1:(s.segs.map Seg.enc)[i]?=some s.segs[i].enc:=by rw[zG,zE c];rfl
  have hg:=hseg _ (zN c);have g2:=ky hg.1;have g3:=hrd s.segs[i].base;have g4:=DA (s.txt s.segs[i]) (Nat.le_trans (pd _ _) (Nat.le_trans h.dsk.used hu)) s.segs[i].base (by omega)
  have hrc:s.rcs s.segs[i]=(ib (s.txt s.segs[i]) s.segs[i].base).1.map (·.1):=rfl;have hrd2:=MK s s.segs[i];have hrl:(s.rcs s.segs[i]).length<=1000000:=by
   rw[hrc,zM];exact Nat.le_trans (D8 _ _) (Nat.le_trans (pd _ _) (Nat.le_trans h.dsk.used hu))
  have e4:jO (ib (s.txt s.segs[i]) s.segs[i].base)=.tup [(false,[.d (.l ((s.rcs s.segs[i]).map Rec.enc))]),(false,[.d (.i .i64 (((ib (s.txt s.segs[i]) s.segs[i].base).2.1:Nat):Int))]),(false,[.d (.i .i64 (ib (s.txt s.segs[i]) s.segs[i].base).2.2)])]:=by
   unfold jO;rw[hrc,List.map_map];rfl
  rw[e4] at g4;have htx:s.txt s.segs[i]=(bZ s.disk.files (fileN s.segs[i].base)).1:=rfl;rw[htx] at g4;generalize (ib (bZ s.disk.files (fileN s.segs[i].base)).1 s.segs[i].base).2=z at *;generalize s.rcs s.segs[i]=RR at *;clear hrc htx e4;generalize s.segs[i]=g at *;generalize bZ s.disk.files (fileN g.base)=rf at *;obtain⟨gb,gn,gz⟩:=g;simp only[Seg.enc] at *;by_cases c2:off<=gb
  ·rw[if_pos c2] at h3;rw[h3];(simp(disch:=first|decide|omega|(intros;exact aj rfl rfl)|simp only[aa]) only[aF,ve,J9,zT hc,g1,zT c2,go_sem,seval,ak])
   try simp[trim]
  ·rw[if_neg c2] at h3;have ht:=lQ (RR.take (off-gb).toNat) l h2.1 h2.2 (fun r hr=>hrd2 r (zZ hr))
   have g5:=Cy l h2.1 h2.2 (RR.take (off-gb).toNat) (by simp;omega) (fun r hr=>hrd2 r (zZ hr))
   have hR':=hR (i+1,cL l (RR.take (off-gb).toNat)) (by simp only[];omega) ⟨by simp only[];omega,⟨ht.1,ht.2.1⟩,h3⟩
   have em:List.take (if off-gb<(RR.length:Int) then off-gb else(RR.length:Int)).toNat (RR.map Rec.enc)=(RR.take (off-gb).toNat).map Rec.enc:=by
    rw[<- List.map_take];congr 1
    split
    ·rfl
    ·rw[zL (by omega),zL (by omega)]
   have hok:aR 3 (RR.map Rec.enc)=true:=aV Rec.len _;generalize cL l (RR.take (off-gb).toNat)=l2 at *;(simp(disch:=first|decide|omega|(intros;exact aj rfl rfl)|simp only[aa]) only[aF,ve,zT hc,g1,zF c2,g2,g3,g4,hok,em,g5,go_sem,seval,ak])
   exact hR' _ _ cm
 ·have hc:¬ (i:Int)<(s.segs.length:Int):=by omega
  rw[zC (by omega),ET] at h3
  rw[h3];(simp(disch:=first|decide|omega|(intros;exact aj rfl rfl)|simp only[aa]) only[aF,ve,J9,zF hc,go_sem,seval,ak])
  try simp[trim]
variable {k u:Nat} {f:Int} {S:Txt} {l0:List Pr} {s:Sto} {M:List SR} {g:Seg} {l:List Rec}
theorem Inv.rcs (ho:okS k u s) (h:Inv f s M g l):∀ p∈M++[(g,l)],s.rcs p.1=p.2:=by
 intro p hp;have hf:=h.file p hp;have hpm:p.1∈s.segs:=by
  rw[h.segs];rcases zX.1 hp with hp|hp
  ·exact List.mem_append_left _ (List.mem_map_of_mem hp)
  ·rw[zV.1 hp];simp
 have hb:=(ho.seg _ hpm).1;have ht:s.txt p.1=rowS p.2:=by
  unfold Sto.txt;rw[oY ho.dsk.srt hf.has]
 unfold Sto.rcs;rw[ht];exact(GN p.2 p.1.base (by simp[fp];omega) hf.why hf.num).1
theorem Inv.scans (ho:okS k u s) (h:Inv f s M g l):s.scans=M++[(g,l)]:=by
 have e:s.segs=(M++[(g,l)]).map (·.1):=by rw[h.segs];simp
 have e2:s.scans=s.segs.map fun a=>(a,s.rcs a):=rfl
 rw[e2,e,List.map_map];have:(M++[(g,l)]).map ((fun a=>(a,s.rcs a)) ∘ fun x=>x.1)=(M++[(g,l)]).map id:=by
  apply List.map_congr_left;intro p hp;show(p.1,s.rcs p.1)=p;rw[h.rcs ho p hp]
 rw[this,List.map_id]
theorem BC {b:Int} {A B:List Rec} (h1:numB b A) (h2:numB (b+A.length) B):numB b (A++B):=by
 intro i hi;rw[zA] at hi;rcases Nat.lt_or_ge i A.length with c|c
 ·rw[List.getElem_append_left c];exact h1 i c
 ·rw[List.getElem_append_right c,h2 (i-A.length) (by omega)];omega
theorem uN:∀ (M:List SR) (b e:Int),chainM b M e->(∀ p∈M,numB p.1.base p.2)->numB b (aX M)
 | [],b,e,_,_=>fun i hi=>by simp[aX] at hi
 | p::M,b,e,h,hn=>by
  simp only[chainM] at h;have e1:aX (p::M)=p.2++aX M:=by simp[aX]
  rw[e1];have h1:=hn p (by simp)
  rw[h.1] at h1;exact BC h1 (uN M _ e h.2.2 (fun q hq=>hn q (by simp[hq])))
theorem Inv.num (h:Inv f s M g l):numB f (aX (M++[(g,l)])):=by
 have h1:=uN M f g.base h.chain (fun p hp=>(h.file p (List.mem_append_left _ hp)).num)
 rw[cJ,eJ];refine BC h1 ?_;rw[iw _ _ _ h.chain];exact(h.file (g,l) (by simp)).num
theorem W.snT (ho:okS k u s) (h:W f S l0 s M g l):dU s=S∧(bA (dU s)).getD []=l0:=by
 have hf:s.floor=f:=WR.floor ⟨M,g,l,h,rfl⟩;have e:dU s=S:=by
  unfold dU;rw[hf];rcases h.snp with⟨h1,h2,_⟩|⟨h1,h2,_⟩
  ·rw[if_pos h1,h2]
  ·rw[if_neg (by omega),Bp ho.dsk.srt,h2]
 rw[e];refine⟨rfl,?_⟩;rcases h.snp with⟨_,h2,h3,_⟩|⟨_,_,h3,_⟩
 ·rw[h2,h3];rfl
 ·rw[h3];rfl
theorem wX {R:List Rec} (hd:∀ j,(hj:j<R.length)->qv s (f+j)=R[j].da):∀ (n j:Nat) (q:List Pr),j+n<=R.length->vu s n (f+j) q=cL q ((R.drop j).take n)
 | 0,j,q,_=>by simp[vu,cL]
 | n+1,j,q,h=>by
  have hj:j<R.length:=by omega
  rw[vu,hd j hj,zD hj,List.take_succ_cons];have ih:=wX hd n (j+1) (cH q R[j].da) (by omega)
  rw[Int.natCast_add,Int.natCast_one,<- Int.add_assoc] at ih;rw[ih];rfl
theorem W.data (ho:okS k u s) (h:W f S l0 s M g l) (j:Nat) (hj:j<(aX (M++[(g,l)])).length):qv s (f+j)=(aX (M++[(g,l)]))[j].da:=by
 have hn:s.next=f+(aX (M++[(g,l)])).length:=WR.next ⟨M,g,l,h,rfl⟩;have hf0:0<=f:=by have:=WR.floor ⟨M,g,l,h,rfl⟩;rw[<- this];exact(gU ho).1
 unfold qv;rw[if_neg (by omega),h.inv.scans ho,GP h.inv.num j hj]
def Em (l0:List Pr) (f:Int) (R:List Rec) (off:Int):List Pr:=cL l0 (R.take (off-f).toNat)
theorem W.stT (ho:okS k u s) (h:W f S l0 s M g l) (off:Int) (h1:f<=off∧off<=s.next):bJ s off=Em l0 f (aX (M++[(g,l)])) off:=by
 have hn:s.next=f+(aX (M++[(g,l)])).length:=WR.next ⟨M,g,l,h,rfl⟩;unfold bJ Em;rw[(h.snT ho).2,WR.floor ⟨M,g,l,h,rfl⟩];have:=wX (h.data ho) (off-f).toNat 0 l0 (by omega)
 simpa using this
theorem t7 (s:Sto) (off:Int):∀ (M:List SR) (b e:Int) (q:List Pr),chainM b M e->(∀ p∈M,s.rcs p.1=p.2)->∀ rest:List Seg,ET s off (M.map (·.1)++rest) q=if(∃ p∈M,off<=p.1.base) then cL q ((aX M).take (off-b).toNat) else ET s off rest (cL q ((aX M).take (off-b).toNat))
 | [],b,e,q,_,_,rest=>by simp[aX,cL]
 | p::M,b,e,q,h,hr,rest=>by
  simp only[chainM] at h;have ih:=t7 s off M (b+p.2.length) e (cL q (p.2.take (off-b).toNat)) h.2.2 (fun x hx=>hr x (by simp[hx])) rest
  have e1:aX (p::M)=p.2++aX M:=by simp[aX]
  have hce:=(dy _ _ _ h.2.2);have hb:=h.1;rw[List.map_cons,List.cons_append,ET,hr p (by simp),hb]
  by_cases c:off<=b
  ·rw[if_pos c,if_pos ⟨p,by simp,by omega⟩]
   have:(off-b).toNat=0:=by omega
   rw[this,List.take_zero];rfl
  ·rw[if_neg c,ih,e1];have e2:cL (cL q (p.2.take (off-b).toNat)) ((aX M).take (off-(b+p.2.length)).toNat)=cL q ((p.2++aX M).take (off-b).toNat):=by
    rw[<- ub,List.take_append];congr 3;omega
   rw[e2];by_cases c2:∃ x∈M,off<=x.1.base
   ·obtain⟨x,hx,hx2⟩:=c2;have hx3:=hce.2 x hx;rw[if_pos ⟨x,hx,hx2⟩,if_pos ⟨x,by simp[hx],hx2⟩]
   ·rw[if_neg c2,if_neg];rintro⟨x,hx,hx2⟩;rcases List.mem_cons.1 hx with rfl|hx
    ·omega
    ·exact c2 ⟨x,hx,hx2⟩
theorem W.sPr (ho:okS k u s) (h:W f S l0 s M g l) (off:Int) (h1:f<=off∧off<=s.next):lU s off=Em l0 f (aX (M++[(g,l)])) off:=by
 unfold lU Em;rw[(h.snT ho).2,h.inv.segs,t7 s off M f g.base l0 h.inv.chain (fun p hp=>h.inv.rcs ho p (List.mem_append_left _ hp))]
 have hcl:=iw _ _ _ h.inv.chain;split
 ·rename_i c;obtain⟨x,hx,hx2⟩:=c;have:=(dy _ _ _ h.inv.chain).2 x hx;rw[cJ,List.take_append_of_le_length (by omega)]
 ·rename_i c;rw[ET,h.inv.rcs ho (g,l) (by simp),ET]
  split
  ·rename_i c2;rw[cJ,List.take_append_of_le_length (by omega)]
  ·rename_i c2;rw[cJ,eJ,List.take_append,ub];congr 2
   omega
theorem W.same_state (ho:okS k u s) (h:W f S l0 s M g l):∀ a∈s.segs,lU s a.base=bJ s a.base:=by
 intro a ha;have hb:f<=a.base∧a.base<=s.next:=by
  have hn:=h.inv.next;rw[h.inv.segs] at ha;rcases zX.1 ha with ha|ha
  ·obtain⟨p,hp,rfl⟩:=List.mem_map.1 ha;have:=(dy _ _ _ h.inv.chain);have:=this.2 p hp;omega
  ·rw[zV.1 ha];have:=(dy _ _ _ h.inv.chain).1;omega
 rw[h.sPr ho _ hb,h.stT ho _ hb]
def okV (l:List Pr):Prop:=∀ p∈l,(0<=p.key∧p.key<256)∧(1<=p.val.length∧p.val.length<=63)
theorem okV.okP {l:List Pr} (h:okV l):okP l:=fun p hp=>⟨(h p hp).1,by have:=(h p hp).2;omega⟩
theorem step_okV {l:List Pr} (h:okV l) {d:List UInt8} (hd:d.length<=64):okV (cH l d):=by
 cases d with
 | nil=>exact h
 | cons c r =>
  intro p hp;simp only[cH,zX] at hp;rcases hp with(hp|hp)|hp
  ·exact h p ((List.takeWhile_sublist _).subset hp)
  ·split at hp
   ·cases hp
   ·rename_i hr;rw[zV] at hp;subst hp;have:=UInt8.toNat_lt c;have:=List.length_pos_iff.2 hr;simp at hd;exact⟨⟨by simp only[];omega,by simp only[];omega⟩,by simp only[];omega⟩
  ·exact h p (List.mem_filter.1 hp).1
theorem pt:∀ (R:List Rec) (l:List Pr),okV l->(∀ r∈R,r.da.length<=64)->okV (cL l R)
 | [],l,h,_=>h
 | r::R,l,h,hr=>pt R _ (step_okV h (hr r (by simp))) (fun x hx=>hr x (by simp[hx]))
theorem Fz {l:List Pr} (hs:fY l) (h:okV l):fu l=true:=by
 unfold fu;rw[List.all_eq_true];intro i hi;have hi:i<l.length:=by simpa using hi
 simp only[qF,zE hi,vf,Bool.and_eq_true,Bool.or_eq_true,decide_eq_true_eq];refine⟨(h _ (zN hi)).2,?_⟩;by_cases c:i=0
 ·exact .inl c
 ·refine .inr ?_;have e:jD l (i-1)=l[i-1].key:=by simp[jD,zE (show i-1<l.length by omega)]
  rw[e];exact(List.pairwise_iff_getElem.1 hs) (i-1) i (by omega) hi (by omega)
theorem CL {l:List Pr} (hr:fu l=true) (ho:okP l):okV l:=by
 intro p hp;obtain⟨i,hi,rfl⟩:=zJ hp;have:=(List.all_eq_true.1 hr) i (by simpa using hi)
 simp only[qF,zE hi,vf,Bool.and_eq_true,decide_eq_true_eq] at this;exact⟨(ho _ hp).1,this.1⟩
theorem Ao (pre rest:Txt) (p:Pr) (h:(0<=p.key∧p.key<256)∧(1<=p.val.length∧p.val.length<=63)):qw (pre++(gV p++rest)) pre.length=some (p,(pre++gV p).length):=by
 obtain⟨key,v⟩:=p;simp only at h;have e0:pre++(gV ⟨key,v⟩++rest)=(pre++[UInt8.ofNat key.toNat])++(aq v.length++(v++rest)):=by simp[gV]
 have e1:(pre++(gV ⟨key,v⟩++rest)).drop (pre.length+1)=aq v.length++(v++rest):=by
  rw[e0];exact List.drop_left' (by simp)
 have hr:=n4 v.length (v++rest) (by omega)
 have hk:(aq v.length).length=nd v.length:=rfl;have hl:(pre++(gV ⟨key,v⟩++rest)).length=pre.length+1+nd v.length+v.length+rest.length:=by rw[e0];simp[hk];omega
 have ha:(pre++(gV ⟨key,v⟩++rest))[pre.length]?=some (UInt8.ofNat key.toNat):=by simp[gV]
 have hv:((pre++(gV ⟨key,v⟩++rest)).take (pre.length+1+nd v.length+v.length)).drop (pre.length+1+nd v.length)=v:=by
  have e2:pre++(gV ⟨key,v⟩++rest)=((pre++[UInt8.ofNat key.toNat])++aq v.length)++(v++rest):=by simp[gV]
  have hl2:((pre++[UInt8.ofNat key.toNat])++aq v.length).length=pre.length+1+nd v.length:=by simp[hk];omega
  rw[e2,<- hl2,List.take_length_add_append,List.drop_left,List.take_left]
 have hkey:((UInt8.ofNat key.toNat).toNat:Int)=key:=by simp;omega
 unfold qw;rw[e1,hr];simp only[];rw[if_neg (by omega),hv,ha]
 simp only[Option.getD_some,hkey];congr 2
 simp[gV,hk];omega
theorem rV:∀ (l:List Pr) (pre:Txt) (out:List Pr),okV l->hI (pre++l.flatMap gV) l.length pre.length out=some (out++l,(pre++l.flatMap gV).length)
 | [],pre,out,_=>by simp[hI]
 | p::l,pre,out,h=>by
  have hp:=Ao pre (l.flatMap gV) p (h p (by simp))
  rw[List.flatMap_cons,List.length_cons,hI,hp];simp only[];have ih:=rV l (pre++gV p) (out++[p]) (fun q hq=>h q (by simp[hq]))
  rw[List.append_assoc] at ih;rw[ih];simp
theorem p9 {l:List Pr} (hs:fY l) (h:okV l):bA (aZ l)=some l:=by
 have hl:=pS hs h.okP;have hr:=n4 l.length (l.flatMap gV) (by omega)
 have hp:=rV l (aq l.length) [] h;have hk:(aq l.length).length=nd l.length:=rfl;unfold bA;have e:aZ l=aq l.length++l.flatMap gV:=rfl;rw[e,hr];simp only[];rw[if_neg (by omega),<- hk,hp]
 unfold nG;simp[Fz hs h]
theorem CE {s:List UInt8} {l:List Pr} (h:bA s=some l):okV l:=by
 have hr:fu l=true:=by
  unfold bA at h;split at h
  ·split at h
   ·cases h
   ·unfold nG at h;split at h
    ·split at h
     ·rename_i hc;cases h;exact hc.2
     ·cases h
    ·cases h
  ·cases h
 exact CL hr (rQ h).1
theorem zd {k u:Nat} {d:Dsk} (h:okN k u d) (h0:(aI d).2=0):okS (k+2) (u+1000) (aI d).1∧(∀ seg:Int,0<=seg->Py 0 seg (aI d).1 [])∧(aI d).1.next=0∧(aI d).1.sure=0:=by
 have k1:=dY (s:=(d,0)) h (fileN 0);unfold aI at h0 ⊢;simp only[] at h0 ⊢;have k2:okN (k+2) (u+1000) (if(bL (fileN 0) (d,0)).2=0 then bR ⟨1,[0],0,0⟩ (bL (fileN 0) (d,0)) else bL (fileN 0) (d,0)).1:=by
  split
  ·exact(gS k1 _).up (by omega) (by omega)
  ·exact k1.up (by omega) (by omega)
 have hd:(bL (fileN 0) (d,0)).2=0->hasD (if(bL (fileN 0) (d,0)).2=0 then bR ⟨1,[0],0,0⟩ (bL (fileN 0) (d,0)) else bL (fileN 0) (d,0)).1.files (fileN 0) []:=fun hc=>by
  rw[if_pos hc];exact pu k1 _ (mF _ _) (mF _ _) (BA hc)
 have hc:(if(bL (fileN 0) (d,0)).2=0 then bR ⟨1,[0],0,0⟩ (bL (fileN 0) (d,0)) else bL (fileN 0) (d,0)).2=0->(bL (fileN 0) (d,0)).2=0:=fun hx=>by
  by_cases hc:(bL (fileN 0) (d,0)).2=0
  ·exact hc
  ·rw[if_neg hc] at hx;exact hx
 generalize (if(bL (fileN 0) (d,0)).2=0 then bR ⟨1,[0],0,0⟩ (bL (fileN 0) (d,0)) else bL (fileN 0) (d,0))=s2 at *
 by_cases c:s2.2=0
 ·rw[if_pos c];have hd:=hd (hc c);refine⟨⟨k2,by simp,?_,by simp,⟨by simp,by simp only[];omega⟩,by simp⟩,fun seg hs=>⟨[],⟨0,0,0⟩,[],⟨rfl,?_,rfl,rfl,by simp⟩,⟨fun p hp=>(by cases hp),by simp only[];omega⟩,rfl⟩,rfl,rfl⟩
  ·intro g hg;simp only[zV] at hg;subst hg;simp;omega
  ·intro p hp;simp only[List.nil_append,zV] at hp;subst hp;exact⟨hd,fun r hr=>(by cases hr),fun k hk=>(by simp at hk),rfl,rfl⟩
 ·rw[if_neg c] at h0;exact absurd h0 c
def d0:Dsk:=⟨[],0,false,0,false⟩
theorem d0_ok:okN 0 0 d0:=⟨Nat.le_refl _,List.Pairwise.nil,by decide,by decide,Nat.le_refl _⟩
theorem zc:(aI d0).2=0:=by decide +kernel
variable {k u:Nat} {f:Int} {S:Txt} {l0:List Pr} {s:Sto} {M:List SR} {g:Seg} {l:List Rec}
theorem W.st0 (h:W f S l0 s M g l):fY l0∧okV l0:=by
 rcases h.snp with⟨_,_,h3,_⟩|⟨_,_,h3,_⟩
 ·rw[h3];exact⟨List.Pairwise.nil,fun p hp=>by cases hp⟩
 ·exact⟨uj h3,CE h3⟩
theorem W.why (h:W f S l0 s M g l):∀ r∈aX (M++[(g,l)]),whyF r=0:=by
 intro r hr;simp only[aX,List.mem_flatMap] at hr;obtain⟨p,hp,hr⟩:=hr;exact(h.inv.file p hp).why r hr
theorem W.st (h:W f S l0 s M g l) (off:Int):fY (Em l0 f (aX (M++[(g,l)])) off)∧okV (Em l0 f (aX (M++[(g,l)])) off):=by
 have h1:∀ r∈(aX (M++[(g,l)])).take (off-f).toNat,r.da.length<=64:=fun r hr=>wH (h.why r (zZ hr))
 exact⟨(lQ _ _ h.st0.1 h.st0.2.okP h1).1,pt _ _ h.st0.2 h1⟩
theorem qd {q:List Pr} (hs:fY q) (ho:okV q):1<=(aZ q).length∧(aZ q).length<=18960:=by
 have h1:=pS hs ho.okP;have h2:=pa ho.okP (by omega)
 have h3:1<=(aq q.length).length:=fA q.length;refine⟨?_,by omega⟩
 unfold aZ;rw[zA];omega
theorem mY:∀ (k:Nat) (M:List SR) (b e:Int),k<=M.length->chainM b M e->chainM (b+(aX (M.take k)).length) (M.drop k) e
 | 0,M,b,e,_,h=>by simpa[aX] using h
 | k+1,[],b,e,hk,_=>by simp at hk
 | k+1,p::M,b,e,hk,h=>by
  simp only[chainM] at h;have ih:=mY k M (b+p.2.length) e (by simpa using hk) h.2.2
  have e1:(aX ((p::M).take (k+1))).length=p.2.length+(aX (M.take k)).length:=by simp[aX]
  rw[e1,List.drop_succ_cons,Int.natCast_add,<- Int.add_assoc];exact ih
theorem yr {M:List SR} {b e:Int} (h:chainM b M e):∀ x,(M.map (·.1.base)++[e])[0]?=some x->x=b:=by
 intro x hx;cases M with
 | nil=>simp[chainM] at h hx;omega
 | cons p M=>simp[chainM] at h hx;omega
theorem W.base_k (h:W f S l0 s M g l) {n:Nat} (hn:n<s.segs.length):n<=M.length∧aU s.segs n=f+(aX (M.take n)).length:=by
 have hl:s.segs.length=M.length+1:=by rw[h.inv.segs];simp
 have hk:n<=M.length:=by omega
 refine⟨hk,?_⟩;have hc:=mY n M f g.base hk h.inv.chain;refine yr hc _ ?_;have e1:s.segs.map Seg.base=M.map (·.1.base)++[g.base]:=by rw[h.inv.segs];simp[List.map_map,Function.comp_def]
 have e2:(M.drop n).map (·.1.base)++[g.base]=(s.segs.map Seg.base).drop n:=by
  rw[e1,List.drop_append_of_le_length (by simpa using hk),List.map_drop]
 rw[e2,List.getElem?_drop,Nat.add_zero,zG,(im hn).1,(im hn).2];rfl
theorem W.trimR (ho:okS k u s) (h:W f S l0 s M g l) (hv:u<1000000000000) {n:Nat} (hn:n<s.segs.length) (h0:n≠0):f<aU s.segs n∧aU s.segs n<=s.next∧bJ s (aU s.segs n)=Em l0 f (aX (M++[(g,l)])) (aU s.segs n)∧manB (eb s n).man=true:=by
 have hb:=h.base_k hn;have hf0:0<=f:=by have:=WR.floor ⟨M,g,l,h,rfl⟩;rw[<- this];exact(gU ho).1
 have hce:=dy _ _ _ h.inv.chain;have hcl:=iw _ _ _ h.inv.chain;have hnx:=h.inv.next;have e1:aX M=aX (M.take n)++aX (M.drop n):=by rw[<- cJ,zY]
 have h1:f<aU s.segs n:=by
  rw[hb.2];have:0<(aX (M.take n)).length:=by
   cases hM:M with
   | nil=>rw[hM] at hb;simp at hb;omega
   | cons p r =>
    obtain⟨m,rfl⟩:∃ m,n=m+1:=⟨n-1,by omega⟩
    have:=(hce.2 p (by rw[hM];simp)).2.2
    simp[aX];omega
  omega
 have h2:aU s.segs n<=s.next:=by
  rw[hb.2];rw[e1,zA] at hcl;omega
 have h3:=h.stT ho (aU s.segs n) ⟨by omega,h2⟩
 refine⟨h1,h2,h3,?_⟩;have hst:=h.st (aU s.segs n);have hbs:=qd hst.1 hst.2;have hm:=lP h.right;have hi:=h.man_inc;have hv2:=ho.ver;have hv1:1<=s.ver:=hm.1.1;have hl64:=ho.len;have ex:(eb s n).man.segs=(s.segs.map Seg.base).drop n:=by show(s.segs.drop n).map Seg.base=_;rw[List.map_drop]
 have ez:(eb s n).man.size=((aZ (bJ s (aU s.segs n))).length:Nat):=rfl;refine vJ ⟨by show 1<=s.ver+1;omega,by show s.ver+1<=_;omega⟩ ⟨by rw[ex];simp;omega,by rw[ex];simp;omega⟩ ?_ (.inr ⟨?_,?_⟩)
 ·rw[ex,ot];exact⟨hi.1.sublist (List.drop_sublist _ _),fun a ha=>hi.2 a (List.mem_of_mem_drop ha)⟩
 ·rw[ex,List.head?_drop,zG,(im hn).1];simp only[Option.map_some,ne_eq,Option.some.injEq];rw[<- (im hn).2];omega
 ·rw[ez,h3];omega
theorem W.not_rel {a:Int} (ho:okS k u s) (hf:0<=f∧f<=1099511627776) (ha:f<a∧a<=1099511627776):¬ rel f s (aN a):=by
 rintro(e|⟨b,_,e⟩|⟨_,e⟩)
 ·exact absurd e (jE _ (by rw[dx];decide))
 ·exact absurd e (cT _ _)
 ·have:=o8 (by omega) hf e;omega
variable {k u:Nat} {f:Int} {S:Txt} {l0:List Pr} {s:Sto} {M:List SR} {g:Seg} {l:List Rec}
theorem ri (ho:okS k u s) (h:W f S l0 s M g l) (n:Nat):(jM s n).Nodup:=by
 have hp:s.segs.Pairwise (fun a b=>a.base<b.base):=List.pairwise_map.1 h.man_inc.1
 unfold jM List.Nodup;rw[List.pairwise_append];refine⟨?_,by split <;> simp,?_⟩
 ·rw[List.pairwise_map];refine List.Pairwise.imp_of_mem (fun {a b} ha hb hab e=>?_) (hp.sublist (List.take_sublist n _))
  have:=dF (ho.seg a (zZ ha)).1 (ho.seg b (zZ hb)).1 e;omega
 ·intro a ha b hb e;obtain⟨c,_,rfl⟩:=List.mem_map.1 ha;split at hb
  ·rw[zV.1 hb] at e;exact cT _ _ e.symm
  ·cases hb
theorem W.cut (ho:okS k u s) (h:W f S l0 s M g l) (hv:u<1000000000000) {n:Nat} (hn:n<s.segs.length) (h0:n≠0) {d1:Dsk} {w:Dsk × Int}
  (hs1:srt d1.files) (hd1:d1.down=false) (hf1:fm d1.files=up (up (fm s.disk.files) (aN (aU s.segs n)) (some (aZ (bJ s (aU s.segs n)),(((aZ (bJ s (aU s.segs n))).length:Nat):Int)))) [109] (manV (eb s n).man)) (hdn:s.disk.down=false)
  (hO:Out d1 w (jM s n) (zz (jM s n) (fm d1.files)) none) :
  W (aU s.segs n) (aZ (bJ s (aU s.segs n))) (bJ s (aU s.segs n)) { eb s n with disk:=w.1 } (M.drop n) g l:=by
 have hT:=h.trimR ho hv hn h0;have hb:=h.base_k hn;have hf0:0<=f:=by have:=WR.floor ⟨M,g,l,h,rfl⟩;rw[<- this];exact(gU ho).1
 have hst:=h.st (aU s.segs n);rw[<- hT.2.2.1] at hst;have hfl:s.floor=f:=WR.floor ⟨M,g,l,h,rfl⟩;have hbo:=u7 ho hn;have hlt:∀ a∈s.segs.take n,a.base<aU s.segs n:=by
  intro a ha;have hp:s.segs.Pairwise (fun a b=>a.base<b.base):=List.pairwise_map.1 h.man_inc.1
  obtain⟨i,hi,rfl⟩:=zJ ha;rw[zQ] at hi;rw[List.getElem_take,(im hn).2];exact(List.pairwise_iff_getElem.1 hp) i n (by omega) hn (by omega)
 have hge:∀ a∈s.segs.drop n,aU s.segs n<=a.base:=by
  intro a ha;have hp:s.segs.Pairwise (fun a b=>a.base<b.base):=List.pairwise_map.1 h.man_inc.1
  obtain⟨i,hi,rfl⟩:=zJ ha;rw[zH] at hi;rw[List.getElem_drop,(im hn).2];by_cases c:i=0
  ·subst c;simp
  ·have:=(List.pairwise_iff_getElem.1 hp) n (n+i) hn (by omega) (by omega);omega
 have hold:∀ m,m∈jM s n↔(∃ a∈s.segs.take n,m=fileN a.base)∨(0<f∧m=aN f):=by
  intro m;unfold jM;rw[zX,List.mem_map,hfl];constructor
  ·rintro(⟨a,ha,rfl⟩|hm)
   ·exact .inl ⟨a,ha,rfl⟩
   ·split at hm
    ·rename_i c;exact .inr ⟨c,zV.1 hm⟩
    ·cases hm
  ·rintro(⟨a,ha,rfl⟩|⟨hc,rfl⟩)
   ·exact .inl ⟨a,ha,rfl⟩
   ·rw[if_pos hc];exact .inr (by simp)
 have hsd:s.segs.drop n=(M.drop n).map (·.1)++[g]:=by rw[h.inv.segs,List.drop_append_of_le_length (by simpa using hb.1),List.map_drop]
 have k1:[109] ∉ jM s n:=by
  rw[hold];rintro(⟨a,_,e⟩|⟨_,e⟩)
  ·exact absurd e.symm (jE _ (by rw[bU];decide))
  ·exact absurd e.symm (jE _ (by rw[dx];decide))
 have k2:aN (aU s.segs n) ∉ jM s n:=by
  rw[hold];rintro(⟨a,_,e⟩|⟨_,e⟩)
  ·exact absurd e (cT _ _)
  ·have:=o8 hbo (by omega) e;omega
 have k3:∀ a∈s.segs.drop n,fileN a.base ∉ jM s n:=by
  intro a ha;rw[hold];rintro(⟨b,hb2,e⟩|⟨_,e⟩)
  ·have:=dF (ho.seg a (List.mem_of_mem_drop ha)).1 (ho.seg b (zZ hb2)).1 e;have:=hge a ha;have:=hlt b hb2;omega
  ·exact absurd e.symm (cT _ _)
 have hkeep:∀ m,m ∉ jM s n->fm w.1.files m=fm d1.files m:=by
  intro m hm;rcases hO.2.2 with⟨_,_,hf⟩|⟨_,hc,_⟩|⟨_,_,hf⟩
  ·rw[hf];exact if_neg hm
  ·cases hc
  ·exact hf m hm
 have hfile:∀ a∈s.segs.drop n,fm w.1.files (fileN a.base)=fm s.disk.files (fileN a.base):=by
  intro a ha;rw[hkeep _ (k3 a ha),hf1,bm _ _ (jE _ (by rw[bU];decide)),bm _ _ (fun e=>cT _ _ e.symm)]
 have hpm:∀ p∈M.drop n++[(g,l)],p.1∈s.segs.drop n:=by
  intro p hp;rw[hsd];rcases zX.1 hp with hp|hp
  ·exact List.mem_append_left _ (List.mem_map_of_mem hp)
  ·rw[zV.1 hp];simp
 have hpM:∀ p∈M.drop n++[(g,l)],p∈M++[(g,l)]:=by
  intro p hp;rcases zX.1 hp with hp|hp
  ·exact List.mem_append_left _ (List.mem_of_mem_drop hp)
  ·exact List.mem_append_right _ hp
 refine⟨⟨hsd,fun p hp=>?_,?_,h.inv.next,h.inv.sure⟩,.inr ⟨by omega,?_,p9 hst.1 hst.2,rfl,rfl⟩,?_,hT.2.2.2,fun p hp=>?_,?_,h.lo,fun hd m hm=>?_⟩
 ·have hfo:=h.inv.file p (hpM p hp);refine hfo.keep fun hh=>?_
  rw[kT ho.dsk.srt] at hh;rw[kT hO.2.1,hfile _ (hpm p hp)];exact hh
 ·have:=mY n M f g.base hb.1 h.inv.chain;rw[<- hb.2] at this;exact this
 ·show fm w.1.files _=_;rw[hkeep _ k2,hf1,bm _ _ (jE _ (by rw[dx];decide)),cR]
 ·show fm w.1.files _=_;rw[hkeep _ k1,hf1,cR];rfl
 ·show fm w.1.files _=_;rw[hfile _ (hpm p (List.mem_append_left _ hp))];exact h.full p (List.mem_of_mem_drop hp)
 ·obtain⟨q,h1,h2⟩:=h.last;exact⟨q,by show fm w.1.files _=_;rw[hfile _ (hpm (g,l) (by simp))];exact h1,h2⟩
 ·have hm2:fm w.1.files m≠none:=hm;have hd2:w.1.down=false:=hd;rcases hO.2.2 with⟨_,_,hf⟩|⟨_,hc,_⟩|⟨_,hd3,_⟩
  ·rw[hf] at hm2;unfold zz at hm2;by_cases c:m∈jM s n
   ·rw[if_pos c] at hm2;exact absurd rfl hm2
   ·rw[if_neg c,hf1] at hm2;by_cases c1:m=[109]
    ·exact .inl c1
    ·rw[bm _ _ c1] at hm2;by_cases c2:m=aN (aU s.segs n)
     ·exact .inr (.inr ⟨by omega,c2⟩)
     ·rw[bm _ _ c2] at hm2;rcases h.only hdn m hm2 with e|⟨a,ha,e⟩|⟨e1,e2⟩
      ·exact .inl e
      ·rw[<- zY n s.segs] at ha;rcases zX.1 ha with ha|ha
       ·exact absurd ((hold m).2 (.inl ⟨a,ha,e⟩)) c
       ·exact .inr (.inl ⟨a,ha,e⟩)
      ·exact absurd ((hold m).2 (.inr ⟨e1,e2⟩)) c
  ·cases hc
  ·rw[hd2] at hd3;cases hd3
theorem D0 (h:Inv f s M g l) {n:Nat} (hn:n<=M.length):aX (M.drop n++[(g,l)])=(aX (M++[(g,l)])).drop (aX (M.take n)).length:=by
 have e:aX (M++[(g,l)])=aX (M.take n)++aX (M.drop n++[(g,l)]):=by
  rw[<- cJ,<- List.append_assoc,zY]
 rw[e,List.drop_left]
theorem WR.trim {R:List Rec} (ho:okS k u s) (h:WR f S l0 s R) (hv:u<1000000000000) (keep count:Int) :
  ∃ f' S' l0',f<=f'∧f'<=s.next∧l0'=Em l0 f R f'∧WR f' S' l0' (cM s keep count).1 (R.drop (f'-f).toNat)∧(cM s keep count).1.next=s.next∧(cM s keep count).1.sure=s.sure∧(cM s keep count).1.disk.cap=s.disk.cap ∧
   ((cM s keep count).2=0∨(cM s keep count).2=9∨((cM s keep count).2=10∧(cM s keep count).1.disk.down=true)) ∧
   ((cM s keep count).2=0->d8 (cM s keep count).1.segs keep count=0)∧((cM s keep count).2≠10->(cM s keep count).1.disk.down=s.disk.down):=by
 have h0:=h;have hfn:=h.sure;have hs0:WR f S l0 s (R.drop (f-f).toNat):=by rw[Int.sub_self];exact h0
 have hl0:l0=Em l0 f R f:=by unfold Em;rw[Int.sub_self];rfl
 obtain⟨M,g,l,h,rfl⟩:=h;unfold cM;by_cases c0:d8 s.segs keep count=0
 ·rw[if_pos c0];exact⟨f,S,l0,Int.le_refl _,by omega,hl0,hs0,rfl,rfl,rfl,.inl rfl,fun _=>c0,fun _=>rfl⟩
 ·rw[if_neg c0];have hn:=tu s.segs keep count c0;have hpk:d8 (s.segs.drop (d8 s.segs keep count)) keep count=0:=by
   have hst:dJ s.segs keep count (d8 s.segs keep count)=true:=by
    unfold d8 at *;cases hf:(List.range s.segs.length).find? (dJ s.segs keep count) with
    | none=>rw[hf] at c0;exact absurd rfl c0
    | some j=>exact List.find?_some hf
   refine nS _ keep count 0 (by simp;omega) ?_ (fun i hi=>absurd hi (by omega))
   unfold dJ at hst ⊢;rw[List.drop_zero];exact hst
  generalize d8 s.segs keep count=n at *;have hT:=h.trimR ho hv hn c0;have hb:=h.base_k hn;have hbo:=u7 ho hn;have hf0:0<=f:=by have:=WR.floor h0;rw[<- this];exact(gU ho).1
  have hnr:¬ rel f s (aN (aU s.segs n)):=W.not_rel ho (by omega) ⟨hT.1,hbo.2⟩
  have h110:s.disk.down=false->fm s.disk.files [110]=none:=fun hd=>by
   cases hx:fm s.disk.files [110] with
   | none=>rfl
   | some v=>exact absurd (h.only hd [110] (by rw[hx];simp)) (my f s)
  have hsn:s.disk.down=false->fm s.disk.files (aN (aU s.segs n))=none:=fun hd=>by
   cases hx:fm s.disk.files (aN (aU s.segs n)) with
   | none=>rfl
   | some v=>exact absurd (h.only hd _ (by rw[hx];simp)) hnr
  have hO:=IH ho.dsk.srt (n:=aN (aU s.segs n)) (x:=aZ (bJ s (aU s.segs n))) hT.2.2.2 (Ga _) (zu _ (by rw[dx];decide)) h110 hsn
  have hold0:∀ q,zv s n q=tP (jM s n) q:=fun q=>Ad s n q
  have hX:∀ m∈[aN (aU s.segs n),[110]],¬ rel f s m:=by
   intro m hm;rcases List.mem_cons.1 hm with rfl|hm
   ·exact hnr
   ·rw[zV.1 hm];exact my f s
  have etk:rC s n=if(nz s.disk (aN (aU s.segs n)) (aZ (bJ s (aU s.segs n))) (eb s n).man).2≠0 then({ s with disk:=(nz s.disk (aN (aU s.segs n)) (aZ (bJ s (aU s.segs n))) (eb s n).man).1 },(nz s.disk (aN (aU s.segs n)) (aZ (bJ s (aU s.segs n))) (eb s n).man).2) else({ eb s n with disk:=(tP (jM s n) (nz s.disk (aN (aU s.segs n)) (aZ (bJ s (aU s.segs n))) (eb s n).man)).1 },(tP (jM s n) (nz s.disk (aN (aU s.segs n)) (aZ (bJ s (aU s.segs n))) (eb s n).man)).2):=by
   unfold rC;simp only[hold0]
  rw[etk];clear etk;generalize nz s.disk (aN (aU s.segs n)) (aZ (bJ s (aU s.segs n))) (eb s n).man=e at *;by_cases c1:e.2=0
  ·rw[if_neg (by simp[c1])]
   rcases hO.2.2 with⟨_,hd,hf⟩|⟨_,_,e9,_⟩|⟨e10,_⟩
   ·have hdn:=hO.1.up_of hd;have hg:=vU (jM s n) e.1 hO.2.1 (ri ho h n) hd (fun m hm=>by
     have hne:m≠[109]∧m≠aN (aU s.segs n)∧fm s.disk.files m≠none:=by
      unfold jM at hm;rcases zX.1 hm with hm|hm
      ·obtain⟨a,ha,rfl⟩:=List.mem_map.1 hm;refine⟨jE _ (by rw[bU];decide),fun e=>cT _ _ e.symm,?_⟩
       have ha:=zZ ha;rw[h.inv.segs] at ha;rcases zX.1 ha with ha|ha
       ·obtain⟨p,hp,rfl⟩:=List.mem_map.1 ha;rw[h.full p hp];simp
       ·rw[zV.1 ha];obtain⟨q,h1,_⟩:=h.last;rw[h1];simp
      ·rw[WR.floor h0] at hm;split at hm
       ·rename_i c;rw[zV.1 hm];refine⟨jE _ (by rw[dx];decide),fun e=>?_,?_⟩
        ·have:=o8 (by omega) hbo e;omega
        ·rcases h.snp with⟨h1,_⟩|⟨_,h1,_⟩
         ·omega
         ·rw[h1];simp
       ·cases hm
     rw[hf,bm _ _ hne.1,bm _ _ hne.2.1];exact hne.2.2)
    have hp0:e=(e.1,0):=gA c1;rw[<- hp0] at hg;have hw:=h.cut ho hv hn c0 hO.2.1 hd hf hdn hg;have hr:=D0 h.inv hb.1;have hfd:(aU s.segs n-f).toNat=(aX (M.take n)).length:=by omega
    refine⟨aU s.segs n,_,bJ s (aU s.segs n),by omega,hT.2.1,hT.2.2.1,⟨M.drop n,g,l,hw,by rw[hr,hfd]⟩,rfl,rfl,hg.1.cap.trans hO.1.cap,?_,fun _=>hpk,fun hne=>?_⟩
    ·rcases hg.2.2 with⟨a,_⟩|⟨_,a,_⟩|⟨a,b,_⟩
     ·exact .inl a
     ·cases a
     ·exact .inr (.inr ⟨a,b⟩)
    ·rcases hg.2.2 with⟨_,a,_⟩|⟨_,a,_⟩|⟨a,b,_⟩
     ·exact a.trans hdn.symm
     ·cases a
     ·exact absurd a hne
   ·rw[e9] at c1;cases c1
   ·rw[e10] at c1;cases c1
  ·rw[if_pos c1];have:=h.fail ho.dsk.srt hO c1 hX;refine⟨f,S,l0,Int.le_refl _,by omega,hl0,by rw[Int.sub_self];exact⟨M,g,l,this.1,rfl⟩,rfl,rfl,hO.1.cap,?_,fun h=>absurd h c1,fun hne=>?_⟩
   ·rcases this.2 with⟨a,_⟩|⟨a,b⟩
    ·exact .inr (.inl a)
    ·exact .inr (.inr ⟨a,b⟩)
   ·rcases this.2 with⟨_,_,a⟩|⟨a,_⟩
    ·exact a.trans (hO.1.up_of a).symm
    ·exact absurd a hne
structure Ac where
 kind:Int
 n:Int
 m:Int
 data:List UInt8
 deriving DecidableEq
def Ac.enc (e:Ac):List D:=[.i .i64 e.kind,.i .i64 e.n,.i .i64 e.m,.s e.data]
def Ac.ok (e:Ac):Prop:=(-9223372036854775808<=e.kind∧e.kind<9223372036854775808)∧(-9223372036854775808<=e.n∧e.n<9223372036854775808)∧(-9223372036854775808<=e.m∧e.m<9223372036854775808)∧e.data.length<=9223372036854775807
def Ac.ty:List Ty:=[.i .i64,.i .i64,.i .i64,.s]
def Rb (seg i:Int) (s:Sto) (a:Ac):Sto :=
 if a.kind=1 then(aT s).1 else if a.kind=2 then(cM s a.n a.m).1 else if a.kind=3 then { s with disk:=QL s.disk a.n } else if a.kind=4 then { s with disk:=Qa s.disk a.n } else(eg s seg ⟨s.next,i,a.data⟩).1
def Nk (seg:Int):Int->List Ac->Sto->Sto × Bool
 | _,[],s=>(s,true)
 | i,a::l,s=>if 64<a.data.length then(s,false) else Nk seg (i+1) l (Rb seg i s a)
def OO (seg:Int) (l:List Ac):Sto × Bool:=if 40<l.length then((aI d0).1,false) else Nk seg 0 l (aI d0).1
structure PI (i:Nat) (s:Sto):Prop where
 ok:okS (10+2*i) (2000+23000*i) s
 next:s.next<=i
 base:∀ g∈s.segs,g.base<=s.next
theorem Lj:PI 0 (aI d0).1:=by
 obtain⟨o1,hd1,n1,s1⟩:=zd d0_ok zc;refine⟨o1.up (by omega) (by omega),by rw[n1];omega,fun g hg=>?_⟩
 have e:(aI d0).1.segs=[⟨0,0,0⟩]:=by decide +kernel
 rw[e,zV] at hg;rw[hg,n1];exact Int.le_refl _
variable {k u:Nat} {f:Int} {S:Txt} {l0:List Pr} {s:Sto} {M:List SR} {g:Seg} {l:List Rec}
theorem zx {d:Dsk} (hs:srt d.files) (hF:d.down=false->∀ n,fm d.files n=none) :
  Out d ((aI d).1.disk,(aI d).2) [fileN 0,[110]] (up (up (fm d.files) (fileN 0) (some ([],0))) [109] (manV ⟨1,[0],0,0⟩)) (some (up (fm d.files) (fileN 0) (some ([],0)))) ∧
   ((aI d).2=0->(aI d).1=⟨(aI d).1.disk,1,[⟨0,0,0⟩],0,0,0,0⟩)∧((aI d).2≠0->(aI d).1=⟨(aI d).1.disk,0,[],0,0,0,0⟩):=by
 have e1:bL (fileN 0) (d,0)=am d (bh d.files (fileN 0)):=bn _ _;have hO:Out d (if(am d (bh d.files (fileN 0))).2=0 then bR ⟨1,[0],0,0⟩ (am d (bh d.files (fileN 0))) else am d (bh d.files (fileN 0))) [fileN 0,[110]] (up (up (fm d.files) (fileN 0) (some ([],0))) [109] (manV ⟨1,[0],0,0⟩)) (some (up (fm d.files) (fileN 0) (some ([],0)))):=by
  by_cases hd:d.down=true
  ·rw[kf hd,if_neg (by simp)]
   exact .dn hs hd _ _ _
  ·have hF:=hF (by simpa using hd)
   refine Out.seq (mw hs (Ar 0) (hF _)) (g1:=none) (g2:=some (up (fm d.files) (fileN 0) (some ([],0)))) ?_ ?_ (by simp) (X2:=[[110]]) (by simp) (by simp) (by simp)
   ·intro h0 hd1 hf1 hs1;rw[gA h0];have h3:=n6 hs1 (m:=⟨1,[0],0,0⟩) (by decide) (fun _=>by rw[hf1,bm _ _ (zu _ (by rw[bU];decide)).symm];exact hF _)
    rw[hf1] at h3;exact h3
   ·intro n hn;exact bm _ _ (fun e=>hn (by simp[e]))
 unfold aI;simp only[e1];generalize (if(am d (bh d.files (fileN 0))).2=0 then bR ⟨1,[0],0,0⟩ (am d (bh d.files (fileN 0))) else am d (bh d.files (fileN 0)))=w at *
 by_cases c:w.2=0
 ·rw[if_pos c];refine⟨?_,fun _=>rfl,fun h=>absurd rfl h⟩
  rw[gA c] at hO;exact hO
 ·rw[if_neg c];exact⟨hO,fun h=>absurd h c,fun _=>rfl⟩
theorem De {d:Dsk} (hs:srt d.files) (hF:d.down=false->∀ n,fm d.files n=none) (h0:(aI d).2=0):WR 0 [] [] (aI d).1 []∧(aI d).1.disk.down=false:=by
 have hc:=zx hs hF;obtain⟨hO,he,_⟩:=hc;have he:=he h0;rcases hO.2.2 with⟨_,hd,hf⟩|⟨_,_,e,_⟩|⟨e,_⟩
 ·have hdn:=hO.1.up_of hd;have hF:=hF hdn;have hd2:(aI d).1.disk.down=false:=hd;refine⟨⟨[],⟨0,0,0⟩,[],?_,rfl⟩,hd2⟩;rw[he];generalize (aI d).1.disk=w at *;refine⟨⟨rfl,fun p hp=>?_,rfl,rfl,by simp⟩,.inl ⟨rfl,rfl,rfl,rfl,rfl⟩,?_,(show manB ⟨1,[0],0,0⟩=true by decide),fun p hp=>(by cases hp),⟨0,?_,by simp[rowS],by simp⟩,Int.le_refl _,fun _ n hn=>?_⟩
  ·rw[List.nil_append,zV] at hp;subst hp;refine⟨(kT hO.2.1 _ _).2 ⟨0,?_⟩,fun r hr=>(by cases hr),fun i hi=>(by simp at hi),rfl,rfl⟩
   rw[hf,bm _ _ (jE _ (by rw[bU];decide)),cR];rfl
  ·rw[hf,cR];rfl
  ·rw[hf,bm _ _ (jE _ (by rw[bU];decide)),cR];rfl
  ·rw[hf] at hn;by_cases a1:n=[109]
   ·exact .inl a1
   ·rw[bm _ _ a1] at hn;by_cases a2:n=fileN 0
    ·exact .inr (.inl ⟨⟨0,0,0⟩,by simp,a2⟩)
    ·rw[bm _ _ a2,hF] at hn;exact absurd rfl hn
 ·exact absurd h0 (by rw[show(aI d).2=9 from e];decide)
 ·exact absurd h0 (by rw[show(aI d).2=10 from e];decide)
theorem WR.sync {R:List Rec} (ho:okS k u s) (h:WR f S l0 s R):WR f S l0 (aT s).1 R∧(((aT s).2=0∧(aT s).1.sure=s.next∧(aT s).1.disk.down=false)∨((aT s).2=10∧(aT s).1.disk.down=true∧(aT s).1.sure=s.sure))∧(aT s).1.disk.cap=s.disk.cap:=by
 obtain⟨M,g,l,h,rfl⟩:=h;have:=h.sync ho;exact⟨⟨M,g,l,this.1,rfl⟩,this.2⟩
variable {k u:Nat} {f:Int} {S:Txt} {l0:List Pr} {s:Sto} {M:List SR} {g:Seg} {l:List Rec}
theorem Ew (h:okS k u s) (hb:∀ g∈s.segs,g.base<=s.floor+40) (keep count:Int):okS (k+2) (u+23000) (cM s keep count).1:=by
 unfold cM;split
 ·exact h.up (by omega) (by omega)
 ·rename_i hne;have hlt:=tu s.segs keep count hne;exact GD h hlt (by rw[(im hlt).2];exact hb _ (zN hlt))
theorem WR.same_state {R:List Rec} (ho:okS k u s) (h:WR f S l0 s R):∀ a∈s.segs,lU s a.base=bJ s a.base:=by
 obtain⟨M,g,l,h,rfl⟩:=h;exact h.same_state ho
def cX:List Txt->Dsk->Dsk × Int
 | [],d=>(d,9)
 | n::l,d=>if(am d (bO d.files n)).2≠0 then am d (bO d.files n) else cX l (am d (bO d.files n)).1
def eS (n:Txt):List D:=[.s n]
theorem iv {k u:Nat} (d:Dsk) (hd:okN k u d) (hk:k<=900000) (hu:u<=900000000000) (l:List Txt) (hl:l.length<=1000):call 157 [.agg d.l,vl (l.map eS)] []=some (aP (cX l d),[]):=by
 obtain⟨Z,hZ⟩:∃ Z,Z=cX l d:=⟨_,rfl⟩;rw[<- hZ];obtain⟨⟨zfl,zcp,zar,zlf,zdn⟩,ze⟩:=Z;simp only[aP,Dsk.l];apply ah Ri rfl;obtain⟨dfl,dcp,dar,dlf,ddn⟩:=d;(simp(disch:=first|decide|omega|(intros;exact aj rfl rfl)|simp only[aa]) only[aF,K8,go_sem,seval,ak])
 refine aB (m:=0) (σ:=Nat × Dsk) (fun t=>l.length-t.1) (fun t=>t.1<=l.length∧okN k u t.2∧cX (l.drop t.1) t.2=(⟨zfl,zcp,zar,zlf,zdn⟩,ze)) (fun t=>[V.one (.p 0 0),V.one (.p 1 0),vl (l.map eS),vi l.length,vi t.1])
  (fun t=>[.cells [.d (.l (t.2.files.map Fil.enc)),zI t.2.cap,zB t.2.armed,zI t.2.left,zB t.2.down],.cells [.ns,zI 0,zB false,zI 0,zB false]])
  (fun _=>(V.tup [(true,[.d (.l (zfl.map Fil.enc)),zI zcp,zB zar,zI zlf,zB zdn]),(false,[zI ze])],[])) ?_ (0,⟨dfl,dcp,dar,dlf,ddn⟩) ⟨zP _,hd,hZ.symm⟩ _ _ ?_
 rotate_left
 ·exact cm
 rintro⟨i,⟨fl,cp,ar,lf,dn⟩⟩ ⟨h1,h2,h3⟩ R hR;simp only at h1 h2 h3 ⊢;by_cases c:i<l.length
 ·have hc:(i:Int)<(l.length:Int):=by omega
  rw[zD c,cX] at h3;have g1:(l.map eS)[i]?=some [.s l[i]]:=by rw[zG,zE c];rfl
  generalize l[i]=n at *;have g2:=fK ⟨fl,cp,ar,lf,dn⟩ (h2.ok (by omega) (by omega)) n
  have kk:=dL (s:=(⟨fl,cp,ar,lf,dn⟩,0)) h2 n;rw[show dw n (⟨fl,cp,ar,lf,dn⟩,0)=am ⟨fl,cp,ar,lf,dn⟩ (bO fl n) from bn _ _] at kk
  simp only at g2 h3;generalize am ⟨fl,cp,ar,lf,dn⟩ (bO fl n)=q at *;obtain⟨⟨qfl,qcp,qar,qlf,qdn⟩,qe⟩:=q;simp only[aP,Dsk.l] at g2 h3;by_cases c2:qe=0
  ·subst c2;rw[if_neg (by simp)] at h3
   have hR':=hR (i+1,⟨qfl,qcp,qar,qlf,qdn⟩) (by simp only[];omega) ⟨by simp only[];omega,kk,h3⟩
   (simp(disch:=first|decide|omega|(intros;exact aj rfl rfl)|simp only[aa]) only[aF,vj,zT hc,g1,g2,go_sem,seval,ak,bI,A.kind,A.xs,aD,A.isN])
   exact hR' _ _ cm
  ·rw[if_pos c2] at h3;cases h3;(simp(disch:=first|decide|omega|(intros;exact aj rfl rfl)|simp only[aa]) only[aF,vj,zT hc,g1,g2,c2,go_sem,seval,ak,bI,A.kind,A.xs,aD,A.isN])
   try simp[trim,c2]
 ·have hc:¬ (i:Int)<(l.length:Int):=by omega
  rw[zC (by omega),cX] at h3
  cases h3;(simp(disch:=first|decide|omega|(intros;exact aj rfl rfl)|simp only[aa]) only[aF,vj,K8,zF hc,go_sem,seval,ak,bI,A.kind,A.xs,aD,A.isN])
  try simp[trim]
theorem sF (d:Dsk) {k u:Nat} (hd:okN k u d) (hk:k<=900000) (hu:u<=900000000000) (m:Man) (hm:m.ok):call 116 [.agg d.l,.agg m.l] []=some (aP (bR m (d,0)),[]):=by
 have q:=sS (d,0) hd hk hu m hm;apply ah P6 rfl;generalize bR m (d,0)=w at *;obtain⟨mv,ms,mz,mm⟩:=m;obtain⟨fl,cp,ar,lf,dn⟩:=d;obtain⟨⟨f2,cp2,ar2,lf2,dn2⟩,e2⟩:=w;simp only[eH,Dsk.l,Man.l,List.cons_append,List.nil_append] at q;have r:∀ P Q R:Box,au call 138 [.one (.p 3 0),.agg [zI mv,.d (.l (ms.map eI)),zI mz,zW mm]] [P,Q,R,.cells [.d (.l (fl.map Fil.enc)),zI cp,zB ar,zI lf,zB dn,zI 0]]=some (.tup [],[P,Q,R,.cells [.d (.l (f2.map Fil.enc)),zI cp2,zB ar2,zI lf2,zB dn2,zI e2]]):=fun P Q R =>
  aE (ids:=[3]) rfl rfl rfl q rfl
 (simp(disch:=first|decide|omega|(intros;exact aj rfl rfl)|simp only[aa]) only[aF,Om,Dsk.l,Man.l,↓r,go_sem,seval,ak,bI,A.kind,A.xs,aD,A.isN])
 try simp[trim,aP,Dsk.l]
theorem BG:∀ (l:List Fil) (n:Nat),(∀ f∈l,f.data.length<=n)->usedF l<=l.length*n
 | [],n,_=>by simp[usedF]
 | f::l,n,h=>by
  have ih:=BG l n fun x hx=>h x (List.mem_cons_of_mem _ hx)
  have h1:=h f (by simp)
  have e:usedF (f::l)=f.data.length+usedF l:=by simp[usedF]
  rw[e,List.length_cons,Nat.add_mul];omega
def yH:List Txt->Dsk->Dsk × Int
 | [],d=>(d,0)
 | n::l,d=>if(am d (bO d.files n)).2=0 then yH l (am d (bO d.files n)).1 else am d (bO d.files n)
theorem vM (d:Dsk) (hd:d.ok) (n:Txt):call 158 [.agg d.l,.one (.ip [.s n])] []=some (aP (am d (bO d.files n)),[]):=by
 have h:=fK d hd n;generalize am d (bO d.files n)=q at *;obtain⟨⟨fl,cp,ar,lf,dn⟩,qe⟩:=q;obtain⟨fl0,cp0,ar0,lf0,dn0⟩:=d;simp only[aP,Dsk.l] at h ⊢;apply ah Q3 rfl;(simp(disch:=first|decide|omega|(intros;exact aj rfl rfl)|simp only[aa]) only[aF,Oj,h,go_sem,seval,ak])
 try simp[trim]
def xM (n:Txt):List D:=[.fn 158 [[.s n]],.l []]
theorem GJ {k u:Nat} (d:Dsk) (hd:okN k u d) (hk:k<=900000) (hu:u<=900000000000) (l:List Txt) (hl:l.length<=1000):call 122 [.agg d.l,vl (l.map xM)] []=some (aP (yH l d),[]):=by
 obtain⟨Z,hZ⟩:∃ Z,Z=yH l d:=⟨_,rfl⟩;rw[<- hZ];obtain⟨⟨zfl,zcp,zar,zlf,zdn⟩,ze⟩:=Z;simp only[aP,Dsk.l];apply ah Ny rfl;obtain⟨dfl,dcp,dar,dlf,ddn⟩:=d;(simp(disch:=first|decide|omega|(intros;exact aj rfl rfl)|simp only[aa]) only[aF,F8,go_sem,seval,ak])
 refine aB (m:=0) (σ:=Nat × Dsk) (fun t=>l.length-t.1) (fun t=>t.1<=l.length∧okN k u t.2∧yH (l.drop t.1) t.2=(⟨zfl,zcp,zar,zlf,zdn⟩,ze)) (fun t=>[V.one (.p 0 0),V.one (.p 1 0),vl (l.map xM),vi l.length,vi t.1])
  (fun t=>[.cells [.d (.l (t.2.files.map Fil.enc)),zI t.2.cap,zB t.2.armed,zI t.2.left,zB t.2.down],.cells [.ns,zI 0,zB false,zI 0,zB false]])
  (fun _=>(V.tup [(true,[.d (.l (zfl.map Fil.enc)),zI zcp,zB zar,zI zlf,zB zdn]),(false,[zI ze])],[])) ?_ (0,⟨dfl,dcp,dar,dlf,ddn⟩) ⟨zP _,hd,hZ.symm⟩ _ _ ?_
 rotate_left
 ·exact cm
 rintro⟨i,⟨fl,cp,ar,lf,dn⟩⟩ ⟨h1,h2,h3⟩ R hR;simp only at h1 h2 h3 ⊢;by_cases c:i<l.length
 ·have hc:(i:Int)<(l.length:Int):=by omega
  rw[zD c,yH] at h3;have g1:(l.map xM)[i]?=some [.fn 158 [[.s l[i]]],.l []]:=by rw[zG,zE c];rfl
  generalize l[i]=n at *;have g2:=vM ⟨fl,cp,ar,lf,dn⟩ (h2.ok (by omega) (by omega)) n
  have kk:=dL (s:=(⟨fl,cp,ar,lf,dn⟩,0)) h2 n;rw[show dw n (⟨fl,cp,ar,lf,dn⟩,0)=am ⟨fl,cp,ar,lf,dn⟩ (bO fl n) from bn _ _] at kk
  simp only at g2 h3;generalize am ⟨fl,cp,ar,lf,dn⟩ (bO fl n)=q at *;have hb0:=iv q.1 kk hk hu [] (by decide)
  obtain⟨⟨qfl,qcp,qar,qlf,qdn⟩,qe⟩:=q;simp only[aP,Dsk.l,List.map_nil,cX] at g2 h3 hb0;have g3:∀ H:Hp,au call 158 [.agg [.d (.l (fl.map Fil.enc)),zI cp,zB ar,zI lf,zB dn],.one (.ip [.s n])] H=some (V.tup [(true,[.d (.l (qfl.map Fil.enc)),zI qcp,zB qar,zI qlf,zB qdn]),(false,[zI qe])],H):=fun H=>callIso_pure rfl g2 rfl
  by_cases c2:qe=0
  ·subst c2;rw[if_pos rfl] at h3;have hR':=hR (i+1,⟨qfl,qcp,qar,qlf,qdn⟩) (by simp only[];omega) ⟨by simp only[];omega,kk,h3⟩
   (simp(disch:=first|decide|omega|(intros;exact aj rfl rfl)|simp only[aa]) only[aF,dp,zT hc,g1,g3,go_sem,seval,ak,bI,A.kind,A.xs,aD,A.isN])
   exact hR' _ _ cm
  ·rw[if_neg c2] at h3;cases h3;by_cases c9:ze=9
   ·subst c9;(simp(disch:=first|decide|omega|(intros;exact aj rfl rfl)|simp only[aa]) only[aF,dp,zT hc,g1,g3,hb0,go_sem,seval,ak,bI,A.kind,A.xs,aD,A.isN])
    try simp[trim,c2]
   ·(simp(disch:=first|decide|omega|(intros;exact aj rfl rfl)|simp only[aa]) only[aF,dp,zT hc,g1,g3,c2,c9,go_sem,seval,ak,bI,A.kind,A.xs,aD,A.isN])
    try simp[trim,c2]
 ·have hc:¬ (i:Int)<(l.length:Int):=by omega
  rw[zC (by omega),yH] at h3
  cases h3;(simp(disch:=first|decide|omega|(intros;exact aj rfl rfl)|simp only[aa]) only[aF,dp,F8,zF hc,go_sem,seval,ak,bI,A.kind,A.xs,aD,A.isN])
  try simp[trim]
theorem p8 (n:Txt):call 128 [vs n] []=some (.agg [.f 158 [0],.ns],[.cells [zS n],.cells [.f 158 [0],.ns]]):=by
 apply ah QB rfl;have htr:∀ H:Hp,trim 0 (.agg [.f 158 [0],.ns]) H=(.agg [.f 158 [0],.ns],H):=fun H=>by simp[trim,V.refs,L.refs]
 (simp(disch:=first|decide|omega|(intros;exact aj rfl rfl)|simp only[aa]) only[aF,NR,↓htr,go_sem,seval,ak])
theorem HV (d:Dsk) (hd:d.ok) (n:Txt):call 123 [.agg d.l,.one (.p 0 0)] [.cells [zS n]]=some (aP (am d (bh d.files n)),[.cells [zS n]]):=by
 have h:=ji d hd n;generalize am d (bh d.files n)=q at *;obtain⟨⟨fl,cp,ar,lf,dn⟩,qe⟩:=q;obtain⟨fl0,cp0,ar0,lf0,dn0⟩:=d;simp only[aP,Dsk.l] at h ⊢;apply ah Px rfl;(simp(disch:=first|decide|omega|(intros;exact aj rfl rfl)|simp only[aa]) only[aF,Of,h,go_sem,seval,ak])
 try simp[zR]
theorem IL (d:Dsk) (hd:d.ok) (n:Txt):call 126 [.agg d.l,.one (.p 0 0)] [.cells [zS n]]=some (aP (am d (bh d.files n)),[.cells [zS n]]):=by
 have h:=ji d hd n;generalize am d (bh d.files n)=q at *;obtain⟨⟨fl,cp,ar,lf,dn⟩,qe⟩:=q;obtain⟨fl0,cp0,ar0,lf0,dn0⟩:=d;simp only[aP,Dsk.l] at h ⊢;apply ah PR rfl;(simp(disch:=first|decide|omega|(intros;exact aj rfl rfl)|simp only[aa]) only[aF,N1,h,go_sem,seval,ak])
 try simp[zR]
theorem JE (d:Dsk) (hd:d.ok) (n:Txt):call 125 [.agg d.l,.one (.p 0 0)] [.cells [zS n]]=some (aP (am d (cq d.files n)),[.cells [zS n]]):=by
 have h:=mI d hd n;generalize am d (cq d.files n)=q at *;obtain⟨⟨fl,cp,ar,lf,dn⟩,qe⟩:=q;obtain⟨fl0,cp0,ar0,lf0,dn0⟩:=d;simp only[aP,Dsk.l] at h ⊢;apply ah Rd rfl;(simp(disch:=first|decide|omega|(intros;exact aj rfl rfl)|simp only[aa]) only[aF,Nj,h,go_sem,seval,ak])
 try simp[zR]
theorem H4 (d:Dsk) (hd:d.ok) (n x:Txt) (hx:x.length<=1000000000000):call 124 [.agg d.l,.one (.p 0 0),.one (.p 1 0)] [.cells [zS n],.cells [zS x]]=some (aP (am d (bH d.files d.cap n x)),[.cells [zS n],.cells [zS x]]):=by
 have h:=jf d hd n x hx;generalize am d (bH d.files d.cap n x)=q at *;obtain⟨⟨fl,cp,ar,lf,dn⟩,qe⟩:=q;obtain⟨fl0,cp0,ar0,lf0,dn0⟩:=d;simp only[aP,Dsk.l] at h ⊢;apply ah PX rfl;(simp(disch:=first|decide|omega|(intros;exact aj rfl rfl)|simp only[aa]) only[aF,OZ,h,go_sem,seval,ak])
 try simp[zR]
def fe (ver at_:Int) (x:Txt):Sto:=⟨⟨[],0,false,0,false⟩,ver,[⟨at_,0,0⟩],at_,at_,x.length,cw x⟩
def Jo (ver at_:Int) (x:Txt) (b:Nat):List L:=[.ns,zI 0,zB false,zI 0,zB false,zI ver,.sl b 3 0 1,zI at_,zI at_,zI x.length,zW (cw x)]
theorem JA (ver at_:Int) (x:Txt):(fe ver at_ x).man.ok:=⟨by show 1<=1000000;decide,n5 x⟩
theorem JO {k u:Nat} (d:Dsk) (hd:okN k u d) (hk:k<=900000) (hu:u<=900000000000) (ver at_:Int) (x:Txt) (fz:Nat) (hfz:fz<=1):call 127 [.agg d.l,.one (.p 0 0)] [.cells (Jo ver at_ x 1),.arr 3 [[.i .i64 at_,.i .i64 0,.i .i64 0]] fz]=some (aP (bR (fe ver at_ x).man (d,0)),[.cells (Jo ver at_ x 1),.arr 3 [[.i .i64 at_,.i .i64 0,.i .i64 0]] 1]):=by
 have q1:=qZ (fe ver at_ x) (by show 1<=1000000;decide)
 have q2:=sF d hd hk hu (fe ver at_ x).man (JA ver at_ x);generalize bR (fe ver at_ x).man (d,0)=q at *;obtain⟨⟨fl,cp,ar,lf,dn⟩,qe⟩:=q;obtain⟨fl0,cp0,ar0,lf0,dn0⟩:=d;have hm:max fz 1=1:=by omega
 simp only[aP,Dsk.l,fe,Jo,Sto.l,Sto.man,Man.l,Seg.enc,List.map_cons,List.map_nil,List.cons_append,List.nil_append,eI] at q1 q2 ⊢;apply ah Ro rfl;(simp(disch:=first|decide|omega|(intros;exact aj rfl rfl)|simp only[aa]) only[aF,O8,↓uZ,LB,gX,je,List.all_cons,List.all_nil,Bool.and_self,cond_true,cr,q1,q2,hm,go_sem,seval,ak,bI,A.kind,A.xs,aD,A.isN])
 try simp[zR]
end Go.Proofs.YtgoifbjgmgbihaaGreat
