import Derived.Test.YtgoifbjgmgbihaaGreatT02
import Derived.Test.YtgoifbjgmgbihaaGreatVid
set_option linter.unusedSimpArgs false
set_option linter.unusedVariables false
set_option maxRecDepth 20000
set_option maxHeartbeats 16000000
namespace Go.Proofs.YtgoifbjgmgbihaaGreat
open Go.Vi
abbrev Txt:=List UInt8
def bl (a b:Txt):Bool:=Op.bytesLess a b
theorem HH (a:Txt):bl a []=false:=by cases a <;> rfl
theorem rL (a b:UInt8) (x y:Txt):bl (a::x) (b::y)=(decide (a<b) || (a == b && bl x y)):=rfl
theorem kT:∀ a:Txt,bl a a=false
 | []=>rfl
 | a::x=>by rw[rL,kT x];simp
theorem wL:∀ a b:Txt,bl a b=true∨a=b∨bl b a=true
 | [],[]=>.inr (.inl rfl)
 | [],_::_=>.inl rfl
 | _::_,[]=>.inr (.inr rfl)
 | a::x,b::y=>by
  rw[rL,rL];by_cases h:a=b
  ·subst h;rcases wL x y with h|h|h
   ·left;simp[h]
   ·right;left;rw[h]
   ·right;right;simp[h]
  ·rcases Nat.lt_or_ge a.toNat b.toNat with h2|h2
   ·left;have:a<b:=h2;simp[this]
   ·right;right
    have:b<a:=by
     show b.toNat<a.toNat;have:a.toNat≠b.toNat:=fun e=>h (UInt8.toNat_inj.1 e)
     omega
    simp[this]
theorem so:∀ {a b c:Txt},bl a b=true->bl b c=true->bl a c=true
 | _,[],_,h,_=>by rw[HH] at h;cases h
 | _,_::_,[],_,h=>by rw[HH] at h;cases h
 | [],_::_,_::_,_,_=>rfl
 | a::x,b::y,c::z,h1,h2=>by
  rw[rL] at *;simp only[Bool.or_eq_true,Bool.and_eq_true,decide_eq_true_eq,beq_iff_eq] at *;rcases h1 with h1|⟨rfl,h1⟩
  ·rcases h2 with h2|⟨rfl,h2⟩
   ·left;exact UInt8.lt_trans h1 h2
   ·left;exact h1
  ·rcases h2 with h2|⟨rfl,h2⟩
   ·left;exact h2
   ·right;exact⟨rfl,so h1 h2⟩
theorem IK {a b:Txt} (h:bl a b=true):bl b a=false:=by
 cases h2:bl b a with
 | false=>rfl
 | true=>have:=so h h2;rw[kT] at this;cases this
theorem yR {a b:Txt} (h:bl a b=true):a≠b:=fun e=>by rw[e,kT] at h;cases h
structure Fil where
 name:List UInt8
 data:List UInt8
 sure:Int
 deriving DecidableEq
def Fil.enc (e:Fil):List D:=[.s e.name,.s e.data,.i .i64 e.sure]
theorem Fil.len (e:Fil):e.enc.length=3:=Eq.trans rfl rfl
theorem Fil.tk (e:Fil):e.enc.take 3=e.enc:=Eq.trans rfl rfl
theorem Fil.tkL (e:Fil):(e.enc.map L.d).take 3=e.enc.map L.d:=Eq.trans rfl rfl
theorem Fil.lenL (e:Fil):(e.enc.map L.d).length=3:=Eq.trans rfl rfl
theorem Fil.at0 (e:Fil):e.enc[0]?=some (.s e.name):=Eq.trans rfl rfl
theorem Fil.at1 (e:Fil):(e.enc.drop 1)[0]?=some (.s e.data):=Eq.trans rfl rfl
theorem Fil.fd1 (e:Fil):(e.enc.map L.d)[1]?=some (zS e.data):=Eq.trans rfl rfl
theorem Fil.up1 (e:Fil) (x:List UInt8):e.enc.take 1++[.s x]++e.enc.drop 2=({ e with data:=x }:Fil).enc:=Eq.trans rfl rfl
theorem Fil.up2 (e:Fil) (x:Int):e.enc.take 2++[.i .i64 x]++e.enc.drop 3=({ e with sure:=x }:Fil).enc:=Eq.trans rfl rfl
def Fil.ok (e:Fil):Prop:=e.name.length<=9223372036854775807∧e.data.length<=9223372036854775807∧(-9223372036854775808<=e.sure∧e.sure<9223372036854775808)
def Fil.ty:List Ty:=[.s,.s,.i .i64]
structure Dsk where
 files:List Fil
 cap:Int
 armed:Bool
 left:Int
 down:Bool
def Dsk.l (d:Dsk):List L:=[.d (.l (d.files.map Fil.enc)),zI d.cap,zB d.armed,zI d.left,zB d.down]
def dx (s:Txt):Bool:=decide (s≠[]) && decide (s.length<=32)
theorem sj (s:Txt):call 150 [vs s] []=some (vb (dx s),[]):=by
 apply ae Rb rfl;by_cases h:s=[]
 ·subst h;have e:(([]:Txt) == [])=true:=rfl;refine aX ?_ JI.eq_1 e;try rfl
 ·have e:(s == [])=false:=by rw[beq_eq_false_iff_ne];exact h
  by_cases h2:s.length<=32
  ·refine aX ?_ JI.eq_1 e h2;simp[dx,h,h2]
  ·refine aX ?_ JI.eq_1 e h2;simp[dx,h,h2]
def srt (l:List Fil):Prop:=l.Pairwise fun a b=>bl a.name b.name=true
def ay (l:List Fil) (n:Txt):Nat:=l.countP fun f=>bl f.name n
def bM (l:List Fil) (n:Txt):Bool:=match l[ay l n]? with|some f=>decide (f.name=n)|none=>false
theorem px {α:Type} (p:α->Bool):∀ (l:List α),l.Pairwise (fun a b=>p b=true->p a=true)->∀ i (h:i<l.length),(p l[i]=true↔i<l.countP p)
 | [],_,i,h=>by simp at h
 | a::l,hp,i,h=>by
  rw[List.pairwise_cons] at hp;cases i with
  | zero =>
   rw[List.getElem_cons_zero,List.countP_cons];constructor
   ·intro h2;simp[h2]
   ·intro h2;by_cases hc:p a=true
    ·exact hc
    ·simp only[hc,Bool.false_eq_true,↓reduceIte,Nat.add_zero] at h2;rw[List.countP_pos_iff] at h2;obtain⟨b,hb,hpb⟩:=h2;exact hp.1 b hb hpb
  | succ i =>
   simp only[List.length_cons,Nat.add_lt_add_iff_right] at h;rw[List.getElem_cons_succ,px p l hp.2 i h,List.countP_cons];by_cases hc:p a=true
   ·simp[hc]
   ·simp only[hc,Bool.false_eq_true,↓reduceIte,Nat.add_zero];constructor
    ·intro h2;exfalso;have:0<l.countP p:=by omega
     rw[List.countP_pos_iff] at this;obtain⟨b,hb,hpb⟩:=this;exact hc (hp.1 b hb hpb)
    ·intro h2;exfalso;have:0<l.countP p:=by omega
     rw[List.countP_pos_iff] at this;obtain⟨b,hb,hpb⟩:=this;exact hc (hp.1 b hb hpb)
theorem iK {l:List Fil} (hs:srt l) (n:Txt) (i:Nat) (h:i<l.length):bl l[i].name n=true↔i<ay l n :=
 px (fun f=>bl f.name n) l (hs.imp fun hab hb=>so hab hb) i h
theorem nP (l:List Fil) (n:Txt):ay l n<=l.length:=List.countP_le_length
def nH (a b:Txt):Int:=if bl a b=true then -1 else if bl b a=true then 1 else 0
theorem GT (f:Fil) (n:Txt):call 186 [.agg (f.enc.map .d),vs n] []=some (vi (nH f.name n),[]):=by
 apply ae Rl rfl;unfold nH bl;cases h:Op.bytesLess f.name n with
 | true =>
  (simp(disch:=first|decide|omega|(intros;exact aN rfl rfl)|simp only[am]) only[I4,Fil.enc,List.map_cons,List.map_nil,h,go_sem,seval,aO])
  try simp
 | false =>
  rcases wL f.name n with h1|h1|h1
  ·unfold bl at h1;rw[h] at h1;cases h1
  ·have e:(f.name == n)=true:=by rw[h1];exact beq_self_eq_true _
   have h2:Op.bytesLess n f.name=false:=by rw[h1];exact kT n
   (simp(disch:=first|decide|omega|(intros;exact aN rfl rfl)|simp only[am]) only[I4,Fil.enc,List.map_cons,List.map_nil,h,e,go_sem,seval,aO])
   try simp[h2]
  ·have e:(f.name == n)=false:=by rw[beq_eq_false_iff_ne];exact fun e=>yR h1 e.symm
   have h2:Op.bytesLess n f.name=true:=h1;(simp(disch:=first|decide|omega|(intros;exact aN rfl rfl)|simp only[am]) only[I4,Fil.enc,List.map_cons,List.map_nil,h,e,go_sem,seval,aO])
   try simp[h2]
theorem Pv (f:Fil) (n:Txt) (H:Hp):ak call 186 [.agg (f.enc.map .d),vs n] H=some (vi (nH f.name n),H):=callIso_pure rfl (GT f n) rfl
theorem rX (a b:Txt):nH a b<0↔bl a b=true:=by unfold nH;split <;> simp_all;split <;> omega
theorem oG {a b:Txt}:nH a b=0↔a=b:=by
 unfold nH;rcases wL a b with h|h|h
 ·simp[h,yR h]
 ·subst h;simp[kT]
 ·simp[h,IK h];exact fun e=>yR h e.symm
def cR (l:List Fil) (n:Txt):V:=.tup [(false,[zI (ay l n:Nat)]),(false,[zB (bM l n)])]
theorem Jr (lo hi:Nat):Int.fdiv ((lo:Int)+(hi:Int)) 2=(((lo+hi) / 2:Nat):Int):=by
 rw[Int.fdiv_eq_ediv_of_nonneg _ (by decide)];omega
theorem yg (n:Int):db .shr (.i .u64 n) (.i .u64 1)=some (.i .u64 (n.fdiv 2)):=rfl
theorem wy (l:List Fil) (hl:l.length<=1000000) (hs:srt l) (n:Txt):call 185 [vl (l.map Fil.enc),vs n,.one (.f 186 [])] []=some (cR l n,[]):=by
 apply ae Qf rfl;have hc:=fun(f:Fil)=>Pv f n
 obtain⟨Z,hZ⟩:∃ Z:V × Hp,Z=(cR l n,[]):=⟨_,rfl⟩;rw[<- hZ];refine aX ?_ LH.eq_1;refine ax (m:=0) (σ:=Nat × Nat) (fun t=>t.2-t.1) (fun t=>t.1<=ay l n∧ay l n<=t.2∧t.2<=l.length) (fun t=>[vl (l.map Fil.enc),vs n,.one (.f 186 []),vi l.length,vi t.1,vi t.2]) (fun t=>[])
  (fun t=>Z) ?_ (0,l.length) ⟨zP _,nP l n,Nat.le_refl _⟩ _ _ bO
 rintro⟨lo,hi⟩ ⟨h1,h2,h3⟩ R hR;simp only at h1 h2 h3 ⊢;by_cases c:lo<hi
 ·have hm:=Jr lo hi;have hmid:(lo+hi) / 2<l.length:=by omega
  have hp:=iK hs n _ hmid;obtain⟨mid,hmd⟩:∃ mid,mid=(lo+hi) / 2:=⟨_,rfl⟩;simp only[<- hmd] at hm hmid hp;have g1:(l.map Fil.enc)[mid]?=some l[mid].enc:=by simp[hmid]
  by_cases c2:bl l[mid].name n=true
  ·have:=hp.1 c2;have hcn:nH l[mid].name n<0:=(rX _ _).2 c2;(simp(disch:=first|decide|omega|(intros;exact aN rfl rfl)|simp only[am]) only[i7,↓yg,hm,g1,Fil.len,Fil.tkL,Fil.tk,↓hc,hcn,go_sem,seval,aO])
   exact hR (mid+1,hi) (by simp only[];omega) ⟨by simp only[];omega,h2,h3⟩ _ _ bO
  ·have:¬ mid<ay l n:=fun h=>c2 (hp.2 h)
   have hcn:¬ nH l[mid].name n<0:=fun h=>c2 ((rX _ _).1 h)
   (simp(disch:=first|decide|omega|(intros;exact aN rfl rfl)|simp only[am]) only[i7,↓yg,hm,g1,Fil.len,Fil.tkL,Fil.tk,↓hc,hcn,go_sem,seval,aO])
   exact hR (lo,mid) (by simp only[];omega) ⟨h1,by simp only[];omega,by simp only[];omega⟩ _ _ bO
 ·have hlo:lo=ay l n:=by omega
  subst hlo;by_cases c0:ay l n<l.length
  ·have g1:(l.map Fil.enc)[ay l n]?=some l[ay l n].enc:=by simp[c0]
   have hhas:bM l n=decide (l[ay l n].name=n):=by unfold bM;rw[zE c0]
   by_cases c3:l[ay l n].name=n
   ·have hcz:nH l[ay l n].name n=0:=oG.2 c3;(simp(disch:=first|decide|omega|(intros;exact aN rfl rfl)|simp only[am]) only[i7,c,c0,g1,Fil.len,Fil.tkL,Fil.tk,↓hc,hcz,go_sem,seval,aO])
    rw[hZ];simp[cR,hhas,c3]
   ·have hcz:¬ nH l[ay l n].name n=0:=fun h=>c3 (oG.1 h)
    (simp(disch:=first|decide|omega|(intros;exact aN rfl rfl)|simp only[am]) only[i7,c,c0,g1,Fil.len,Fil.tkL,Fil.tk,↓hc,hcz,go_sem,seval,aO])
    rw[hZ];simp[cR,hhas,c3]
  ·have hhas:bM l n=false:=by unfold bM;rw[List.getElem?_eq_none (by omega)]
   refine aX ?_ i7.eq_1 c c0;rw[hZ];simp[cR,hhas]
theorem zq (l:List Fil) (hl:l.length<=1000000) (hs:srt l) (n:Txt):call 185 [.one (.sl 0 3 0 l.length),vs n,.one (.f 186 [])] [.arr 3 (l.map Fil.enc) 0]=some (cR l n,[.arr 3 (l.map Fil.enc) 0]):=by
 apply ae Qf rfl;have hc:=fun(f:Fil)=>Pv f n
 obtain⟨Z,hZ⟩:∃ Z:V × Hp,Z=(cR l n,[.arr 3 (l.map Fil.enc) 0]):=⟨_,rfl⟩;rw[<- hZ];refine aX ?_ LH.eq_1;refine ax (m:=1) (σ:=Nat × Nat) (fun t=>t.2-t.1) (fun t=>t.1<=ay l n∧ay l n<=t.2∧t.2<=l.length) (fun t=>[V.one (.sl 0 3 0 l.length),vs n,.one (.f 186 []),vi l.length,vi t.1,vi t.2]) (fun t=>[.arr 3 (l.map Fil.enc) 0])
  (fun t=>Z) ?_ (0,l.length) ⟨zP _,nP l n,Nat.le_refl _⟩ _ _ bO
 rintro⟨lo,hi⟩ ⟨h1,h2,h3⟩ R hR;simp only at h1 h2 h3 ⊢;by_cases c:lo<hi
 ·have hm:=Jr lo hi;have hmid:(lo+hi) / 2<l.length:=by omega
  have hp:=iK hs n _ hmid;obtain⟨mid,hmd⟩:∃ mid,mid=(lo+hi) / 2:=⟨_,rfl⟩;simp only[<- hmd] at hm hmid hp;have g1:(l.map Fil.enc)[mid]?=some l[mid].enc:=by simp[hmid]
  by_cases c2:bl l[mid].name n=true
  ·have:=hp.1 c2;have hcn:nH l[mid].name n<0:=(rX _ _).2 c2;(simp(disch:=first|decide|omega|(intros;exact aN rfl rfl)|simp only[am]) only[i7,↓yg,hm,g1,Fil.len,Fil.tkL,Fil.tk,↓hc,hcn,go_sem,seval,aO])
   exact hR (mid+1,hi) (by simp only[];omega) ⟨by simp only[];omega,h2,h3⟩ _ _ bO
  ·have:¬ mid<ay l n:=fun h=>c2 (hp.2 h)
   have hcn:¬ nH l[mid].name n<0:=fun h=>c2 ((rX _ _).1 h)
   (simp(disch:=first|decide|omega|(intros;exact aN rfl rfl)|simp only[am]) only[i7,↓yg,hm,g1,Fil.len,Fil.tkL,Fil.tk,↓hc,hcn,go_sem,seval,aO])
   exact hR (lo,mid) (by simp only[];omega) ⟨h1,by simp only[];omega,by simp only[];omega⟩ _ _ bO
 ·have hlo:lo=ay l n:=by omega
  subst hlo;by_cases c0:ay l n<l.length
  ·have g1:(l.map Fil.enc)[ay l n]?=some l[ay l n].enc:=by simp[c0]
   have hhas:bM l n=decide (l[ay l n].name=n):=by unfold bM;rw[zE c0]
   by_cases c3:l[ay l n].name=n
   ·have hcz:nH l[ay l n].name n=0:=oG.2 c3;(simp(disch:=first|decide|omega|(intros;exact aN rfl rfl)|simp only[am]) only[i7,c,c0,g1,Fil.len,Fil.tkL,Fil.tk,↓hc,hcz,go_sem,seval,aO])
    rw[hZ];simp[cR,hhas,c3,trim,V.refs,L.refs,Box.refs]
   ·have hcz:¬ nH l[ay l n].name n=0:=fun h=>c3 (oG.1 h)
    (simp(disch:=first|decide|omega|(intros;exact aN rfl rfl)|simp only[am]) only[i7,c,c0,g1,Fil.len,Fil.tkL,Fil.tk,↓hc,hcz,go_sem,seval,aO])
    rw[hZ];simp[cR,hhas,c3,trim,V.refs,L.refs,Box.refs]
  ·have hhas:bM l n=false:=by unfold bM;rw[List.getElem?_eq_none (by omega)]
   refine aX ?_ i7.eq_1 c c0;rw[hZ];simp[cR,hhas,trim,V.refs,L.refs,Box.refs]
theorem Eh (l:List Fil) (hl:l.length<=1000000) (hs:srt l) (n:Txt):call 172 [vl (l.map Fil.enc),vs n] []=some (cR l n,[]):=by
 apply ae Pe rfl;have h:∀ H,ak call 185 [vl (l.map Fil.enc),vs n,.one (.f 186 [])] H=some (cR l n,H):=fun H=>callIso_pure rfl (wy l hl hs n) rfl
 unfold cR at h ⊢;(simp(disch:=first|decide|omega|(intros;exact aN rfl rfl)|simp only[am]) only[LK,↓h,go_sem,seval,aO])
 try simp[trim]
theorem pq (l:List Fil) (hl:l.length<=1000000) (hs:srt l) (n:Txt):call 172 [.one (.sl 0 3 0 l.length),vs n] [.arr 3 (l.map Fil.enc) 0]=some (cR l n,[.arr 3 (l.map Fil.enc) 0]):=by
 apply ae Pe rfl;have h:ak call 185 [.one (.sl 0 3 0 l.length),vs n,.one (.f 186 [])] [.arr 3 (l.map Fil.enc) 0]=some (cR l n,[.arr 3 (l.map Fil.enc) 0]) :=
  aD (ids:=[0]) rfl rfl rfl (zq l hl hs n) rfl
 unfold cR at h ⊢;(simp(disch:=first|decide|omega|(intros;exact aN rfl rfl)|simp only[am]) only[LK,↓h,go_sem,seval,aO])
 simp[zR]
def bS (l:List Fil) (n:Txt):Txt × Int:=match l[ay l n]? with|some f=>if f.name=n then(f.data,0) else([],7)|none=>([],7)
theorem pD (d:Dsk) (hl:d.files.length<=1000000) (hs:srt d.files) (n:Txt):call 146 [.agg d.l,vs n] []=some (.tup [(false,[.d (.s (bS d.files n).1)]),(false,[.d (.i .i64 (bS d.files n).2)])],[]):=by
 apply ae QX rfl;have h:=Eh d.files hl hs n;unfold cR bM at h;unfold bS;by_cases c:ay d.files n<d.files.length
 ·rw[zE c] at h ⊢;have g1:(d.files.map Fil.enc)[ay d.files n]?=some d.files[ay d.files n].enc:=by simp[c]
  by_cases c2:d.files[ay d.files n].name=n
  ·simp only[c2,decide_true] at h;refine aX ?_ IN.eq_1 @Dsk.l.eq_1 h g1 @Fil.len @Fil.tkL @Fil.tk @Fil.at1;simp[c2]
  ·simp only[c2,decide_false] at h;refine aX ?_ IN.eq_1 @Dsk.l.eq_1 h;simp[c2]
 ·rw[List.getElem?_eq_none (by omega)] at h ⊢
  refine aX ?_ IN.eq_1 @Dsk.l.eq_1 h;try simp
def usedF (l:List Fil):Nat:=(l.map fun f=>f.data.length).sum
theorem cN (a b:List Fil):usedF (a++b)=usedF a+usedF b:=by unfold usedF;rw[List.map_append,List.sum_append]
theorem ib (f:Fil):usedF [f]=f.data.length:=by simp[usedF]
theorem mP (l:List Fil) (i:Nat):usedF (l.take i)<=usedF l:=by
 have:=cN (l.take i) (l.drop i);rw[zY] at this;omega
theorem DA (d:Dsk) (hl:d.files.length<=1000000) (hu:usedF d.files<=1000000000000):call 142 [.agg d.l] []=some (vi (usedF d.files:Nat),[]):=by
 apply ae Q8 rfl;refine aX ?_ Pi.eq_1 @Dsk.l.eq_1;refine ax (m:=0) (σ:=Nat) (fun i=>d.files.length-i) (fun i=>i<=d.files.length) (fun i=>[vi (usedF (d.files.take i):Nat),vl (d.files.map Fil.enc),vi d.files.length,vi i]) (fun i=>[])
  (fun t=>(vi (usedF d.files:Nat),[])) ?_ 0 (zP _) _ _ ?_
 rotate_left
 ·exact bO
 intro i hi R hR;have hle:=mP d.files i;by_cases c:i<d.files.length
 ·have hR':=hR (i+1) (by omega) (by omega)
  have e1:usedF (d.files.take (i+1))=usedF (d.files.take i)+d.files[i].data.length:=by
   rw[zO c,cN,ib]
  have hle2:=mP d.files (i+1);have g1:(d.files.map Fil.enc)[i]?=some d.files[i].enc:=by simp[c]
  rw[e1] at hR' hle2;generalize usedF (d.files.take i)=u at *;refine aX ?_ BD.eq_1 g1 @Fil.len @Fil.tkL @Fil.tk @Fil.at1 @Fil.fd1 @Fil.lenL @zM;exact hR' _ _ bO
 ·have hi2:i=d.files.length:=by omega
  subst hi2;rw[List.take_length];refine aX ?_ BD.eq_1;try simp[trim]
def aj (d:Dsk) (r:List Fil × Int):Dsk × Int :=
 if d.down=true then(d,10) else if r.2≠0 then(d,r.2) else if d.armed=true then(if d.left=0 then({ d with down:=true },10) else({ d with left:=d.left-1,files:=r.1 },0)) else({ d with files:=r.1 },0)
theorem B8 (d:Dsk) (hl:d.files.length<=1000000) (hs:srt d.files) (hL:0<=d.left∧d.left<9223372036854775808) (n:Txt) (g:Nat)  (fs:List Fil) (e:Int)
  (hdo:∀ D R:Box,∃ B,D=.cells d.l->d.down=false->ak call g [.one (.sl 3 3 0 d.files.length),vi (ay d.files n:Nat),vb (bM d.files n)] [D,R,.dead,.arr 3 (d.files.map Fil.enc) 0]=some (.tup [(false,[.d (.l (fs.map Fil.enc))]),(false,[zI e])],[D,R,.dead,B])) :
  call 140 [.agg d.l,vs n,.one (.f g [])] []=some (.tup [(true,(aj d (fs,e)).1.l),(false,[.d (.i .i64 (aj d (fs,e)).2)])],[]):=by
 apply ae MO rfl;have hcl:=LO (d.files.map Fil.enc) (aV Fil.len _) (by simp;omega) (by simp;omega)
 have hf:∀ D R:Box,ak call 172 [.one (.sl 3 3 0 d.files.length),vs n] [D,R,.dead,.arr 3 (d.files.map Fil.enc) 0]=some (cR d.files n,[D,R,.dead,.arr 3 (d.files.map Fil.enc) 0]):=fun D R =>
  aD (ids:=[3]) rfl rfl rfl (pq d.files hl hs n) rfl
 unfold cR at hf;obtain⟨fl,cp,ar,lf,dn⟩:=d;simp only at *;unfold aj;cases dn with
 | true =>
  refine aX ?_ nh.eq_1 @Dsk.l.eq_1;try simp[zR,Dsk.l]
 | false =>
  by_cases he:e=0
  ·subst he;cases ar with
   | false =>
    obtain⟨B,hB⟩:=hdo (.cells [.d (.l (fl.map Fil.enc)),zI cp,zB false,zI lf,zB false]) (.cells [.ns,zI 0,zB false,zI 0,zB false]);have hB:=hB rfl rfl;(simp(disch:=first|decide|omega|(intros;exact aN rfl rfl)|simp only[am]) only[nh,Dsk.l,↓hcl,↓hf,↓hB,zM,go_sem,seval,aO])
    try simp[zR,Dsk.l]
   | true =>
    obtain⟨B,hB⟩:=hdo (.cells [.d (.l (fl.map Fil.enc)),zI cp,zB true,zI lf,zB false]) (.cells [.ns,zI 0,zB false,zI 0,zB false]);have hB:=hB rfl rfl;by_cases hz:lf=0
    ·subst hz;(simp(disch:=first|decide|omega|(intros;exact aN rfl rfl)|simp only[am]) only[nh,Dsk.l,↓hcl,↓hf,↓hB,zM,go_sem,seval,aO])
     try simp[zR,Dsk.l]
    ·(simp(disch:=first|decide|omega|(intros;exact aN rfl rfl)|simp only[am]) only[nh,Dsk.l,↓hcl,↓hf,↓hB,zM,hz,go_sem,seval,aO])
     try simp[zR,Dsk.l,hz]
  ·obtain⟨B,hB⟩:=hdo (.cells [.d (.l (fl.map Fil.enc)),zI cp,zB ar,zI lf,zB false]) (.cells [.ns,zI 0,zB false,zI 0,zB false]);have hB:=hB rfl rfl;(simp(disch:=first|decide|omega|(intros;exact aN rfl rfl)|simp only[am]) only[nh,Dsk.l,↓hcl,↓hf,↓hB,zM,he,go_sem,seval,aO])
   try simp[zR,Dsk.l,he]
theorem Cb (d:Dsk) (hl:d.files.length<=1000000) (hs:srt d.files) (hL:0<=d.left∧d.left<9223372036854775808) (n:Txt) (g:Nat) (x0:List L) (hx0:x0.flatMap L.refs=[]) (fs:List Fil) (e:Int)
  (hdo:∀ D R:Box,∃ B,D=.cells d.l->d.down=false->ak call g [.one (.sl 4 3 0 d.files.length),vi (ay d.files n:Nat),vb (bM d.files n),.one (.p 0 0)] [(.cells x0),D,R,.dead,.arr 3 (d.files.map Fil.enc) 0]=some (.tup [(false,[.d (.l (fs.map Fil.enc))]),(false,[zI e])],[(.cells x0),D,R,.dead,B])) :
  call 140 [.agg d.l,vs n,.one (.f g [0])] [(.cells x0)]=some (.tup [(true,(aj d (fs,e)).1.l),(false,[.d (.i .i64 (aj d (fs,e)).2)])],[(.cells x0)]):=by
 apply ae MO rfl;have hcl:=LO (d.files.map Fil.enc) (aV Fil.len _) (by simp;omega) (by simp;omega)
 have hf:∀ D R:Box,ak call 172 [.one (.sl 4 3 0 d.files.length),vs n] [(.cells x0),D,R,.dead,.arr 3 (d.files.map Fil.enc) 0]=some (cR d.files n,[(.cells x0),D,R,.dead,.arr 3 (d.files.map Fil.enc) 0]):=fun D R =>
  aD (ids:=[4]) rfl rfl rfl (pq d.files hl hs n) rfl
 unfold cR at hf;obtain⟨fl,cp,ar,lf,dn⟩:=d;simp only at *;unfold aj;cases dn with
 | true =>
  refine aX ?_ nh.eq_1 @Dsk.l.eq_1;try simp[zR,Dsk.l,hx0]
 | false =>
  by_cases he:e=0
  ·subst he;cases ar with
   | false =>
    obtain⟨B,hB⟩:=hdo (.cells [.d (.l (fl.map Fil.enc)),zI cp,zB false,zI lf,zB false]) (.cells [.ns,zI 0,zB false,zI 0,zB false]);have hB:=hB rfl rfl;(simp(disch:=first|decide|omega|(intros;exact aN rfl rfl)|simp only[am]) only[nh,Dsk.l,↓hcl,↓hf,↓hB,zM,go_sem,seval,aO])
    try simp[zR,Dsk.l,hx0]
   | true =>
    obtain⟨B,hB⟩:=hdo (.cells [.d (.l (fl.map Fil.enc)),zI cp,zB true,zI lf,zB false]) (.cells [.ns,zI 0,zB false,zI 0,zB false]);have hB:=hB rfl rfl;by_cases hz:lf=0
    ·subst hz;(simp(disch:=first|decide|omega|(intros;exact aN rfl rfl)|simp only[am]) only[nh,Dsk.l,↓hcl,↓hf,↓hB,zM,go_sem,seval,aO])
     try simp[zR,Dsk.l,hx0]
    ·(simp(disch:=first|decide|omega|(intros;exact aN rfl rfl)|simp only[am]) only[nh,Dsk.l,↓hcl,↓hf,↓hB,zM,hz,go_sem,seval,aO])
     try simp[zR,Dsk.l,hx0,hz]
  ·obtain⟨B,hB⟩:=hdo (.cells [.d (.l (fl.map Fil.enc)),zI cp,zB ar,zI lf,zB false]) (.cells [.ns,zI 0,zB false,zI 0,zB false]);have hB:=hB rfl rfl;(simp(disch:=first|decide|omega|(intros;exact aN rfl rfl)|simp only[am]) only[nh,Dsk.l,↓hcl,↓hf,↓hB,zM,he,go_sem,seval,aO])
   try simp[zR,Dsk.l,hx0,he]
theorem Je (d:Dsk) (hl:d.files.length<=1000000) (hs:srt d.files) (hL:0<=d.left∧d.left<9223372036854775808) (n:Txt) (g:Nat) (x0:List L) (hx0:x0.flatMap L.refs=[]) (x1:List L) (hx1:x1.flatMap L.refs=[]) (fs:List Fil) (e:Int)
  (hdo:∀ D R:Box,∃ B,D=.cells d.l->d.down=false->ak call g [.one (.sl 5 3 0 d.files.length),vi (ay d.files n:Nat),vb (bM d.files n),.one (.p 0 0),.one (.p 1 0)] [(.cells x0),(.cells x1),D,R,.dead,.arr 3 (d.files.map Fil.enc) 0]=some (.tup [(false,[.d (.l (fs.map Fil.enc))]),(false,[zI e])],[(.cells x0),(.cells x1),D,R,.dead,B])) :
  call 140 [.agg d.l,vs n,.one (.f g [0,1])] [(.cells x0),(.cells x1)]=some (.tup [(true,(aj d (fs,e)).1.l),(false,[.d (.i .i64 (aj d (fs,e)).2)])],[(.cells x0),(.cells x1)]):=by
 apply ae MO rfl;have hcl:=LO (d.files.map Fil.enc) (aV Fil.len _) (by simp;omega) (by simp;omega)
 have hf:∀ D R:Box,ak call 172 [.one (.sl 5 3 0 d.files.length),vs n] [(.cells x0),(.cells x1),D,R,.dead,.arr 3 (d.files.map Fil.enc) 0]=some (cR d.files n,[(.cells x0),(.cells x1),D,R,.dead,.arr 3 (d.files.map Fil.enc) 0]):=fun D R =>
  aD (ids:=[5]) rfl rfl rfl (pq d.files hl hs n) rfl
 unfold cR at hf;obtain⟨fl,cp,ar,lf,dn⟩:=d;simp only at *;unfold aj;cases dn with
 | true =>
  refine aX ?_ nh.eq_1 @Dsk.l.eq_1;try simp[zR,Dsk.l,hx0,hx1]
 | false =>
  by_cases he:e=0
  ·subst he;cases ar with
   | false =>
    obtain⟨B,hB⟩:=hdo (.cells [.d (.l (fl.map Fil.enc)),zI cp,zB false,zI lf,zB false]) (.cells [.ns,zI 0,zB false,zI 0,zB false]);have hB:=hB rfl rfl;(simp(disch:=first|decide|omega|(intros;exact aN rfl rfl)|simp only[am]) only[nh,Dsk.l,↓hcl,↓hf,↓hB,zM,go_sem,seval,aO])
    try simp[zR,Dsk.l,hx0,hx1]
   | true =>
    obtain⟨B,hB⟩:=hdo (.cells [.d (.l (fl.map Fil.enc)),zI cp,zB true,zI lf,zB false]) (.cells [.ns,zI 0,zB false,zI 0,zB false]);have hB:=hB rfl rfl;by_cases hz:lf=0
    ·subst hz;(simp(disch:=first|decide|omega|(intros;exact aN rfl rfl)|simp only[am]) only[nh,Dsk.l,↓hcl,↓hf,↓hB,zM,go_sem,seval,aO])
     try simp[zR,Dsk.l,hx0,hx1]
    ·(simp(disch:=first|decide|omega|(intros;exact aN rfl rfl)|simp only[am]) only[nh,Dsk.l,↓hcl,↓hf,↓hB,zM,hz,go_sem,seval,aO])
     try simp[zR,Dsk.l,hx0,hx1,hz]
  ·obtain⟨B,hB⟩:=hdo (.cells [.d (.l (fl.map Fil.enc)),zI cp,zB ar,zI lf,zB false]) (.cells [.ns,zI 0,zB false,zI 0,zB false]);have hB:=hB rfl rfl;(simp(disch:=first|decide|omega|(intros;exact aN rfl rfl)|simp only[am]) only[nh,Dsk.l,↓hcl,↓hf,↓hB,zM,he,go_sem,seval,aO])
   try simp[zR,Dsk.l,hx0,hx1,he]
def gZ (l:List Fil) (k:Nat) (f:Fil):List Fil:=l.take k++f::l.drop k
def bm (l:List Fil) (n:Txt):List Fil × Int:=if dx n=true then(if bM l n=true then([],8) else(gZ l (ay l n) ⟨n,[],0⟩,0)) else([],1)
theorem ch {l:List Fil} {n:Txt} (h:bM l n=true):∃ hp:ay l n<l.length,l[ay l n].name=n:=by
 unfold bM at h;split at h
 ·rename_i f hf;obtain⟨hp,rfl⟩:=List.getElem?_eq_some_iff.1 hf;exact⟨hp,by simpa using h⟩
 ·cases h
theorem wN (l:List Fil) (k:Nat) (f:Fil):(l.map Fil.enc).take k++f.enc::(l.map Fil.enc).drop k=(gZ l k f).map Fil.enc:=by simp[gZ]
theorem ub (ρ:Nat->Option Nat) (xs:List L):Box.ren ρ (.cells xs)=.cells (xs.map (L.ren ρ)):=rfl
def nZ (fs:List Fil) (e:Int):V:=.tup [(false,[.d (.l (fs.map Fil.enc))]),(false,[zI e])]
theorem wU (l:List Fil) (k:Nat) (f:Fil) (h:k<=l.length):(gZ l k f).length=l.length+1:=by simp[gZ];omega
theorem wI (l:List Fil) (hl:l.length<=1000000) (n:Txt):∃ B:Box,(∀ ρ,B.ren ρ=B)∧call 149 [.one (.sl 0 3 0 l.length),vi (ay l n:Nat),vb (bM l n),.one (.p 1 0)] [.arr 3 (l.map Fil.enc) 0,.cells [zS n]]=some (nZ (bm l n).1 (bm l n).2,[B,.cells [zS n]]):=by
 have hn:=sj n;unfold bm nZ;cases c:dx n with
 | false =>
  refine⟨.arr 3 (l.map Fil.enc) 0,fun _=>rfl,?_⟩
  apply ae Mm rfl;rw[c] at hn;refine aX ?_ J8.eq_1 hn;try simp[zR]
 | true =>
  rw[c] at hn;cases c2:bM l n with
  | true =>
   refine⟨.arr 3 (l.map Fil.enc) 0,fun _=>rfl,?_⟩
   apply ae Mm rfl;refine aX ?_ J8.eq_1 hn;try simp[zR]
  | false =>
   refine⟨.dead,fun _=>rfl,?_⟩
   apply ae Mm rfl;have hp:=nP l n;have hi0:=vZ (l:=lib) (an:=rE Gw) (P:=Tryz.prog) (f:=151) (k:=3) (bytes:=40) rfl rfl (l.map Fil.enc) (Fil.enc ⟨n,[],0⟩) (ay l n) 0 rfl (by simpa using hp) (by simp;omega) (by simp;omega)
   rw[wN,zM] at hi0;have hi:∀ C:Box,ak call 151 [.one (.sl 0 3 0 l.length),vi (ay l n:Nat),.one (.sl 2 3 0 1)] [.arr 3 (l.map Fil.enc) 0,C,.arr 3 [[.s n,.s [],.i .i64 0]] 0]=some (.one (.sl 3 3 0 (l.length+1)),[.dead,C,.arr 3 [[.s n,.s [],.i .i64 0]] 0,.arr 3 ((gZ l (ay l n) ⟨n,[],0⟩).map Fil.enc) 0]):=fun C =>
    aD (ids:=[0,2]) rfl rfl rfl hi0 rfl
   have hll:=wU l (ay l n) ⟨n,[],0⟩ hp;generalize gZ l (ay l n) ⟨n,[],0⟩=q at *;have htk:(q.map Fil.enc).take (l.length+1)=q.map Fil.enc:=zL (by simp;omega)
   (simp(disch:=first|decide|omega|(intros;exact aN rfl rfl)|simp only[am]) only[J8,hn,↓hi,zM,hll,htk,go_sem,seval,aO])
   try simp[zR]
def aP (r:Dsk × Int):V:=.tup [(true,r.1.l),(false,[zI r.2])]
structure Dsk.ok (d:Dsk):Prop where
 len:d.files.length<=1000000
 srt:srt d.files
 left:0<=d.left∧d.left<9223372036854775808
 cap:0<=d.cap∧d.cap<9223372036854775808
 used:usedF d.files<=1000000000000
theorem jA (d:Dsk) (hd:d.ok) (n:Txt):call 111 [.agg d.l,vs n] []=some (aP (aj d (bm d.files n)),[]):=by
 apply ae RG rfl;have h0:=Cb d hd.len hd.srt hd.left n 149 [zS n] rfl (bm d.files n).1 (bm d.files n).2 (fun D R=>by
  obtain⟨B,hB,h⟩:=wI d.files hd.len n;exact⟨B,fun _ _=>aD (ids:=[4,0]) rfl rfl rfl h (by simp[bY,hB,nZ,V.ren,L.ren,ub])⟩)
 have h:∀ D R:Box,ak call 140 [.agg d.l,vs n,.one (.f 149 [1])] [D,.cells [zS n],R]=some (aP (aj d (bm d.files n)),[D,.cells [zS n],R]):=fun D R =>
  aD (ids:=[1]) rfl rfl rfl h0 rfl
 generalize aj d (bm d.files n)=r at *;obtain⟨⟨f2,cp2,ar2,lf2,dn2⟩,e2⟩:=r;obtain⟨fl,cp,ar,lf,dn⟩:=d;simp only[aP,Dsk.l] at h ⊢;(simp(disch:=first|decide|omega|(intros;exact aN rfl rfl)|simp only[am]) only[gu,On,↓h,go_sem,seval,aO])
 try simp[trim]
def rG (l:List Fil) (k:Nat) (g:Fil->Fil):List Fil:=match l[k]? with|some f=>l.set k (g f)|none=>l
theorem j6 {l:List Fil} {k:Nat} (h:k<l.length) (g:Fil->Fil):rG l k g=l.set k (g l[k]):=by unfold rG;rw[zE h]
theorem Ci (l:List Fil) (k:Nat) (g:Fil->Fil):(rG l k g).length=l.length:=by unfold rG;split <;> simp
def bK (l:List Fil) (cap:Int) (n x:Txt):List Fil × Int:=if bM l n=true then(if 0<cap∧cap-(usedF l:Nat)<x.length then([],9) else(rG l (ay l n) (fun f=>{ f with data:=f.data++x }),0)) else([],7)
def ct (l:List Fil) (n:Txt):List Fil × Int:=if bM l n=true then(rG l (ay l n) (fun f=>{ f with sure:=f.data.length }),0) else([],7)
def fi (l:List Fil) (k:Nat):List Fil:=l.take k++l.drop (k+1)
def bP (l:List Fil) (n:Txt):List Fil × Int:=if bM l n=true then(fi l (ay l n),0) else([],7)
theorem rP (l:List Fil) (k:Nat) (h:k<l.length):l[k].data.length<=usedF l:=by
 have e:l=l.take k++([l[k]]++l.drop (k+1)):=by rw[List.singleton_append,<- zD h,zY]
 have:usedF l=usedF (l.take k)+(usedF [l[k]]+usedF (l.drop (k+1))):=by
  rw[<- cN,<- cN,<- e]
 rw[ib] at this;omega
theorem Fil.ix1 (f:Fil):f.enc[1]?=some (.s f.data):=Eq.trans rfl rfl
theorem Fil.ix2 (f:Fil):f.enc[2]?=some (.i .i64 f.sure):=Eq.trans rfl rfl
theorem xa (d:Dsk) (hd:d.ok) (n x:Txt) (hx:x.length<=1000000000000):∃ B:Box,(∀ ρ,B.ren ρ=B)∧call 141 [.one (.sl 0 3 0 d.files.length),vi (ay d.files n:Nat),vb (bM d.files n),.one (.p 1 0),.one (.p 2 0)] [.arr 3 (d.files.map Fil.enc) 0,.cells d.l,.cells [zS x]]=some (nZ (bK d.files d.cap n x).1 (bK d.files d.cap n x).2,[B,.cells d.l,.cells [zS x]]):=by
 have hu:=DA d hd.len hd.used;have hub:=hd.used;have hc:=hd.cap;have hln:=hd.len;unfold bK nZ;obtain⟨l,cp,ar,lf,dn⟩:=d;simp only at hu hub hc hln ⊢;cases c:bM l n with
 | false =>
  refine⟨.arr 3 (l.map Fil.enc) 0,fun _=>rfl,?_⟩
  apply ae Ns rfl;refine aX ?_ Fv.eq_1;try simp[zR,Dsk.l]
 | true =>
  obtain⟨hp,hnm⟩:=ch c;obtain⟨k,hk⟩:∃ k,k=ay l n:=⟨_,rfl⟩;rw[j6 hp];simp only[<- hk] at hp hnm ⊢;by_cases c1:0<cp∧cp-(usedF l:Nat)<x.length
  ·refine⟨.arr 3 (l.map Fil.enc) 0,fun _=>rfl,?_⟩
   apply ae Ns rfl;obtain⟨c2,c3⟩:=c1;have hw:IntKind.i64.wrap (cp-((usedF l:Nat):Int))=cp-((usedF l:Nat):Int):=gH (by omega)
   have h2:(cp-((usedF l:Nat):Int)<((x.length:Nat):Int))=True:=eq_true c3;simp only[Dsk.l] at hu;refine aX ?_ Fv.eq_1 @Dsk.l.eq_1 hu hw c2 h2;try simp[zR,Dsk.l,c2,c3]
  ·have hle:=rP l k hp;have g1:(l.map Fil.enc)[k]?=some l[k].enc:=by simp[hp]
   have hset:(l.map Fil.enc).set k (Fil.enc { l[k] with data:=l[k].data++x })=(l.set k { l[k] with data:=l[k].data++x }).map Fil.enc:=by rw[List.map_set]
   have hup:=Fil.up1 l[k] (l[k].data++x);have hlen:l[k].data.length+x.length<=9223372036854775807:=by omega
   refine⟨.arr 3 ((l.set k { l[k] with data:=l[k].data++x }).map Fil.enc) l.length,fun _=>rfl,?_⟩
   apply ae Ns rfl;have htk:((l.set k { l[k] with data:=l[k].data++x }).map Fil.enc).take l.length=(l.set k { l[k] with data:=l[k].data++x }).map Fil.enc:=zL (by simp)
   have hll:((l.set k { l[k] with data:=l[k].data++x }).map Fil.enc).length=l.length:=by simp
   by_cases c2:0<cp
   ·have c3:¬ cp-(usedF l:Nat)<x.length:=fun h=>c1 ⟨c2,h⟩
    have hw:IntKind.i64.wrap (cp-((usedF l:Nat):Int))=cp-((usedF l:Nat):Int):=gH (by omega)
    simp only[Dsk.l] at hu;refine aX ?_ Fv.eq_1 @Dsk.l.eq_1 hu hw c2 c3 g1 @Fil.len @Fil.at1 @Fil.ix1 hup (And.intro hset (And.intro hll (And.intro htk hlen)));try simp[zR,Dsk.l,c2,c3]
   ·refine aX ?_ Fv.eq_1 @Dsk.l.eq_1 c2 g1 @Fil.len @Fil.at1 @Fil.ix1 hup hset hll htk hlen;try simp[zR,Dsk.l,c2]
theorem jP (d:Dsk) (hd:d.ok) (n x:Txt) (hx:x.length<=1000000000000):call 102 [.agg d.l,vs n,vs x] []=some (aP (aj d (bK d.files d.cap n x)),[]):=by
 apply ae Rn rfl;have hrf:d.l.flatMap L.refs=[]:=rfl;have h0:=Je d hd.len hd.srt hd.left n 141 d.l hrf [zS x] rfl (bK d.files d.cap n x).1 (bK d.files d.cap n x).2 (fun D R=>by
  obtain⟨B,hB,h⟩:=xa d hd n x hx;exact⟨B,fun _ _=>aD (ids:=[5,0,1]) rfl rfl rfl h (by simp[bY,hB,nZ,V.ren,L.ren,ub,Dsk.l])⟩)
 have h:∀ D R:Box,ak call 140 [.agg d.l,vs n,.one (.f 141 [0,1])] [.cells d.l,.cells [zS x],R]=some (aP (aj d (bK d.files d.cap n x)),[.cells d.l,.cells [zS x],R]):=fun D R =>
  aD (ids:=[0,1]) rfl rfl rfl h0 rfl
 have h:=h .dead;generalize aj d (bK d.files d.cap n x)=r at *;obtain⟨⟨f2,cp2,ar2,lf2,dn2⟩,e2⟩:=r;obtain⟨fl,cp,ar,lf,dn⟩:=d;simp only[aP,Dsk.l] at h ⊢;(simp(disch:=first|decide|omega|(intros;exact aN rfl rfl)|simp only[am]) only[gu,P1,↓h,go_sem,seval,aO])
 try simp[trim]
theorem AS (l:List Fil) (hl:l.length<=1000000) (hu:usedF l<=1000000000000) (n:Txt):∃ B:Box,(∀ ρ,B.ren ρ=B)∧call 144 [.one (.sl 0 3 0 l.length),vi (ay l n:Nat),vb (bM l n)] [.arr 3 (l.map Fil.enc) 0]=some (nZ (ct l n).1 (ct l n).2,[B]):=by
 unfold ct nZ;cases c:bM l n with
 | false =>
  refine⟨.arr 3 (l.map Fil.enc) 0,fun _=>rfl,?_⟩
  apply ae PC rfl;refine aX ?_ Mr.eq_1;try simp[zR]
 | true =>
  obtain⟨hp,hnm⟩:=ch c;obtain⟨k,hk⟩:∃ k,k=ay l n:=⟨_,rfl⟩;rw[j6 hp];simp only[<- hk] at hp hnm ⊢;have hle:=rP l k hp;have g1:(l.map Fil.enc)[k]?=some l[k].enc:=by simp[hp]
  have hset:(l.map Fil.enc).set k (Fil.enc { l[k] with sure:=(l[k].data.length:Nat) })=(l.set k { l[k] with sure:=(l[k].data.length:Nat) }).map Fil.enc:=by rw[List.map_set]
  have hup:=Fil.up2 l[k] (l[k].data.length:Nat);refine⟨.arr 3 ((l.set k { l[k] with sure:=(l[k].data.length:Nat) }).map Fil.enc) l.length,fun _=>rfl,?_⟩
  apply ae PC rfl;have htk:((l.set k { l[k] with sure:=(l[k].data.length:Nat) }).map Fil.enc).take l.length=(l.set k { l[k] with sure:=(l[k].data.length:Nat) }).map Fil.enc:=zL (by simp)
  have hll:((l.set k { l[k] with sure:=(l[k].data.length:Nat) }).map Fil.enc).length=l.length:=by simp
  refine aX ?_ Mr.eq_1 g1 @Fil.len @Fil.at1 @Fil.ix1 @Fil.ix2 hup hset hll htk;try simp[zR]
theorem ne (d:Dsk) (hd:d.ok) (n:Txt):call 104 [.agg d.l,vs n] []=some (aP (aj d (ct d.files n)),[]):=by
 apply ae RT rfl;have h0:=B8 d hd.len hd.srt hd.left n 144 (ct d.files n).1 (ct d.files n).2 (fun D R=>by
  obtain⟨B,hB,h⟩:=AS d.files hd.len hd.used n;exact⟨B,fun _ _=>aD (ids:=[3]) rfl rfl rfl h (by simp[bY,hB,nZ,V.ren,L.ren,ub])⟩)
 have h:∀ H:Hp,ak call 140 [.agg d.l,vs n,.one (.f 144 [])] H=some (aP (aj d (ct d.files n)),H):=fun H=>callIso_pure rfl h0 rfl
 generalize aj d (ct d.files n)=r at *;obtain⟨⟨f2,cp2,ar2,lf2,dn2⟩,e2⟩:=r;obtain⟨fl,cp,ar,lf,dn⟩:=d;simp only[aP,Dsk.l] at h ⊢;(simp(disch:=first|decide|omega|(intros;exact aN rfl rfl)|simp only[am]) only[gu,Ob,↓h,go_sem,seval,aO])
 try simp[trim]
theorem CJ (l:List Fil) (k:Nat):(l.map Fil.enc).take k++(l.map Fil.enc).drop (k+1)=(fi l k).map Fil.enc:=by simp[fi]
theorem oV (l:List Fil) (k:Nat) (h:k<l.length):(fi l k).length=l.length-1:=by simp[fi];omega
theorem vT (l:List Fil) (hl:l.length<=1000000) (n:Txt):∃ B:Box,(∀ ρ,B.ren ρ=B)∧call 179 [.one (.sl 0 3 0 l.length),vi (ay l n:Nat),vb (bM l n)] [.arr 3 (l.map Fil.enc) 0]=some (nZ (bP l n).1 (bP l n).2,[B]):=by
 unfold bP nZ;cases c:bM l n with
 | false =>
  refine⟨.arr 3 (l.map Fil.enc) 0,fun _=>rfl,?_⟩
  apply ae PU rfl;refine aX ?_ M1.eq_1;try simp[zR]
 | true =>
  obtain⟨hp,hnm⟩:=ch c;refine⟨.dead,fun _=>rfl,?_⟩
  apply ae PU rfl;have hd0:=A6 (l:=lib) (an:=rE Gw) (P:=Tryz.prog) (f:=180) (k:=3) rfl rfl rfl (l.map Fil.enc) (ay l n) (by simpa using hp) (by simp;omega)
  rw[CJ,zM] at hd0;have hi:ak call 180 [.one (.sl 0 3 0 l.length),vi (ay l n:Nat),.one (zI (((ay l n:Nat):Int)+1))] [.arr 3 (l.map Fil.enc) 0]=some (.one (.sl 1 3 0 (l.length-1)),[.dead,.arr 3 ((fi l (ay l n)).map Fil.enc) 0]) :=
   aD (ids:=[0]) rfl rfl rfl hd0 rfl
  have hll:=oV l (ay l n) hp;generalize fi l (ay l n)=q at *;have htk:(q.map Fil.enc).take (l.length-1)=q.map Fil.enc:=zL (by simp;omega)
  (simp(disch:=first|decide|omega|(intros;exact aN rfl rfl)|simp only[am]) only[M1,↓hi,zM,hll,htk,go_sem,seval,aO])
  try simp[zR]
theorem f7 (d:Dsk) (hd:d.ok) (n:Txt):call 153 [.agg d.l,vs n] []=some (aP (aj d (bP d.files n)),[]):=by
 apply ae Sl rfl;have h0:=B8 d hd.len hd.srt hd.left n 179 (bP d.files n).1 (bP d.files n).2 (fun D R=>by
  obtain⟨B,hB,h⟩:=vT d.files hd.len n;exact⟨B,fun _ _=>aD (ids:=[3]) rfl rfl rfl h (by simp[bY,hB,nZ,V.ren,L.ren,ub])⟩)
 have h:∀ H:Hp,ak call 140 [.agg d.l,vs n,.one (.f 179 [])] H=some (aP (aj d (bP d.files n)),H):=fun H=>callIso_pure rfl h0 rfl
 generalize aj d (bP d.files n)=r at *;obtain⟨⟨f2,cp2,ar2,lf2,dn2⟩,e2⟩:=r;obtain⟨fl,cp,ar,lf,dn⟩:=d;simp only[aP,Dsk.l] at h ⊢;(simp(disch:=first|decide|omega|(intros;exact aN rfl rfl)|simp only[am]) only[gu,OC,↓h,go_sem,seval,aO])
 try simp[trim]
theorem kO {l:List Fil} (h:srt l) (k:Nat):srt (fi l k):=by
 have:(fi l k).Sublist l:=by
  unfold fi;have e:l=l.take k++l.drop k:=(zY k l).symm;conv=>rhs;rw[e]
  exact List.Sublist.append (List.Sublist.refl _) (by rw[show k+1=k+1 from rfl,<- List.drop_drop];exact List.drop_sublist 1 _)
 exact List.Pairwise.sublist this h
def jv (l:List Fil) (f:Fil):List Fil:=if bM l f.name=true then l.set (ay l f.name) f else gZ l (ay l f.name) f
def fo (l:List Fil) (k:Nat) (n:Txt):Fil:=match l[k]? with|some f=>{ f with name:=n }|none=>⟨n,[],0⟩
def iC (l:List Fil) (n t:Txt):List Fil × Int:=if bM l n=true then(if dx t=true then(jv (fi l (ay l n)) (fo l (ay l n) t),0) else([],1)) else([],7)
theorem yu (l:List Fil) (k:Nat) (n:Txt):(fo l k n).name=n:=by unfold fo;split <;> rfl
theorem EB (l:List Fil) (f:Fil):(jv l f).length<=l.length+1:=by
 unfold jv;split
 ·simp
 ·rw[wU _ _ _ (nP _ _)];omega
theorem wX (l:List Fil) (hl:l.length<=1000000) (hs:srt l) (n t:Txt):∃ B:Box,(∀ ρ,B.ren ρ=B)∧call 184 [.one (.sl 0 3 0 l.length),vi (ay l n:Nat),vb (bM l n),.one (.p 1 0)] [.arr 3 (l.map Fil.enc) 0,.cells [zS t]]=some (nZ (iC l n t).1 (iC l n t).2,[B,.cells [zS t]]):=by
 have hn:=sj t;unfold iC nZ;cases c:bM l n with
 | false =>
  refine⟨.arr 3 (l.map Fil.enc) 0,fun _=>rfl,?_⟩
  apply ae L7 rfl;refine aX ?_ G8.eq_1;try simp[zR]
 | true =>
  obtain⟨hp,hnm⟩:=ch c;cases cn:dx t with
  | false =>
   refine⟨.arr 3 (l.map Fil.enc) 0,fun _=>rfl,?_⟩
   apply ae L7 rfl;rw[cn] at hn;refine aX ?_ G8.eq_1 hn;try simp[zR]
  | true =>
   rw[cn] at hn;refine⟨.dead,fun _=>rfl,?_⟩
   apply ae L7 rfl;have hna:fo l (ay l n) t={ l[ay l n] with name:=t }:=by unfold fo;rw[zE hp]
   have g1:(l.map Fil.enc)[ay l n]?=some l[ay l n].enc:=by simp[hp]
   have hd0:=A6 (l:=lib) (an:=rE Gw) (P:=Tryz.prog) (f:=180) (k:=3) rfl rfl rfl (l.map Fil.enc) (ay l n) (by simpa using hp) (by simp;omega)
   rw[CJ,zM] at hd0;have hi:∀ C D:Box,ak call 180 [.one (.sl 0 3 0 l.length),vi (ay l n:Nat),.one (zI (((ay l n:Nat):Int)+1))] [.arr 3 (l.map Fil.enc) 0,C,D]=some (.one (.sl 3 3 0 (l.length-1)),[.dead,C,D,.arr 3 ((fi l (ay l n)).map Fil.enc) 0]):=fun C D =>
    aD (ids:=[0]) rfl rfl rfl hd0 rfl
   have hll:=oV l (ay l n) hp;have hsd:=kO hs (ay l n);obtain⟨f,hf⟩:∃ f,f=l[ay l n]:=⟨_,rfl⟩;rw[<- hf] at hna g1;rw[hna];have hlt:ay l n<l.length:=hp;generalize ay l n=p at *;generalize fi l p=q at *;have hfb:=pq q (by omega) hsd t
   rw[hll] at hfb;unfold cR at hfb;have hfi:∀ C D:Box,ak call 172 [.one (.sl 3 3 0 (l.length-1)),vs t] [.dead,C,D,.arr 3 (q.map Fil.enc) 0]=some (.tup [(false,[zI (ay q t:Nat)]),(false,[zB (bM q t)])],[.dead,C,D,.arr 3 (q.map Fil.enc) 0]):=fun C D =>
    aD (ids:=[3]) rfl rfl rfl hfb rfl
   unfold jv;cases c2:bM q t with
   | true =>
    obtain⟨hp2,hnm2⟩:=ch c2;rw[c2] at hfi;have g2:(q.map Fil.enc)[ay q t]?=some q[ay q t].enc:=by simp[hp2]
    have hset:(q.map Fil.enc).set (ay q t) (Fil.enc { f with name:=t })=(q.set (ay q t) { f with name:=t }).map Fil.enc:=by rw[List.map_set]
    have hll2:((q.set (ay q t) { f with name:=t }).map Fil.enc).length=l.length-1:=by simp[hll]
    have htk:((q.set (ay q t) { f with name:=t }).map Fil.enc).take (l.length-1)=(q.set (ay q t) { f with name:=t }).map Fil.enc:=zL (by omega)
    have hfe:Fil.enc { f with name:=t }=[.s t,.s f.data,.i .i64 f.sure]:=rfl
    have hfe2:f.enc=[.s f.name,.s f.data,.i .i64 f.sure]:=rfl;have hdr:q[ay q t].enc.drop 3=[]:=rfl;rw[hfe] at hset;rw[hfe2] at g1;(simp(disch:=first|decide|omega|(intros;exact aN rfl rfl)|simp only[am]) only[G8,hn,g1,↓hi,↓hfi,g2,hset,hll2,htk,Fil.len,List.map_cons,List.map_nil,hdr,List.append_nil,List.nil_append,List.length_cons,List.length_nil,go_sem,seval,aO])
    try simp[zR,c2]
   | false =>
    rw[c2] at hfi;have hp2:=nP q t;have hi0:=vZ (l:=lib) (an:=rE Gw) (P:=Tryz.prog) (f:=151) (k:=3) (bytes:=40) rfl rfl (q.map Fil.enc) (Fil.enc { f with name:=t }) (ay q t) 0 rfl (by simpa using hp2) (by simp;omega) (by simp;omega)
    rw[wN,zM,hll] at hi0;have hil:=wU q (ay q t) { f with name:=t } hp2
    have hin:∀ C D:Box,ak call 151 [.one (.sl 3 3 0 (l.length-1)),vi (ay q t:Nat),.one (.sl 4 3 0 1)] [.dead,C,D,.arr 3 (q.map Fil.enc) 0,.arr 3 [[.s t,.s f.data,.i .i64 f.sure]] 0]=some (.one (.sl 5 3 0 (l.length-1+1)),[.dead,C,D,.dead,.arr 3 [[.s t,.s f.data,.i .i64 f.sure]] 0,.arr 3 ((gZ q (ay q t) { f with name:=t }).map Fil.enc) 0]):=fun C D =>
     aD (ids:=[3,4]) rfl rfl rfl hi0 rfl
    generalize gZ q (ay q t) { f with name:=t }=z at *
    have htk:(z.map Fil.enc).take (l.length-1+1)=z.map Fil.enc:=zL (by simp;omega)
    have hzl:z.length=l.length-1+1:=by omega
    have hfe2:f.enc=[.s f.name,.s f.data,.i .i64 f.sure]:=rfl;rw[hfe2] at g1;(simp(disch:=first|decide|omega|(intros;exact aN rfl rfl)|simp only[am]) only[G8,hn,g1,↓hi,↓hfi,↓hin,zM,hzl,htk,Fil.len,List.map_cons,List.map_nil,List.append_nil,List.nil_append,List.length_cons,List.length_nil,go_sem,seval,aO])
    try simp[zR,c2]
theorem xM (d:Dsk) (hd:d.ok) (n t:Txt):call 170 [.agg d.l,vs n,vs t] []=some (aP (aj d (iC d.files n t)),[]):=by
 apply ae QC rfl;have h0:=Cb d hd.len hd.srt hd.left n 184 [zS t] rfl (iC d.files n t).1 (iC d.files n t).2 (fun D R=>by
  obtain⟨B,hB,h⟩:=wX d.files hd.len hd.srt n t;exact⟨B,fun _ _=>aD (ids:=[4,0]) rfl rfl rfl h (by simp[bY,hB,nZ,V.ren,L.ren,ub])⟩)
 have h:∀ D R:Box,ak call 140 [.agg d.l,vs n,.one (.f 184 [1])] [D,.cells [zS t],R]=some (aP (aj d (iC d.files n t)),[D,.cells [zS t],R]):=fun D R =>
  aD (ids:=[1]) rfl rfl rfl h0 rfl
 generalize aj d (iC d.files n t)=r at *;obtain⟨⟨f2,cp2,ar2,lf2,dn2⟩,e2⟩:=r;obtain⟨fl,cp,ar,lf,dn⟩:=d;simp only[aP,Dsk.l] at h ⊢;(simp(disch:=first|decide|omega|(intros;exact aN rfl rfl)|simp only[am]) only[gu,Po,↓h,go_sem,seval,aO])
 try simp[trim]
def NL (c:Nat->Int):List L:=(List.range 14).map fun j=>zU (c j)
theorem Bd (c:Nat->Int):(NL c).length=14:=by simp[NL]
theorem FV (c:Nat->Int) (n:Nat) (x:Int) (h:n<14):(NL c).take n++[zU x]++(NL c).drop (n+1)=NL (fun j=>if j=n then x else c j):=by
 rw[List.append_assoc,List.singleton_append];apply List.ext_getElem?;intro j;have hl:((NL c).take n).length=n:=by rw[zQ,Bd];omega
 by_cases hj:j<14
 ·have e:∀ c:Nat->Int,(NL c)[j]?=some (zU (c j)):=fun c=>by simp[NL,hj]
  rw[e];rcases Nat.lt_trichotomy j n with h1|h1|h1
  ·rw[List.getElem?_append_left (by omega),List.getElem?_take,if_pos h1,e,if_neg (by omega)]
  ·subst h1;rw[List.getElem?_append_right (by omega),hl,Nat.sub_self,if_pos rfl];rfl
  ·rw[List.getElem?_append_right (by omega),hl,if_neg (by omega)]
   obtain⟨m,hm⟩:∃ m,j-n=m+1:=⟨j-n-1,by omega⟩
   rw[hm,List.getElem?_cons_succ,List.getElem?_drop,show n+1+m=j by omega,e]
 ·rw[List.getElem?_eq_none (by simp[NL];omega),List.getElem?_eq_none (by simp[NL];omega)]
def jq (n j:Nat):Nat:=48+n / 10 ^ (13-j) % 10
def fc (c:UInt8) (n:Nat):Txt:=c::(List.range 13).map fun j=>UInt8.ofNat (jq n (j+1))
def cF (n i:Nat) (j:Nat):Int:=if j<=i then 0 else((jq n j:Nat):Int)
theorem IR (n i:Nat) (h:1<=i∧i<=13):(fun j=>if j=i then(48+((n / 10 ^ (13-i) % 10:Nat):Int)) else cF n i j)=cF n (i-1):=by
 funext j
 unfold cF jq;by_cases h1:j=i
 ·subst h1;rw[if_pos rfl,if_neg (by omega)];omega
 ·rw[if_neg h1];by_cases h2:j<=i
  ·rw[if_pos h2,if_pos (by omega)]
  ·rw[if_neg h2,if_neg (by omega)]
theorem Kl:[zU 0,zU 0,zU 0,zU 0,zU 0,zU 0,zU 0,zU 0,zU 0,zU 0,zU 0,zU 0,zU 0,zU 0]=NL (fun _=>0):=rfl
theorem Ox (n:Nat):NL (fun _=>0)=NL (cF n 13):=by
 unfold NL;apply List.map_congr_left;intro j hj;rw[List.mem_range] at hj;unfold cF;rw[if_pos (by omega)]
theorem FR (n i:Nat) (h:1<=i∧i<=13):n / 10 ^ (13-i) / 10=n / 10 ^ (13-(i-1)):=by
 rw[Nat.div_div_eq_div_mul,<- Nat.pow_succ];congr 2;omega
theorem uH (c:UInt8) (n:Nat) (hn:n<=1099511627776):call 143 [vk .u8 ((c.toNat:Nat):Int),vi n] []=some (vs (fc c n),[]):=by
 apply ae SE rfl;obtain⟨Z,hZ⟩:∃ Z:V × Hp,Z=(vs (fc c n),[]):=⟨_,rfl⟩;rw[<- hZ];have hz:=Kl;refine aX ?_ PH.eq_1 hz (Ox n);refine ax (m:=0) (σ:=Nat) (fun i=>i) (fun i=>i<=13) (fun i=>[vk .u8 ((c.toNat:Nat):Int),vi (n / 10 ^ (13-i):Nat),V.one (.p 0 0),vi i]) (fun i=>[.cells (NL (cF n i))]) (fun _=>Z) ?_ 13 (Nat.le_refl _) _ _ ?_
 rotate_left
 ·have e:n / 10 ^ (13-13)=n:=by simp
  rw[e];exact bO
 intro i hi R hR;by_cases c1:0<i
 ·have hR':=hR (i-1) (by omega) (by omega)
  rw[<- IR n i (by omega),<- FR n i (by omega)] at hR'
  obtain⟨q,hq⟩:∃ q,q=n / 10 ^ (13-i):=⟨_,rfl⟩;rw[<- hq] at hR' ⊢;have hqn:q<=n:=by rw[hq];exact Nat.div_le_self _ _
  have hm:((q:Nat):Int).tmod 10=((q % 10:Nat):Int):=by rw[Int.tmod_eq_emod_of_nonneg (by omega)];omega
  have hd:((q:Nat):Int).tdiv 10=((q / 10:Nat):Int):=by rw[Int.tdiv_eq_ediv_of_nonneg (by omega)];omega
  have hset:=FV (cF n i) i (48+((q % 10:Nat):Int)) (by omega)
  have hsub:(i:Int)-1=((i-1:Nat):Int):=by omega
  refine aX ?_ BG.eq_1 c1 hm hd hset @Bd @Nat.mul_one @Nat.zero_add hsub;exact hR' _ _ bO
 ·have h0:i=0:=by omega
  subst h0;have hset:=FV (cF n 0) 0 ((c.toNat:Nat):Int) (by decide)
  have hex:NL (fun j=>if j=0 then((c.toNat:Nat):Int) else cF n 0 j)=[zU ((c.toNat:Nat):Int),zU (jq n 1:Nat),zU (jq n 2:Nat),zU (jq n 3:Nat),zU (jq n 4:Nat),zU (jq n 5:Nat),zU (jq n 6:Nat),zU (jq n 7:Nat),zU (jq n 8:Nat),zU (jq n 9:Nat),zU (jq n 10:Nat),zU (jq n 11:Nat),zU (jq n 12:Nat),zU (jq n 13:Nat)]:=rfl
  simp only[List.take_zero,List.nil_append] at hset;rw[hex] at hset;(simp(disch:=first|decide|omega|(intros;exact aN rfl rfl)|simp only[am]) only[BG,c1,hset,Bd,Nat.mul_one,Nat.zero_add,List.nil_append,fG,Int.toNat_natCast,List.map_cons,List.map_nil,UInt8.ofNat_toNat,go_sem,seval,aO])
  rw[hZ];try rfl
theorem Gl (n:Nat) (hn:n<=1099511627776):call 103 [vi n] []=some (vs (fc 115 n),[]):=by
 apply ae RX rfl;have h:=uH 115 n hn;have e:(((115:UInt8).toNat:Nat):Int)=115:=rfl;rw[e] at h;refine aX ?_ P4.eq_1 h;try simp[trim]
structure Man where
 ver:Int
 segs:List Int
 size:Int
 sum:Int
def eI (n:Int):List D:=[.i .i64 n]
theorem dk (n:Int):(eI n).length=1:=Eq.trans rfl rfl
theorem fg (n:Int):(eI n)[0]?=some (.i .i64 n):=Eq.trans rfl rfl
def Man.l (m:Man):List L:=[zI m.ver,.d (.l (m.segs.map eI)),zI m.size,zW m.sum]
def j7:Int->List Int->Bool
 | _,[]=>true
 | a,n::l=>decide (a<n∧n<=1099511627776) && j7 n l
def manB (m:Man):Bool:=decide (1<=m.ver∧m.ver<=1099511627776∧1<=m.segs.length∧m.segs.length<=64) && (j7 (-1) m.segs && (if m.segs.head?=some 0 then decide (m.size=0∧m.sum=0) else decide (0<m.size∧m.size<=65536)))
theorem vq {l:List Int} {i:Nat} (a:Int) (h:i<l.length):j7 a (l.drop i)=(decide (a<l[i]∧l[i]<=1099511627776) && j7 l[i] (l.drop (i+1))):=by
 rw[zD h];rfl
theorem uo (m:Man) (hl:m.segs.length<=1000000):call 181 [.agg m.l] []=some (vb (manB m),[]):=by
 obtain⟨ver,segs,size,sum⟩:=m;unfold manB Man.l;simp only at hl ⊢;apply ae QO rfl;by_cases c1:1<=ver
 ·by_cases c2:ver<=1099511627776
  ·by_cases c3:1<=segs.length
   ·by_cases c4:segs.length<=64
    ·rw[decide_eq_true ⟨c1,c2,c3,c4⟩,Bool.true_and];obtain⟨Z,hZ⟩:∃ Z:V × Hp,Z=(vb (j7 (-1) segs && (if segs.head?=some 0 then decide (size=0∧sum=0) else decide (0<size∧size<=65536))),[]):=⟨_,rfl⟩
     rw[<- hZ];refine aX ?_ Db.eq_1 c1 c2 c3 c4;refine ax (m:=0) (σ:=Nat × Int) (fun t=>segs.length-t.1) (fun t=>t.1<=segs.length∧j7 (-1) segs=j7 t.2 (segs.drop t.1)) (fun t=>[V.one (.p 0 0),vi t.2,vl (segs.map eI),vi segs.length,vi t.1])
      (fun _=>[.cells [zI ver,.d (.l (segs.map eI)),zI size,zW sum]]) (fun _=>Z) ?_ (0,-1) ⟨zP _,rfl⟩ _ _ ?_
     rotate_left
     ·exact bO
     rintro⟨i,a⟩ ⟨hi,hinc⟩ R hR;simp only at hi hinc ⊢;by_cases c5:i<segs.length
     ·have g1:(segs.map eI)[i]?=some (eI segs[i]):=by simp[c5]
      rw[vq a c5] at hinc;by_cases c6:segs[i]<=a
      ·have hd:decide (a<segs[i]∧segs[i]<=1099511627776)=false:=zF (by omega)
       rw[hd,Bool.false_and] at hinc;rw[hinc,Bool.false_and] at hZ;refine aX ?_ jY.eq_1 g1 @dk @fg c6;rw[hZ]
      ·by_cases c7:segs[i]<=1099511627776
       ·have hd:decide (a<segs[i]∧segs[i]<=1099511627776)=true:=zT (by omega)
        rw[hd,Bool.true_and] at hinc;refine aX ?_ jY.eq_1 g1 @dk @fg c6 c7;exact hR (i+1,segs[i]) (by simp only[];omega) ⟨by simp only[];omega,hinc⟩ _ _ bO
       ·have hd:decide (a<segs[i]∧segs[i]<=1099511627776)=false:=zF (by omega)
        rw[hd,Bool.false_and] at hinc;rw[hinc,Bool.false_and] at hZ;refine aX ?_ jY.eq_1 g1 @dk @fg c6 c7;rw[hZ]
     ·rw[List.drop_of_length_le (by omega)] at hinc
      have hinc2:j7 (-1) segs=true:=hinc;rw[hinc2,Bool.true_and] at hZ;have g0:(segs.map eI)[0]?=some (eI segs[0]):=by rw[zG,zE c3];rfl
      have hh:segs.head?=some segs[0]:=by rw[List.head?_eq_getElem?];simp
      rw[hh] at hZ;by_cases z:segs[0]=0
      ·rw[if_pos (by rw[z])] at hZ
       by_cases z2:size=0
       ·by_cases z3:sum=0
        ·refine aX ?_ jY.eq_1 c5 g0 @dk @fg z z2 z3;rw[hZ];simp[z2,z3]
        ·refine aX ?_ jY.eq_1 c5 g0 @dk @fg z z2 z3;rw[hZ];simp[z2,z3]
       ·refine aX ?_ jY.eq_1 c5 g0 @dk @fg z z2;rw[hZ];simp[z2]
      ·rw[if_neg (by simpa using z)] at hZ
       by_cases z2:0<size
       ·by_cases z3:size<=65536
        ·refine aX ?_ jY.eq_1 c5 g0 @dk @fg z z2 z3;rw[hZ];simp[z2,z3]
        ·refine aX ?_ jY.eq_1 c5 g0 @dk @fg z z2 z3;rw[hZ];simp[z2,z3]
       ·refine aX ?_ jY.eq_1 c5 g0 @dk @fg z z2;rw[hZ];simp[z2]
    ·rw[zF (fun h=>c4 h.2.2.2),Bool.false_and]
     refine aX ?_ Db.eq_1 c1 c2 c3 c4;try simp[trim]
   ·rw[zF (fun h=>c3 h.2.2.1),Bool.false_and]
    refine aX ?_ Db.eq_1 c1 c2 c3;try simp[trim]
  ·rw[zF (fun h=>c2 h.2.1),Bool.false_and]
   refine aX ?_ Db.eq_1 c1 c2;try simp[trim]
 ·rw[zF (fun h=>c1 h.1),Bool.false_and]
  refine aX ?_ Db.eq_1 c1;try simp[trim]
structure Man.ok (m:Man):Prop where
 len:m.segs.length<=1000000
 sum:0<=m.sum∧m.sum<4294967296
theorem ma {m:Man} (h:manB m=true):(1<=m.ver∧m.ver<=1099511627776)∧(1<=m.segs.length∧m.segs.length<=64)∧j7 (-1) m.segs=true∧(0<=m.size∧m.size<=65536):=by
 unfold manB at h;simp only[Bool.and_eq_true,decide_eq_true_eq] at h;obtain⟨⟨h1,h2,h3,h4⟩,h5,h6⟩:=h;refine⟨⟨h1,h2⟩,⟨h3,h4⟩,h5,?_⟩;split at h6 <;> simp only[decide_eq_true_eq] at h6 <;> omega
theorem oY:∀ (l:List Int) (a:Int),j7 a l=true->∀ n∈l,a<n∧n<=1099511627776
 | [],_,_,n,hn=>by cases hn
 | x::l,a,h,n,hn=>by
  simp only[j7,Bool.and_eq_true,decide_eq_true_eq] at h;rcases List.mem_cons.1 hn with rfl|hn
  ·exact h.1
  ·have:=oY l x h.2 n hn;omega
def di (l:List Int):Txt:=l.flatMap fun n=>ai n.toNat
theorem uP (a b:List Int):di (a++b)=di a++di b:=List.flatMap_append
theorem wS {n:Nat} (h:n<9223372036854775808):1<=(ai n).length∧(ai n).length<=9:=⟨fL n,dD h⟩
theorem mW:∀ (l:List Int),(∀ n∈l,0<=n∧n<9223372036854775808)->(di l).length<=9*l.length
 | [],_=>by simp[di]
 | n::l,h=>by
  have ih:=mW l (fun x hx=>h x (List.mem_cons_of_mem _ hx))
  have:=(wS (n:=n.toNat) (by have:=h n (by simp);omega)).2
  have e:di (n::l)=ai n.toNat++di l:=rfl;rw[e,zA,List.length_cons];omega
def nR (m:Man):iM:=BitVec.ofNat 32 m.sum.toNat
def fE (m:Man):Txt:=di (m.ver::(m.segs.length:Int)::m.segs++[m.size])++iH (nR m)
def cA (m:Man):Txt:=aT (fE m)
theorem lR {m:Man} (h:manB m=true):1<=(fE m).length∧(fE m).length<=700:=by
 obtain⟨h1,h2,h3,h4⟩:=ma h;have hm:=oY _ _ h3;have hl:=mW (m.ver::(m.segs.length:Int)::m.segs++[m.size]) (by
  intro n hn;simp only[List.cons_append,List.mem_cons,zX,List.not_mem_nil,or_false] at hn;rcases hn with rfl|rfl|hn|rfl
  ·omega
  ·omega
  ·have:=hm n hn;omega
  ·omega)
 unfold fE;rw[zA,ij];simp only[List.cons_append,List.length_cons,zA,List.length_nil] at hl ⊢;omega
def bF (m:Man):Txt × Int:=if manB m=true then(cA m,0) else([],1)
theorem xA (m:Man) (hm:m.ok):call 165 [.agg m.l] []=some (.tup [(false,[.d (.s (bF m).1)]),(false,[.d (.i .i64 (bF m).2)])],[]):=by
 have hr:=uo m hm.len;unfold bF;cases c:manB m with
 | false =>
  rw[c] at hr;apply ae O1 rfl;simp only[Man.l] at hr;refine aX ?_ Mo.eq_1 @Man.l.eq_1 hr;try simp[trim]
 | true =>
  rw[c] at hr;have hb:=lR c;obtain⟨h1,h2,h3,h4⟩:=ma c;have hmem:=oY _ _ h3;have hsum:=hm.sum;have hf:call 162 [.one (zW m.sum)] []=some (vs (iH (nR m)),[]):=by
   have:=qu (nR m);have e:(((nR m).toNat:Nat):Int)=m.sum:=by unfold nR;simp;omega
   rw[e] at this;exact this
  have hp:=nk (fE m) (by omega)
  unfold wu at hp;rw[if_pos ⟨hb.1,by omega⟩] at hp
  have q1:=ET (n:=m.ver) (by omega) (by omega)
  have q2:=ET (n:=(m.segs.length:Int)) (by omega) (by omega)
  rw[Int.toNat_natCast] at q2;have q3:=ET (n:=m.size) (by omega) (by omega)
  have l1:=(wS (n:=m.ver.toNat) (by omega)).2
  have l2:=(wS (n:=m.segs.length) (by omega)).2
  have l3:=(wS (n:=m.size.toNat) (by omega)).2
  unfold cA;have hbd:fE m=((ai m.ver.toNat++ai m.segs.length)++di m.segs++ai m.size.toNat)++iH (nR m):=by
   unfold fE;simp[di,List.append_assoc]
  rw[hbd] at hp hb ⊢;have h4l:=ij (nR m);generalize iH (nR m)=F4 at *;obtain⟨ver,segs,size,sum⟩:=m;simp only[Man.l] at *;apply ae O1 rfl;obtain⟨W,hW⟩:∃ W:Txt,W=aT (((ai ver.toNat++ai segs.length)++di segs++ai size.toNat)++F4):=⟨_,rfl⟩;rw[<- hW] at hp ⊢;have l12:(ai ver.toNat).length+(ai segs.length).length<=9223372036854775807:=by omega
  refine aX ?_ Mo.eq_1 hr q1 q2 l12;refine ax (m:=0) (σ:=Nat) (fun i=>segs.length-i) (fun i=>i<=segs.length) (fun i=>[V.one (.p 0 0),vs ((ai ver.toNat++ai segs.length)++di (segs.take i)),vl (segs.map eI),vi segs.length,vi i])
   (fun _=>[.cells [zI ver,.d (.l (segs.map eI)),zI size,zW sum]]) (fun _=>(V.tup [(false,[zS W]),(false,[zI 0])],[])) ?_ 0 (zP _) _ _ ?_
  rotate_left
  ·have e:(ai ver.toNat++ai segs.length)++di (segs.take 0)=ai ver.toNat++ai segs.length:=by simp[di]
   rw[e];exact bO
  intro i hi R hR;have hln:=mW (segs.take i) (fun n hn=>by have:=hmem n (zZ hn);omega)
  have hti:(segs.take i).length=i:=by simp;omega
  rw[hti] at hln;by_cases c5:i<segs.length
  ·have g1:(segs.map eI)[i]?=some (eI segs[i]):=by simp[c5]
   have hmi:=hmem _ (zN c5);have q4:=ET (n:=segs[i]) (by omega) (by omega)
   have l4:=(wS (n:=segs[i].toNat) (by omega)).2
   have hR':=hR (i+1) (by omega) (by omega)
   have e1:di (segs.take (i+1))=di (segs.take i)++ai segs[i].toNat:=by
    rw[zO c5,uP];simp[di]
   rw[e1,<- List.append_assoc] at hR';obtain⟨P,hP⟩:∃ P:Txt,P=(ai ver.toNat++ai segs.length)++di (segs.take i):=⟨_,rfl⟩;have hPl:P.length+(ai segs[i].toNat).length<=9223372036854775807:=by rw[hP,zA,zA];omega
   rw[<- hP] at hR' ⊢;refine aX ?_ Ad.eq_1 g1 @dk @fg q4 hPl;exact hR' _ _ bO
  ·have hin:i=segs.length:=by omega
   subst hin;rw[List.take_length] at hln ⊢;obtain⟨P,hP⟩:∃ P:Txt,P=(ai ver.toNat++ai segs.length)++di segs:=⟨_,rfl⟩;have hPl:P.length+(ai size.toNat).length<=9223372036854775807:=by rw[hP,zA,zA];omega
   have hPl2:(P++ai size.toNat).length+F4.length<=9223372036854775807:=by rw[hP,zA,zA,zA];omega
   rw[<- hP] at hp ⊢;obtain⟨P2,hP2⟩:∃ P2:Txt,P2=P++ai size.toNat:=⟨_,rfl⟩;rw[<- hP2] at hp hPl2;(simp(disch:=first|decide|omega|(intros;exact aN rfl rfl)|simp only[am]) only[Ad,q3,hPl,<- hP2,hPl2,hf,hp,go_sem,seval,aO])
   try simp[trim]
theorem nb {l:List Fil} (hs:srt l) {n:Txt} (h:bM l n=false):∀ f∈l,f.name≠n:=by
 intro f hf he;obtain⟨i,hi,rfl⟩:=zJ hf;have h1:¬ i<ay l n:=by
  rw[<- iK hs n i hi,he,kT];decide
 have h2:i=ay l n:=by
  rcases Nat.lt_or_ge (ay l n) i with h3|h3
  ·have hp:ay l n<l.length:=by omega
   have h4:=(List.pairwise_iff_getElem.1 hs) (ay l n) i hp hi h3;rw[he] at h4;have:=(iK hs n _ hp).1 h4;omega
  ·omega
 unfold bM at h;rw[<- h2,zE hi] at h;simp[he] at h
theorem yV {l:List Fil} (hs:srt l) {f:Fil} (hf:f∈l):bM l f.name=true:=by
 cases h:bM l f.name with
 | true=>rfl
 | false=>exact absurd rfl (nb hs h f hf)
theorem Gz {l:List Fil} (hs:srt l) (i:Nat) (hi:i<l.length):ay l l[i].name=i:=by
 have h:=yV hs (zN hi);obtain⟨hp,he⟩:=ch h;rcases Nat.lt_trichotomy (ay l l[i].name) i with h1|h1|h1
 ·have:=(List.pairwise_iff_getElem.1 hs) _ _ hp hi h1;rw[he,kT] at this;cases this
 ·exact h1
 ·have:=(List.pairwise_iff_getElem.1 hs) _ _ hi hp h1;rw[he,kT] at this;cases this
theorem mR {l l':List Fil} (h:l'.map Fil.name=l.map Fil.name) (hs:srt l):srt l':=by
 have h1:(l.map Fil.name).Pairwise fun a b=>bl a b=true:=List.pairwise_map.2 hs
 rw[<- h] at h1;exact List.pairwise_map.1 h1
theorem pL (l:List Fil) (k:Nat) (g:Fil->Fil) (hg:∀ f,(g f).name=f.name):(rG l k g).map Fil.name=l.map Fil.name:=by
 unfold rG;split
 ·rename_i f hf;obtain⟨h,rfl⟩:=List.getElem?_eq_some_iff.1 hf;rw[List.map_set,hg];have e:(l[k]).name=(l.map Fil.name)[k]'(by simpa using h):=by simp
  rw[e,List.set_getElem_self]
 ·rfl
theorem w5 {l:List Fil} (hs:srt l) (f:Fil) (h:bM l f.name=false):srt (gZ l (ay l f.name) f):=by
 have hf:=nb hs h;have h1:∀ x∈l.take (ay l f.name),bl x.name f.name=true:=by
  intro x hx;obtain⟨i,hi,rfl⟩:=zJ hx;rw[zQ] at hi;rw[List.getElem_take];exact(iK hs f.name i (by omega)).2 (by omega)
 have h2:∀ x∈l.drop (ay l f.name),bl f.name x.name=true:=by
  intro x hx;obtain⟨i,hi,rfl⟩:=zJ hx;rw[zH] at hi;rw[List.getElem_drop];have h3:¬ bl l[ay l f.name+i].name f.name=true:=fun h=>by
   have:=(iK hs f.name _ (by omega)).1 h;omega
  rcases wL l[ay l f.name+i].name f.name with h4|h4|h4
  ·exact absurd h4 h3
  ·exact absurd h4 (hf _ (zN _))
  ·exact h4
 have hsp:srt (l.take (ay l f.name)++l.drop (ay l f.name)):=by rw[zY];exact hs
 unfold srt at hsp;rw[List.pairwise_append] at hsp;unfold gZ srt;rw[List.pairwise_append];refine⟨hsp.1,List.pairwise_cons.2 ⟨h2,hsp.2.1⟩,fun a ha b hb=>?_⟩
 rcases List.mem_cons.1 hb with rfl|hb
 ·exact h1 a ha
 ·exact hsp.2.2 a ha b hb
theorem JV {l:List Fil} (hs:srt l) (f:Fil) (h:bM l f.name=true):srt (l.set (ay l f.name) f):=by
 obtain⟨hp,he⟩:=ch h;refine mR ?_ hs;rw[List.map_set];generalize ay l f.name=p at hp he;rw[<- he];have e:l[p].name=(l.map Fil.name)[p]'(by simpa using hp):=by simp
 rw[e,List.set_getElem_self]
theorem Cw {l:List Fil} (hs:srt l) (f:Fil):srt (jv l f):=by
 unfold jv;cases h:bM l f.name with
 | true=>rw[if_pos rfl];exact JV hs f h
 | false=>rw[if_neg (by simp)];exact w5 hs f h
structure okN (k u:Nat) (d:Dsk):Prop where
 len:d.files.length<=k
 srt:srt d.files
 left:0<=d.left∧d.left<9223372036854775808
 cap:0<=d.cap∧d.cap<9223372036854775808
 used:usedF d.files<=u
theorem okN.ok {k u:Nat} {d:Dsk} (h:okN k u d) (hk:k<=1000000) (hu:u<=1000000000000):d.ok :=
 ⟨Nat.le_trans h.len hk,h.srt,h.left,h.cap,Nat.le_trans h.used hu⟩
theorem okN.up {k u k' u':Nat} {d:Dsk} (h:okN k u d) (hk:k<=k') (hu:u<=u'):okN k' u' d :=
 ⟨Nat.le_trans h.len hk,h.srt,h.left,h.cap,Nat.le_trans h.used hu⟩
theorem sm {k u:Nat} {d:Dsk} (h:okN k u d) {r:List Fil × Int} (hr:r.2=0->r.1.length<=k∧Go.Proofs.YtgoifbjgmgbihaaGreat.srt r.1∧usedF r.1<=u):okN k u (aj d r).1:=by
 obtain⟨a1,a2,a3,a4,a5⟩:=h;unfold aj;split
 ·exact⟨a1,a2,a3,a4,a5⟩
 ·split
  ·exact⟨a1,a2,a3,a4,a5⟩
  ·rename_i h2;obtain⟨b1,b2,b3⟩:=hr (by simpa using h2)
   split
   ·split
    ·exact⟨a1,a2,a3,a4,a5⟩
    ·rename_i h4;exact⟨b1,b2,by simp only[];omega,a4,b3⟩
   ·exact⟨b1,b2,a3,a4,b3⟩
def vC (s:Dsk × Int) (f:Dsk->Dsk × Int):Dsk × Int:=if s.2=0 then f s.1 else s
def bL (n:Txt) (s:Dsk × Int):Dsk × Int:=vC s fun d=>aj d (bm d.files n)
def dF (n:Txt) (s:Dsk × Int):Dsk × Int:=vC s fun d=>aj d (bP d.files n)
def ga (n:Txt) (s:Dsk × Int):Dsk × Int:=vC s fun d=>aj d (ct d.files n)
def fO (n x:Txt) (s:Dsk × Int):Dsk × Int:=vC s fun d=>aj d (bK d.files d.cap n x)
def wc (n t:Txt) (s:Dsk × Int):Dsk × Int:=vC s fun d=>aj d (iC d.files n t)
def cO (n:Txt) (s:Dsk × Int):Dsk × Int:=if s.2≠9 then s else if(dF n (s.1,0)).2=0 then((dF n (s.1,0)).1,9) else dF n (s.1,0)
theorem yZ (l:List Fil) (k:Nat) (f:Fil):usedF (gZ l k f)=usedF l+f.data.length:=by
 have e:gZ l k f=l.take k++([f]++l.drop k):=rfl;rw[e,cN,cN,ib];have:usedF l=usedF (l.take k)+usedF (l.drop k):=by rw[<- cN,zY]
 omega
theorem tc (l:List Fil) (k:Nat) (h:k<l.length) (f:Fil):usedF (l.set k f)+l[k].data.length=usedF l+f.data.length:=by
 have e:l.set k f=l.take k++([f]++l.drop (k+1)):=by rw[List.set_eq_take_append_cons_drop,if_pos h];rfl
 have e2:l=l.take k++([l[k]]++l.drop (k+1)):=by rw[List.singleton_append,<- zD h,zY]
 have:usedF l=usedF (l.take k)+(l[k].data.length+usedF (l.drop (k+1))):=by rw[<- ib l[k],<- cN,<- cN,<- e2]
 rw[e,cN,cN,ib];omega
theorem yp (l:List Fil) (k:Nat) (h:k<l.length):usedF (fi l k)+l[k].data.length=usedF l:=by
 have e2:l=l.take k++([l[k]]++l.drop (k+1)):=by rw[List.singleton_append,<- zD h,zY]
 have:usedF l=usedF (l.take k)+(l[k].data.length+usedF (l.drop (k+1))):=by rw[<- ib l[k],<- cN,<- cN,<- e2]
 unfold fi;rw[cN];omega
theorem to {k u:Nat} {s:Dsk × Int} {f:Dsk->Dsk × Int} (h:okN k u s.1) (hf:okN k u (f s.1).1):okN k u (vC s f).1:=by
 unfold vC;split
 ·exact hf
 ·exact h
theorem eA {k u:Nat} {s:Dsk × Int} (h:okN k u s.1) (n:Txt):okN (k+1) u (bL n s).1:=by
 refine to (h.up (by omega) (Nat.le_refl _)) (sm (h.up (by omega) (Nat.le_refl _)) fun h0=>?_)
 unfold bm at h0 ⊢;split at h0
 ·rename_i h1;split at h0
  ·cases h0
  ·rename_i h2;rw[if_pos h1,if_neg h2];refine⟨by rw[wU _ _ _ (nP _ _)];have:=h.len;omega,w5 h.srt ⟨n,[],0⟩ (by simpa using h2),?_⟩
   rw[yZ];exact h.used
 ·cases h0
theorem dZ {k u:Nat} {s:Dsk × Int} (h:okN k u s.1) (n:Txt):okN k u (dF n s).1:=by
 refine to h (sm h fun h0=>?_)
 unfold bP at h0 ⊢;split at h0
 ·rename_i h1;rw[if_pos h1];obtain⟨hp,_⟩:=ch h1;refine⟨by rw[oV _ _ hp];have:=h.len;omega,kO h.srt _,?_⟩
  have h3:=yp _ _ hp;have h4:=h.used;show usedF (fi s.1.files (ay s.1.files n))<=u;omega
 ·cases h0
theorem lu {k u:Nat} {s:Dsk × Int} (h:okN k u s.1) (n:Txt):okN k u (ga n s).1:=by
 refine to h (sm h fun h0=>?_)
 unfold ct at h0 ⊢;split at h0
 ·rename_i h1;rw[if_pos h1];obtain⟨hp,_⟩:=ch h1;refine⟨by rw[Ci];exact h.len,mR (pL _ _ _ fun _=>rfl) h.srt,?_⟩
  rw[j6 hp];have h3:=tc _ _ hp { s.1.files[ay s.1.files n] with sure:=s.1.files[ay s.1.files n].data.length }
  have h4:=h.used;simp only[] at h3 ⊢;omega
 ·cases h0
theorem iY {k u:Nat} {s:Dsk × Int} (h:okN k u s.1) (n x:Txt):okN k (u+x.length) (fO n x s).1:=by
 refine to (h.up (Nat.le_refl _) (by omega)) (sm (h.up (Nat.le_refl _) (by omega)) fun h0=>?_)
 unfold bK at h0 ⊢;split at h0
 ·rename_i h1;split at h0
  ·cases h0
  ·rename_i h2;rw[if_pos h1,if_neg h2];obtain⟨hp,_⟩:=ch h1;refine⟨by rw[Ci];exact h.len,mR (pL _ _ _ fun _=>rfl) h.srt,?_⟩
   rw[j6 hp];have h3:=tc _ _ hp { s.1.files[ay s.1.files n] with data:=s.1.files[ay s.1.files n].data++x }
   have h4:=h.used;simp only[zA] at h3 ⊢;omega
 ·cases h0
theorem Nz {k u:Nat} {s:Dsk × Int} (h:okN k u s.1) (n t:Txt):okN k u (wc n t s).1:=by
 refine to h (sm h fun h0=>?_)
 unfold iC at h0 ⊢;split at h0
 ·rename_i h1;split at h0
  ·rename_i h2;rw[if_pos h1,if_pos h2];obtain⟨hp,_⟩:=ch h1;have hd:(fo s.1.files (ay s.1.files n) t).data=s.1.files[ay s.1.files n].data:=by unfold fo;rw[zE hp]
   have hu:=yp _ _ hp;have hul:=h.used;have hln:=h.len;have hdl:=oV _ _ hp;refine⟨Nat.le_trans (EB _ _) (by rw[hdl];omega),Cw (kO h.srt _) _,?_⟩
   show usedF (jv (fi s.1.files (ay s.1.files n)) (fo s.1.files (ay s.1.files n) t))<=u;unfold jv;split
   ·rename_i h3;obtain⟨hp3,_⟩:=ch h3;have h5:=tc _ _ hp3 (fo s.1.files (ay s.1.files n) t);rw[hd] at h5;omega
   ·rw[yZ,hd];omega
  ·cases h0
 ·cases h0
theorem lx {k u:Nat} {s:Dsk × Int} (h:okN k u s.1) (n:Txt):okN k u (cO n s).1:=by
 unfold cO;split
 ·exact h
 ·split
  ·exact dZ (s:=(s.1,0)) h n
  ·exact dZ (s:=(s.1,0)) h n
def eU (s:Dsk × Int):Box:=.cells (s.1.l++[zI s.2])
theorem Qr (s:Dsk × Int) (g:Nat) (x:Txt) (f:Dsk->Dsk × Int) (hg:s.2=0->call g [.agg s.1.l,.one (.p 0 0)] [.cells [zS x]]=some (aP (f s.1),[.cells [zS x]])) :
  call 163 [.one (.p 0 0),.one (.f g [1])] [eU s,.cells [zS x]]=some (.tup [],[eU (vC s f),.cells [zS x]]):=by
 apply ae PV rfl;obtain⟨d,e⟩:=s;unfold vC;simp only at hg ⊢;by_cases h:e=0
 ·subst h;have h1:∀ D:Box,ak call g [.agg d.l,.one (.p 1 0)] [D,.cells [zS x]]=some (aP (f d),[D,.cells [zS x]]):=fun D =>
   aD (ids:=[1]) rfl rfl rfl (hg rfl) rfl
  generalize f d=r at *;obtain⟨⟨f2,cp2,ar2,lf2,dn2⟩,e2⟩:=r;obtain⟨fl,cp,ar,lf,dn⟩:=d;simp only[aP,Dsk.l] at h1;(simp(disch:=first|decide|omega|(intros;exact aN rfl rfl)|simp only[am]) only[gu,Gj,eU,Dsk.l,↓h1,go_sem,seval,aO])
  simp[zR]
 ·obtain⟨fl,cp,ar,lf,dn⟩:=d;refine bC ?_ Gj.eq_1 @eU.eq_1 @Dsk.l.eq_1 h;simp[zR,h]
theorem TK (s:Dsk × Int) (g:Nat) (f:Dsk->Dsk × Int) (hg:s.2=0->call g [.agg s.1.l] []=some (aP (f s.1),[])) :
  call 163 [.one (.p 0 0),.one (.f g [])] [eU s]=some (.tup [],[eU (vC s f)]):=by
 apply ae PV rfl;obtain⟨d,e⟩:=s;unfold vC;simp only at hg ⊢;by_cases h:e=0
 ·subst h;have h1:∀ H:Hp,ak call g [.agg d.l] H=some (aP (f d),H):=fun H=>callIso_pure rfl (hg rfl) rfl
  generalize f d=r at *;obtain⟨⟨f2,cp2,ar2,lf2,dn2⟩,e2⟩:=r;obtain⟨fl,cp,ar,lf,dn⟩:=d;simp only[aP,Dsk.l] at h1;(simp(disch:=first|decide|omega|(intros;exact aN rfl rfl)|simp only[am]) only[gu,Gj,eU,Dsk.l,↓h1,go_sem,seval,aO])
  simp[zR]
 ·obtain⟨fl,cp,ar,lf,dn⟩:=d;refine bC ?_ Gj.eq_1 @eU.eq_1 @Dsk.l.eq_1 h;simp[zR,h]
theorem Kk (d:Dsk) (hd:d.ok) (n:Txt):call 164 [.agg d.l,.one (.p 0 0)] [.cells [zS n]]=some (aP (aj d (bm d.files n)),[.cells [zS n]]):=by
 apply ae So rfl;have h:=jA d hd n;generalize aj d (bm d.files n)=r at *;obtain⟨⟨f2,cp2,ar2,lf2,dn2⟩,e2⟩:=r;obtain⟨fl,cp,ar,lf,dn⟩:=d;simp only[aP,Dsk.l] at h ⊢;refine bC ?_ OZ.eq_1 h;simp[zR]
theorem KC (d:Dsk) (hd:d.ok) (n:Txt):call 182 [.agg d.l,.one (.p 0 0)] [.cells [zS n]]=some (aP (aj d (bP d.files n)),[.cells [zS n]]):=by
 apply ae Ra rfl;have h:=f7 d hd n;generalize aj d (bP d.files n)=r at *;obtain⟨⟨f2,cp2,ar2,lf2,dn2⟩,e2⟩:=r;obtain⟨fl,cp,ar,lf,dn⟩:=d;simp only[aP,Dsk.l] at h ⊢;refine bC ?_ P3.eq_1 h;simp[zR]
theorem PZ (d:Dsk) (hd:d.ok) (n:Txt):call 183 [.agg d.l,.one (.p 0 0)] [.cells [zS n]]=some (aP (aj d (ct d.files n)),[.cells [zS n]]):=by
 apply ae RC rfl;have h:=ne d hd n;generalize aj d (ct d.files n)=r at *;obtain⟨⟨f2,cp2,ar2,lf2,dn2⟩,e2⟩:=r;obtain⟨fl,cp,ar,lf,dn⟩:=d;simp only[aP,Dsk.l] at h ⊢;refine bC ?_ Qc.eq_1 h;simp[zR]
theorem LM (d:Dsk) (hd:d.ok) (x:Txt) (hx:x.length<=1000000000000):call 167 [.agg d.l,.one (.p 0 0)] [.cells [zS x]]=some (aP (aj d (bK d.files d.cap [110] x)),[.cells [zS x]]):=by
 apply ae SI rfl;have h:=jP d hd [110] x hx;generalize aj d (bK d.files d.cap [110] x)=r at *;obtain⟨⟨f2,cp2,ar2,lf2,dn2⟩,e2⟩:=r;obtain⟨fl,cp,ar,lf,dn⟩:=d;simp only[aP,Dsk.l] at h ⊢;refine bC ?_ PT.eq_1 h;simp[zR]
theorem M9 (d:Dsk) (hd:d.ok):call 169 [.agg d.l] []=some (aP (aj d (iC d.files [110] [109])),[]):=by
 apply ae RS rfl;have h:=xM d hd [110] [109];generalize aj d (iC d.files [110] [109])=r at *;obtain⟨⟨f2,cp2,ar2,lf2,dn2⟩,e2⟩:=r;obtain⟨fl,cp,ar,lf,dn⟩:=d;simp only[aP,Dsk.l] at h ⊢;refine bC ?_ O4.eq_1 h;try simp[zR]
theorem oI (s:Dsk × Int) (hd:s.1.ok) (n:Txt):call 137 [.one (.p 0 0),vs n] [eU s]=some (.tup [],[eU (bL n s)]):=by
 apply ae RY rfl;have h:ak call 163 [.one (.p 0 0),.one (.f 164 [1])] [eU s,.cells [zS n]]=some (.tup [],[eU (bL n s),.cells [zS n]]) :=
  aD (ids:=[0,1]) rfl rfl rfl (Qr s _ n _ fun _=>Kk s.1 hd n) rfl
 (simp(disch:=first|decide|omega|(intros;exact aN rfl rfl)|simp only[am]) only[gu,OG,↓h,go_sem,seval,aO])
 simp[zR,eU,Dsk.l]
theorem pA (s:Dsk × Int) (hd:s.1.ok) (n:Txt):call 166 [.one (.p 0 0),vs n] [eU s]=some (.tup [],[eU (dF n s)]):=by
 apply ae Sr rfl;have h:ak call 163 [.one (.p 0 0),.one (.f 182 [1])] [eU s,.cells [zS n]]=some (.tup [],[eU (dF n s),.cells [zS n]]) :=
  aD (ids:=[0,1]) rfl rfl rfl (Qr s _ n _ fun _=>KC s.1 hd n) rfl
 (simp(disch:=first|decide|omega|(intros;exact aN rfl rfl)|simp only[am]) only[gu,N9,↓h,go_sem,seval,aO])
 simp[zR,eU,Dsk.l]
theorem AX (s:Dsk × Int) (hd:s.1.ok) (n:Txt):call 168 [.one (.p 0 0),vs n] [eU s]=some (.tup [],[eU (ga n s)]):=by
 apply ae Rt rfl;have h:ak call 163 [.one (.p 0 0),.one (.f 183 [1])] [eU s,.cells [zS n]]=some (.tup [],[eU (ga n s),.cells [zS n]]) :=
  aD (ids:=[0,1]) rfl rfl rfl (Qr s _ n _ fun _=>PZ s.1 hd n) rfl
 (simp(disch:=first|decide|omega|(intros;exact aN rfl rfl)|simp only[am]) only[gu,ON,↓h,go_sem,seval,aO])
 simp[zR,eU,Dsk.l]
theorem ph (s:Dsk × Int) (hd:s.1.ok) (n:Txt):call 139 [.one (.p 0 0),vs n] [eU s]=some (.tup [],[eU (cO n s)]):=by
 apply ae RE rfl;obtain⟨d,e⟩:=s;unfold cO;simp only at hd ⊢;by_cases h9:e=9
 ·subst h9;have h:ak call 166 [.one (.p 0 0),vs n] [eU (d,0)]=some (.tup [],[eU (dF n (d,0))]) :=
   aD (ids:=[0]) rfl rfl rfl (pA (d,0) hd n) rfl
  generalize dF n (d,0)=r at *;obtain⟨⟨f2,cp2,ar2,lf2,dn2⟩,e2⟩:=r;obtain⟨fl,cp,ar,lf,dn⟩:=d;simp only[eU,Dsk.l,List.cons_append,List.nil_append] at h;by_cases h0:e2=0
  ·subst h0;(simp(disch:=first|decide|omega|(intros;exact aN rfl rfl)|simp only[am]) only[gu,KW,eU,Dsk.l,↓h,go_sem,seval,aO])
   simp[zR]
  ·(simp(disch:=first|decide|omega|(intros;exact aN rfl rfl)|simp only[am]) only[gu,KW,eU,Dsk.l,↓h,h0,go_sem,seval,aO])
   simp[zR,h0]
 ·obtain⟨fl,cp,ar,lf,dn⟩:=d;refine bC ?_ KW.eq_1 @eU.eq_1 @Dsk.l.eq_1 h9;simp[zR,h9]
def bT (m:Man) (s:Dsk × Int):Dsk × Int :=
 let s1:=if s.2=0 then(s.1,(bF m).2) else s
 let s2:=if(bS s1.1.files [110]).2=0 then dF [110] s1 else s1
 let s3:=bL [110] s2
 if s3.2≠0 then s3 else wc [110] [109] (ga [110] (cO [110] (fO [110] (bF m).1 s3)))
theorem lw (m:Man):(bF m).1.length<=800:=by
 unfold bF;split
 ·rename_i h;have:=lR h;unfold cA;have h9:=dD (n:=(fE m).length) (by omega)
  show(aT (fE m)).length<=800;rw[gy];omega
 ·simp
theorem ii {k u:Nat} {s:Dsk × Int} (h:okN k u s.1) (m:Man):okN (k+1) (u+800) (bT m s).1:=by
 unfold bT;have h1:okN k u (if s.2=0 then(s.1,(bF m).2) else s).1:=by split <;> exact h
 generalize (if s.2=0 then(s.1,(bF m).2) else s)=s1 at *
 have h2:okN k u (if(bS s1.1.files [110]).2=0 then dF [110] s1 else s1).1:=by
  split
  ·exact dZ h1 _
  ·exact h1
 simp only[];generalize (if(bS s1.1.files [110]).2=0 then dF [110] s1 else s1)=s2 at *
 have h3:=eA h2 [110];split
 ·exact h3.up (Nat.le_refl _) (by omega)
 ·exact Nz (lu (lx ((iY h3 [110] (bF m).1).up (Nat.le_refl _) (by have:=lw m;omega)) _) _) _ _
theorem Ei (d:Dsk) (e:Int) (te:Int) (tx:Txt) {k u:Nat} (hd:okN k u d) (hk:k<=900000) (hu:u<=900000000000) (htx:tx.length<=800) (ver size sum:Int) (segs:List Int)
  (hp:call 165 [.agg [zI ver,.d (.l (segs.map eI)),zI size,zW sum]] []=some (.tup [(false,[zS tx]),(false,[zI te])],[]))
  (s1:Dsk × Int) (hs1:s1=(if e=0 then(d,te) else(d,e))) (s2:Dsk × Int) (hs2:s2=(if(bS s1.1.files [110]).2=0 then dF [110] s1 else s1)) :
  call 138 [.one (.p 0 0),.agg [zI ver,.d (.l (segs.map eI)),zI size,zW sum]] [eU (d,e)] =
   some (.tup [],[eU (if(bL [110] s2).2≠0 then bL [110] s2 else wc [110] [109] (ga [110] (cO [110] (fO [110] tx (bL [110] s2)))))]):=by
 have k1:okN k u s1.1:=by rw[hs1];split <;> exact hd
 have k2:okN k u s2.1:=by
  rw[hs2];split
  ·exact dZ k1 _
  ·exact k1
 have k3:=eA k2 [110];obtain⟨s3,hs3⟩:∃ s3,s3=bL [110] s2:=⟨_,rfl⟩;have k4:=iY k3 [110] tx;rw[<- hs3] at k3 k4 ⊢;obtain⟨s4,hs4⟩:∃ s4,s4=fO [110] tx s3:=⟨_,rfl⟩;rw[<- hs4] at k4 ⊢;have k5:=lx k4 [110];obtain⟨s5,hs5⟩:∃ s5,s5=cO [110] s4:=⟨_,rfl⟩;rw[<- hs5] at k5 ⊢;have k6:=lu k5 [110];obtain⟨s6,hs6⟩:∃ s6,s6=ga [110] s5:=⟨_,rfl⟩;rw[<- hs6] at k6 ⊢;obtain⟨s7,hs7⟩:∃ s7,s7=wc [110] [109] s6:=⟨_,rfl⟩;rw[<- hs7];have hr:=pD s1.1 (Nat.le_trans k1.len (by omega)) k1.srt [110]
 have q1:∀ M T:Box,ak call 166 [.one (.p 0 0),vs [110]] [eU s1,M,T]=some (.tup [],[eU (dF [110] s1),M,T]):=fun M T=>aD (ids:=[0]) rfl rfl rfl (pA s1 (k1.ok (by omega) (by omega)) _) rfl
 have q2:∀ M T:Box,ak call 137 [.one (.p 0 0),vs [110]] [eU s2,M,T]=some (.tup [],[eU s3,M,T]):=fun M T=>by rw[hs3];exact aD (ids:=[0]) rfl rfl rfl (oI s2 (k2.ok (by omega) (by omega)) _) rfl
 have q3:∀ M:Box,ak call 163 [.one (.p 0 0),.one (.f 167 [2])] [eU s3,M,.cells [zS tx]]=some (.tup [],[eU s4,M,.cells [zS tx]]):=fun M=>by
  rw[hs4];exact aD (ids:=[0,2]) rfl rfl rfl (Qr s3 _ tx _ fun _=>LM s3.1 (k3.ok (by omega) (by omega)) tx (by omega)) rfl
 have q4:∀ M T:Box,ak call 139 [.one (.p 0 0),vs [110]] [eU s4,M,T]=some (.tup [],[eU s5,M,T]):=fun M T=>by rw[hs5];exact aD (ids:=[0]) rfl rfl rfl (ph s4 (k4.ok (by omega) (by omega)) _) rfl
 have q5:∀ M T:Box,ak call 168 [.one (.p 0 0),vs [110]] [eU s5,M,T]=some (.tup [],[eU s6,M,T]):=fun M T=>by rw[hs6];exact aD (ids:=[0]) rfl rfl rfl (AX s5 (k5.ok (by omega) (by omega)) _) rfl
 have q6:∀ M T:Box,ak call 163 [.one (.p 0 0),.one (.f 169 [])] [eU s6,M,T]=some (.tup [],[eU s7,M,T]):=fun M T=>by
  rw[hs7];exact aD (ids:=[0]) rfl rfl rfl (TK s6 _ _ fun _=>M9 s6.1 (k6.ok (by omega) (by omega))) rfl
 clear hs3 hs4 hs5 hs6 hs7 k2 k3 k4 k5 k6;obtain⟨d3,e3⟩:=s3;apply ae Rq rfl;by_cases he:e=0
 ·rw[if_pos he] at hs1;subst hs1;subst he;by_cases hrd:(bS d.files [110]).2=0
  ·simp only[] at hs2 hr;rw[if_pos hrd] at hs2;rw[<- hs2] at q1;rw[hrd] at hr;simp only[eU,Dsk.l,List.cons_append,List.nil_append] at hr q1 q2 q3 q4 q5 q6;by_cases h3:e3=0
   ·subst h3;(simp(disch:=first|decide|omega|(intros;exact aN rfl rfl)|simp only[am]) only[gu,vJ,eU,Dsk.l,hp,hr,↓q1,↓q2,↓q3,↓q4,↓q5,↓q6,go_sem,seval,aO])
    try simp[zR,eU,Dsk.l]
   ·(simp(disch:=first|decide|omega|(intros;exact aN rfl rfl)|simp only[am]) only[gu,vJ,eU,Dsk.l,hp,hr,↓q1,↓q2,↓q3,↓q4,↓q5,↓q6,h3,go_sem,seval,aO])
    try simp[zR,eU,Dsk.l,h3]
  ·simp only[] at hs2 hr;rw[if_neg hrd] at hs2;subst hs2;simp only[eU,Dsk.l,List.cons_append,List.nil_append] at hr q1 q2 q3 q4 q5 q6;by_cases h3:e3=0
   ·subst h3;(simp(disch:=first|decide|omega|(intros;exact aN rfl rfl)|simp only[am]) only[gu,vJ,eU,Dsk.l,hp,hr,hrd,↓q2,↓q3,↓q4,↓q5,↓q6,go_sem,seval,aO])
    try simp[zR,eU,Dsk.l]
   ·(simp(disch:=first|decide|omega|(intros;exact aN rfl rfl)|simp only[am]) only[gu,vJ,eU,Dsk.l,hp,hr,hrd,↓q2,↓q3,↓q4,↓q5,↓q6,h3,go_sem,seval,aO])
    try simp[zR,eU,Dsk.l,h3]
 ·rw[if_neg he] at hs1;subst hs1;by_cases hrd:(bS d.files [110]).2=0
  ·simp only[] at hs2 hr;rw[if_pos hrd] at hs2;rw[<- hs2] at q1;rw[hrd] at hr;simp only[eU,Dsk.l,List.cons_append,List.nil_append] at hr q1 q2 q3 q4 q5 q6;by_cases h3:e3=0
   ·subst h3;(simp(disch:=first|decide|omega|(intros;exact aN rfl rfl)|simp only[am]) only[gu,vJ,eU,Dsk.l,hp,hr,↓q1,↓q2,↓q3,↓q4,↓q5,↓q6,go_sem,seval,aO])
    try simp[zR,eU,Dsk.l]
   ·(simp(disch:=first|decide|omega|(intros;exact aN rfl rfl)|simp only[am]) only[gu,vJ,eU,Dsk.l,hp,hr,↓q1,↓q2,↓q3,↓q4,↓q5,↓q6,h3,go_sem,seval,aO])
    try simp[zR,eU,Dsk.l,h3]
  ·simp only[] at hs2 hr;rw[if_neg hrd] at hs2;subst hs2;simp only[eU,Dsk.l,List.cons_append,List.nil_append] at hr q1 q2 q3 q4 q5 q6;by_cases h3:e3=0
   ·subst h3;(simp(disch:=first|decide|omega|(intros;exact aN rfl rfl)|simp only[am]) only[gu,vJ,eU,Dsk.l,hp,hr,hrd,↓q2,↓q3,↓q4,↓q5,↓q6,go_sem,seval,aO])
    try simp[zR,eU,Dsk.l]
   ·(simp(disch:=first|decide|omega|(intros;exact aN rfl rfl)|simp only[am]) only[gu,vJ,eU,Dsk.l,hp,hr,hrd,↓q2,↓q3,↓q4,↓q5,↓q6,h3,go_sem,seval,aO])
    try simp[zR,eU,Dsk.l,h3]
theorem t8 (s:Dsk × Int) {k u:Nat} (hd:okN k u s.1) (hk:k<=900000) (hu:u<=900000000000) (m:Man) (hm:m.ok):call 138 [.one (.p 0 0),.agg m.l] [eU s]=some (.tup [],[eU (bT m s)]):=by
 have hp:=xA m hm;have hpl:=lw m;obtain⟨d,e⟩:=s;have h:=Ei d e (bF m).2 (bF m).1 hd hk hu hpl m.ver m.size m.sum m.segs hp _ rfl _ rfl;exact h
structure Seg where
 base:Int
 n:Int
 size:Int
 deriving DecidableEq
def Seg.enc (e:Seg):List D:=[.i .i64 e.base,.i .i64 e.n,.i .i64 e.size]
theorem Seg.len (e:Seg):e.enc.length=3:=Eq.trans rfl rfl
theorem Seg.tk (e:Seg):e.enc.take 3=e.enc:=Eq.trans rfl rfl
theorem Seg.tkL (e:Seg):(e.enc.map L.d).take 3=e.enc.map L.d:=Eq.trans rfl rfl
theorem Seg.at0 (e:Seg):e.enc[0]?=some (.i .i64 e.base):=Eq.trans rfl rfl
def Seg.ok (e:Seg):Prop:=(-9223372036854775808<=e.base∧e.base<9223372036854775808)∧(-9223372036854775808<=e.n∧e.n<9223372036854775808)∧(-9223372036854775808<=e.size∧e.size<9223372036854775808)
def Seg.ty:List Ty:=[.i .i64,.i .i64,.i .i64]
structure Sto where
 disk:Dsk
 ver:Int
 segs:List Seg
 next:Int
 sure:Int
 size:Int
 sum:Int
def Sto.l (s:Sto):List L:=s.disk.l++[zI s.ver,.d (.l (s.segs.map Seg.enc)),zI s.next,zI s.sure,zI s.size,zW s.sum]
def Sto.man (s:Sto):Man:=⟨s.ver,s.segs.map Seg.base,s.size,s.sum⟩
def dG (r:Sto × Int):V:=.tup [(true,r.1.l),(false,[zI r.2])]
theorem kw (s:Sto) (g:Seg) (hl:s.segs.length<=1000000) (hg:s.segs.getLast?=some g):call 100 [.agg s.l] []=some (.agg (g.enc.map .d),[]):=by
 apply ae Sd rfl;obtain⟨⟨fl,cp,ar,lf,dn⟩,ver,segs,next,sure,size,sum⟩:=s;simp only at hg hl;have h0:0<segs.length:=by cases segs <;> simp_all
 have h2:((segs.length:Int)-1).toNat=segs.length-1:=by omega
 have g1:(segs.map Seg.enc)[segs.length-1]?=some g.enc:=by rw[zG,<- List.getLast?_eq_getElem?,hg];rfl
 refine aX ?_ PF.eq_1 @Sto.l.eq_1 @Dsk.l.eq_1 h2 g1 @Seg.len @Seg.tk @Seg.tkL;try simp[trim]
theorem nY (s:Sto):call 119 [.agg s.l] []=some (vi (match s.segs with|[]=>0|g::_=>g.base),[]):=by
 apply ae Rp rfl;obtain⟨⟨fl,cp,ar,lf,dn⟩,ver,segs,next,sure,size,sum⟩:=s;cases segs with
 | nil=>(refine aX ?_ MR.eq_1 @Sto.l.eq_1 @Dsk.l.eq_1;try exact True.intro)
 | cons g r =>
  refine aX ?_ MR.eq_1 @Sto.l.eq_1 @Dsk.l.eq_1 @Seg.len @Seg.at0;try simp[trim]
def Qb:List Seg->Int->Nat->Seg->Seg
 | l,off,0,z=>l.headD z
 | l,off,k+1,z=>match l[k+1]? with|some g=>if g.base > off then Qb l off k z else g|none=>z
def Sto.hld (s:Sto) (off:Int):Seg:=Qb s.segs off (s.segs.length-1) ⟨0,0,0⟩
structure okS (k u:Nat) (s:Sto):Prop where
 dsk:okN k u s.disk
 len:1<=s.segs.length∧s.segs.length<=64
 seg:∀ g∈s.segs,(0<=g.base∧g.base<=1099511627776)∧(0<=g.n∧g.n<=u)∧(0<=g.size∧g.size<=u)
 next:0<=s.next∧s.next<=1099511627776
 ver:0<=s.ver∧s.ver<=u
 sum:0<=s.sum∧s.sum<4294967296
def Sto.last (s:Sto):Seg:=s.segs.getLastD ⟨0,0,0⟩
theorem pE {s:Sto} (h:1<=s.segs.length):s.segs.getLast?=some s.last:=by
 unfold Sto.last;rw[List.getLastD_eq_getLast?];cases hc:s.segs.getLast? with
 | some g=>rfl
 | none=>rw[List.getLast?_eq_none_iff] at hc;rw[hc] at h;exact absurd h (by decide)
theorem o5 {s:Sto} (h:1<=s.segs.length):s.last∈s.segs:=List.mem_of_getLast? (pE h)
def fileN (n:Int):Txt:=fc 115 n.toNat
theorem lD {n:Int} (h:0<=n∧n<=1099511627776):call 103 [vi n] []=some (vs (fileN n),[]):=by
 have:=Gl n.toNat (by omega)
 have e:((n.toNat:Nat):Int)=n:=by omega
 rw[e] at this;exact this
def aU (s:Sto):Sto × Int :=
 let r:=aj s.disk (ct s.disk.files (fileN s.last.base))
 ({ s with disk:=r.1,sure:=if r.2=0 then s.next else s.sure },r.2)
theorem qA {k u:Nat} (s:Sto) (h:okS k u s) (hk:k<=800000) (hu:u<=800000000000):call 85 [.agg s.l] []=some (dG (aU s),[]):=by
 apply ae TD rfl;have q1:=kw s s.last (by have:=h.len;omega) (pE h.len.1)
 have q2:=lD (h.seg _ (o5 h.len.1)).1;have q3:=ne s.disk (h.dsk.ok (by omega) (by omega)) (fileN s.last.base)
 unfold aU;simp only[];generalize aj s.disk (ct s.disk.files (fileN s.last.base))=r at *;generalize s.last=g at *;obtain⟨⟨fl,cp,ar,lf,dn⟩,ver,segs,next,sure,size,sum⟩:=s;obtain⟨⟨f2,cp2,ar2,lf2,dn2⟩,e2⟩:=r;obtain⟨b,n,z⟩:=g;simp only[Sto.l,Dsk.l,Seg.enc,aP,List.cons_append,List.nil_append,List.map_cons,List.map_nil] at q1 q2 q3 ⊢;by_cases c:e2=0
 ·subst c;refine bC ?_ QA.eq_1 q1 q2 q3 @dG.eq_1 @Sto.l.eq_1 @Dsk.l.eq_1;try simp[trim]
 ·refine bC ?_ QA.eq_1 q1 q2 q3 c @dG.eq_1 @Sto.l.eq_1 @Dsk.l.eq_1;try simp[trim,c]
def kE (segs:List Seg) (i:Nat):List (List D):=(segs.take i).map (fun g=>eI g.base)++List.replicate (segs.length-i) (eI 0)
theorem Df (segs:List Seg) (i:Nat) (h:i<=segs.length):(kE segs i).length=segs.length:=by simp[kE];omega
theorem Fz (segs:List Seg) (i:Nat) (h:i<segs.length):(kE segs i)[i]?=some (eI 0):=by
 unfold kE;rw[List.getElem?_append_right (by simp;omega),List.getElem?_replicate]
 rw[if_pos];simp;omega
theorem EQ (segs:List Seg) (i:Nat) (h:i<segs.length):(kE segs i).set i (eI segs[i].base)=kE segs (i+1):=by
 unfold kE;have e:segs.length-i=(segs.length-(i+1))+1:=by omega
 rw[List.set_append_right _ _ (by simp;omega),e,List.replicate_succ,zO h,List.map_append]
 have e2:i-((segs.take i).map fun g=>eI g.base).length=0:=by simp;omega
 rw[e2];simp
theorem tU (s:Sto) (hl:s.segs.length<=1000000):call 117 [.agg s.l] []=some (.agg s.man.l,[]):=by
 apply ae SL rfl;obtain⟨⟨fl,cp,ar,lf,dn⟩,ver,segs,next,sure,size,sum⟩:=s;simp only at hl;unfold Sto.man;refine OA ?_ P7.eq_1 @Sto.l.eq_1 @Dsk.l.eq_1 @Man.l.eq_1;refine ax (m:=0) (σ:=Nat) (fun i=>segs.length-i) (fun i=>i<=segs.length) (fun i=>[V.one (.p 0 0),V.one (.p 1 0),vl (segs.map Seg.enc),vi segs.length,vi i])
  (fun i=>[.cells [zI 0,.ns,zI 0,zW 0],.cells [zI ver,.sl 2 1 0 segs.length,zI size,zW sum],.arr 1 (kE segs i) 0]) (fun _=>(V.agg [zI ver,.d (.l ((segs.map Seg.base).map eI)),zI size,zW sum],[])) ?_ 0 (zP _) _ _ ?_
 rotate_left
 ·have e:kE segs 0=List.replicate segs.length [D.i .i64 0]:=by simp[kE,eI]
  rw[e];exact bO
 intro i hi R hR;have hln:=Df segs i hi;by_cases c:i<segs.length
 ·have g1:(segs.map Seg.enc)[i]?=some segs[i].enc:=by simp[c]
  have g2:=Fz segs i c;have g3:=EQ segs i c;have hR':=hR (i+1) (by omega) (by omega)
  rw[<- g3] at hR';generalize kE segs i=Q at *;generalize segs[i]=g at *;obtain⟨b,n,z⟩:=g;simp only[eI] at g2 hR';refine aX ?_ AT.eq_1 c g1 g2 @Seg.enc.eq_1 hln;exact hR' _ _ bO
 ·have e:i=segs.length:=by omega
  subst e;have e2:kE segs segs.length=segs.map fun g=>eI g.base:=by simp[kE]
  rw[e2] at hln ⊢;have e3:(segs.map Seg.base).map eI=segs.map fun g=>eI g.base:=by simp
  rw[e3];generalize (segs.map fun g=>eI g.base)=Q at *
  have e4:Q.take segs.length=Q:=zL (by omega)
  refine aX ?_ AT.eq_1 e4 hln;try simp[zR]
def aG (d:Dsk):Sto × Int :=
 let s1:=bL (fileN 0) (d,0)
 let s2:=if s1.2=0 then bT ⟨1,[0],0,0⟩ s1 else s1
 if s2.2=0 then(⟨s2.1,1,[⟨0,0,0⟩],0,0,0,0⟩,0) else(⟨s2.1,0,[],0,0,0,0⟩,s2.2)
end Go.Proofs.YtgoifbjgmgbihaaGreat
